/- Tokens (chapter 24), plainly: what one is, and when it is refused. No program in sight. -/
import Derived.Test.YtcgpbcpgopmfcaaGreatDoorHex
import Derived.Test.YtcgpbcpgopmfcaaGreatDoorCrcMath
namespace Go.Proofs.YtcgpbcpgopmfcaaGreatDoor.Hex
open Go.Proofs.YtcgpbcpgopmfcaaGreatDoor.Math

/-- Bytes as a number, the first the greatest. -/
def big (l : List Int) : Int := l.foldl (fun v b => v * 256 + b) 0
def p32 (v : Int) : List Int := [v / 16777216 % 256, v / 65536 % 256, v / 256 % 256, v % 256]
theorem p32_isB (v : Int) : IsB (p32 v) := by
  intro x hx
  simp only [p32, List.mem_cons, List.not_mem_nil, or_false] at hx
  rcases hx with rfl | rfl | rfl | rfl <;> omega
theorem big_p32 {v : Int} (h0 : 0 ≤ v) (h1 : v < 4294967296) : big (p32 v) = v := by
  show (((0 * 256 + v / 16777216 % 256) * 256 + v / 65536 % 256) * 256 + v / 256 % 256) * 256 + v % 256 = v
  omega
theorem big_inj4 {p q : List Int} (hp : IsB p) (hq : IsB q) (lp : p.length = 4) (lq : q.length = 4) (h : big p = big q) : p = q := by
  match p, lp, hp, q, lq, hq, h with
  | [a, b, c, d], _, hp, [a', b', c', d'], _, hq, h =>
    have h : (((0 * 256 + a) * 256 + b) * 256 + c) * 256 + d = (((0 * 256 + a') * 256 + b') * 256 + c') * 256 + d' := h
    have := hp a (by simp); have := hp b (by simp); have := hp c (by simp); have := hp d (by simp)
    have := hq a' (by simp); have := hq b' (by simp); have := hq c' (by simp); have := hq d' (by simp)
    obtain ⟨rfl, rfl, rfl, rfl⟩ : a = a' ∧ b = b' ∧ c = c' ∧ d = d' := by omega
    rfl
/-- One byte changed: another sum. -/
theorem crc_one {p r : List Int} {x y : Int} (hp : IsB p) (hr : IsB r) (hx : 0 ≤ x ∧ x < 256) (hy : 0 ≤ y ∧ y < 256) (h : crcSum (p ++ x :: r) = crcSum (p ++ y :: r)) : x = y := by
  have hb : ∀ {z : Int}, 0 ≤ z ∧ z < 256 → IsB (p ++ z :: r) := fun hz w hw => by
    rcases List.mem_append.1 hw with hw | hw
    · exact hp w hw
    · rcases List.mem_cons.1 hw with rfl | hw
      · exact hz
      · exact hr w hw
  rw [crcSum_eq (hb hx) (hb hy)] at h
  have e : ∀ z : Int, nats (p ++ z :: r) = nats p ++ (z.toNat :: nats r) := fun z => by simp [nats]
  rw [e, e, crcN_append, crcN_append, crcN_cons, crcN_cons] at h
  have hc := crcN_lt (c := 4294967295) (l := nats p) (by omega) (nats_lt hp)
  have bx := byteStep_lt hc (show x.toNat < 256 by omega)
  have by_ := byteStep_lt hc (show y.toNat < 256 by omega)
  have h1 := crcN_diff (byteStep (crcN 4294967295 (nats p)) x.toNat) (byteStep (crcN 4294967295 (nats p)) y.toNat) (nats r)
  rw [h, Nat.xor_self] at h1
  have h2 := xor_eq_zero (Li_inj (Nat.xor_lt_two_pow (n := 32) bx by_) h1.symm)
  unfold byteStep at h2
  have h3 : Li 8 (x.toNat ^^^ y.toNat) = 0 := by
    rw [← xor_both (crcN 4294967295 (nats p)), Li_xor, h2, Nat.xor_self]
  have h4 := xor_eq_zero (Li_inj (Nat.xor_lt_two_pow (n := 32) (show x.toNat < 2 ^ 32 by omega) (show y.toNat < 2 ^ 32 by omega)) h3)
  omega

/-- What a token is of. -/
def tokB (v : Int) (S key : List Int) : List Int := [99, 116] ++ (vput v ++ (S ++ key))
def tokT (v : Int) (S key : List Int) : List Int := hexT (tokB v S key ++ p32 (crcSum (tokB v S key)))
theorem tokB_isB {v : Int} {S key : List Int} (hv : 0 ≤ v) (hS : IsB S) (hk : IsB key) : IsB (tokB v S key) := by
  intro x hx
  unfold tokB at hx
  rcases List.mem_append.1 hx with hx | hx
  · simp at hx; omega
  · rcases List.mem_append.1 hx with hx | hx
    · exact vput_isB v hv x hx
    · rcases List.mem_append.1 hx with hx | hx
      · exact hS x hx
      · exact hk x hx
theorem isB_app {a b : List Int} (ha : IsB a) (hb : IsB b) : IsB (a ++ b) := fun x hx => (List.mem_append.1 hx).elim (ha x) (hb x)
/-- Tokens are the same just if their versions and keys are. -/
theorem tok_apart {v u : Int} {S a b : List Int} (hv : 0 ≤ v ∧ v < 18446744073709551616) (hu : 0 ≤ u ∧ u < 18446744073709551616) (hS : IsB S) (ha : IsB a) (hb : IsB b) : tokT v S a = tokT u S b ↔ v = u ∧ a = b := by
  refine ⟨fun h => ?_, fun ⟨h1, h2⟩ => by rw [h1, h2]⟩
  have h1 := hexT_inj (isB_app (tokB_isB hv.1 hS ha) (p32_isB _)) (isB_app (tokB_isB hu.1 hS hb) (p32_isB _)) h
  have h2 := (List.append_inj' h1 rfl).1
  unfold tokB at h2
  have h3 := List.append_cancel_left h2
  have g1 := vget_put (S ++ a) hv.1 hv.2
  have g2 := vget_put (S ++ b) hu.1 hu.2
  rw [h3, g2] at g1
  injection g1 with g1 _
  subst g1
  exact ⟨rfl, List.append_cancel_left (List.append_cancel_left h3)⟩
/-- The key of a token; none: refused. -/
def readT (v : Int) (S s : List Int) : Option (List Int) := match plainG s [] 0 false with
  | some (b, true) => if b.length < 4 then none else if big (b.drop (b.length - 4)) ≠ crcSum (b.take (b.length - 4)) then none else
    if ([99, 116] ++ (vput v ++ S)) <+: b.take (b.length - 4) ∧ 1 ≤ ((b.take (b.length - 4)).drop ([99, 116] ++ (vput v ++ S)).length).length ∧ ((b.take (b.length - 4)).drop ([99, 116] ++ (vput v ++ S)).length).length ≤ 24 then some ((b.take (b.length - 4)).drop ([99, 116] ++ (vput v ++ S)).length) else none
  | _ => none
theorem crcSum_bounds (l : List Int) : 0 ≤ crcSum l ∧ crcSum l < 4294967296 := crcMore_bounds 0 l
theorem tok_reads {v : Int} {S key : List Int} (hv : 0 ≤ v) (hS : IsB S) (hk : IsB key) (h1 : 1 ≤ key.length) (h2 : key.length ≤ 24) : readT v S (tokT v S key) = some key := by
  unfold readT tokT
  rw [plain_hex _ _ _ (isB_app (tokB_isB hv hS hk) (p32_isB _)), List.nil_append]
  have hl : (tokB v S key ++ p32 (crcSum (tokB v S key))).length - 4 = (tokB v S key).length := by rw [List.length_append]; show _ + 4 - 4 = _; omega
  show (if (tokB v S key ++ p32 (crcSum (tokB v S key))).length < 4 then none else _) = _
  rw [if_neg (by rw [List.length_append]; show ¬ _ + 4 < 4; omega), hl, List.take_left, List.drop_left, big_p32 (crcSum_bounds _).1 (crcSum_bounds _).2, if_neg (by simp)]
  have e : tokB v S key = ([99, 116] ++ (vput v ++ S)) ++ key := by unfold tokB; simp [List.append_assoc]
  rw [e, List.drop_left, if_pos ⟨List.prefix_append _ _, h1, h2⟩]
/-- A token of which one sign is another is refused. -/
theorem tok_turned {v u : Int} {S R key : List Int} (hv : 0 ≤ v) (hS : IsB S) (hk : IsB key) {i : Nat} (hi : i < (tokT v S key).length) {t : Int} (ht : (tokT v S key)[i]? ≠ some t) : readT u R ((tokT v S key).set i t) = none := by
  have hB := tokB_isB hv hS hk
  have hBP := isB_app hB (p32_isB (crcSum (tokB v S key)))
  unfold readT
  cases hp : plainG ((tokT v S key).set i t) [] 0 false with
  | none => rfl
  | some x =>
    obtain ⟨r, o⟩ := x
    cases o with
    | false => rfl
    | true =>
      obtain ⟨y, hr, y0, y1, hy⟩ := turned_inv hBP hi ht hp
      have hlr : r.length = (tokB v S key).length + 4 := by rw [hr, List.length_set, List.length_append]; rfl
      show (if r.length < 4 then none else if big (r.drop (r.length - 4)) ≠ crcSum (r.take (r.length - 4)) then none else _) = none
      rw [if_neg (by omega), show r.length - 4 = (tokB v S key).length by omega]
      rw [if_pos ?_]
      have hc := crcSum_bounds (tokB v S key)
      have hik : i / 2 < (tokB v S key).length + 4 := by
        unfold tokT at hi
        rw [hexT_len, List.length_append] at hi
        have : (p32 (crcSum (tokB v S key))).length = 4 := rfl
        omega
      generalize tokB v S key = B at hr hy hB hc hlr hik ⊢
      by_cases hk2 : i / 2 < B.length
      · rw [List.set_append_left _ _ hk2] at hr
        rw [hr, List.take_left' (by rw [List.length_set]), List.drop_left' (by rw [List.length_set]), big_p32 hc.1 hc.2]
        intro e
        have hs : B = B.take (i / 2) ++ B[i / 2] :: B.drop (i / 2 + 1) := by
          rw [← List.drop_eq_getElem_cons hk2, List.take_append_drop]
        have hs2 : B.set (i / 2) y = B.take (i / 2) ++ y :: B.drop (i / 2 + 1) := List.set_eq_take_append_cons_drop .. |>.trans (by rw [if_pos hk2])
        rw [hs2] at e
        have e' : crcSum (B.take (i / 2) ++ B[i / 2] :: B.drop (i / 2 + 1)) = crcSum (B.take (i / 2) ++ y :: B.drop (i / 2 + 1)) := by rw [← hs]; exact e
        have hxy := crc_one (fun w hw => hB w (List.mem_of_mem_take hw)) (fun w hw => hB w (List.mem_of_mem_drop hw)) (hB _ (List.getElem_mem hk2)) ⟨y0, y1⟩ e'
        apply hy
        rw [List.getElem?_append_left hk2, List.getElem?_eq_getElem hk2, hxy]
      · rw [List.set_append_right _ _ (by omega)] at hr
        rw [hr, List.take_left, List.drop_left]
        intro e
        have hq : IsB ((p32 (crcSum B)).set (i / 2 - B.length) y) := fun w hw => by
          rcases List.mem_or_eq_of_mem_set hw with hw | rfl
          · exact p32_isB _ w hw
          · exact ⟨y0, y1⟩
        have he := big_inj4 hq (p32_isB (crcSum B)) (by rw [List.length_set]; rfl) rfl (e.trans (big_p32 hc.1 hc.2).symm)
        apply hy
        have hj : i / 2 - B.length < (p32 (crcSum B)).length := by show _ < 4; omega
        rw [List.getElem?_append_right (by omega), ← he, List.getElem?_set_self hj]
end Go.Proofs.YtcgpbcpgopmfcaaGreatDoor.Hex
