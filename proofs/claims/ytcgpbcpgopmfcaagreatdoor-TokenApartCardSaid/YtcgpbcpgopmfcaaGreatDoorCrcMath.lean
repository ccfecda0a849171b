/- The sum of 32 bits, in plain numbers: bit by bit, four bits at a time, and that what differs within 32 bits has another sum. No program in sight. -/
import Derived.Test.YtcgpbcpgopmfcaaGreatDoorMath
namespace Go.Proofs.YtcgpbcpgopmfcaaGreatDoor.Math
open Go.RowKit

/-- One bit's step. -/
def L (c : Nat) : Nat := if c % 2 = 1 then (c / 2) ^^^ 2197175160 else c / 2
/-- So many bits' steps. -/
def Li : Nat → Nat → Nat
  | 0, c => c
  | n + 1, c => Li n (L c)
theorem Li_succ (n c : Nat) : Li (n + 1) c = L (Li n c) := by
  induction n generalizing c with
  | zero => rfl
  | succ n ih => rw [Li, ih, Li]
theorem Li_add (m n c : Nat) : Li (m + n) c = Li n (Li m c) := by
  induction m generalizing c with
  | zero => rw [Nat.zero_add]; rfl
  | succ m ih => rw [show m + 1 + n = (m + n) + 1 by omega, Li, ih, Li]

theorem div2_xor (a b : Nat) : (a ^^^ b) / 2 = (a / 2) ^^^ (b / 2) := by
  apply Nat.eq_of_testBit_eq
  intro i
  rw [← Nat.testBit_succ, Nat.testBit_xor, Nat.testBit_xor, Nat.testBit_succ, Nat.testBit_succ]
theorem mod2_xor (a b : Nat) : (a ^^^ b) % 2 = (a % 2 + b % 2) % 2 := by
  have h := Nat.testBit_xor a b 0
  rw [Nat.testBit_zero, Nat.testBit_zero, Nat.testBit_zero] at h
  have ha : a % 2 = 0 ∨ a % 2 = 1 := by omega
  have hb : b % 2 = 0 ∨ b % 2 = 1 := by omega
  have hc : (a ^^^ b) % 2 = 0 ∨ (a ^^^ b) % 2 = 1 := by omega
  rcases ha with ha | ha <;> rcases hb with hb | hb <;> rcases hc with hc | hc <;> simp [ha, hb, hc] at h ⊢

theorem xor_shuffle (a b c : Nat) : a ^^^ b ^^^ c = (a ^^^ c) ^^^ b := by
  rw [Nat.xor_assoc, Nat.xor_comm b c, ← Nat.xor_assoc]

theorem xor_both (s a b : Nat) : (s ^^^ a) ^^^ (s ^^^ b) = a ^^^ b := by
  rw [Nat.xor_comm s a, Nat.xor_assoc, ← Nat.xor_assoc s s b, Nat.xor_self, Nat.zero_xor]

/-- It is linear. -/
theorem L_xor (a b : Nat) : L (a ^^^ b) = L a ^^^ L b := by
  unfold L
  rw [mod2_xor, div2_xor]
  have ha : a % 2 = 0 ∨ a % 2 = 1 := by omega
  have hb : b % 2 = 0 ∨ b % 2 = 1 := by omega
  rcases ha with ha | ha <;> rcases hb with hb | hb <;> simp only [ha, hb]
  · simp
  · simp [Nat.xor_assoc]
  · simp; rw [xor_shuffle]
  · simp
    rw [Nat.xor_assoc, ← Nat.xor_assoc 2197175160, Nat.xor_comm 2197175160 (b / 2), Nat.xor_assoc, Nat.xor_self, Nat.xor_zero]
theorem Li_xor (n a b : Nat) : Li n (a ^^^ b) = Li n a ^^^ Li n b := by
  induction n generalizing a b with
  | zero => rfl
  | succ n ih => rw [Li, L_xor, ih, Li, Li]
theorem L_zero : L 0 = 0 := by simp [L]
theorem Li_zero (n : Nat) : Li n 0 = 0 := by
  induction n with
  | zero => rfl
  | succ n ih => rw [Li, L_zero, ih]

theorem L_lt {c : Nat} (h : c < 4294967296) : L c < 4294967296 := by
  unfold L
  split
  · exact Nat.xor_lt_two_pow (n := 32) (by omega) (by omega)
  · omega
theorem Li_lt {n c : Nat} (h : c < 4294967296) : Li n c < 4294967296 := by
  induction n generalizing c with
  | zero => exact h
  | succ n ih => rw [Li]; exact ih (L_lt h)

/-- Only 0 becomes 0. -/
theorem L_inj {c : Nat} (h : c < 4294967296) (h0 : L c = 0) : c = 0 := by
  unfold L at h0
  split at h0
  · exfalso
    have h1 : c / 2 = 2197175160 := by
      have := congrArg (· ^^^ 2197175160) h0
      simpa [Nat.xor_assoc] using this
    omega
  · omega
theorem Li_inj {n c : Nat} (h : c < 4294967296) (h0 : Li n c = 0) : c = 0 := by
  induction n generalizing c with
  | zero => exact h0
  | succ n ih => rw [Li] at h0; exact L_inj h (ih (L_lt h) h0)

/-- What stands above the bits that go comes down. -/
theorem L_even (x : Nat) : L (2 * x) = x := by unfold L; rw [if_neg (by omega)]; omega
theorem Li_shift (n x : Nat) : Li n (2 ^ n * x) = x := by
  induction n generalizing x with
  | zero => simp [Li]
  | succ n ih =>
    rw [Li, Nat.pow_succ, show 2 ^ n * 2 * x = 2 * (2 ^ n * x) by rw [Nat.mul_comm (2 ^ n) 2, Nat.mul_assoc], L_even, ih]

theorem split_bits (n x : Nat) : x = (2 ^ n * (x / 2 ^ n)) ^^^ (x % 2 ^ n) := by
  have h : 2 ^ n * (x / 2 ^ n) ||| x % 2 ^ n = 2 ^ n * (x / 2 ^ n) + x % 2 ^ n := nat_join n _ _ (Nat.mul_mod_right _ _) (Nat.mod_lt _ (Nat.two_pow_pos n))
  have hx : (2 ^ n * (x / 2 ^ n)) ^^^ (x % 2 ^ n) = 2 ^ n * (x / 2 ^ n) ||| x % 2 ^ n := by
    apply Nat.eq_of_testBit_eq
    intro i
    rw [Nat.testBit_xor, Nat.testBit_or, Nat.testBit_mod_two_pow]
    by_cases hi : i < n
    · have : (2 ^ n * (x / 2 ^ n)).testBit i = false := by
        rw [Nat.testBit_two_pow_mul]; simp; omega
      simp [this]
    · simp [hi]
  rw [hx, h, Nat.div_add_mod]

/-- So many bits at a time: what is above comes down, what goes is looked up. -/
theorem Li_split (n x : Nat) : Li n x = (x / 2 ^ n) ^^^ Li n (x % 2 ^ n) := by
  conv => lhs; rw [split_bits n x]
  rw [Li_xor, Li_shift]

/-- A byte's step. -/
def byteStep (c b : Nat) : Nat := Li 8 (c ^^^ b)
theorem byteStep_lt {c b : Nat} (hc : c < 4294967296) (hb : b < 256) : byteStep c b < 4294967296 := Li_lt (Nat.xor_lt_two_pow (n := 32) hc (by omega))
/-- The state behind bytes. -/
def crcN (c : Nat) (l : List Nat) : Nat := l.foldl byteStep c
theorem crcN_nil (c : Nat) : crcN c [] = c := rfl
theorem crcN_cons (c b : Nat) (l : List Nat) : crcN c (b :: l) = crcN (byteStep c b) l := rfl
theorem crcN_append (c : Nat) (a b : List Nat) : crcN c (a ++ b) = crcN (crcN c a) b := List.foldl_append
theorem crcN_snoc (c : Nat) (a : List Nat) (x : Nat) : crcN c (a ++ [x]) = byteStep (crcN c a) x := by rw [crcN_append]; rfl
theorem crcN_lt {c : Nat} {l : List Nat} (hc : c < 4294967296) (hl : ∀ b ∈ l, b < 256) : crcN c l < 4294967296 := by
  induction l generalizing c with
  | nil => exact hc
  | cons b l ih => exact ih (byteStep_lt hc (hl b (by simp))) (fun x hx => hl x (by simp [hx]))

/-- Two states behind the same bytes part as they parted ahead of them. -/
theorem crcN_diff (c d : Nat) (l : List Nat) : crcN c l ^^^ crcN d l = Li (8 * l.length) (c ^^^ d) := by
  induction l generalizing c d with
  | nil => rfl
  | cons b l ih =>
    rw [crcN_cons, crcN_cons, ih, byteStep, byteStep, ← Li_xor]
    have e : (c ^^^ b) ^^^ (d ^^^ b) = c ^^^ d := by
      rw [Nat.xor_comm d b, ← Nat.xor_assoc, Nat.xor_assoc c b b, Nat.xor_self, Nat.xor_zero]
    rw [e, List.length_cons, ← Li_add]
    congr 1
    omega

theorem xor_eq_zero {a b : Nat} (h : a ^^^ b = 0) : a = b := by
  have := congrArg (· ^^^ b) h
  simpa [Nat.xor_assoc] using this

/-- Four bytes as one number, the first the least. -/
def four (a b c d : Nat) : Nat := a + 256 * (b + 256 * (c + 256 * d))

theorem byte_on_four (c x r : Nat) (hx : x < 256) : Li 8 (c ^^^ (x + 256 * r)) = byteStep c x ^^^ r := by
  have e : x + 256 * r = (2 ^ 8 * r) ^^^ x := by
    have := split_bits 8 (x + 256 * r)
    rw [show (x + 256 * r) / 2 ^ 8 = r by omega, show (x + 256 * r) % 2 ^ 8 = x by omega] at this
    exact this
  rw [e, ← Nat.xor_assoc, xor_shuffle, Li_xor, Li_shift]
  rfl

/-- Four bytes at once. -/
theorem crcN_four (s a b c d : Nat) (ha : a < 256) (hb : b < 256) (hc : c < 256) : crcN s [a, b, c, d] = Li 32 (s ^^^ four a b c d) := by
  unfold four
  rw [show 32 = 8 + (8 + (8 + 8)) from rfl, Li_add, byte_on_four _ _ _ ha, Li_add, byte_on_four _ _ _ hb, Li_add, byte_on_four _ _ _ hc]
  rfl

/-- What differs in four bytes that stand together, and nowhere else, has another state. -/
theorem crcN_turned (s : Nat) (p : List Nat) (a b c d a' b' c' d' : Nat) (r : List Nat) (ha : a < 256) (hb : b < 256) (hc : c < 256) (hd : d < 256)
    (ha' : a' < 256) (hb' : b' < 256) (hc' : c' < 256) (hd' : d' < 256) (h : crcN s (p ++ [a, b, c, d] ++ r) = crcN s (p ++ [a', b', c', d'] ++ r)) : a = a' ∧ b = b' ∧ c = c' ∧ d = d' := by
  rw [crcN_append, crcN_append, crcN_append, crcN_append, crcN_four _ a b c d ha hb hc, crcN_four _ a' b' c' d' ha' hb' hc'] at h
  have h1 := crcN_diff (Li 32 (crcN s p ^^^ four a b c d)) (Li 32 (crcN s p ^^^ four a' b' c' d')) r
  rw [h, Nat.xor_self, ← Li_xor, ← Li_add] at h1
  rw [xor_both] at h1
  have h2 := Li_inj (Nat.xor_lt_two_pow (n := 32) (x := four a b c d) (y := four a' b' c' d') (by unfold four; omega) (by unfold four; omega)) h1.symm
  have h3 := xor_eq_zero h2
  unfold four at h3
  omega

/-- A list of bytes as numbers. -/
def nats (l : List Int) : List Nat := l.map Int.toNat
theorem nats_lt {l : List Int} (h : IsB l) : ∀ b ∈ nats l, b < 256 := by
  intro b hb
  obtain ⟨x, hx, rfl⟩ := List.mem_map.1 hb
  have := h x hx
  omega
theorem nats_append (a b : List Int) : nats (a ++ b) = nats a ++ nats b := by simp [nats]
theorem nats_length (l : List Int) : (nats l).length = l.length := by simp [nats]
theorem nats_inj {a b : List Int} (ha : IsB a) (hb : IsB b) (h : nats a = nats b) : a = b := by
  induction a generalizing b with
  | nil => cases b with | nil => rfl | cons _ _ => simp [nats] at h
  | cons x a ih =>
    cases b with
    | nil => simp [nats] at h
    | cons y b =>
      simp only [nats, List.map_cons, List.cons.injEq] at h
      have hx := isB_head ha
      have hy := isB_head hb
      rw [ih (isB_tail ha) (isB_tail hb) h.2, show x = y by omega]

/-- The sum of what had this sum, and bytes behind it. -/
def crcMore (s : Int) (l : List Int) : Int := ((4294967295 - crcN (4294967295 - s.toNat) (nats l) : Nat) : Int)
/-- The sum. -/
def crcSum (l : List Int) : Int := crcMore 0 l
theorem crcMore_bounds (s : Int) (l : List Int) : 0 ≤ crcMore s l ∧ crcMore s l < 4294967296 := by unfold crcMore; omega
theorem crcMore_nil {s : Int} (h0 : 0 ≤ s) (h1 : s < 4294967296) : crcMore s [] = s := by unfold crcMore nats; simp [crcN_nil]; omega
theorem crcMore_append {s : Int} {a b : List Int} (ha : IsB a) : crcMore (crcMore s a) b = crcMore s (a ++ b) := by
  have := crcN_lt (c := 4294967295 - s.toNat) (l := nats a) (by omega) (nats_lt ha)
  unfold crcMore
  rw [nats_append, crcN_append]
  congr 3
  omega
theorem crcSum_nil : crcSum [] = 0 := crcMore_nil (by omega) (by omega)
theorem crcSum_eq {a b : List Int} (ha : IsB a) (hb : IsB b) : crcSum a = crcSum b ↔ crcN 4294967295 (nats a) = crcN 4294967295 (nats b) := by
  have h1 := crcN_lt (c := 4294967295) (l := nats a) (by omega) (nats_lt ha)
  have h2 := crcN_lt (c := 4294967295) (l := nats b) (by omega) (nats_lt hb)
  have e : (4294967295 : Nat) - (0 : Int).toNat = 4294967295 := rfl
  unfold crcSum crcMore
  rw [e]
  omega

end Go.Proofs.YtcgpbcpgopmfcaaGreatDoor.Math
