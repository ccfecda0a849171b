/- Four bytes that stand together, turned: another sum, unless none was turned. -/
import Derived.Test.YtmbhedlplmbfoaaCrcMath
import Derived.Test.YtmbhedlplmbfoaaRd
import Derived.Laws.BitsAllLaws
namespace Go.Proofs.Ytmbhedlplmbfoaa.Math
open Go.RowKit Go.Proofs.YtmbhedlplmbfoaaW.PrintWords
set_option linter.unusedVariables false

def bx (a b : Int) : Int := Go.bits .xor .u8 a b
/-- The row as far as it is turned. -/
def turned (l y : List Int) (i : Nat) : Nat → List Int
  | 0 => l
  | k + 1 => (turned l y i k).set (i + k) (bx (rd (turned l y i k) ((i + k : Nat) : Int)) (rd y (k : Int)))
theorem turned_len (l y : List Int) (i k : Nat) : (turned l y i k).length = l.length := by
  induction k with
  | zero => rfl
  | succ k ih => rw [turned, List.length_set, ih]


theorem bx_eq {a b : Int} (ha : 0 ≤ a ∧ a < 256) (hb : 0 ≤ b ∧ b < 256) : bx a b = ((a.toNat ^^^ b.toNat : Nat) : Int) := u8_xor a b ha.1 ha.2 hb.1 hb.2
theorem bx_bounds {a b : Int} (ha : 0 ≤ a ∧ a < 256) (hb : 0 ≤ b ∧ b < 256) : 0 ≤ bx a b ∧ bx a b < 256 := by
  rw [bx_eq ha hb]
  have := Nat.xor_lt_two_pow (n := 8) (x := a.toNat) (y := b.toNat) (by omega) (by omega)
  omega
theorem bx_same {a b : Int} (ha : 0 ≤ a ∧ a < 256) (hb : 0 ≤ b ∧ b < 256) : bx a b = a ↔ b = 0 := by
  rw [bx_eq ha hb]
  constructor
  · intro h
    have h1 : a.toNat ^^^ b.toNat = a.toNat := by omega
    have h2 : b.toNat = 0 := by
      have h3 : a.toNat ^^^ (a.toNat ^^^ b.toNat) = 0 := by rw [h1, Nat.xor_self]
      rwa [← Nat.xor_assoc, Nat.xor_self, Nat.zero_xor] at h3
    omega
  · intro h
    subst h
    simp
    omega

theorem rd_at (p q : List Int) (k : Nat) : rd (p ++ q) ((p.length + k : Nat) : Int) = rd q (k : Int) := by
  unfold rd
  rw [Int.toNat_natCast, Int.toNat_natCast, List.getD_eq_getElem?_getD, List.getD_eq_getElem?_getD, List.getElem?_append_right (by omega), Nat.add_sub_cancel_left]
theorem set_at (p q : List Int) (k : Nat) (v : Int) : (p ++ q).set (p.length + k) v = p ++ q.set k v := by
  rw [List.set_append_right _ _ (by omega), Nat.add_sub_cancel_left]

theorem turned_split (p r : List Int) (a b c d y0 y1 y2 y3 : Int) : turned (p ++ [a, b, c, d] ++ r) [y0, y1, y2, y3] p.length 4 = p ++ [bx a y0, bx b y1, bx c y2, bx d y3] ++ r := by
  simp only [List.append_assoc]
  have s0 : turned (p ++ ([a, b, c, d] ++ r)) [y0, y1, y2, y3] p.length 1 = p ++ ([bx a y0, b, c, d] ++ r) := by
    unfold turned turned
    rw [rd_at, set_at]; rfl
  have s1 : turned (p ++ ([a, b, c, d] ++ r)) [y0, y1, y2, y3] p.length 2 = p ++ ([bx a y0, bx b y1, c, d] ++ r) := by
    unfold turned
    rw [s0, rd_at, set_at]; rfl
  have s2 : turned (p ++ ([a, b, c, d] ++ r)) [y0, y1, y2, y3] p.length 3 = p ++ ([bx a y0, bx b y1, bx c y2, d] ++ r) := by
    unfold turned
    rw [s1, rd_at, set_at]; rfl
  unfold turned
  rw [s2, rd_at, set_at]; rfl

theorem split4 {l : List Int} {i : Nat} (h : i + 3 < l.length) : ∃ p a b c d r, l = p ++ [a, b, c, d] ++ r ∧ p.length = i := by
  refine ⟨l.take i, rd l (i : Int), rd l ((i + 1 : Nat) : Int), rd l ((i + 2 : Nat) : Int), rd l ((i + 3 : Nat) : Int), l.drop (i + 4), ?_, by rw [List.length_take]; omega⟩
  have e := List.take_append_drop i l
  rw [rd_drop (l := l) (i := i) (by omega), rd_drop (l := l) (i := i + 1) (by omega), rd_drop (l := l) (i := i + 2) (by omega), rd_drop (l := l) (i := i + 3) (by omega)] at e
  rw [List.append_assoc]
  exact e.symm

theorem turned_isB {l : List Int} {y0 y1 y2 y3 : Int} {i : Nat} (hi : i + 3 < l.length) (hb : IsB l) (hy : IsB [y0, y1, y2, y3]) : IsB (turned l [y0, y1, y2, y3] i 4) := by
  obtain ⟨p, a, b, c, d, r, rfl, rfl⟩ := split4 hi
  rw [turned_split]
  have b0 := hb a (by simp); have b1 := hb b (by simp); have b2 := hb c (by simp); have b3 := hb d (by simp)
  have z0 := hy y0 (by simp); have z1 := hy y1 (by simp); have z2 := hy y2 (by simp); have z3 := hy y3 (by simp)
  intro x hx
  simp only [List.append_assoc, List.mem_append, List.mem_cons, List.not_mem_nil, or_false] at hx
  rcases hx with h | (h | h | h | h) | h
  · exact hb x (by simp [h])
  · subst h; exact bx_bounds b0 z0
  · subst h; exact bx_bounds b1 z1
  · subst h; exact bx_bounds b2 z2
  · subst h; exact bx_bounds b3 z3
  · exact hb x (by simp [h])

/-- Nothing was turned, or the row is another one. -/
theorem turned_zero {l : List Int} {y0 y1 y2 y3 : Int} {i : Nat} (hi : i + 3 < l.length) (hb : IsB l) (hy : IsB [y0, y1, y2, y3]) : turned l [y0, y1, y2, y3] i 4 = l ↔ (y0 = 0 ∧ y1 = 0 ∧ y2 = 0 ∧ y3 = 0) := by
  obtain ⟨p, a, b, c, d, r, rfl, rfl⟩ := split4 hi
  rw [turned_split]
  have b0 := hb a (by simp); have b1 := hb b (by simp); have b2 := hb c (by simp); have b3 := hb d (by simp)
  have z0 := hy y0 (by simp); have z1 := hy y1 (by simp); have z2 := hy y2 (by simp); have z3 := hy y3 (by simp)
  rw [List.append_assoc, List.append_assoc, List.append_cancel_left_eq]
  simp only [List.cons_append, List.nil_append, List.cons.injEq, and_true]
  rw [bx_same b0 z0, bx_same b1 z1, bx_same b2 z2, bx_same b3 z3]

theorem turned_sum {l : List Int} {y0 y1 y2 y3 : Int} {i : Nat} (hi : i + 3 < l.length) (hb : IsB l) (hy : IsB [y0, y1, y2, y3]) : crcSum (turned l [y0, y1, y2, y3] i 4) = crcSum l ↔ (y0 = 0 ∧ y1 = 0 ∧ y2 = 0 ∧ y3 = 0) := by
  constructor
  · intro h
    rw [crcSum_eq (turned_isB hi hb hy) hb] at h
    obtain ⟨p, a, b, c, d, r, rfl, rfl⟩ := split4 hi
    rw [turned_split] at h
    have b0 := hb a (by simp); have b1 := hb b (by simp); have b2 := hb c (by simp); have b3 := hb d (by simp)
    have z0 := hy y0 (by simp); have z1 := hy y1 (by simp); have z2 := hy y2 (by simp); have z3 := hy y3 (by simp)
    have x0 := bx_bounds b0 z0; have x1 := bx_bounds b1 z1; have x2 := bx_bounds b2 z2; have x3 := bx_bounds b3 z3
    rw [nats_append, nats_append, nats_append, nats_append] at h
    obtain ⟨h0, h1, h2, h3⟩ := crcN_turned _ (nats p) (bx a y0).toNat (bx b y1).toNat (bx c y2).toNat (bx d y3).toNat a.toNat b.toNat c.toNat d.toNat (nats r) (by omega) (by omega) (by omega) (by omega) (by omega) (by omega) (by omega) (by omega) h
    exact ⟨(bx_same b0 z0).1 (by omega), (bx_same b1 z1).1 (by omega), (bx_same b2 z2).1 (by omega), (bx_same b3 z3).1 (by omega)⟩
  · intro h
    rw [(turned_zero hi hb hy).2 h]

end Go.Proofs.Ytmbhedlplmbfoaa.Math
