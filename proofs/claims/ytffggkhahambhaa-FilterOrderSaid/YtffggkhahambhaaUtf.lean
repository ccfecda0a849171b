/- The runes of a text, as Go's decoder finds them: plain. -/
import Derived.Test.YtffggkhahambhaaRd
import Derived.Lib.DecodeN
namespace Go.Proofs.Ytffggkhahambhaa.Runes
open Go.RowKit Go.Proofs.YtffggkhahambhaaW.PrintWords Go.Proofs.Ytffggkhahambhaa.Math
set_option linter.unusedVariables false

/-- A byte, as a natural number. -/
def nb (s : ByteArray) (i : Nat) : Nat := (s.get! i).toNat
theorem nb_lt (s : ByteArray) (i : Nat) : nb s i < 256 := by unfold nb; exact (s.get! i).toNat_lt
def rn (s : ByteArray) (i : Nat) : Nat := (Utf8.decode s i).1
def wd (s : ByteArray) (i : Nat) : Nat := (Utf8.decode s i).2

theorem data_size (s : ByteArray) : s.data.size = s.size := rfl
theorem extract_size (s : ByteArray) (i : Nat) : (s.extract i s.size).size = s.size - i := by
  rw [ByteArray.size_extract]; omega
theorem nb_extract (s : ByteArray) (i j : Nat) : nb (s.extract i s.size) j = nb s (i + j) := by
  have hg : ∀ (t : ByteArray) (k : Nat), t.get! k = t.data[k]! := fun t k => rfl
  unfold nb
  rw [hg, hg]
  congr 1
  rw [ByteArray.data_extract, getElem!_def, getElem!_def, Array.getElem?_extract, data_size]
  by_cases h : j < min s.size s.size - i
  · rw [if_pos h]
  · rw [if_neg h, Array.getElem?_eq_none (by rw [data_size]; omega)]
theorem dec_extract (s : ByteArray) (i : Nat) : Utf8.decode (s.extract i s.size) 0 = Utf8.decode s i := by
  rw [Lib.decode_at, Lib.decode_at, extract_size]
  have e : ∀ j, ((s.extract i s.size).get! j).toNat = (s.get! (i + j)).toNat := fun j => nb_extract s i j
  rw [e, e, e, e]
  rfl
theorem dec_bounds (s : ByteArray) (i : Nat) (h : i < s.size) : 1 ≤ wd s i ∧ i + wd s i ≤ s.size ∧ wd s i ≤ 4 ∧ rn s i ≤ 1114111 := by
  unfold wd rn
  rw [Lib.decode_at]
  unfold Lib.decodeN
  have b0 := (s.get! i).toNat_lt
  have b1 := (s.get! (i + 1)).toNat_lt
  have b2 := (s.get! (i + 2)).toNat_lt
  have b3 := (s.get! (i + 3)).toNat_lt
  generalize (s.get! i).toNat = c0 at *
  generalize (s.get! (i + 1)).toNat = c1 at *
  generalize (s.get! (i + 2)).toNat = c2 at *
  generalize (s.get! (i + 3)).toNat = c3 at *
  split
  · simp only; omega
  split
  · split <;> (simp only; omega)
  split
  · split <;> (simp only; omega)
  split
  · split <;> (simp only; omega)
  · simp only; omega

/-- Where each rune begins, from a place on. -/
def starts (s : ByteArray) : Nat → Nat → List Nat
  | 0, _ => []
  | f + 1, i => if i < s.size then i :: starts s f (i + wd s i) else []
def pos (s : ByteArray) : List Nat := starts s s.size 0
theorem starts_fuel (s : ByteArray) : ∀ (f f' i : Nat), s.size - i ≤ f → s.size - i ≤ f' → starts s f i = starts s f' i
  | 0, 0, _, _, _ => rfl
  | 0, f' + 1, i, h, _ => by rw [starts, starts, if_neg (by omega)]
  | f + 1, 0, i, _, h => by rw [starts, starts, if_neg (by omega)]
  | f + 1, f' + 1, i, h, h' => by
    rw [starts, starts]
    by_cases hi : i < s.size
    · have := dec_bounds s i hi
      rw [if_pos hi, if_pos hi, starts_fuel s f f' (i + wd s i) (by omega) (by omega)]
    · rw [if_neg hi, if_neg hi]
/-- From a place on, by as much fuel as is needed. -/
def from_ (s : ByteArray) (i : Nat) : List Nat := starts s s.size i
theorem from_lt {s : ByteArray} {i : Nat} (h : i < s.size) : from_ s i = i :: from_ s (i + wd s i) := by
  unfold from_
  have hb := dec_bounds s i h
  obtain ⟨m, hm⟩ : ∃ m, s.size = m + 1 := ⟨s.size - 1, by omega⟩
  have e : starts s s.size (i + wd s i) = starts s m (i + wd s i) := starts_fuel s _ _ _ (by omega) (by omega)
  rw [e]
  conv => lhs; rw [hm]
  rw [starts, if_pos h]
theorem from_ge {s : ByteArray} {i : Nat} (h : ¬ i < s.size) : from_ s i = [] := by
  unfold from_
  cases hs : s.size with
  | zero => rfl
  | succ m => rw [starts, if_neg h]
def runesI (s : ByteArray) : List Int := (from_ s 0).map fun i => (rn s i : Int)
def posI (s : ByteArray) : List Int := (from_ s 0).map fun (i : Nat) => (i : Int)
theorem from_len (s : ByteArray) : ∀ (d i : Nat), s.size - i ≤ d → (from_ s i).length ≤ s.size - i := by
  intro d
  induction d with
  | zero => intro i h; rw [from_ge (by omega)]; simp
  | succ d ih =>
    intro i h
    by_cases hi : i < s.size
    · have := dec_bounds s i hi
      rw [from_lt hi]
      have := ih (i + wd s i) (by omega)
      simp only [List.length_cons]; omega
    · rw [from_ge hi]; simp

/-- May a rune stand in a right text? -/
def okI (r : Int) : Bool := !(decide (r < 32) || (decide (r ≥ 127) && decide (r ≤ 159)))

end Go.Proofs.Ytffggkhahambhaa.Runes
