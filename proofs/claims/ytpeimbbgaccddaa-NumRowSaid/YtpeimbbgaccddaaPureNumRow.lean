/- NumRow: short numbers one behind the other are got one by one, each from behind the one ahead, to the end. The law's guard: 100 numbers are gone through. -/
import Derived.Test.YtpeimbbgaccddaaNumMore
import Derived.Test.YtpeimbbgaccddaaPAllx4
namespace Go.Proofs.Ytpeimbbgaccddaa.Pure
open Go.RowKit Go.Proofs.Ytpeimbbgaccddaa.PAll Go.Proofs.YtpeimbbgaccddaaW.PrintWords Go.Proofs.YtpeimbbgaccddaaW.PrintLast Go.Proofs.Ytpeimbbgaccddaa.Math Go.Proofs.Ytpeimbbgaccddaa.NumFacts

/-- The numbers' bytes, one behind the other. -/
def cat (l : List Int) : List Int := l.flatMap vput
theorem cat_snoc (l : List Int) (x : Int) : cat (l ++ [x]) = cat l ++ vput x := by simp [cat]
theorem cat_cons (x : Int) (l : List Int) : cat (x :: l) = vput x ++ cat l := by simp [cat]
theorem cat_isB {l : List Int} (h : ∀ x ∈ l, 0 ≤ x ∧ x < 18446744073709551616) : IsB (cat l) := by
  intro y hy
  obtain ⟨x, hx, hy⟩ := List.mem_flatMap.1 hy
  exact vput_isB x (h x hx).1 y hy
theorem cat_len {l : List Int} (h : ∀ x ∈ l, 0 ≤ x ∧ x < 18446744073709551616) : (cat l).length ≤ 10 * l.length := by
  induction l with
  | nil => simp [cat]
  | cons x l ih =>
    rw [cat_cons, List.length_append, List.length_cons]
    have := vput_len10 (h x (by simp)).2
    have := ih (fun y hy => h y (by simp [hy]))
    omega

theorem row_j3_end (k : Nat) (l : List Int) (i : Nat) : cambiumlaw01_NumRow.j3 (k + 1) l [] (i : Int) false = some true := by
  rw [cambiumlaw01_NumRow.j3, if_neg (by simp)]; rfl

theorem row_l1 (l : List Int) (hl : ∀ x ∈ l, 0 ≤ x ∧ x < 18446744073709551616) (n : Nat) (hn : n = min l.length 100) (d : Nat) : ∀ (k i : Nat), i + d = n → 2 * d + 100 < k →
    cambiumlaw01_NumRow.l1 k l (cat ((l.take n).drop i)) (i : Int) = some true := by
  induction d with
  | zero =>
    intro k i hi hk
    obtain ⟨k, rfl⟩ : ∃ m, k = m + 1 + 1 := ⟨k - 2, by omega⟩
    rw [List.drop_of_length_le (by rw [List.length_take]; omega)]
    rw [cambiumlaw01_NumRow.l1]
    split
    · rw [show decide ((i : Int) < 100) = false from decide_eq_false (by omega)]
      exact row_j3_end k l i
    · exact row_j3_end k l i
  | succ d ih =>
    intro k i hi hk
    obtain ⟨k, rfl⟩ : ∃ m, k = m + 1 + 1 := ⟨k - 2, by omega⟩
    have hil : i < l.length := by omega
    rw [cambiumlaw01_NumRow.l1, if_pos (by omega), show decide ((i : Int) < 100) = true from decide_eq_true (by omega), cambiumlaw01_NumRow.j3, if_pos rfl]
    have hd : (l.take n).drop i = rd l (i : Int) :: (l.take n).drop (i + 1) := by
      rw [List.drop_eq_getElem_cons (by rw [List.length_take]; omega)]
      simp [rd, List.getD_eq_getElem?_getD, List.getElem?_eq_getElem hil]
    have hx := hl _ (rd_mem hil)
    have hr : ∀ x ∈ (l.take n).drop (i + 1), 0 ≤ x ∧ x < 18446744073709551616 := fun x hx => hl x (List.mem_of_mem_take (List.mem_of_mem_drop hx))
    have hp := vput_len_pos (rd l (i : Int))
    have h10 := vput_len10 hx.2
    have hlen := cat_len hr
    have hlt : ((l.take n).drop (i + 1)).length ≤ 100 := by rw [List.length_drop, List.length_take]; omega
    have hih := ih k (i + 1) (by omega) (by omega)
    rw [hd, cat_cons, get_eq k _ (isB_append (vput_isB _ hx.1) (cat_isB hr)) (by omega), vget_put _ hx.1 hx.2, Option.bind_some]
    rw [if_neg (by omega), if_pos (by omega), if_pos (by omega), if_pos rfl, if_pos (by omega), if_pos (by rw [List.length_append]; omega), rput_eq k _ hx.1 hx.2 (by omega), Option.bind_some]
    rw [Int.toNat_natCast, List.take_left, same_eq k _ _ (by omega) (by omega), Option.bind_some, if_pos (by simp), List.drop_left, wrap_id (x := (i : Int) + 1) (by omega) (by omega)]
    exact hih

theorem row_l0 (l : List Int) (hl : ∀ x ∈ l, 0 ≤ x ∧ x < 18446744073709551616) (n : Nat) (hn : n = min l.length 100) (d : Nat) : ∀ (k i : Nat), i + d = n → d + 1000 < k →
    cambiumlaw01_NumRow.l0 k l (cat (l.take i)) (i : Int) = some true := by
  have fin : ∀ k, 500 < k → cambiumlaw01_NumRow.j1 k l (cat (l.take n)) = some true := by
    intro k hk
    obtain ⟨k, rfl⟩ : ∃ m, k = m + 1 := ⟨k - 1, by omega⟩
    rw [cambiumlaw01_NumRow.j1]
    exact row_l1 l hl n hn n k 0 (by omega) (by omega)
  induction d with
  | zero =>
    intro k i hi hk
    obtain ⟨k, rfl⟩ : ∃ m, k = m + 1 := ⟨k - 1, by omega⟩
    have : i = n := by omega
    subst this
    rw [cambiumlaw01_NumRow.l0]
    split
    · rw [if_neg (by omega)]; exact fin k (by omega)
    · exact fin k (by omega)
  | succ d ih =>
    intro k i hi hk
    obtain ⟨k, rfl⟩ : ∃ m, k = m + 1 := ⟨k - 1, by omega⟩
    have hil : i < l.length := by omega
    have hx := hl _ (rd_mem hil)
    have h10 := vput_len10 hx.2
    have hlen := cat_len (l := l.take i) (fun x hx => hl x (List.mem_of_mem_take hx))
    rw [List.length_take] at hlen
    have hih := ih k (i + 1) (by omega) (by omega)
    rw [cambiumlaw01_NumRow.l0, if_pos (by omega), if_pos (by omega), if_pos (by omega), put_eq k _ hx.1 hx.2 (by omega), Option.bind_some, if_pos (by omega), ← cat_snoc, ← rd_take_succ hil, wrap_id (x := (i : Int) + 1) (by omega) (by omega)]
    exact hih

theorem NumRow : cambiumlaw01_NumRow.Pure := by
  intro l _ _ hw
  have hl : ∀ x ∈ l, 0 ≤ x ∧ x < 18446744073709551616 := by
    intro x hx
    have := hw x hx
    simp [Lit.wf, IntKind.min, IntKind.max, IntKind.bits, IntKind.signed] at this; omega
  refine ⟨2000, ?_⟩
  unfold cambiumlaw01_NumRow.f
  rw [awake_eq 2000 (by omega), Option.bind_some, if_pos rfl]
  exact row_l0 l hl _ rfl (min l.length 100) 2000 0 (by omega) (by omega)

end Go.Proofs.Ytpeimbbgaccddaa.Pure
