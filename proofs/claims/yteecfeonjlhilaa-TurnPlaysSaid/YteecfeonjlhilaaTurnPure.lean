/- Plain facts on queues: lists of numbers that want and leave. -/
import Derived.Test.YteecfeonjlhilaaQueue3
namespace Go.Proofs.Yteecfeonjlhilaa.Q
open Go.RowKit Go.Proofs.YteecfeonjlhilaaW.PrintWords Go.Proofs.Yteecfeonjlhilaa.Math
set_option linter.unusedVariables false
set_option linter.unusedSimpArgs false

theorem leave_erase (xs : List Int) (no : Int) : leave xs no = xs.erase no := by
  unfold leave
  by_cases h : no ∈ xs
  · rw [if_pos h, List.erase_eq_eraseIdx_of_idxOf rfl, List.eraseIdx_eq_take_drop_succ]
  · rw [if_neg h, List.erase_of_not_mem h]
theorem mem_want {xs : List Int} {no x : Int} : x ∈ want xs no ↔ x ∈ xs ∨ x = no := by
  unfold want
  split
  · constructor
    · exact .inl
    · rintro (h | rfl)
      · exact h
      · assumption
  · simp
theorem nodup_want {xs : List Int} {no : Int} (h : xs.Nodup) : (want xs no).Nodup := by
  unfold want
  split
  · exact h
  · rw [List.nodup_append]
    refine ⟨h, by simp, ?_⟩
    intro a ha b hb
    rw [List.mem_singleton.1 hb]
    rintro rfl
    contradiction
theorem want_len (xs : List Int) (no : Int) : (want xs no).length ≤ xs.length + 1 := by
  unfold want
  split <;> simp
theorem leave_len (xs : List Int) (no : Int) : (leave xs no).length ≤ xs.length := by
  rw [leave_erase]; exact List.length_erase_le

/-- Those ahead, as they have wanted. -/
def Fair1 (no : Int) (l : List Int) (k : Nat) (xs : List Int) : Prop := xs.Nodup ∧ no ∉ xs ∧ (∀ x, x ∈ xs ↔ x ∈ l.take k) ∧ xs.length ≤ k
theorem fair1_start (no : Int) (l : List Int) : Fair1 no l 0 [] := ⟨by simp, by simp, by simp, by simp⟩
theorem fair1_step {no : Int} {l : List Int} {k : Nat} {xs : List Int} (h : Fair1 no l k xs) (hk : k < l.length) (hne : ¬ rd l (k : Int) = no) : Fair1 no l (k + 1) (want xs (rd l (k : Int))) := by
  obtain ⟨h1, h2, h3, h4⟩ := h
  refine ⟨nodup_want h1, ?_, ?_, ?_⟩
  · rw [mem_want]
    rintro (h | h)
    · exact h2 h
    · exact hne h.symm
  · intro x
    rw [mem_want, rd_take_succ hk, List.mem_append, h3, List.mem_singleton]
  · have := want_len xs (rd l (k : Int)); omega
/-- Those ahead that are still there, the one, those behind. -/
def Fair2 (no : Int) (l : List Int) (m i n : Nat) (xs : List Int) : Prop :=
  ∃ D E, xs = D ++ no :: E ∧ xs.Nodup ∧ (∀ x, x ∈ D ↔ x ∈ l.take m ∧ x ∉ l.take i) ∧ (∀ x, x ∈ E → x ∉ l.take m) ∧ xs.length ≤ n
theorem fair2_start {no : Int} {l : List Int} {m : Nat} {xs : List Int} (h : Fair1 no l m xs) : Fair2 no l m 0 (m + 1) (want xs no) ∧ (rd (want xs no) 0 == no) = (decide (xs.length = 0)) := by
  obtain ⟨h1, h2, h3, h4⟩ := h
  have hw : want xs no = xs ++ [no] := by unfold want; rw [if_neg h2]
  have hn := nodup_want (no := no) h1
  rw [hw] at hn ⊢
  refine ⟨⟨xs, [], rfl, hn, ?_, by simp, by simp; omega⟩, ?_⟩
  · intro x; rw [h3]; simp
  · cases xs with
    | nil => simp [rd]
    | cons a t =>
      have : ¬ a = no := by rintro rfl; simp at h2
      simp [rd, this]
theorem fair2_behind {no : Int} {l : List Int} {m n : Nat} {xs : List Int} (h : Fair2 no l m 0 n xs) (x : Int) : Fair2 no l m 0 (n + 1) (want xs x) := by
  obtain ⟨D, E, rfl, h2, h3, h4, h5⟩ := h
  have hn := nodup_want (no := x) h2
  have hl := want_len (D ++ no :: E) x
  by_cases hx : x ∈ D ++ no :: E
  · have hw : want (D ++ no :: E) x = D ++ no :: E := by unfold want; rw [if_pos hx]
    rw [hw]
    exact ⟨D, E, rfl, h2, h3, h4, by omega⟩
  · have hw : want (D ++ no :: E) x = D ++ no :: (E ++ [x]) := by unfold want; rw [if_neg hx]; simp
    rw [hw] at hn hl ⊢
    refine ⟨D, E ++ [x], rfl, hn, h3, ?_, by omega⟩
    intro y hy
    rcases List.mem_append.1 hy with hy | hy
    · exact h4 y hy
    · rw [List.mem_singleton.1 hy]
      intro hm
      exact hx (List.mem_append_left _ ((h3 x).2 ⟨hm, by simp⟩))
theorem fair2_pos {no : Int} {l : List Int} {m i n : Nat} {xs : List Int} (h : Fair2 no l m i n xs) : xs.isEmpty = false ∧ 0 < xs.length := by
  obtain ⟨D, E, rfl, _⟩ := h
  cases D <;> simp
/-- One ahead leaves. -/
theorem fair2_step {no : Int} {l : List Int} {m i n : Nat} {xs : List Int} (h : Fair2 no l m i n xs) (hi : i < m) (hm : m ≤ l.length) (hno : no ∉ l.take m) :
    Fair2 no l m (i + 1) n (leave xs (rd l (i : Int))) ∧ ((rd xs 0 = no) → rd l (i : Int) ∉ xs) := by
  obtain ⟨D, E, rfl, h2, h3, h4, h5⟩ := h
  have hmem : rd l (i : Int) ∈ l.take m := by
    rw [List.mem_take_iff_getElem]
    exact ⟨i, by omega, by simp [rd, List.getD_eq_getElem?_getD, List.getElem?_eq_getElem (show i < l.length by omega)]⟩
  have hne : ¬ rd l (i : Int) = no := by intro h; rw [h] at hmem; exact hno hmem
  have hE : rd l (i : Int) ∉ E := fun h => h4 _ h hmem
  have hl := leave_len (D ++ no :: E) (rd l (i : Int))
  have hts := rd_take_succ (l := l) (k := i) (by omega)
  have hnd : D.Nodup := (List.nodup_append.1 h2).1
  refine ⟨?_, ?_⟩
  · rw [leave_erase] at hl ⊢
    by_cases hD : rd l (i : Int) ∈ D
    · have he : (D ++ no :: E).erase (rd l (i : Int)) = D.erase (rd l (i : Int)) ++ no :: E := List.erase_append_left _ hD
      refine ⟨D.erase (rd l (i : Int)), E, he, h2.erase _, ?_, h4, by omega⟩
      intro x
      rw [hnd.mem_erase_iff, h3, hts, List.mem_append, List.mem_singleton]
      constructor
      · rintro ⟨a, b, c⟩; exact ⟨b, fun h => h.elim c a⟩
      · rintro ⟨a, b⟩; exact ⟨fun h => b (.inr h), a, fun h => b (.inl h)⟩
    · have hx : rd l (i : Int) ∉ D ++ no :: E := by
        rw [List.mem_append, List.mem_cons]
        rintro (h | h | h)
        · exact hD h
        · exact hne h
        · exact hE h
      have hti : rd l (i : Int) ∈ l.take i := Classical.byContradiction fun hc => hD ((h3 _).2 ⟨hmem, hc⟩)
      refine ⟨D, E, List.erase_of_not_mem hx, h2.erase _, ?_, h4, by omega⟩
      intro x
      rw [h3, hts, List.mem_append, List.mem_singleton]
      constructor
      · rintro ⟨a, b⟩
        refine ⟨a, ?_⟩
        rintro (h | rfl)
        · exact b h
        · exact b hti
      · rintro ⟨a, b⟩; exact ⟨a, fun h => b (.inl h)⟩
  · intro h0
    cases D with
    | nil =>
      rw [List.nil_append, List.mem_cons]
      rintro (h | h)
      · exact hne h
      · exact hE h
    | cons a t =>
      exfalso
      have : a = no := h0
      subst this
      rw [List.cons_append, List.nodup_cons] at h2
      exact h2.1 (by simp)
theorem fair2_end {no : Int} {l : List Int} {m n : Nat} {xs : List Int} (h : Fair2 no l m m n xs) : rd xs 0 = no ∧ rd (want xs no) 0 = no := by
  obtain ⟨D, E, rfl, h2, h3, h4, h5⟩ := h
  have hD : D = [] := by
    cases D with
    | nil => rfl
    | cons a t => have := (h3 a).1 (by simp); exact absurd this.1 this.2
  subst hD
  refine ⟨rfl, ?_⟩
  unfold want
  rw [if_pos (by simp)]
  rfl

/-- All who want, each once. -/
def once : List Int → List Int
  | l => l.foldl want []
theorem once_take {l : List Int} {k : Nat} (h : k < l.length) : once (l.take (k + 1)) = want (once (l.take k)) (rd l (k : Int)) := by
  rw [rd_take_succ h]; simp [once]
theorem nodup_once (l : List Int) : (once l).Nodup := by
  have : ∀ (l xs : List Int), xs.Nodup → (l.foldl want xs).Nodup := by
    intro l
    induction l with
    | nil => intro xs h; exact h
    | cons a t ih => intro xs h; exact ih _ (nodup_want h)
  exact this l [] (by simp)
theorem once_len (l : List Int) : (once l).length ≤ l.length := by
  have : ∀ (l xs : List Int), (l.foldl want xs).length ≤ xs.length + l.length := by
    intro l
    induction l with
    | nil => intro xs; simp
    | cons a t ih => intro xs; have := ih (want xs a); have := want_len xs a; simp; omega
  have := this l []
  simpa [once] using this
theorem leave_drop {xs : List Int} {i : Nat} (hn : xs.Nodup) (h : i < xs.length) : leave (xs.drop i) (rd xs (i : Int)) = xs.drop (i + 1) ∧ rd xs (i : Int) ∈ xs.drop i ∧ rd xs (i : Int) ∉ xs.drop (i + 1) ∧ rd (xs.drop i) 0 = rd xs (i : Int) ∧ (xs.drop i).isEmpty = false := by
  have hd := rd_drop h
  have hnd : (xs.drop i).Nodup := (List.drop_sublist i xs).nodup hn
  rw [hd] at hnd ⊢
  refine ⟨?_, by simp, (List.nodup_cons.1 hnd).1, rfl, rfl⟩
  rw [leave_erase, List.erase_cons_head]

end Go.Proofs.Yteecfeonjlhilaa.Q
