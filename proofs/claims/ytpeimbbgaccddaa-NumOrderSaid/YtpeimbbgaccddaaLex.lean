/- The order of rows of bytes, in plain Lean. -/
import Derived.Test.YtpeimbbgaccddaaRd
namespace Go.Proofs.Ytpeimbbgaccddaa.Math
open Go.RowKit Go.Proofs.YtpeimbbgaccddaaW.PrintWords
set_option linter.unusedVariables false

/-- Does one row come ahead of another one? -/
def lexLt : List Int → List Int → Bool
  | [], [] => false
  | [], _ :: _ => true
  | _ :: _, [] => false
  | a :: s, b :: t => if a = b then lexLt s t else decide (a < b)
theorem lexLt_nil_right (a : List Int) : lexLt a [] = false := by cases a <;> rfl
theorem lexLt_irrefl : ∀ a : List Int, lexLt a a = false
  | [] => rfl
  | x :: s => by simp only [lexLt, if_true]; exact lexLt_irrefl s
theorem lexLt_app : ∀ (p a b : List Int), lexLt (p ++ a) (p ++ b) = lexLt a b
  | [], _, _ => rfl
  | x :: p, a, b => by simp only [List.cons_append, lexLt, if_true]; exact lexLt_app p a b
theorem lexLt_tri : ∀ a b : List Int, lexLt a b = true ∨ a = b ∨ lexLt b a = true
  | [], [] => .inr (.inl rfl)
  | [], _ :: _ => .inl rfl
  | _ :: _, [] => .inr (.inr rfl)
  | a :: s, b :: t => by
    simp only [lexLt]
    by_cases h : a = b
    · subst h
      rw [if_pos rfl, if_pos rfl]
      rcases lexLt_tri s t with h | h | h
      · exact .inl h
      · exact .inr (.inl (by rw [h]))
      · exact .inr (.inr h)
    · rw [if_neg h, if_neg (fun e => h e.symm)]
      rcases Int.lt_or_lt_of_ne h with h1 | h1
      · exact .inl (decide_eq_true h1)
      · exact .inr (.inr (decide_eq_true h1))
theorem lexLt_asymm : ∀ a b : List Int, lexLt a b = true → lexLt b a = false
  | [], [] => fun h => by cases h
  | [], _ :: _ => fun _ => rfl
  | _ :: _, [] => fun h => by cases h
  | a :: s, b :: t => by
    simp only [lexLt]
    by_cases h : a = b
    · subst h
      rw [if_pos rfl, if_pos rfl]
      exact lexLt_asymm s t
    · rw [if_neg h, if_neg (fun e => h e.symm)]
      intro h1
      have := of_decide_eq_true h1
      exact decide_eq_false (by omega)
theorem lexLt_trans : ∀ a b c : List Int, lexLt a b = true → lexLt b c = true → lexLt a c = true
  | [], [], c => fun h _ => by cases h
  | [], _ :: _, [] => fun _ h => by cases h
  | [], _ :: _, _ :: _ => fun _ _ => rfl
  | _ :: _, [], c => fun h _ => by cases h
  | _ :: _, _ :: _, [] => fun _ h => by cases h
  | a :: s, b :: t, c :: u => by
    simp only [lexLt]
    by_cases h : a = b
    · subst h
      rw [if_pos rfl]
      by_cases h2 : a = c
      · subst h2; rw [if_pos rfl, if_pos rfl]; exact lexLt_trans s t u
      · rw [if_neg h2, if_neg h2]; exact fun _ h => h
    · rw [if_neg h]
      intro h1
      by_cases h2 : b = c
      · subst h2; rw [if_pos rfl, if_neg h]; exact fun _ => h1
      · rw [if_neg h2]
        intro h3
        have a1 := of_decide_eq_true h1
        have a2 := of_decide_eq_true h3
        rw [if_neg (by omega)]
        exact decide_eq_true (by omega)
/-- Rows that part at a place are told by what stands there. -/
theorem lexLt_diff (p a b : List Int) (x y : Int) (h : ¬ x = y) : lexLt (p ++ x :: a) (p ++ y :: b) = decide (x < y) := by
  rw [lexLt_app]; simp only [lexLt]; rw [if_neg h]
theorem lexLt_append_eq_len : ∀ (a b c d : List Int), a.length = b.length → lexLt (a ++ c) (b ++ d) = if a = b then lexLt c d else lexLt a b
  | [], [], c, d, _ => by simp
  | [], _ :: _, _, _, h => by simp at h
  | _ :: _, [], _, _, h => by simp at h
  | x :: a, y :: b, c, d, h => by
    simp only [List.cons_append, lexLt]
    by_cases e : x = y
    · subst e
      rw [if_pos rfl, if_pos rfl, lexLt_append_eq_len a b c d (by simpa using h)]
      by_cases e2 : a = b
      · subst e2; simp
      · simp [e2]
    · rw [if_neg e, if_neg e, if_neg (by simp [e])]

end Go.Proofs.Ytpeimbbgaccddaa.Math
