/- TextRunes: what it computes is true. -/
import Derived.Test.YtphimckceegiiaaDoorPTxtx4
import Derived.Test.YtphimckceegiiaaDoorMath
namespace Go.Proofs.YtphimckceegiiaaDoor.Pure
open Go.RowKit Go.Proofs.YtphimckceegiiaaDoorW.PrintWords Go.Proofs.YtphimckceegiiaaDoorW.PrintLast Go.Proofs.YtphimckceegiiaaDoorW.PrintMore Go.Proofs.YtphimckceegiiaaDoor.Math
open Go.Proofs.YtphimckceegiiaaDoor.PTxt
set_option linter.unusedVariables false
set_option linter.unusedSimpArgs false
set_option maxRecDepth 100000 in
theorem awake : cambiumlaw02_awake.f 60 = some true := by kernel_rfl
def letterB (a : Int) : Bool := decide (97 ≤ a ∧ a ≤ 122 ∨ 65 ≤ a ∧ a ≤ 90 ∨ 48 ≤ a ∧ a ≤ 57 ∨ 159 < a ∨ a = 95 ∨ a = 46 ∨ a = 45 ∨ a = 47 ∨ a = 58)
def blankB (a : Int) : Bool := decide (a = 32 ∨ a = 9 ∨ a = 10 ∨ a = 13)
theorem ite_t {c : Prop} [Decidable c] {α : Type} {x y z : α} (h1 : c → x = z) (h2 : ¬ c → y = z) : (if c then x else y) = z := by
  split
  · exact h1 ‹_›
  · exact h2 ‹_›
theorem letter (k : Nat) (a : Int) : text_Letter.f (k + 4) a = some (letterB a) := by
  unfold text_Letter.f text_Letter.j0 text_Letter.j1 text_Letter.j2 letterB
  repeat' (refine ite_t (fun _ => ?_) (fun _ => ?_))
  all_goals first | (congr 1; symm; rw [decide_eq_true_iff]; simp_all <;> omega) | (congr 1; symm; rw [decide_eq_false_iff_not]; simp_all <;> omega) | (simp_all <;> omega)
theorem letterR (a : Int) : cambiumref02_Letter.f a = some (letterB a) := by
  unfold cambiumref02_Letter.f letterB
  repeat' (refine ite_t (fun _ => ?_) (fun _ => ?_))
  all_goals congr 1; symm; first | (rw [decide_eq_true_iff]; omega) | (rw [show (a == 58) = decide (a = 58) from rfl]; rw [decide_eq_decide]; omega)
theorem blank (a : Int) : text_Blank.f a = some (blankB a) := by
  unfold text_Blank.f blankB
  repeat' (refine ite_t (fun _ => ?_) (fun _ => ?_))
  all_goals congr 1; symm; first | (rw [decide_eq_true_iff]; omega) | (rw [show (a == 13) = decide (a = 13) from rfl]; rw [decide_eq_decide]; omega)
theorem blankR (a : Int) : cambiumref02_Blank.f a = some (blankB a) := blank a
theorem TextRunes : cambiumlaw02_TextRunes.Pure := by
  intro a0 wf
  refine ⟨60, ?_⟩
  have hw : wrap64 a0 = a0 := by
    have h0 : IntKind.i32.min ≤ a0 ∧ a0 ≤ IntKind.i32.max := by simpa [Lit.wf] using wf
    have h : -2147483648 ≤ a0 ∧ a0 ≤ 2147483647 := h0
    unfold wrap64; omega
  have hl : text_Letter.f 60 a0 = some (letterB a0) := letter 56 a0
  have hl' : text_Letter.f 59 a0 = some (letterB a0) := letter 55 a0
  unfold cambiumlaw02_TextRunes.f
  rw [awake, hw, hl, letterR, blank, blankR]
  simp only [Option.bind_some, bne_self_eq_false, if_true, if_false, Bool.false_eq_true]
  rw [show cambiumlaw02_TextRunes.j0 60 a0 false = _ from rfl]
  simp only [cambiumlaw02_TextRunes.j0, blank, hl', Option.bind_some, Bool.false_eq_true, if_false]
  refine ite_t (fun h => ?_) (fun _ => rfl)
  have : letterB a0 = false := by
    unfold blankB at h; unfold letterB
    rw [decide_eq_true_iff] at h
    rw [decide_eq_false_iff_not]; omega
  rw [this]; rfl
end Go.Proofs.YtphimckceegiiaaDoor.Pure
