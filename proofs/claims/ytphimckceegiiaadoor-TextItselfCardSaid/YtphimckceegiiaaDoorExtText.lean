/- The functions of text that range over a string, in the print's form. -/
import Derived.Test.YtphimckceegiiaaDoorTextSigns
import Derived.Test.YtphimckceegiiaaDoorTextRight
import Derived.Test.YtphimckceegiiaaDoorTextLower
import Derived.Test.YtphimckceegiiaaDoorTextWords
namespace Go.Proofs.YtphimckceegiiaaDoor.PTxt
open Go.RowKit Go.Proofs.YtphimckceegiiaaDoorW.PrintWords Go.Proofs.YtphimckceegiiaaDoorW.PrintLast Go.Proofs.YtphimckceegiiaaDoorW.PrintMore Go.Proofs.YtphimckceegiiaaDoor.Math Go.Proofs.YtphimckceegiiaaDoor.Runes Go.Proofs.YtphimckceegiiaaDoor.Text
set_option linter.unusedVariables false

theorem guard_some {α : Type} {c : Prop} [Decidable c] {x r : α} (h : (if c then some x else none) = some r) : c ∧ x = r := by
  by_cases hc : c
  · rw [if_pos hc] at h; exact ⟨hc, Option.some.inj h⟩
  · rw [if_neg hc] at h; cases h

def text_Len.f (a0 : ByteArray) : Option Int := if a0.size ≤ 1000000 then some ((from_ a0 0).length : Int) else none
theorem text_Len.calls (a0 : ByteArray) (r : Int) (w : World) (h : text_Len.f a0 = some r) :
    Calls Tryd.prog 19 #[.string a0] w fun e w' => e = .returned (.int .i64 r) ∧ Below w.heap.size w w' := by
  obtain ⟨h1, rfl⟩ := guard_some h
  exact len_calls a0 w h1
def text_Cut.f (a0 : ByteArray) (a1 : Int) : Option ByteArray := if a0.size ≤ 1000000 ∧ -9223372036854775808 ≤ a1 ∧ a1 < 9223372036854775808 then some (cutAt a0 a1) else none
theorem text_Cut.calls (a0 : ByteArray) (a1 : Int) (r : ByteArray) (w : World) (h : text_Cut.f a0 a1 = some r) :
    Calls Tryd.prog 18 #[.string a0, .int .i64 a1] w fun e w' => e = .returned (.string r) ∧ Below w.heap.size w w' := by
  obtain ⟨h1, rfl⟩ := guard_some h
  exact cut_calls a0 a1 w h1.1 h1.2.1 h1.2.2
def text_runes.f (a0 : ByteArray) : Option (List Int) := if a0.size ≤ 1000000 then some (runesI a0) else none
theorem text_runes.calls (a0 : ByteArray) (r : List Int) (w : World) (h : text_runes.f a0 = some r) :
    Calls Tryd.prog 29 #[.string a0] w fun e w' => ∃ v0_ : Value, e = .returned (v0_) ∧ Kd.R (Kd.int .i32) 21 w' w.heap.size (fun _ => True) v0_ r ∧ Below w.heap.size w w' := by
  obtain ⟨h1, rfl⟩ := guard_some h
  exact runes_calls a0 w h1
def text_signs.f (a0 : ByteArray) : Option (List S44) := if a0.size ≤ 1000000 then some (signsL false (runesI a0)) else none
theorem text_signs.calls (a0 : ByteArray) (r : List S44) (w : World) (h : text_signs.f a0 = some r) :
    Calls Tryd.prog 28 #[.string a0] w fun e w' => ∃ v0_ : Value, e = .returned (v0_) ∧ Kd.R k44 44 w' w.heap.size (fun _ => True) v0_ r ∧ Below w.heap.size w w' := by
  obtain ⟨h1, rfl⟩ := guard_some h
  exact signs_calls a0 w h1
def text_Right.f (a0 : ByteArray) : Option Bool := if a0.size ≤ 1000000 then some (Lib.validD a0.data.toList && (runesI a0).all okI) else none
theorem text_Right.calls (a0 : ByteArray) (r : Bool) (w : World) (h : text_Right.f a0 = some r) (hT_ : Tabs w) :
    Calls Tryd.prog 23 #[.string a0] w fun e w' => e = .returned (.bool r) ∧ Below w.heap.size w w' := by
  obtain ⟨h1, rfl⟩ := guard_some h
  exact right_calls a0 w h1 hT_
def text_Words.f (a0 : ByteArray) : Option (List ByteArray) := if a0.size ≤ 1000000 then some (wordsF a0 (from_ a0 0) 0) else none
theorem text_Words.calls (a0 : ByteArray) (r : List ByteArray) (w : World) (h : text_Words.f a0 = some r) :
    Calls Tryd.prog 20 #[.string a0] w fun e w' => ∃ v0_ : Value, e = .returned (v0_) ∧ Kd.R Kd.string 9 w' w.heap.size (fun _ => True) v0_ r ∧ Below w.heap.size w w' := by
  obtain ⟨h1, rfl⟩ := guard_some h
  exact words_calls a0 w h1
def text_Lower.f (a0 : ByteArray) : Option ByteArray := if a0.size ≤ 1000000 then some (lowerB a0) else none
theorem text_Lower.calls (a0 : ByteArray) (r : ByteArray) (w : World) (h : text_Lower.f a0 = some r) :
    Calls Tryd.prog 21 #[.string a0] w fun e w' => e = .returned (.string r) ∧ Below w.heap.size w w' := by
  obtain ⟨h1, rfl⟩ := guard_some h
  exact lower_calls a0 w h1

end Go.Proofs.YtphimckceegiiaaDoor.PTxt
