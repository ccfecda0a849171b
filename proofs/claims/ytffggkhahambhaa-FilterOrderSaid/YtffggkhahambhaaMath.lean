/- Plain facts on numbers as bytes: short numbers (seven bits a byte), numbers of eight bytes, comparing rows. No program in sight. -/
import Derived.Laws.BitsAllLaws
import Derived.RowKit
namespace Go.Proofs.Ytffggkhahambhaa.Math
open Go.RowKit

/-- All are bytes. -/
def IsB (l : List Int) : Prop := ∀ x ∈ l, 0 ≤ x ∧ x < 256

instance decIsB : DecidablePred IsB := fun l => by unfold IsB; infer_instance

theorem isB_of_wf {l : List Int} (h : ∀ x ∈ l, (Lit.int .u8 x).wf = true) : IsB l := by
  intro x hx
  have := h x hx
  simp [Lit.wf, IntKind.min, IntKind.max, IntKind.bits, IntKind.signed] at this
  omega

/-- A short number's bytes. -/
def vput (v : Int) : List Int := if 128 ≤ v then (v % 128 + 128) :: vput (v / 128) else [v]
termination_by v.toNat
decreasing_by omega

/-- What short bytes come to. -/
def vval : List Int → Int
  | [] => 0
  | c :: r => c % 128 + 128 * vval r

/-- Short bytes as they must be: all but the last with the high bit, the last without it, and not 0 unless it is alone. -/
def Canon : List Int → Prop
  | [] => False
  | [c] => 0 ≤ c ∧ c < 128
  | c :: d :: r => (128 ≤ c ∧ c < 256) ∧ Canon (d :: r) ∧ (r = [] → d ≠ 0)

/-- Reading a short number: from place i on, what came before being v. -/
def vgo : Nat → Int → List Int → Int × Int
  | _, _, [] => (0, 0)
  | i, v, c :: r => if 10 ≤ i then (0, 0) else if i = 9 ∧ 1 < c then (0, 0) else
      if c < 128 then (if c = 0 ∧ 0 < i then (0, 0) else (v + c * 128 ^ i, (i : Int) + 1)) else vgo (i + 1) (v + (c - 128) * 128 ^ i) r

/-- The short number with which bytes begin, and how many it has. -/
def vget (l : List Int) : Int × Int := vgo 0 0 l

end Go.Proofs.Ytffggkhahambhaa.Math
