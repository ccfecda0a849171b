/- The row of sums compared; rows that come in, as raw spans (chapter 26). -/
import Derived.Test.YtoigebnhnkdbbaaTrAwake
import Derived.Test.YtoigebnhnkdbbaaTrSumP
import Derived.Test.YtoigebnhnkdbbaaTrSmall
import Derived.Test.YtoigebnhnkdbbaaReads
import Derived.Test.YtoigebnhnkdbbaaPAllx7
namespace Go.Proofs.Ytoigebnhnkdbbaa.Tr
open Go.RowKit Go.Proofs.YtoigebnhnkdbbaaW.PrintWords Go.Proofs.YtoigebnhnkdbbaaW.PrintLast Go.Proofs.YtoigebnhnkdbbaaW.PrintMore Go.Proofs.Ytoigebnhnkdbbaa.Math Go.Proofs.Ytoigebnhnkdbbaa.PAll Go.Proofs.Ytoigebnhnkdbbaa.Open
set_option linter.unusedVariables false
set_option linter.unusedSimpArgs false

def aggM (x : Sm) : Value := .agg #[.int .i64 x.n, .int .i64 x.er, .int .i64 x.st, .int .i64 x.en, .int .i64 x.sv]
theorem eqA29 (d : Nat) (w : World) (x0 y0 x1 y1 x2 y2 x3 y3 x4 y4 : Int) :
    (Op.equalIn (d + 2) 29 (.agg #[.int .i64 x0, .int .i64 x1, .int .i64 x2, .int .i64 x3, .int .i64 x4]) (.agg #[.int .i64 y0, .int .i64 y1, .int .i64 y2, .int .i64 y3, .int .i64 y4])).run Try.prog w = .ok (x0 == y0 && (x1 == y1 && (x2 == y2 && (x3 == y3 && (x4 == y4))))) w := by
  refine eqA_of Try.underlying29 (by kernel_rfl) ?_
  refine eqf_cons (by rfl) (by go_simp; rfl) (by go_simp; rfl) (by go_simp) ?_
  refine eqf_cons (by rfl) (by go_simp; rfl) (by go_simp; rfl) (by go_simp) ?_
  refine eqf_cons (by rfl) (by go_simp; rfl) (by go_simp; rfl) (by go_simp) ?_
  refine eqf_cons (by rfl) (by go_simp; rfl) (by go_simp; rfl) (by go_simp) ?_
  exact eqf_last (by rfl) (by go_simp; rfl) (by go_simp; rfl) (by go_simp)
theorem neq29 (w : World) (x0 x1 x2 x3 x4 : Int) : (binOp .neq 29 (.agg #[.int .i64 x0, .int .i64 x1, .int .i64 x2, .int .i64 x3, .int .i64 x4]) (.agg #[.int .i64 x0, .int .i64 x1, .int .i64 x2, .int .i64 x3, .int .i64 x4])).run Try.prog w = .ok (.bool false) w := by
  have h := eqA29 9998 w x0 x0 x1 x1 x2 x2 x3 x3 x4 x4
  simp only [beq_self_eq_true, Bool.and_self] at h
  rw [show 9998 + 2 = Op.maxDepth from rfl] at h
  simp [binOp, Op.equal, h, Result.andThen]
theorem eql29 (w : World) (x0 x1 x2 x3 x4 : Int) : (binOp .eql 29 (.agg #[.int .i64 x0, .int .i64 x1, .int .i64 x2, .int .i64 x3, .int .i64 x4]) (.agg #[.int .i64 x0, .int .i64 x1, .int .i64 x2, .int .i64 x3, .int .i64 x4])).run Try.prog w = .ok (.bool true) w := by
  have h := eqA29 9998 w x0 x0 x1 x1 x2 x2 x3 x3 x4 x4
  simp only [beq_self_eq_true, Bool.and_self] at h
  rw [show 9998 + 2 = Op.maxDepth from rfl] at h
  simp [binOp, Op.equal, h, Result.andThen]
/-- What a row that comes in is: raw spans; small tells, and then no sum overflows. -/
theorem incoming {W : World} {A : Option Addr} {l : List S38} (hc : Kd.C k38 W A l.length l) : ∃ (rs : List Sp) (K : Nat) (r : Bool), rs.length = l.length ∧ Kd.C kS W A rs.length rs ∧ (∀ (j : Nat) (s : Sp), rs[j]? = some s → ∃ x, l[j]? = some x ∧ Is W s x) ∧ cambiumlaw26_small.f K l = some r ∧ (r = true → rs.length ≤ 80 ∧ ∀ s ∈ rs, Sml s) := by
  obtain ⟨rs, hlen, hC, hI⟩ := raw_of hc
  have hrd : ∀ (j : Nat) (x : S38), l[j]? = some x → rd_T38 l j = x := by
    intro j x h
    show l.getD (j : Int).toNat _ = x
    rw [Int.toNat_natCast, List.getD_eq_getElem?_getD, h]
    rfl
  obtain ⟨K, r, h1, h2⟩ := small_tot l (fun i hi => by
    obtain ⟨s, hs⟩ : ∃ s, rs[i]? = some s := ⟨_, List.getElem?_eq_getElem (by omega)⟩
    obtain ⟨x, hx, hIs⟩ := hI i s hs
    rw [hrd i x hx]
    obtain ⟨A8, c8, A9, c9, A10, c10, _, _, g8, _, g9, _⟩ := k38_open hIs
    exact ⟨g8.2.1, g9.2.1⟩)
  refine ⟨rs, K, r, hlen, by rw [hlen]; exact hC, hI, h1, fun hr => ?_⟩
  obtain ⟨h3, h4⟩ := h2 hr
  refine ⟨by omega, fun s hs => ?_⟩
  obtain ⟨j, hj⟩ := List.mem_iff_getElem?.1 hs
  obtain ⟨x, hx, hIs⟩ := hI j s hj
  have hjl := (List.getElem?_eq_some_iff.1 hx).1
  have hb := h4 j hjl
  rw [hrd j x hx] at hb
  obtain ⟨_, _, _, _, _, e5, e6, _⟩ := hIs.fields
  obtain ⟨b1, b2, b3, b4⟩ := hb
  rw [e5] at b1 b2
  rw [e6] at b3 b4
  exact ⟨b2, b1, b4, b3⟩
end Go.Proofs.Ytoigebnhnkdbbaa.Tr
