/- How the struct types that come in read: out of the form's own reading the facts that the contracts ask. Written by rowx.py. -/
import Derived.Test.YtblacdnndchghaaOpen
import Derived.Test.YtblacdnndchghaaPAllx0
import Derived.KernelRfl
namespace Go.Proofs.Ytblacdnndchghaa.Open
open Go.RowKit Go.Proofs.Ytblacdnndchghaa.PAll Go.Proofs.YtblacdnndchghaaW.PrintWords Go.ChangeShapes Go.WideShapes
set_option linter.unusedVariables false
theorem reads_slice' {P : Program} {T : TypeId} {α : Type} {e : TypeId} {d : Kd α} {G : α → Prop} (hu : P.underlying T = some (.slice e)) (hr : Reads P e d G) (hs : P.cellsOf e = d.sz) {B : Nat} (hB : P.bytesOf e = B) :
    Reads P T (Kd.slice e d) (fun l => (∀ x ∈ l, G x) ∧ l.length * B ≤ 140737488351232) := by
  subst hB; exact reads_slice hu hr hs
def G31 (x : S31) : Prop := ((Lit.int .i64 x.f0).wf = true) ∧ ((Lit.int .i64 x.f1).wf = true) ∧ ((Lit.int .u8 x.f2).wf = true) ∧ ((∀ x_ ∈ x.f3, True) ∧ List.length x.f3 * 1 ≤ 140737488351232) ∧ ((Lit.int .i64 x.f4).wf = true)
theorem reads31 : Reads Try.prog 31 k31 G31 := by
  unfold k31
  exact reads_imp (reads_iso (fun x : S31 => (x.f0, x.f1, x.f2, x.f3, x.f4)) (fun (p : Int × Int × Int × List (Bool) × Int) => (⟨p.1, p.2.1, p.2.2.1, p.2.2.2.1, p.2.2.2.2⟩ : S31)) (fun _ => rfl) (reads_struct Try.underlying31 (by kernel_rfl) (fields_cons rfl (by kernel_rfl) (reads_int Try.underlying3) (fields_cons rfl (by kernel_rfl) (reads_int Try.underlying3) (fields_cons rfl (by kernel_rfl) (reads_int Try.underlying5) (fields_cons rfl (by kernel_rfl) (reads_slice' Try.underlying29 (reads_bool Try.underlying4) (by kernel_rfl) (B := 1) (by kernel_rfl)) (fields_one rfl (by kernel_rfl) (reads_int Try.underlying3)))))))) (fun a h => h)
end Go.Proofs.Ytblacdnndchghaa.Open
