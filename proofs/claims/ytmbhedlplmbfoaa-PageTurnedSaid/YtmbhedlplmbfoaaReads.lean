/- How the struct types that come in read: out of the form's own reading the facts that the contracts ask. Written by rowx.py. -/
import Derived.Test.YtmbhedlplmbfoaaOpen
import Derived.Test.YtmbhedlplmbfoaaPAllx0
import Derived.Test.YtmbhedlplmbfoaaKinds04
import Derived.KernelRfl
namespace Go.Proofs.Ytmbhedlplmbfoaa.Open
open Go.RowKit Go.Proofs.Ytmbhedlplmbfoaa.PAll Go.Proofs.YtmbhedlplmbfoaaW.PrintWords Go.ChangeShapes Go.WideShapes
set_option linter.unusedVariables false
theorem reads_slice' {P : Program} {T : TypeId} {α : Type} {e : TypeId} {d : Kd α} {G : α → Prop} (hu : P.underlying T = some (.slice e)) (hr : Reads P e d G) (hs : P.cellsOf e = d.sz) {B : Nat} (hB : P.bytesOf e = B) :
    Reads P T (Kd.slice e d) (fun l => (∀ x ∈ l, G x) ∧ l.length * B ≤ 140737488351232) := by
  subst hB; exact reads_slice hu hr hs
def G26 (x : S26) : Prop := ((Lit.int .u16 x.f0).wf = true) ∧ (List.length x.f1 = 4 ∧ ∀ x_ ∈ x.f1, (Lit.int .u8 x_).wf = true)
theorem reads26 : Reads Try.prog 26 k26 G26 := by
  unfold k26
  exact reads_imp (reads_iso (fun x : S26 => (x.f0, x.f1)) (fun (p : Int × List Int) => (⟨p.1, p.2⟩ : S26)) (fun _ => rfl) (reads_struct Try.underlying26 (by kernel_rfl) (fields_cons rfl (by kernel_rfl) (reads_int Try.underlying22) (fields_one rfl (by kernel_rfl) (reads_ints Try.underlying24 Try.underlying5 (by kernel_rfl) (by kernel_rfl)))))) (fun a h => h)
end Go.Proofs.Ytmbhedlplmbfoaa.Open
