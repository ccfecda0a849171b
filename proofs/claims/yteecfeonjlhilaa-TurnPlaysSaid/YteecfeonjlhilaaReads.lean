/- How the struct types that come in read: out of the form's own reading the facts that the contracts ask. Written by rowx.py. -/
import Derived.Test.YteecfeonjlhilaaOpen
import Derived.Test.YteecfeonjlhilaaPDox0
import Derived.KernelRfl
namespace Go.Proofs.Yteecfeonjlhilaa.Open
open Go.RowKit Go.Proofs.Yteecfeonjlhilaa.PDo Go.Proofs.YteecfeonjlhilaaW.PrintWords Go.ChangeShapes Go.WideShapes
set_option linter.unusedVariables false
theorem reads_slice' {P : Program} {T : TypeId} {α : Type} {e : TypeId} {d : Kd α} {G : α → Prop} (hu : P.underlying T = some (.slice e)) (hr : Reads P e d G) (hs : P.cellsOf e = d.sz) {B : Nat} (hB : P.bytesOf e = B) :
    Reads P T (Kd.slice e d) (fun l => (∀ x ∈ l, G x) ∧ l.length * B ≤ 140737488351232) := by
  subst hB; exact reads_slice hu hr hs
def G31 (x : S31) : Prop := (True) ∧ ((Lit.int .i64 x.f1).wf = true)
theorem reads31 : Reads Try.prog 31 k31 G31 := by
  unfold k31
  exact reads_imp (reads_iso (fun x : S31 => (x.f0, x.f1)) (fun (p : Bool × Int) => (⟨p.1, p.2⟩ : S31)) (fun _ => rfl) (reads_struct Try.underlying31 (by kernel_rfl) (fields_cons rfl (by kernel_rfl) (reads_bool Try.underlying4) (fields_one rfl (by kernel_rfl) (reads_int Try.underlying3))))) (fun a h => h)
end Go.Proofs.Yteecfeonjlhilaa.Open
