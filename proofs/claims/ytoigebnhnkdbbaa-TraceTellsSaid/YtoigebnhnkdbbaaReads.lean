/- How the struct types that come in read: out of the form's own reading the facts that the contracts ask. Written by rowx.py. -/
import Derived.Test.YtoigebnhnkdbbaaOpen
import Derived.Test.YtoigebnhnkdbbaaPAllx0
import Derived.KernelRfl
namespace Go.Proofs.Ytoigebnhnkdbbaa.Open
open Go.RowKit Go.Proofs.Ytoigebnhnkdbbaa.PAll Go.Proofs.YtoigebnhnkdbbaaW.PrintWords Go.ChangeShapes Go.WideShapes
set_option linter.unusedVariables false
theorem reads_slice' {P : Program} {T : TypeId} {α : Type} {e : TypeId} {d : Kd α} {G : α → Prop} (hu : P.underlying T = some (.slice e)) (hr : Reads P e d G) (hs : P.cellsOf e = d.sz) {B : Nat} (hB : P.bytesOf e = B) :
    Reads P T (Kd.slice e d) (fun l => (∀ x ∈ l, G x) ∧ l.length * B ≤ 140737488351232) := by
  subst hB; exact reads_slice hu hr hs
def G62 (x : S62) : Prop := ((Lit.int .i64 x.f0).wf = true) ∧ (ByteArray.size x.f1 ≤ 140737488351232) ∧ ((Lit.int .i64 x.f2).wf = true) ∧ (True)
theorem reads62 : Reads Try.prog 62 k62 G62 := by
  unfold k62
  exact reads_imp (reads_iso (fun x : S62 => (x.f0, x.f1, x.f2, x.f3)) (fun (p : Int × ByteArray × Int × Bool) => (⟨p.1, p.2.1, p.2.2.1, p.2.2.2⟩ : S62)) (fun _ => rfl) (reads_struct Try.underlying62 (by kernel_rfl) (fields_cons rfl (by kernel_rfl) (reads_int Try.underlying3) (fields_cons rfl (by kernel_rfl) (reads_string Try.underlying9) (fields_cons rfl (by kernel_rfl) (reads_int Try.underlying2) (fields_one rfl (by kernel_rfl) (reads_bool Try.underlying4))))))) (fun a h => h)
def G64 (x : S64) : Prop := (ByteArray.size x.f0 ≤ 140737488351232) ∧ (G62 x.f1)
theorem reads64 : Reads Try.prog 64 k64 G64 := by
  unfold k64
  exact reads_imp (reads_iso (fun x : S64 => (x.f0, x.f1)) (fun (p : ByteArray × S62) => (⟨p.1, p.2⟩ : S64)) (fun _ => rfl) (reads_struct Try.underlying64 (by kernel_rfl) (fields_cons rfl (by kernel_rfl) (reads_string Try.underlying9) (fields_one rfl (by kernel_rfl) reads62)))) (fun a h => h)
def G66 (x : S66) : Prop := ((Lit.int .i64 x.f0).wf = true) ∧ (ByteArray.size x.f1 ≤ 140737488351232)
theorem reads66 : Reads Try.prog 66 k66 G66 := by
  unfold k66
  exact reads_imp (reads_iso (fun x : S66 => (x.f0, x.f1)) (fun (p : Int × ByteArray) => (⟨p.1, p.2⟩ : S66)) (fun _ => rfl) (reads_struct Try.underlying66 (by kernel_rfl) (fields_cons rfl (by kernel_rfl) (reads_int Try.underlying2) (fields_one rfl (by kernel_rfl) (reads_string Try.underlying9))))) (fun a h => h)
def G68 (x : S68) : Prop := ((Lit.int .u64 x.f0).wf = true) ∧ ((Lit.int .u64 x.f1).wf = true)
theorem reads68 : Reads Try.prog 68 k68 G68 := by
  unfold k68
  exact reads_imp (reads_iso (fun x : S68 => (x.f0, x.f1)) (fun (p : Int × Int) => (⟨p.1, p.2⟩ : S68)) (fun _ => rfl) (reads_struct Try.underlying68 (by kernel_rfl) (fields_cons rfl (by kernel_rfl) (reads_int Try.underlying33) (fields_one rfl (by kernel_rfl) (reads_int Try.underlying33))))) (fun a h => h)
def G38 (x : S38) : Prop := ((Lit.int .u64 x.f0).wf = true) ∧ ((Lit.int .u64 x.f1).wf = true) ∧ ((Lit.int .u64 x.f2).wf = true) ∧ (ByteArray.size x.f3 ≤ 140737488351232) ∧ (ByteArray.size x.f4 ≤ 140737488351232) ∧ ((Lit.int .i64 x.f5).wf = true) ∧ ((Lit.int .i64 x.f6).wf = true) ∧ ((Lit.int .i64 x.f7).wf = true) ∧ ((∀ x_ ∈ x.f8, G64 x_) ∧ List.length x.f8 * 56 ≤ 140737488351232) ∧ ((∀ x_ ∈ x.f9, G66 x_) ∧ List.length x.f9 * 24 ≤ 140737488351232) ∧ ((∀ x_ ∈ x.f10, G68 x_) ∧ List.length x.f10 * 16 ≤ 140737488351232)
theorem reads38 : Reads Try.prog 38 k38 G38 := by
  unfold k38
  exact reads_imp (reads_iso (fun x : S38 => (x.f0, x.f1, x.f2, x.f3, x.f4, x.f5, x.f6, x.f7, x.f8, x.f9, x.f10)) (fun (p : Int × Int × Int × ByteArray × ByteArray × Int × Int × Int × List (S64) × List (S66) × List (S68)) => (⟨p.1, p.2.1, p.2.2.1, p.2.2.2.1, p.2.2.2.2.1, p.2.2.2.2.2.1, p.2.2.2.2.2.2.1, p.2.2.2.2.2.2.2.1, p.2.2.2.2.2.2.2.2.1, p.2.2.2.2.2.2.2.2.2.1, p.2.2.2.2.2.2.2.2.2.2⟩ : S38)) (fun _ => rfl) (reads_struct Try.underlying38 (by kernel_rfl) (fields_cons rfl (by kernel_rfl) (reads_int Try.underlying33) (fields_cons rfl (by kernel_rfl) (reads_int Try.underlying33) (fields_cons rfl (by kernel_rfl) (reads_int Try.underlying33) (fields_cons rfl (by kernel_rfl) (reads_string Try.underlying9) (fields_cons rfl (by kernel_rfl) (reads_string Try.underlying9) (fields_cons rfl (by kernel_rfl) (reads_int Try.underlying2) (fields_cons rfl (by kernel_rfl) (reads_int Try.underlying2) (fields_cons rfl (by kernel_rfl) (reads_int Try.underlying3) (fields_cons rfl (by kernel_rfl) (reads_slice' Try.underlying34 reads64 (by kernel_rfl) (B := 56) (by kernel_rfl)) (fields_cons rfl (by kernel_rfl) (reads_slice' Try.underlying35 reads66 (by kernel_rfl) (B := 24) (by kernel_rfl)) (fields_one rfl (by kernel_rfl) (reads_slice' Try.underlying36 reads68 (by kernel_rfl) (B := 16) (by kernel_rfl))))))))))))))) (fun a h => h)
end Go.Proofs.Ytoigebnhnkdbbaa.Open
