/- How the struct types that come in read: out of the form's own reading the facts that the contracts ask. Written by rowx.py. -/
import Derived.Test.YtenmjbcedadcbaaOpen
import Derived.Test.YtenmjbcedadcbaaPAllx0
import Derived.KernelRfl
namespace Go.Proofs.Ytenmjbcedadcbaa.Open
open Go.RowKit Go.Proofs.Ytenmjbcedadcbaa.PAll Go.Proofs.YtenmjbcedadcbaaW.PrintWords Go.ChangeShapes Go.WideShapes
set_option linter.unusedVariables false
theorem reads_slice' {P : Program} {T : TypeId} {α : Type} {e : TypeId} {d : Kd α} {G : α → Prop} (hu : P.underlying T = some (.slice e)) (hr : Reads P e d G) (hs : P.cellsOf e = d.sz) {B : Nat} (hB : P.bytesOf e = B) :
    Reads P T (Kd.slice e d) (fun l => (∀ x ∈ l, G x) ∧ l.length * B ≤ 140737488351232) := by
  subst hB; exact reads_slice hu hr hs
def G49 (x : S49) : Prop := ((Lit.int .i64 x.f0).wf = true) ∧ (ByteArray.size x.f1 ≤ 140737488351232) ∧ ((Lit.int .i64 x.f2).wf = true) ∧ (True)
theorem reads49 : Reads Try.prog 49 k49 G49 := by
  unfold k49
  exact reads_imp (reads_iso (fun x : S49 => (x.f0, x.f1, x.f2, x.f3)) (fun (p : Int × ByteArray × Int × Bool) => (⟨p.1, p.2.1, p.2.2.1, p.2.2.2⟩ : S49)) (fun _ => rfl) (reads_struct Try.underlying49 (by kernel_rfl) (fields_cons rfl (by kernel_rfl) (reads_int Try.underlying3) (fields_cons rfl (by kernel_rfl) (reads_string Try.underlying9) (fields_cons rfl (by kernel_rfl) (reads_int Try.underlying2) (fields_one rfl (by kernel_rfl) (reads_bool Try.underlying4))))))) (fun a h => h)
def G51 (x : S51) : Prop := (ByteArray.size x.f0 ≤ 140737488351232) ∧ (G49 x.f1)
theorem reads51 : Reads Try.prog 51 k51 G51 := by
  unfold k51
  exact reads_imp (reads_iso (fun x : S51 => (x.f0, x.f1)) (fun (p : ByteArray × S49) => (⟨p.1, p.2⟩ : S51)) (fun _ => rfl) (reads_struct Try.underlying51 (by kernel_rfl) (fields_cons rfl (by kernel_rfl) (reads_string Try.underlying9) (fields_one rfl (by kernel_rfl) reads49)))) (fun a h => h)
def G53 (x : S53) : Prop := ((Lit.int .i64 x.f0).wf = true) ∧ (ByteArray.size x.f1 ≤ 140737488351232)
theorem reads53 : Reads Try.prog 53 k53 G53 := by
  unfold k53
  exact reads_imp (reads_iso (fun x : S53 => (x.f0, x.f1)) (fun (p : Int × ByteArray) => (⟨p.1, p.2⟩ : S53)) (fun _ => rfl) (reads_struct Try.underlying53 (by kernel_rfl) (fields_cons rfl (by kernel_rfl) (reads_int Try.underlying2) (fields_one rfl (by kernel_rfl) (reads_string Try.underlying9))))) (fun a h => h)
def G58 (x : S58) : Prop := ((Lit.int .u64 x.f0).wf = true) ∧ ((Lit.int .u64 x.f1).wf = true)
theorem reads58 : Reads Try.prog 58 k58 G58 := by
  unfold k58
  exact reads_imp (reads_iso (fun x : S58 => (x.f0, x.f1)) (fun (p : Int × Int) => (⟨p.1, p.2⟩ : S58)) (fun _ => rfl) (reads_struct Try.underlying58 (by kernel_rfl) (fields_cons rfl (by kernel_rfl) (reads_int Try.underlying24) (fields_one rfl (by kernel_rfl) (reads_int Try.underlying24))))) (fun a h => h)
def G34 (x : S34) : Prop := ((Lit.int .u64 x.f0).wf = true) ∧ ((Lit.int .u64 x.f1).wf = true) ∧ ((Lit.int .u64 x.f2).wf = true) ∧ (ByteArray.size x.f3 ≤ 140737488351232) ∧ (ByteArray.size x.f4 ≤ 140737488351232) ∧ ((Lit.int .i64 x.f5).wf = true) ∧ ((Lit.int .i64 x.f6).wf = true) ∧ ((Lit.int .i64 x.f7).wf = true) ∧ ((∀ x_ ∈ x.f8, G51 x_) ∧ List.length x.f8 * 56 ≤ 140737488351232) ∧ ((∀ x_ ∈ x.f9, G53 x_) ∧ List.length x.f9 * 24 ≤ 140737488351232) ∧ ((∀ x_ ∈ x.f10, G58 x_) ∧ List.length x.f10 * 16 ≤ 140737488351232)
theorem reads34 : Reads Try.prog 34 k34 G34 := by
  unfold k34
  exact reads_imp (reads_iso (fun x : S34 => (x.f0, x.f1, x.f2, x.f3, x.f4, x.f5, x.f6, x.f7, x.f8, x.f9, x.f10)) (fun (p : Int × Int × Int × ByteArray × ByteArray × Int × Int × Int × List (S51) × List (S53) × List (S58)) => (⟨p.1, p.2.1, p.2.2.1, p.2.2.2.1, p.2.2.2.2.1, p.2.2.2.2.2.1, p.2.2.2.2.2.2.1, p.2.2.2.2.2.2.2.1, p.2.2.2.2.2.2.2.2.1, p.2.2.2.2.2.2.2.2.2.1, p.2.2.2.2.2.2.2.2.2.2⟩ : S34)) (fun _ => rfl) (reads_struct Try.underlying34 (by kernel_rfl) (fields_cons rfl (by kernel_rfl) (reads_int Try.underlying24) (fields_cons rfl (by kernel_rfl) (reads_int Try.underlying24) (fields_cons rfl (by kernel_rfl) (reads_int Try.underlying24) (fields_cons rfl (by kernel_rfl) (reads_string Try.underlying9) (fields_cons rfl (by kernel_rfl) (reads_string Try.underlying9) (fields_cons rfl (by kernel_rfl) (reads_int Try.underlying2) (fields_cons rfl (by kernel_rfl) (reads_int Try.underlying2) (fields_cons rfl (by kernel_rfl) (reads_int Try.underlying3) (fields_cons rfl (by kernel_rfl) (reads_slice' Try.underlying30 reads51 (by kernel_rfl) (B := 56) (by kernel_rfl)) (fields_cons rfl (by kernel_rfl) (reads_slice' Try.underlying31 reads53 (by kernel_rfl) (B := 24) (by kernel_rfl)) (fields_one rfl (by kernel_rfl) (reads_slice' Try.underlying32 reads58 (by kernel_rfl) (B := 16) (by kernel_rfl))))))))))))))) (fun a h => h)
end Go.Proofs.Ytenmjbcedadcbaa.Open
