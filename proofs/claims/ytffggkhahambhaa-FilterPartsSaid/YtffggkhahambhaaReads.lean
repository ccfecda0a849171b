/- How the struct types that come in read: out of the form's own reading the facts that the contracts ask. Written by rowx.py. -/
import Derived.Test.YtffggkhahambhaaConv
import Derived.Test.YtffggkhahambhaaPAllx0
import Derived.KernelRfl
namespace Go.Proofs.Ytffggkhahambhaa.Open
open Go.RowKit Go.Proofs.Ytffggkhahambhaa.PAll Go.Proofs.YtffggkhahambhaaW.PrintWords Go.ChangeShapes Go.WideShapes
set_option linter.unusedVariables false
theorem reads_slice' {P : Program} {T : TypeId} {α : Type} {e : TypeId} {d : Kd α} {G : α → Prop} (hu : P.underlying T = some (.slice e)) (hr : Reads P e d G) (hs : P.cellsOf e = d.sz) {B : Nat} (hB : P.bytesOf e = B) :
    Reads P T (Kd.slice e d) (fun l => (∀ x ∈ l, G x) ∧ l.length * B ≤ 140737488351232) := by
  subst hB; exact reads_slice hu hr hs
def G39 (x : S39) : Prop := ((Lit.int .i64 x.f0).wf = true) ∧ (ByteArray.size x.f1 ≤ 140737488351232) ∧ ((Lit.int .i64 x.f2).wf = true) ∧ (True)
theorem reads39 : Reads Try.prog 39 k39 G39 := by
  unfold k39
  exact reads_imp (reads_iso (fun x : S39 => (x.f0, x.f1, x.f2, x.f3)) (fun (p : Int × ByteArray × Int × Bool) => (⟨p.1, p.2.1, p.2.2.1, p.2.2.2⟩ : S39)) (fun _ => rfl) (reads_struct Try.underlying39 (by kernel_rfl) (fields_cons rfl (by kernel_rfl) (reads_int Try.underlying3) (fields_cons rfl (by kernel_rfl) (reads_string Try.underlying9) (fields_cons rfl (by kernel_rfl) (reads_int Try.underlying2) (fields_one rfl (by kernel_rfl) (reads_bool Try.underlying4))))))) (fun a h => h)
def G41 (x : S41) : Prop := (ByteArray.size x.f0 ≤ 140737488351232) ∧ ((Lit.int .i64 x.f1).wf = true) ∧ (G39 x.f2)
theorem reads41 : Reads Try.prog 41 k41 G41 := by
  unfold k41
  exact reads_imp (reads_iso (fun x : S41 => (x.f0, x.f1, x.f2)) (fun (p : ByteArray × Int × S39) => (⟨p.1, p.2.1, p.2.2⟩ : S41)) (fun _ => rfl) (reads_struct Try.underlying41 (by kernel_rfl) (fields_cons rfl (by kernel_rfl) (reads_string Try.underlying9) (fields_cons rfl (by kernel_rfl) (reads_int Try.underlying3) (fields_one rfl (by kernel_rfl) reads39))))) (fun a h => h)
def G24 (x : S24) : Prop := ((∀ x_ ∈ x.f0, G41 x_) ∧ List.length x.f0 * 64 ≤ 140737488351232) ∧ ((Lit.int .i64 x.f1).wf = true)
theorem reads24 : Reads Try.prog 24 k24 G24 := by
  unfold k24
  exact reads_imp (reads_iso (fun x : S24 => (x.f0, x.f1)) (fun (p : List (S41) × Int) => (⟨p.1, p.2⟩ : S24)) (fun _ => rfl) (reads_struct Try.underlying24 (by kernel_rfl) (fields_cons rfl (by kernel_rfl) (reads_slice' Try.underlying22 reads41 (by kernel_rfl) (B := 64) (by kernel_rfl)) (fields_one rfl (by kernel_rfl) (reads_int Try.underlying3))))) (fun a h => h)
def G45 (x : S45) : Prop := (ByteArray.size x.f0 ≤ 140737488351232) ∧ (G39 x.f1)
theorem reads45 : Reads Try.prog 45 k45 G45 := by
  unfold k45
  exact reads_imp (reads_iso (fun x : S45 => (x.f0, x.f1)) (fun (p : ByteArray × S39) => (⟨p.1, p.2⟩ : S45)) (fun _ => rfl) (reads_struct Try.underlying45 (by kernel_rfl) (fields_cons rfl (by kernel_rfl) (reads_string Try.underlying9) (fields_one rfl (by kernel_rfl) reads39)))) (fun a h => h)
def G77 (x : S77) : Prop := ((Lit.int .i64 x.f0).wf = true) ∧ (ByteArray.size x.f1 ≤ 140737488351232)
theorem reads77 : Reads Try.prog 77 k77 G77 := by
  unfold k77
  exact reads_imp (reads_iso (fun x : S77 => (x.f0, x.f1)) (fun (p : Int × ByteArray) => (⟨p.1, p.2⟩ : S77)) (fun _ => rfl) (reads_struct Try.underlying77 (by kernel_rfl) (fields_cons rfl (by kernel_rfl) (reads_int Try.underlying2) (fields_one rfl (by kernel_rfl) (reads_string Try.underlying9))))) (fun a h => h)
def G80 (x : S80) : Prop := ((Lit.int .u64 x.f0).wf = true) ∧ ((Lit.int .u64 x.f1).wf = true)
theorem reads80 : Reads Try.prog 80 k80 G80 := by
  unfold k80
  exact reads_imp (reads_iso (fun x : S80 => (x.f0, x.f1)) (fun (p : Int × Int) => (⟨p.1, p.2⟩ : S80)) (fun _ => rfl) (reads_struct Try.underlying80 (by kernel_rfl) (fields_cons rfl (by kernel_rfl) (reads_int Try.underlying29) (fields_one rfl (by kernel_rfl) (reads_int Try.underlying29))))) (fun a h => h)
def G34 (x : S34) : Prop := ((Lit.int .u64 x.f0).wf = true) ∧ ((Lit.int .u64 x.f1).wf = true) ∧ ((Lit.int .u64 x.f2).wf = true) ∧ (ByteArray.size x.f3 ≤ 140737488351232) ∧ (ByteArray.size x.f4 ≤ 140737488351232) ∧ ((Lit.int .i64 x.f5).wf = true) ∧ ((Lit.int .i64 x.f6).wf = true) ∧ ((Lit.int .i64 x.f7).wf = true) ∧ ((∀ x_ ∈ x.f8, G45 x_) ∧ List.length x.f8 * 56 ≤ 140737488351232) ∧ ((∀ x_ ∈ x.f9, G77 x_) ∧ List.length x.f9 * 24 ≤ 140737488351232) ∧ ((∀ x_ ∈ x.f10, G80 x_) ∧ List.length x.f10 * 16 ≤ 140737488351232)
theorem reads34 : Reads Try.prog 34 k34 G34 := by
  unfold k34
  exact reads_imp (reads_iso (fun x : S34 => (x.f0, x.f1, x.f2, x.f3, x.f4, x.f5, x.f6, x.f7, x.f8, x.f9, x.f10)) (fun (p : Int × Int × Int × ByteArray × ByteArray × Int × Int × Int × List (S45) × List (S77) × List (S80)) => (⟨p.1, p.2.1, p.2.2.1, p.2.2.2.1, p.2.2.2.2.1, p.2.2.2.2.2.1, p.2.2.2.2.2.2.1, p.2.2.2.2.2.2.2.1, p.2.2.2.2.2.2.2.2.1, p.2.2.2.2.2.2.2.2.2.1, p.2.2.2.2.2.2.2.2.2.2⟩ : S34)) (fun _ => rfl) (reads_struct Try.underlying34 (by kernel_rfl) (fields_cons rfl (by kernel_rfl) (reads_int Try.underlying29) (fields_cons rfl (by kernel_rfl) (reads_int Try.underlying29) (fields_cons rfl (by kernel_rfl) (reads_int Try.underlying29) (fields_cons rfl (by kernel_rfl) (reads_string Try.underlying9) (fields_cons rfl (by kernel_rfl) (reads_string Try.underlying9) (fields_cons rfl (by kernel_rfl) (reads_int Try.underlying2) (fields_cons rfl (by kernel_rfl) (reads_int Try.underlying2) (fields_cons rfl (by kernel_rfl) (reads_int Try.underlying3) (fields_cons rfl (by kernel_rfl) (reads_slice' Try.underlying30 reads45 (by kernel_rfl) (B := 56) (by kernel_rfl)) (fields_cons rfl (by kernel_rfl) (reads_slice' Try.underlying31 reads77 (by kernel_rfl) (B := 24) (by kernel_rfl)) (fields_one rfl (by kernel_rfl) (reads_slice' Try.underlying32 reads80 (by kernel_rfl) (B := 16) (by kernel_rfl))))))))))))))) (fun a h => h)
end Go.Proofs.Ytffggkhahambhaa.Open
