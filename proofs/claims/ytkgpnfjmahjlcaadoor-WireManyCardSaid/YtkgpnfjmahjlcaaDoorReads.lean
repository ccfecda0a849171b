/- How the struct types that come in read: out of the form's own reading the facts that the contracts ask. Written by rowx.py. -/
import Derived.Test.YtkgpnfjmahjlcaaDoorWiCut
import Derived.Test.YtkgpnfjmahjlcaaDoorPAllx0
import Derived.KernelRfl
namespace Go.Proofs.YtkgpnfjmahjlcaaDoor.Open
open Go.RowKit Go.Proofs.YtkgpnfjmahjlcaaDoor.PAll Go.Proofs.YtkgpnfjmahjlcaaDoorW.PrintWords Go.ChangeShapes Go.WideShapes
set_option linter.unusedVariables false
theorem reads_slice' {P : Program} {T : TypeId} {α : Type} {e : TypeId} {d : Kd α} {G : α → Prop} (hu : P.underlying T = some (.slice e)) (hr : Reads P e d G) (hs : P.cellsOf e = d.sz) {B : Nat} (hB : P.bytesOf e = B) :
    Reads P T (Kd.slice e d) (fun l => (∀ x ∈ l, G x) ∧ l.length * B ≤ 140737488351232) := by
  subst hB; exact reads_slice hu hr hs
def G51 (x : S51) : Prop := ((Lit.int .i64 x.f0).wf = true) ∧ (ByteArray.size x.f1 ≤ 140737488351232) ∧ ((Lit.int .i64 x.f2).wf = true) ∧ (True)
theorem reads51 : Reads Tryd.prog 51 k51 G51 := by
  unfold k51
  exact reads_imp (reads_iso (fun x : S51 => (x.f0, x.f1, x.f2, x.f3)) (fun (p : Int × ByteArray × Int × Bool) => (⟨p.1, p.2.1, p.2.2.1, p.2.2.2⟩ : S51)) (fun _ => rfl) (reads_struct Tryd.underlying51 (by kernel_rfl) (fields_cons rfl (by kernel_rfl) (reads_int Tryd.underlying3) (fields_cons rfl (by kernel_rfl) (reads_string Tryd.underlying9) (fields_cons rfl (by kernel_rfl) (reads_int Tryd.underlying2) (fields_one rfl (by kernel_rfl) (reads_bool Tryd.underlying4))))))) (fun a h => h)
def G53 (x : S53) : Prop := (ByteArray.size x.f0 ≤ 140737488351232) ∧ (G51 x.f1)
theorem reads53 : Reads Tryd.prog 53 k53 G53 := by
  unfold k53
  exact reads_imp (reads_iso (fun x : S53 => (x.f0, x.f1)) (fun (p : ByteArray × S51) => (⟨p.1, p.2⟩ : S53)) (fun _ => rfl) (reads_struct Tryd.underlying53 (by kernel_rfl) (fields_cons rfl (by kernel_rfl) (reads_string Tryd.underlying9) (fields_one rfl (by kernel_rfl) reads51)))) (fun a h => h)
def G55 (x : S55) : Prop := ((Lit.int .i64 x.f0).wf = true) ∧ (ByteArray.size x.f1 ≤ 140737488351232)
theorem reads55 : Reads Tryd.prog 55 k55 G55 := by
  unfold k55
  exact reads_imp (reads_iso (fun x : S55 => (x.f0, x.f1)) (fun (p : Int × ByteArray) => (⟨p.1, p.2⟩ : S55)) (fun _ => rfl) (reads_struct Tryd.underlying55 (by kernel_rfl) (fields_cons rfl (by kernel_rfl) (reads_int Tryd.underlying2) (fields_one rfl (by kernel_rfl) (reads_string Tryd.underlying9))))) (fun a h => h)
def G68 (x : S68) : Prop := ((Lit.int .u64 x.f0).wf = true) ∧ ((Lit.int .u64 x.f1).wf = true)
theorem reads68 : Reads Tryd.prog 68 k68 G68 := by
  unfold k68
  exact reads_imp (reads_iso (fun x : S68 => (x.f0, x.f1)) (fun (p : Int × Int) => (⟨p.1, p.2⟩ : S68)) (fun _ => rfl) (reads_struct Tryd.underlying68 (by kernel_rfl) (fields_cons rfl (by kernel_rfl) (reads_int Tryd.underlying22) (fields_one rfl (by kernel_rfl) (reads_int Tryd.underlying22))))) (fun a h => h)
def G27 (x : S27) : Prop := ((Lit.int .u64 x.f0).wf = true) ∧ ((Lit.int .u64 x.f1).wf = true) ∧ ((Lit.int .u64 x.f2).wf = true) ∧ (ByteArray.size x.f3 ≤ 140737488351232) ∧ (ByteArray.size x.f4 ≤ 140737488351232) ∧ ((Lit.int .i64 x.f5).wf = true) ∧ ((Lit.int .i64 x.f6).wf = true) ∧ ((Lit.int .i64 x.f7).wf = true) ∧ ((∀ x_ ∈ x.f8, G53 x_) ∧ List.length x.f8 * 56 ≤ 140737488351232) ∧ ((∀ x_ ∈ x.f9, G55 x_) ∧ List.length x.f9 * 24 ≤ 140737488351232) ∧ ((∀ x_ ∈ x.f10, G68 x_) ∧ List.length x.f10 * 16 ≤ 140737488351232)
theorem reads27 : Reads Tryd.prog 27 k27 G27 := by
  unfold k27
  exact reads_imp (reads_iso (fun x : S27 => (x.f0, x.f1, x.f2, x.f3, x.f4, x.f5, x.f6, x.f7, x.f8, x.f9, x.f10)) (fun (p : Int × Int × Int × ByteArray × ByteArray × Int × Int × Int × List (S53) × List (S55) × List (S68)) => (⟨p.1, p.2.1, p.2.2.1, p.2.2.2.1, p.2.2.2.2.1, p.2.2.2.2.2.1, p.2.2.2.2.2.2.1, p.2.2.2.2.2.2.2.1, p.2.2.2.2.2.2.2.2.1, p.2.2.2.2.2.2.2.2.2.1, p.2.2.2.2.2.2.2.2.2.2⟩ : S27)) (fun _ => rfl) (reads_struct Tryd.underlying27 (by kernel_rfl) (fields_cons rfl (by kernel_rfl) (reads_int Tryd.underlying22) (fields_cons rfl (by kernel_rfl) (reads_int Tryd.underlying22) (fields_cons rfl (by kernel_rfl) (reads_int Tryd.underlying22) (fields_cons rfl (by kernel_rfl) (reads_string Tryd.underlying9) (fields_cons rfl (by kernel_rfl) (reads_string Tryd.underlying9) (fields_cons rfl (by kernel_rfl) (reads_int Tryd.underlying2) (fields_cons rfl (by kernel_rfl) (reads_int Tryd.underlying2) (fields_cons rfl (by kernel_rfl) (reads_int Tryd.underlying3) (fields_cons rfl (by kernel_rfl) (reads_slice' Tryd.underlying23 reads53 (by kernel_rfl) (B := 56) (by kernel_rfl)) (fields_cons rfl (by kernel_rfl) (reads_slice' Tryd.underlying24 reads55 (by kernel_rfl) (B := 24) (by kernel_rfl)) (fields_one rfl (by kernel_rfl) (reads_slice' Tryd.underlying25 reads68 (by kernel_rfl) (B := 16) (by kernel_rfl))))))))))))))) (fun a h => h)
end Go.Proofs.YtkgpnfjmahjlcaaDoor.Open
