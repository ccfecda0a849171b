/- How the struct types that come in read: out of the form's own reading the facts that the contracts ask. Written by rowx.py. -/
import Derived.Test.YtkeepnmlphbffaaDoorOpen
import Derived.Test.YtkeepnmlphbffaaDoorPSpx0
import Derived.Test.YtkeepnmlphbffaaDoorKindsS
import Derived.KernelRfl
namespace Go.Proofs.YtkeepnmlphbffaaDoor.Open
open Go.RowKit Go.Proofs.YtkeepnmlphbffaaDoor.PSp Go.Proofs.YtkeepnmlphbffaaDoorW.PrintWords Go.ChangeShapes Go.WideShapes
set_option linter.unusedVariables false
theorem reads_slice' {P : Program} {T : TypeId} {α : Type} {e : TypeId} {d : Kd α} {G : α → Prop} (hu : P.underlying T = some (.slice e)) (hr : Reads P e d G) (hs : P.cellsOf e = d.sz) {B : Nat} (hB : P.bytesOf e = B) :
    Reads P T (Kd.slice e d) (fun l => (∀ x ∈ l, G x) ∧ l.length * B ≤ 140737488351232) := by
  subst hB; exact reads_slice hu hr hs
def G23 (x : S23) : Prop := ((Lit.int .i64 x.f0).wf = true) ∧ (ByteArray.size x.f1 ≤ 140737488351232) ∧ ((Lit.int .i64 x.f2).wf = true) ∧ (True)
theorem reads23 : Reads Tryd.prog 23 k23 G23 := by
  unfold k23
  exact reads_imp (reads_iso (fun x : S23 => (x.f0, x.f1, x.f2, x.f3)) (fun (p : Int × ByteArray × Int × Bool) => (⟨p.1, p.2.1, p.2.2.1, p.2.2.2⟩ : S23)) (fun _ => rfl) (reads_struct Tryd.underlying23 (by kernel_rfl) (fields_cons rfl (by kernel_rfl) (reads_int Tryd.underlying3) (fields_cons rfl (by kernel_rfl) (reads_string Tryd.underlying9) (fields_cons rfl (by kernel_rfl) (reads_int Tryd.underlying2) (fields_one rfl (by kernel_rfl) (reads_bool Tryd.underlying4))))))) (fun a h => h)
def G43 (x : S43) : Prop := (ByteArray.size x.f0 ≤ 140737488351232) ∧ (G23 x.f1)
theorem reads43 : Reads Tryd.prog 43 k43 G43 := by
  unfold k43
  exact reads_imp (reads_iso (fun x : S43 => (x.f0, x.f1)) (fun (p : ByteArray × S23) => (⟨p.1, p.2⟩ : S43)) (fun _ => rfl) (reads_struct Tryd.underlying43 (by kernel_rfl) (fields_cons rfl (by kernel_rfl) (reads_string Tryd.underlying9) (fields_one rfl (by kernel_rfl) reads23)))) (fun a h => h)
def G59 (x : S59) : Prop := ((Lit.int .i64 x.f0).wf = true) ∧ (ByteArray.size x.f1 ≤ 140737488351232)
theorem reads59 : Reads Tryd.prog 59 k59 G59 := by
  unfold k59
  exact reads_imp (reads_iso (fun x : S59 => (x.f0, x.f1)) (fun (p : Int × ByteArray) => (⟨p.1, p.2⟩ : S59)) (fun _ => rfl) (reads_struct Tryd.underlying59 (by kernel_rfl) (fields_cons rfl (by kernel_rfl) (reads_int Tryd.underlying2) (fields_one rfl (by kernel_rfl) (reads_string Tryd.underlying9))))) (fun a h => h)
def G62 (x : S62) : Prop := ((Lit.int .u64 x.f0).wf = true) ∧ ((Lit.int .u64 x.f1).wf = true)
theorem reads62 : Reads Tryd.prog 62 k62 G62 := by
  unfold k62
  exact reads_imp (reads_iso (fun x : S62 => (x.f0, x.f1)) (fun (p : Int × Int) => (⟨p.1, p.2⟩ : S62)) (fun _ => rfl) (reads_struct Tryd.underlying62 (by kernel_rfl) (fields_cons rfl (by kernel_rfl) (reads_int Tryd.underlying31) (fields_one rfl (by kernel_rfl) (reads_int Tryd.underlying31))))) (fun a h => h)
def G36 (x : S36) : Prop := ((Lit.int .u64 x.f0).wf = true) ∧ ((Lit.int .u64 x.f1).wf = true) ∧ ((Lit.int .u64 x.f2).wf = true) ∧ (ByteArray.size x.f3 ≤ 140737488351232) ∧ (ByteArray.size x.f4 ≤ 140737488351232) ∧ ((Lit.int .i64 x.f5).wf = true) ∧ ((Lit.int .i64 x.f6).wf = true) ∧ ((Lit.int .i64 x.f7).wf = true) ∧ ((∀ x_ ∈ x.f8, G43 x_) ∧ List.length x.f8 * 56 ≤ 140737488351232) ∧ ((∀ x_ ∈ x.f9, G59 x_) ∧ List.length x.f9 * 24 ≤ 140737488351232) ∧ ((∀ x_ ∈ x.f10, G62 x_) ∧ List.length x.f10 * 16 ≤ 140737488351232)
theorem reads36 : Reads Tryd.prog 36 k36 G36 := by
  unfold k36
  exact reads_imp (reads_iso (fun x : S36 => (x.f0, x.f1, x.f2, x.f3, x.f4, x.f5, x.f6, x.f7, x.f8, x.f9, x.f10)) (fun (p : Int × Int × Int × ByteArray × ByteArray × Int × Int × Int × List (S43) × List (S59) × List (S62)) => (⟨p.1, p.2.1, p.2.2.1, p.2.2.2.1, p.2.2.2.2.1, p.2.2.2.2.2.1, p.2.2.2.2.2.2.1, p.2.2.2.2.2.2.2.1, p.2.2.2.2.2.2.2.2.1, p.2.2.2.2.2.2.2.2.2.1, p.2.2.2.2.2.2.2.2.2.2⟩ : S36)) (fun _ => rfl) (reads_struct Tryd.underlying36 (by kernel_rfl) (fields_cons rfl (by kernel_rfl) (reads_int Tryd.underlying31) (fields_cons rfl (by kernel_rfl) (reads_int Tryd.underlying31) (fields_cons rfl (by kernel_rfl) (reads_int Tryd.underlying31) (fields_cons rfl (by kernel_rfl) (reads_string Tryd.underlying9) (fields_cons rfl (by kernel_rfl) (reads_string Tryd.underlying9) (fields_cons rfl (by kernel_rfl) (reads_int Tryd.underlying2) (fields_cons rfl (by kernel_rfl) (reads_int Tryd.underlying2) (fields_cons rfl (by kernel_rfl) (reads_int Tryd.underlying3) (fields_cons rfl (by kernel_rfl) (reads_slice' Tryd.underlying32 reads43 (by kernel_rfl) (B := 56) (by kernel_rfl)) (fields_cons rfl (by kernel_rfl) (reads_slice' Tryd.underlying33 reads59 (by kernel_rfl) (B := 24) (by kernel_rfl)) (fields_one rfl (by kernel_rfl) (reads_slice' Tryd.underlying34 reads62 (by kernel_rfl) (B := 16) (by kernel_rfl))))))))))))))) (fun a h => h)
end Go.Proofs.YtkeepnmlphbffaaDoor.Open
