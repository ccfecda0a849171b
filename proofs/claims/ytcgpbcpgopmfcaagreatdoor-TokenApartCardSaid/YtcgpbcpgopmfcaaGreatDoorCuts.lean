/- Cuts with a capacity, in the print's own form. -/
import Derived.Test.YtcgpbcpgopmfcaaGreatDoorWWords
namespace Go.Proofs.YtcgpbcpgopmfcaaGreatDoor.Cuts
open Go.RowKit Go.Proofs.YtcgpbcpgopmfcaaGreatDoorW.PrintWords
variable {P : Program} {α : Type}

theorem take3_of (enc : α → Value) (d : α) (t e : TypeId) (kl km : IntKind) {i : TypeInfo} (ht : P.underlying t = some (.slice e)) (hi : P.info? e = some i) (hsz : i.size = 1) (A : Option Addr) (c : Nat) (xs : List α) (j : Int) (h0 : 0 ≤ j) (hm : j ≤ xs.length) (hc : xs.length ≤ c) :
    (∀ W : World, (Instr.slice t (.slice A xs.length c) none (some (.int kl j)) (some (.int km j))).run P W = .ok (.slice A (xs.take j.toNat).length j.toNat) W) ∧
      (∀ w : World, ReadsOf enc d w A xs.length xs → ReadsOf enc d w A (xs.take j.toNat).length (xs.take j.toNat)) ∧ (xs.take j.toNat).length ≤ j.toNat := by
  have hl : (xs.take j.toNat).length = j.toNat := by rw [List.length_take]; omega
  refine ⟨fun W => ?_, fun w h => by rw [hl]; exact h.take_ j.toNat (by omega), by rw [hl]; omega⟩
  have hel : P.elem t = e := by simp [Program.elem, ht]
  have hu : P.underlying t = some (.slice (P.elem t)) := by rw [hel]; exact ht
  have ha : (A.map fun x => x.add 0) = A := by cases A <;> simp [Addr.add]
  rw [run_slice_hm W t A xs.length c hu kl km j j h0 (by omega) (by omega), hel, hl]
  simp [sizeOf, typeInfo, hi, hsz, sliced, Result.andThen, ha]

theorem mid3_of (enc : α → Value) (d : α) (t e : TypeId) (kl kh km : IntKind) {i : TypeInfo} (ht : P.underlying t = some (.slice e)) (hi : P.info? e = some i) (hsz : i.size = 1) (A : Option Addr) (c : Nat) (xs : List α) (a b : Int) (h0 : 0 ≤ a) (h1 : a ≤ b) (hm : b ≤ xs.length) (hc : xs.length ≤ c) :
    ∃ A' : Option Addr, (∀ W : World, (Instr.slice t (.slice A xs.length c) (some (.int kl a)) (some (.int kh b)) (some (.int km b))).run P W = .ok (.slice A' ((xs.take b.toNat).drop a.toNat).length (b.toNat - a.toNat)) W) ∧
      (∀ w : World, ReadsOf enc d w A xs.length xs → ReadsOf enc d w A' ((xs.take b.toNat).drop a.toNat).length ((xs.take b.toNat).drop a.toNat)) ∧ ((xs.take b.toNat).drop a.toNat).length ≤ b.toNat - a.toNat := by
  have hlt : (xs.take b.toNat).length = b.toNat := by rw [List.length_take]; omega
  have hl : ((xs.take b.toNat).drop a.toNat).length = b.toNat - a.toNat := by rw [List.length_drop, hlt]
  refine ⟨if b.toNat = a.toNat then A else A.map (·.add a.toNat), fun W => ?_, fun w h => ?_, by rw [hl]; omega⟩
  · have hel : P.elem t = e := by simp [Program.elem, ht]
    have hu : P.underlying t = some (.slice (P.elem t)) := by rw [hel]; exact ht
    rw [run_slice_lhm W t A xs.length c hu kl kh km a b b h0 h1 (by omega) (by omega), hel, hl]
    simp [sizeOf, typeInfo, hi, hsz, sliced, Result.andThen]
  · have h2 := (h.take_ b.toNat (by omega)).drop_ (c := b.toNat) a.toNat (by omega) (by omega)
    rw [hl]
    exact h2

end Go.Proofs.YtcgpbcpgopmfcaaGreatDoor.Cuts
