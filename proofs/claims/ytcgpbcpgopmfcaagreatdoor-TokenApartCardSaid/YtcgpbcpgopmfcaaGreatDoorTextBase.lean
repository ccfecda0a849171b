/- A range over a string: the iterator's block. -/
import Derived.Test.YtcgpbcpgopmfcaaGreatDoorUtf
import Derived.Test.YtcgpbcpgopmfcaaGreatDoorBlocks
import Derived.Lib.OthersKept
import Derived.Laws.DeepStrings4
import Derived.Outline
namespace Go.Proofs.YtcgpbcpgopmfcaaGreatDoor.Text
open Go.RowKit Go.Proofs.YtcgpbcpgopmfcaaGreatDoorW.PrintWords Go.Proofs.YtcgpbcpgopmfcaaGreatDoorW.PrintLast Go.Proofs.YtcgpbcpgopmfcaaGreatDoorW.PrintMore Go.Proofs.YtcgpbcpgopmfcaaGreatDoor.Math Go.Proofs.YtcgpbcpgopmfcaaGreatDoor.Runes
set_option linter.unusedVariables false
set_option linter.unusedSimpArgs false

/-- The world of a range over a string: an iterator's block of the call's own. -/
structure It (w wr : World) (N : Nat) (s : ByteArray) (p : Nat) : Prop where
  it : wr.heap[N]? = some (.stringIter s p)
  bw : Below w.heap.size w wr
  n0 : w.heap.size ≤ N
section
variable {w wr w1 : World} {N p : Nat} {s : ByteArray}
theorem It.start (w wr : World) (hb : Below w.heap.size w wr) (s : ByteArray) : It w (wr.iter s 0) wr.heap.size s 0 := ⟨World.iter_heap wr s 0, below_alloc hb _, hb.size⟩
theorem It.step (h : It w wr N s p) (q : Nat) : It w (wr.iterAt N s q) N s q := ⟨Lib.iterAt_heap wr N s p q h.it, Lib.below_iterAt h.bw h.n0 s q, h.n0⟩
theorem It.next (h : It w wr N s p) (hb : Below wr.heap.size wr w1) : It w w1 N s p := ⟨block_below h.it hb, below_step h.bw hb, h.n0⟩
theorem It.pos (h : It w wr N s p) : wr.iterPos N = p := by simp [World.iterPos, h.it]
theorem It.more {P : Program} (h : It w wr N s p) (hp : p < s.size) (ty : TypeId) : (Instr.next (.pointer (some ⟨N, 0, none⟩)) true ty).run P wr = .ok (.tuple #[.bool true, .int .i64 p, .int .i32 (rn s p)]) (wr.iterAt N s (p + wd s p)) := Lib.run_next_any_at wr N s p ty h.it hp
theorem It.done {P : Program} (h : It w wr N s p) (hp : ¬ p < s.size) (ty : TypeId) : (Instr.next (.pointer (some ⟨N, 0, none⟩)) true ty).run P wr = .ok (.tuple #[.bool false]) wr := Lib.run_next_end_at wr N s p ty h.it hp
end

theorem R_iterAt {α : Type} {d : Kd α} {e : TypeId} {wr : World} {N base q : Nat} {s : ByteArray} {ok : Nat → Prop} {v : Value} {xs : List α} (h : d.R e wr base ok v xs) (hN : N < base) : d.R e (wr.iterAt N s q) base ok v xs :=
  Kd.R_mono (Kd.R_step (Kd.R_bound h) (fun k hk _ => Lib.iterAt_other wr N k s q (by have := hk.2.1; omega))) (fun _ hk => hk.1)

end Go.Proofs.YtcgpbcpgopmfcaaGreatDoor.Text
