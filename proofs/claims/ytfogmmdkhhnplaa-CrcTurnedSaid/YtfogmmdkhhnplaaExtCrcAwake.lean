/- The answer that the document fixes (the sum of nine digits), proved by hand: the bytes of a constant text. -/
import Derived.Test.YtfogmmdkhhnplaaExtCrc
import Derived.Lib.SlBytesConst
namespace Go.Proofs.Ytfogmmdkhhnplaa.PAll
open Go.RowKit Go.Proofs.YtfogmmdkhhnplaaW.PrintWords Go.Proofs.YtfogmmdkhhnplaaW.PrintLast Go.Proofs.YtfogmmdkhhnplaaW.PrintMore Go.Proofs.Ytfogmmdkhhnplaa.Math
set_option linter.unusedVariables false
set_option linter.unusedSimpArgs false

def cambiumlaw03_awake.f : Option Bool := some true

theorem nine_isB : IsB [49, 50, 51, 52, 53, 54, 55, 56, 57] := by decide
set_option maxRecDepth 100000 in
theorem nine_sum : crcSum [49, 50, 51, 52, 53, 54, 55, 56, 57] = 3808858755 := by kernel_rfl

set_option maxHeartbeats 400000 in
theorem cambiumlaw03_awake.calls (r : Bool) (w : World) (h : cambiumlaw03_awake.f = some r) :
    Calls Try.prog 7 #[] w fun e w' => e = .returned (.bool r) ∧ Below w.heap.size w w' := by
  injection h with h
  subst h
  have kc := fun (w : World) (C : Array Value) (n c : Nat) => Lib.run_convert_bytes_const (P := Try.prog) w 22 5 C n c Try.underlying22 Try.underlying5
  go_enter Try.func7, Try.ntmps7
  go_wp2_with fail
  have hblk : (w.alloc (Obj.cells #[Value.int .u8 49, Value.int .u8 50, Value.int .u8 51, Value.int .u8 52, Value.int .u8 53, Value.int .u8 54, Value.int .u8 55, Value.int .u8 56, Value.int .u8 57] 5 (9, 10))).heap[w.heap.size]? = some (.cells ([49, 50, 51, 52, 53, 54, 55, 56, 57].map (Value.int .u8)).toArray 5 (9, 10)) := heap_alloc_new w _
  refine (crc_Sum.calls _ 9 [49, 50, 51, 52, 53, 54, 55, 56, 57] 3808858755 _ (C_block _ (by simp) hblk) (by simp) (by unfold crc_Sum.f; rw [if_pos nine_isB, nine_sum])).mono ?_
  rintro e w1 ⟨rfl, hbe⟩
  go_wp2
  go_ret
  exact ⟨rfl, ((Below.refl _ _).alloc (Nat.le_refl _) _).trans (hbe.mono (by simp))⟩

end Go.Proofs.Ytfogmmdkhhnplaa.PAll
