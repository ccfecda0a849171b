/- The tables of unicode/utf8, as the program's text lays them; ValidString by the kit's contract. -/
import Derived.Test.YtkeepnmlphbffaaDoorLays
import Derived.Test.YtkeepnmlphbffaaDoorRd
namespace Go.Proofs.YtkeepnmlphbffaaDoor
open Go.RowKit
/-- The two tables of unicode/utf8 lie in w. -/
def Tabs (w : World) : Prop := Lib.Utf8Tabs (Tryd.laysValid_ren.g 3) (Tryd.laysValid_ren.g 4) w
theorem tabs_below {w w1 : World} (h : Tabs w) (hb : Below w.heap.size w w1) : Tabs w1 := by
  refine ⟨fun c hc => ?_, fun i hi => ⟨?_, ?_⟩⟩
  · have h1 := h.1 c hc
    exact (hb.cell (World.block_lt_of_cell? w _ h1)).trans h1
  · have h1 := (h.2 i hi).1
    exact (hb.cell (World.block_lt_of_cell? w _ h1)).trans h1
  · have h1 := (h.2 i hi).2
    exact (hb.cell (World.block_lt_of_cell? w _ h1)).trans h1
theorem valid_calls (s : ByteArray) (w : World) (hs : s.size ≤ 9223372036854775807) (hT : Tabs w) :
    Calls Tryd.prog 41 #[.string s] w fun e w' => e = .returned (.bool (Lib.validD s.data.toList)) ∧ Below w.heap.size w w' := Any.utf8_ValidString Tryd.laysValid s w hs hT
end Go.Proofs.YtkeepnmlphbffaaDoor
