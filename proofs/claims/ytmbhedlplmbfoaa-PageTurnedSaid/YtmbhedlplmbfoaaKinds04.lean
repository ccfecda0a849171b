/- The kind of what is turned: a number and four bytes. -/
import Derived.Test.YtmbhedlplmbfoaaPAllx0
import Derived.Test.YtmbhedlplmbfoaaOpen
import Derived.Test.YtmbhedlplmbfoaaWArr
namespace Go.Proofs.Ytmbhedlplmbfoaa.PAll
open Go.RowKit Go.Proofs.YtmbhedlplmbfoaaW.PrintWords Go.Proofs.YtmbhedlplmbfoaaW.PrintLast Go.Proofs.YtmbhedlplmbfoaaW.PrintMore

structure S26 where
  f0 : Int
  f1 : List Int
def k26 : Kd S26 := Kd.iso (Kd.pair (Kd.int .u16) (Kd.arr 4 (Kd.int .u8) (Go.Proofs.Ytmbhedlplmbfoaa.Open.int_pos .u8))) (fun x : S26 => (x.f0, x.f1))
theorem turn_open {w : World} {x : S26} {cs : List Value} (h : k26.K w x cs) : cs = .int .u16 x.f0 :: x.f1.map (Value.int .u8) ∧ x.f1.length = 4 := by
  obtain ⟨c1, c2, h0, h1, h2⟩ := h
  obtain ⟨hn, hc⟩ := Kd.arr_cells (enc := Value.int .u8) h2
  have h1' : c1 = [.int .u16 x.f0] := h1
  subst h1'
  rw [h0, hc]
  exact ⟨rfl, hn⟩

end Go.Proofs.Ytmbhedlplmbfoaa.PAll
