/- The kind of a span: what its cells are. -/
import Derived.Test.YtkeepnmlphbffaaDoorPSpx0
namespace Go.Proofs.YtkeepnmlphbffaaDoor.PSp
open Go.RowKit Go.Proofs.YtkeepnmlphbffaaDoorW.PrintWords Go.Proofs.YtkeepnmlphbffaaDoorW.PrintLast Go.Proofs.YtkeepnmlphbffaaDoorW.PrintMore
structure S36 where
  f0 : Int
  f1 : Int
  f2 : Int
  f3 : ByteArray
  f4 : ByteArray
  f5 : Int
  f6 : Int
  f7 : Int
  f8 : List S43
  f9 : List S59
  f10 : List S62
def k36 : Kd S36 := Kd.iso (Kd.pair (Kd.int .u64) (Kd.pair (Kd.int .u64) (Kd.pair (Kd.int .u64) (Kd.pair Kd.string (Kd.pair Kd.string (Kd.pair (Kd.int .i64) (Kd.pair (Kd.int .i64) (Kd.pair (Kd.int .i64) (Kd.pair (Kd.slice 43 k43) (Kd.pair (Kd.slice 59 k59) (Kd.slice 62 k62))))))))))) (fun x : S36 => (x.f0, x.f1, x.f2, x.f3, x.f4, x.f5, x.f6, x.f7, x.f8, x.f9, x.f10))
theorem k36_open {w : World} {x : S36} {cs : List Value} (h : k36.K w x cs) : ∃ A8 c8 A9 c9 A10 c10, cs = [.int .u64 x.f0, .int .u64 x.f1, .int .u64 x.f2, .string x.f3, .string x.f4, .int .i64 x.f5, .int .i64 x.f6, .int .i64 x.f7, .slice A8 x.f8.length c8, .slice A9 x.f9.length c9, .slice A10 x.f10.length c10] ∧
    (x.f8.length ≤ c8 ∧ Kd.C k43 w A8 x.f8.length x.f8) ∧ (x.f9.length ≤ c9 ∧ Kd.C k59 w A9 x.f9.length x.f9) ∧ (x.f10.length ≤ c10 ∧ Kd.C k62 w A10 x.f10.length x.f10) := by
  obtain ⟨_, _, rfl, rfl, h⟩ := h
  obtain ⟨_, _, rfl, rfl, h⟩ := h
  obtain ⟨_, _, rfl, rfl, h⟩ := h
  obtain ⟨_, _, rfl, rfl, h⟩ := h
  obtain ⟨_, _, rfl, rfl, h⟩ := h
  obtain ⟨_, _, rfl, rfl, h⟩ := h
  obtain ⟨_, _, rfl, rfl, h⟩ := h
  obtain ⟨_, _, rfl, rfl, h⟩ := h
  obtain ⟨_, _, rfl, ⟨A8, c8, rfl, l8, C8⟩, h⟩ := h
  obtain ⟨_, _, rfl, ⟨A9, c9, rfl, l9, C9⟩, ⟨A10, c10, rfl, l10, C10⟩⟩ := h
  exact ⟨A8, c8, A9, c9, A10, c10, rfl, ⟨l8, C8⟩, ⟨l9, C9⟩, ⟨l10, C10⟩⟩
end Go.Proofs.YtkeepnmlphbffaaDoor.PSp
