/- A range over a string: the iterator's block. -/
import Derived.Test.YtkeepnmlphbffaaDoorUtf
import Derived.Test.YtkeepnmlphbffaaDoorBlocks
import Derived.Lib.OthersKept
import Derived.Laws.DeepStrings4
import Derived.Outline
import Derived.Test.YtkeepnmlphbffaaDoorTabs
namespace Go.Proofs.YtkeepnmlphbffaaDoor.Text
open Go.RowKit Go.Proofs.YtkeepnmlphbffaaDoorW.PrintWords Go.Proofs.YtkeepnmlphbffaaDoorW.PrintLast Go.Proofs.YtkeepnmlphbffaaDoorW.PrintMore Go.Proofs.YtkeepnmlphbffaaDoor.Math Go.Proofs.YtkeepnmlphbffaaDoor.Runes
set_option linter.unusedVariables false
set_option linter.unusedSimpArgs false

/-- The world of a range over a string: an iterator's block of the call's own. -/
structure It (w wr : World) (N : Nat) (s : ByteArray) (p : Nat) : Prop where
  it : wr.heap[N]? = some (.stringIter s p)
  bw : Below w.heap.size w wr
  n0 : w.heap.size ≤ N
section
variable {w wr w1 : World} {N p : Nat} {s : ByteArray}
theorem It.start (w wr : World) (hb : Below w.heap.size w wr) (s : ByteArray) : It w (wr.iter s 0) wr.heap.size s 0 := ⟨World.iter_heap wr s 0, below_alloc hb _, hb.size⟩
theorem It.step (h : It w wr N s p) (q : Nat) : It w (wr.iterAt N s q) N s q := ⟨Lib.iterAt_heap wr N s p q h.it, Lib.below_iterAt h.bw h.n0 s q, h.n0⟩
theorem It.next (h : It w wr N s p) (hb : Below wr.heap.size wr w1) : It w w1 N s p := ⟨block_below h.it hb, below_step h.bw hb, h.n0⟩
theorem It.pos (h : It w wr N s p) : wr.iterPos N = p := by simp [World.iterPos, h.it]
theorem It.more {P : Program} (h : It w wr N s p) (hp : p < s.size) (ty : TypeId) : (Instr.next (.pointer (some ⟨N, 0, none⟩)) true ty).run P wr = .ok (.tuple #[.bool true, .int .i64 p, .int .i32 (rn s p)]) (wr.iterAt N s (p + wd s p)) := Lib.run_next_any_at wr N s p ty h.it hp
theorem It.done {P : Program} (h : It w wr N s p) (hp : ¬ p < s.size) (ty : TypeId) : (Instr.next (.pointer (some ⟨N, 0, none⟩)) true ty).run P wr = .ok (.tuple #[.bool false]) wr := Lib.run_next_end_at wr N s p ty h.it hp
end

theorem R_iterAt {α : Type} {d : Kd α} {e : TypeId} {wr : World} {N base q : Nat} {s : ByteArray} {ok : Nat → Prop} {v : Value} {xs : List α} (h : d.R e wr base ok v xs) (hN : N < base) : d.R e (wr.iterAt N s q) base ok v xs :=
  Kd.R_mono (Kd.R_step (Kd.R_bound h) (fun k hk _ => Lib.iterAt_other wr N k s q (by have := hk.2.1; omega))) (fun _ hk => hk.1)

end Go.Proofs.YtkeepnmlphbffaaDoor.Text

namespace Go.Proofs.YtkeepnmlphbffaaDoor.Text
open Go.RowKit Go.Proofs.YtkeepnmlphbffaaDoorW.PrintWords Go.Proofs.YtkeepnmlphbffaaDoorW.PrintLast Go.Proofs.YtkeepnmlphbffaaDoorW.PrintMore Go.Proofs.YtkeepnmlphbffaaDoor.Math Go.Proofs.YtkeepnmlphbffaaDoor.Runes
set_option linter.unusedVariables false
set_option linter.unusedSimpArgs false

set_option maxHeartbeats 1000000 in
theorem right_calls (s : ByteArray) (w : World) (hs : s.size ≤ 1000000) (hT : Tabs w) :
    Calls Tryd.prog 26 #[.string s] w fun e w' => e = .returned (.bool (Lib.validD s.data.toList && (runesI s).all okI)) ∧ Below w.heap.size w w' := by
  have HSs := Lib.hid hs
  have HT := Lib.hid hT
  obtain ⟨V, hV⟩ : ∃ V, V = Lib.validD s.data.toList := ⟨_, rfl⟩
  have hv := valid_calls s w (by omega) hT
  rw [← hV] at hv ⊢
  have HV := Lib.hid hv
  clear hs hT hV hv
  go_enter Tryd.func26, Tryd.ntmps26
  go_wp2_with fail
  refine HV.out.mono ?_
  rintro e w1 ⟨rfl, hb⟩
  have HB1 := Lib.hid hb
  clear hb
  cases V with
  | false =>
    go_wp2
    go_ret
    exact ⟨rfl, HB1.out⟩
  | true =>
    go_wp2
    go_loopw [] (fun wr => ∃ (p : Nat), p ≤ s.size ∧ Hid ((runesI s).all okI = ((from_ s p).map (fun i => (rn s i : Int))).all okI) ∧ It w wr w1.heap.size s p) (fun wr => s.size - wr.iterPos w1.heap.size)
    case atStart => exact ⟨0, by omega, Lib.hid rfl, It.start w w1 HB1.out s⟩
    case round =>
      obtain ⟨p, hp, HA, HI⟩ := hrel
      by_cases hlt : p < s.size
      · have hnx := HI.more (P := Tryd.prog) hlt
        have HS := Lib.hid (HI.step (p + wd s p))
        have HW := Lib.hid (dec_bounds s p hlt)
        have HF := Lib.hid (from_lt hlt)
        have HPos := Lib.hid HI.pos
        have HB2 := Lib.hid HS.out.bw
        generalize wr.iterAt w1.heap.size s (p + wd s p) = wr2 at *
        by_cases r1 : rn s p < 32
        · have d1 : decide ((rn s p : Int) < 32) = true := decide_eq_true (by omega)
          have HR := Lib.hid (show (runesI s).all okI = false by rw [HA.out, HF.out, List.map_cons, List.all_cons]; unfold okI; rw [d1]; rfl)
          clear r1
          go_wp2
          go_ret
          exact ⟨by rw [HR.out]; rfl, HB2.out⟩
        · have d1 : decide ((rn s p : Int) < 32) = false := decide_eq_false (by omega)
          by_cases r2 : 127 ≤ rn s p
          · have d2 : decide ((127 : Int) ≤ (rn s p : Int)) = true := decide_eq_true (by omega)
            by_cases r3 : rn s p ≤ 159
            · have d3 : decide ((rn s p : Int) ≤ 159) = true := decide_eq_true (by omega)
              have HR := Lib.hid (show (runesI s).all okI = false by
                rw [HA.out, HF.out, List.map_cons, List.all_cons]
                have : okI (rn s p : Int) = false := by unfold okI; simp; omega
                rw [this]; rfl)
              clear r1 r2 r3
              go_wp2
              go_ret
              exact ⟨by rw [HR.out]; rfl, HB2.out⟩
            · have d3 : decide ((rn s p : Int) ≤ 159) = false := decide_eq_false (by omega)
              have HR := Lib.hid (show okI (rn s p : Int) = true by unfold okI; simp; omega)
              clear r1 r2 r3
              go_wp2
              go_roundw
              case rel => exact ⟨p + wd s p, HW.out.2.1, Lib.hid (by rw [HA.out, HF.out, List.map_cons, List.all_cons, HR.out]; rfl), HS.out⟩
              case measure => rw [HS.out.pos, HPos.out]; have := HW.out; omega
          · have d2 : decide ((127 : Int) ≤ (rn s p : Int)) = false := decide_eq_false (by omega)
            have HR := Lib.hid (show okI (rn s p : Int) = true by unfold okI; simp; omega)
            clear r1 r2
            go_wp2
            go_roundw
            case rel => exact ⟨p + wd s p, HW.out.2.1, Lib.hid (by rw [HA.out, HF.out, List.map_cons, List.all_cons, HR.out]; rfl), HS.out⟩
            case measure => rw [HS.out.pos, HPos.out]; have := HW.out; omega
      · have hnx := HI.done (P := Tryd.prog) hlt
        have HE := Lib.hid (from_ge hlt)
        have HB := Lib.hid HI.bw
        go_wp2
        go_ret
        refine ⟨?_, HB.out⟩
        rw [HA.out, HE.out]; rfl

end Go.Proofs.YtkeepnmlphbffaaDoor.Text

namespace Go.Proofs.YtkeepnmlphbffaaDoor.Text
open Go.RowKit Go.Proofs.YtkeepnmlphbffaaDoorW.PrintWords Go.Proofs.YtkeepnmlphbffaaDoorW.PrintLast Go.Proofs.YtkeepnmlphbffaaDoorW.PrintMore Go.Proofs.YtkeepnmlphbffaaDoor.Math Go.Proofs.YtkeepnmlphbffaaDoor.Runes
set_option linter.unusedVariables false

theorem guard_some {α : Type} {c : Prop} [Decidable c] {x r : α} (h : (if c then some x else none) = some r) : c ∧ x = r := by
  by_cases hc : c
  · rw [if_pos hc] at h; exact ⟨hc, Option.some.inj h⟩
  · rw [if_neg hc] at h; cases h

def text_Right.f (a0 : ByteArray) : Option Bool := if a0.size ≤ 1000000 then some (Lib.validD a0.data.toList && (runesI a0).all okI) else none
theorem text_Right.calls (a0 : ByteArray) (r : Bool) (w : World) (h : text_Right.f a0 = some r) (hT_ : Tabs w) :
    Calls Tryd.prog 26 #[.string a0] w fun e w' => e = .returned (.bool r) ∧ Below w.heap.size w w' := by
  obtain ⟨h1, rfl⟩ := guard_some h
  exact right_calls a0 w h1 hT_
end Go.Proofs.YtkeepnmlphbffaaDoor.Text
