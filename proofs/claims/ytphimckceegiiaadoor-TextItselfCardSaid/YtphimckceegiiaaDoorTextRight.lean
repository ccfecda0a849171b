/- Right, by hand: a text that is UTF-8, all of whose runes may be. -/
import Derived.Test.YtphimckceegiiaaDoorTextRange
import Derived.Test.YtphimckceegiiaaDoorTabs
namespace Go.Proofs.YtphimckceegiiaaDoor.Text
open Go.RowKit Go.Proofs.YtphimckceegiiaaDoorW.PrintWords Go.Proofs.YtphimckceegiiaaDoorW.PrintLast Go.Proofs.YtphimckceegiiaaDoorW.PrintMore Go.Proofs.YtphimckceegiiaaDoor.Math Go.Proofs.YtphimckceegiiaaDoor.Runes
set_option linter.unusedVariables false
set_option linter.unusedSimpArgs false

set_option maxHeartbeats 1000000 in
theorem right_calls (s : ByteArray) (w : World) (hs : s.size ≤ 1000000) (hT : Tabs w) :
    Calls Tryd.prog 23 #[.string s] w fun e w' => e = .returned (.bool (Lib.validD s.data.toList && (runesI s).all okI)) ∧ Below w.heap.size w w' := by
  have HSs := Lib.hid hs
  have HT := Lib.hid hT
  obtain ⟨V, hV⟩ : ∃ V, V = Lib.validD s.data.toList := ⟨_, rfl⟩
  have hv := valid_calls s w (by omega) hT
  rw [← hV] at hv ⊢
  have HV := Lib.hid hv
  clear hs hT hV hv
  go_enter Tryd.func23, Tryd.ntmps23
  go_wp2_with fail
  refine HV.out.mono ?_
  rintro e w1 ⟨rfl, hb⟩
  have HB1 := Lib.hid hb
  clear hb
  cases V with
  | false =>
    go_wp2
    go_ret
    exact ⟨rfl, HB1.out⟩
  | true =>
    go_wp2
    go_loopw [] (fun wr => ∃ (p : Nat), p ≤ s.size ∧ Hid ((runesI s).all okI = ((from_ s p).map (fun i => (rn s i : Int))).all okI) ∧ It w wr w1.heap.size s p) (fun wr => s.size - wr.iterPos w1.heap.size)
    case atStart => exact ⟨0, by omega, Lib.hid rfl, It.start w w1 HB1.out s⟩
    case round =>
      obtain ⟨p, hp, HA, HI⟩ := hrel
      by_cases hlt : p < s.size
      · have hnx := HI.more (P := Tryd.prog) hlt
        have HS := Lib.hid (HI.step (p + wd s p))
        have HW := Lib.hid (dec_bounds s p hlt)
        have HF := Lib.hid (from_lt hlt)
        have HPos := Lib.hid HI.pos
        have HB2 := Lib.hid HS.out.bw
        generalize wr.iterAt w1.heap.size s (p + wd s p) = wr2 at *
        by_cases r1 : rn s p < 32
        · have d1 : decide ((rn s p : Int) < 32) = true := decide_eq_true (by omega)
          have HR := Lib.hid (show (runesI s).all okI = false by rw [HA.out, HF.out, List.map_cons, List.all_cons]; unfold okI; rw [d1]; rfl)
          clear r1
          go_wp2
          go_ret
          exact ⟨by rw [HR.out]; rfl, HB2.out⟩
        · have d1 : decide ((rn s p : Int) < 32) = false := decide_eq_false (by omega)
          by_cases r2 : 127 ≤ rn s p
          · have d2 : decide ((127 : Int) ≤ (rn s p : Int)) = true := decide_eq_true (by omega)
            by_cases r3 : rn s p ≤ 159
            · have d3 : decide ((rn s p : Int) ≤ 159) = true := decide_eq_true (by omega)
              have HR := Lib.hid (show (runesI s).all okI = false by
                rw [HA.out, HF.out, List.map_cons, List.all_cons]
                have : okI (rn s p : Int) = false := by unfold okI; simp; omega
                rw [this]; rfl)
              clear r1 r2 r3
              go_wp2
              go_ret
              exact ⟨by rw [HR.out]; rfl, HB2.out⟩
            · have d3 : decide ((rn s p : Int) ≤ 159) = false := decide_eq_false (by omega)
              have HR := Lib.hid (show okI (rn s p : Int) = true by unfold okI; simp; omega)
              clear r1 r2 r3
              go_wp2
              go_roundw
              case rel => exact ⟨p + wd s p, HW.out.2.1, Lib.hid (by rw [HA.out, HF.out, List.map_cons, List.all_cons, HR.out]; rfl), HS.out⟩
              case measure => rw [HS.out.pos, HPos.out]; have := HW.out; omega
          · have d2 : decide ((127 : Int) ≤ (rn s p : Int)) = false := decide_eq_false (by omega)
            have HR := Lib.hid (show okI (rn s p : Int) = true by unfold okI; simp; omega)
            clear r1 r2
            go_wp2
            go_roundw
            case rel => exact ⟨p + wd s p, HW.out.2.1, Lib.hid (by rw [HA.out, HF.out, List.map_cons, List.all_cons, HR.out]; rfl), HS.out⟩
            case measure => rw [HS.out.pos, HPos.out]; have := HW.out; omega
      · have hnx := HI.done (P := Tryd.prog) hlt
        have HE := Lib.hid (from_ge hlt)
        have HB := Lib.hid HI.bw
        go_wp2
        go_ret
        refine ⟨?_, HB.out⟩
        rw [HA.out, HE.out]; rfl

end Go.Proofs.YtphimckceegiiaaDoor.Text
