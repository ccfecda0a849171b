/- Functions of text that range over a string, by hand: runes, signs. -/
import Derived.Test.YtffggkhahambhaaConv
import Derived.Below
import Derived.Shelf.SlSortCmp.WholeK
import Derived.Test.YtffggkhahambhaaPAllx7
import Derived.Lib.ValidLaws
import Derived.Test.YtffggkhahambhaaPAllx8
namespace Go.Proofs.Ytffggkhahambhaa.Text
open Go.RowKit Go.Proofs.Ytffggkhahambhaa.PAll Go.Proofs.YtffggkhahambhaaW.PrintWords Go.Proofs.YtffggkhahambhaaW.PrintLast Go.Proofs.YtffggkhahambhaaW.PrintMore Go.Proofs.Ytffggkhahambhaa.Math Go.Proofs.Ytffggkhahambhaa.Runes
set_option linter.unusedVariables false
set_option linter.unusedSimpArgs false

theorem info_i32 : (Try.prog.info? 21).map (fun i => (i.zero, i.size, i.bytes)) = some (some (.int .i32 0), 1, 4) := by kernel_rfl
theorem info_sign : (Try.prog.info? 94).map (fun i => (i.zero, i.size, i.bytes)) = some (some (.agg #[.int .i32 0, .bool false, .bool false]), 3, 8) := by kernel_rfl
/-- A step above the iterator's block leaves it. -/
theorem It.above {w wr w1 : World} {s : ByteArray} {p : Nat} (h : It w wr w.heap.size s p) (hb : Below (w.heap.size + 1) wr w1) : It w w1 w.heap.size s p :=
  ⟨(hb.block _ (Nat.lt_succ_self _)).trans h.it, h.bw.trans (hb.mono (Nat.le_succ _)), h.n0⟩
theorem iter_size {w wr : World} {s : ByteArray} {p : Nat} (h : It w wr w.heap.size s p) : w.heap.size + 1 ≤ wr.heap.size := blk_lt h.it
set_option maxHeartbeats 1000000 in
theorem runes_calls (s : ByteArray) (w : World) (hs : s.size ≤ 1000000) :
    Calls Try.prog 60 #[.string s] w fun e w' => ∃ v, e = .returned v ∧ Kd.R (Kd.int .i32) 21 w' w.heap.size (fun _ => True) v (runesI s) ∧ Below w.heap.size w w' := by
  have HSs := Lib.hid hs
  clear hs
  go_enter Try.func60, Try.ntmps60
  go_wp2
  go_loopw [3] (fun v wr => ∃ (p : Nat) (acc : List Int), p ≤ s.size ∧ acc.length ≤ p ∧ Hid (Kd.R (Kd.int .i32) 21 wr (w.heap.size + 1) (fun _ => True) v acc) ∧ Hid (acc ++ (from_ s p).map (fun i => (rn s i : Int)) = runesI s) ∧ It w wr w.heap.size s p) (fun _ wr => s.size - wr.iterPos w.heap.size)
  case atStart => exact ⟨0, [], by omega, by simp, Lib.hid (Kd.R_nil _ _ _ _ _), Lib.hid rfl, It.start w w (Below.refl _ _) s⟩
  case round =>
    obtain ⟨p, acc, hp, hal, HR, HA, HI⟩ := hrel
    by_cases hlt : p < s.size
    · have hnx := HI.more (P := Try.prog) hlt
      have HS := Lib.hid (HI.step (p + wd s p))
      have HW := Lib.hid (dec_bounds s p hlt)
      have HF := Lib.hid (from_lt hlt)
      have HPos := Lib.hid HI.pos
      have HR2 := Lib.hid (R_iterAt (q := p + wd s p) (s := s) HR.out (Nat.lt_succ_self _))
      have HSz := Lib.hid (iter_size HS.out)
      generalize wr.iterAt w.heap.size s (p + wd s p) = wr2 at *
      go_wp2_with (first
        | ((with_reducible refine gate_dst (N := 13) rfl ?_); refine Kd.R_lit (Kd.int .i32) (w0 := wr2) (w.heap.size + 1) 21 ?hg (N := 13) ?hd (xs := [(rn s p : Int)]) (inner := [.int .i32 (rn s p : Int)]) (ok := fun _ => True) (okp := fun _ => True) ?hr ?hp (fun _ hk => hk) trivial (Below.refl _ _) HSz.out (by simp) ?_; (case hd => rfl); (case hg => rfl); (case hr => first | (go_simp; done) | (go_simp; rfl)); (case hp => exact (Reps.one (show Kd.M (Kd.int .i32) _ _ _ (rn s p : Int) [.int .i32 (rn s p : Int)] from rfl) (Reps.none _ _))); intro v3 w3 ho hb hg_ hnew_; clear hnew_; obtain ⟨A3, c3, rfl⟩ := Kd.R_slice ho; have HO3 := Lib.hid (Kd.R_reads' ho).2.2; have HB3 := Lib.hid hb; have HR3 := Lib.hid (Kd.R_grown2 HR2.out rfl hg_ (fun _ h => by cases h)); clear ho hb hg_)
        | ((with_reducible refine gate_builtin (b := .append) (xs := #[.tmp 11, .tmp 13]) rfl ?_); at_builtin; refine Kd.R_append_rows (Kd.int .i32) (w0 := wr2) (w.heap.size + 1) rfl (.tmp 11) (.tmp 13) 91 21 (.int .i32 0) 4 rfl Try.underlying91 info_i32 rfl (by decide) (by omega) _ acc [(rn s p : Int)] A3 _ c3 (fun _ => True) (fun _ => False) rfl rfl HR3.out HO3.out (fun _ _ h => h) (fun _ h => h.elim) (fun _ _ => trivial) HB3.out (Nat.le_trans HSz.out HB3.out.size) (by have := HSs.out; simp; omega) ?_; intro v4 w4 ho hb hg_ hnew_; clear hg_ hnew_; have HR4 := Lib.hid ho; have HI4 := Lib.hid (HS.out.above hb); clear ho hb))
      go_roundw
      case rel => exact ⟨p + wd s p, acc ++ [(rn s p : Int)], HW.out.2.1, by have := HW.out.1; simp; omega, HR4, Lib.hid (by rw [← HA.out, HF.out]; simp), HI4.out⟩
      case measure => rw [HI4.out.pos, HPos.out]; have := HW.out; omega
    · have hnx := HI.done (P := Try.prog) hlt
      have HE := Lib.hid (from_ge hlt)
      have HB := Lib.hid HI.bw
      go_wp2
      go_ret
      refine ⟨_, rfl, ?_, HB.out⟩
      have h := HA.out
      rw [HE.out] at h
      simp at h
      rw [← h]
      exact Kd.R_lower HR.out (Nat.le_succ _)

/-- A pattern's parts. -/
def signsL : Bool → List Int → List S94
  | true, [] => [⟨92, false, false⟩]
  | false, [] => []
  | true, r :: t => ⟨r, false, false⟩ :: signsL false t
  | false, r :: t => if r = 92 then signsL true t else if r = 42 then ⟨0, false, true⟩ :: signsL false t else if r = 63 then ⟨0, true, false⟩ :: signsL false t else ⟨r, false, false⟩ :: signsL false t

theorem sign_reps (w : World) (base : Nat) (ok : Nat → Prop) (x : S94) : Reps (Kd.M k94 w base ok) 3 [x] [.int .i32 x.f0, .bool x.f1, .bool x.f2] := by
  have h := Reps.snoc (size := 3) (Reps.none (Kd.M k94 w base ok) 3) (k94_mkM w base ok x) rfl
  exact h
set_option maxHeartbeats 2000000 in
theorem signs_calls (s : ByteArray) (w : World) (hs : s.size ≤ 1000000) :
    Calls Try.prog 59 #[.string s] w fun e w' => ∃ v, e = .returned v ∧ Kd.R k94 94 w' w.heap.size (fun _ => True) v (signsL false (runesI s)) ∧ Below w.heap.size w w' := by
  have HSs := Lib.hid hs
  clear hs
  have hu44 := Try.underlying94
  go_enter Try.func59, Try.ntmps59
  go_wp2
  go_loopw [3, 4] (fun v e wr => ∃ (p : Nat) (acc : List S94) (esc : Bool), e = .bool esc ∧ p ≤ s.size ∧ acc.length ≤ p ∧ Hid (Kd.R k94 94 wr (w.heap.size + 1) (fun _ => True) v acc) ∧ Hid (acc ++ signsL esc ((from_ s p).map (fun i => (rn s i : Int))) = signsL false (runesI s)) ∧ It w wr w.heap.size s p) (fun _ _ wr => s.size - wr.iterPos w.heap.size)
  case atStart => exact ⟨0, [], false, rfl, by omega, by simp, Lib.hid (Kd.R_nil _ _ _ _ _), Lib.hid rfl, It.start w w (Below.refl _ _) s⟩
  case round =>
    obtain ⟨p, acc, esc, rfl, hp, hal, HR, HA, HI⟩ := hrel
    by_cases hlt : p < s.size
    · have hnx := HI.more (P := Try.prog) hlt
      have HS := Lib.hid (HI.step (p + wd s p))
      have HW := Lib.hid (dec_bounds s p hlt)
      have HF := Lib.hid (from_lt hlt)
      have HPos := Lib.hid HI.pos
      have HR2 := Lib.hid (R_iterAt (q := p + wd s p) (s := s) HR.out (Nat.lt_succ_self _))
      have HSz := Lib.hid (iter_size HS.out)
      generalize wr.iterAt w.heap.size s (p + wd s p) = wr2 at *
      cases esc with
      | true =>
        go_wp2_with (first
          | ((with_reducible refine gate_dst (N := 22) rfl ?_); refine Kd.R_lit k94 (w0 := wr2) (w.heap.size + 1) 94 ?hg22 (N := 22) ?hd22 (xs := [(⟨(rn s p : Int), false, false⟩ : S94)]) (inner := [.int .i32 (rn s p : Int), .bool false, .bool false]) (ok := fun _ => True) (okp := fun _ => True) ?hr22 ?hp22 (fun _ hk => hk) trivial (Below.refl _ _) HSz.out (by simp) ?_; (case hd22 => rfl); (case hg22 => rfl); (case hr22 => first | (go_simp; done) | (go_simp; rfl)); (case hp22 => exact (sign_reps _ _ _ (⟨(rn s p : Int), false, false⟩ : S94))); intro v3 w3 ho hb hg_ hnew_; clear hnew_; obtain ⟨A3, c3, rfl⟩ := Kd.R_slice ho; have HO3 := Lib.hid (Kd.R_reads' ho).2.2; have HB3 := Lib.hid hb; have HR3 := Lib.hid (Kd.R_grown2 HR2.out rfl hg_ (fun _ h => by cases h)); clear ho hb hg_)
          | ((with_reducible refine gate_builtin (b := .append) (xs := #[.tmp 19, .tmp 22]) rfl ?_); at_builtin; refine Kd.R_append_rows k94 (w0 := wr2) (w.heap.size + 1) rfl (.tmp 19) (.tmp 22) 89 94 (.agg #[.int .i32 0, .bool false, .bool false]) 8 rfl Try.underlying89 info_sign rfl (by decide) (by omega) _ acc [(⟨(rn s p : Int), false, false⟩ : S94)] A3 _ c3 (fun _ => True) (fun _ => False) rfl rfl HR3.out HO3.out (fun x_ cs_ h_ => by rw [k94_open h_]; exact k94_mkM _ _ _ x_) (fun _ h => h.elim) (fun _ _ => trivial) HB3.out (Nat.le_trans HSz.out HB3.out.size) (by have := HSs.out; simp; omega) ?_; intro v4 w4 ho hb hg_ hnew_; clear hg_ hnew_; have HR4 := Lib.hid ho; have HI4 := Lib.hid (HS.out.above hb); clear ho hb))
        go_roundw
        case rel => exact ⟨p + wd s p, acc ++ [(⟨(rn s p : Int), false, false⟩ : S94)], false, rfl, HW.out.2.1, by have := HW.out.1; simp; omega, HR4, Lib.hid (by rw [← HA.out, HF.out, List.map_cons]; simp [signsL]), HI4.out⟩
        case measure => rw [HI4.out.pos, HPos.out]; have := HW.out; omega
      | false =>
        have h92 := @HA
        by_cases r92 : rn s p = 92
        · have b92 : ((rn s p : Int) == 92) = true := beq_iff_eq.2 (by omega)
          have HQ := Lib.hid r92
          clear r92 h92
          go_wp2
          go_roundw
          case rel => exact ⟨p + wd s p, acc, true, rfl, HW.out.2.1, by have := HW.out.1; omega, HR2, Lib.hid (by rw [← HA.out, HF.out, List.map_cons, signsL, if_pos (by have := HQ.out; omega)]), HS.out⟩
          case measure => rw [HS.out.pos, HPos.out]; have := HW.out; omega
        · have b92 : ((rn s p : Int) == 92) = false := beq_eq_false_iff_ne.2 (by omega)
          by_cases r42 : rn s p = 42
          · have b42 : ((rn s p : Int) == 42) = true := beq_iff_eq.2 (by omega)
            have HQ := Lib.hid r42
            clear r92 h92 r42
            go_wp2_with (first
              | ((with_reducible refine gate_dst (N := 32) rfl ?_); refine Kd.R_lit k94 (w0 := wr2) (w.heap.size + 1) 94 ?hg32 (N := 32) ?hd32 (xs := [(⟨0, false, true⟩ : S94)]) (inner := [.int .i32 0, .bool false, .bool true]) (ok := fun _ => True) (okp := fun _ => True) ?hr32 ?hp32 (fun _ hk => hk) trivial (Below.refl _ _) HSz.out (by simp) ?_; (case hd32 => rfl); (case hg32 => rfl); (case hr32 => first | (go_simp; done) | (go_simp; rfl)); (case hp32 => exact (sign_reps _ _ _ (⟨0, false, true⟩ : S94))); intro v3 w3 ho hb hg_ hnew_; clear hnew_; obtain ⟨A3, c3, rfl⟩ := Kd.R_slice ho; have HO3 := Lib.hid (Kd.R_reads' ho).2.2; have HB3 := Lib.hid hb; have HR3 := Lib.hid (Kd.R_grown2 HR2.out rfl hg_ (fun _ h => by cases h)); clear ho hb hg_)
              | ((with_reducible refine gate_builtin (b := .append) (xs := #[.tmp 30, .tmp 32]) rfl ?_); at_builtin; refine Kd.R_append_rows k94 (w0 := wr2) (w.heap.size + 1) rfl (.tmp 30) (.tmp 32) 89 94 (.agg #[.int .i32 0, .bool false, .bool false]) 8 rfl Try.underlying89 info_sign rfl (by decide) (by omega) _ acc [(⟨0, false, true⟩ : S94)] A3 _ c3 (fun _ => True) (fun _ => False) rfl rfl HR3.out HO3.out (fun x_ cs_ h_ => by rw [k94_open h_]; exact k94_mkM _ _ _ x_) (fun _ h => h.elim) (fun _ _ => trivial) HB3.out (Nat.le_trans HSz.out HB3.out.size) (by have := HSs.out; simp; omega) ?_; intro v4 w4 ho hb hg_ hnew_; clear hg_ hnew_; have HR4 := Lib.hid ho; have HI4 := Lib.hid (HS.out.above hb); clear ho hb))
            go_roundw
            case rel => exact ⟨p + wd s p, acc ++ [(⟨0, false, true⟩ : S94)], false, rfl, HW.out.2.1, by have := HW.out.1; simp; omega, HR4, Lib.hid (by rw [← HA.out, HF.out, List.map_cons]; rw [signsL, if_neg (by have := HQ.out; omega), if_pos (by have := HQ.out; omega)]; simp), HI4.out⟩
            case measure => rw [HI4.out.pos, HPos.out]; have := HW.out; omega
          · have b42 : ((rn s p : Int) == 42) = false := beq_eq_false_iff_ne.2 (by omega)
            by_cases r63 : rn s p = 63
            · have b63 : ((rn s p : Int) == 63) = true := beq_iff_eq.2 (by omega)
              have HQ := Lib.hid r63
              clear r92 h92 r42 r63
              go_wp2_with (first
                | ((with_reducible refine gate_dst (N := 39) rfl ?_); refine Kd.R_lit k94 (w0 := wr2) (w.heap.size + 1) 94 ?hg39 (N := 39) ?hd39 (xs := [(⟨0, true, false⟩ : S94)]) (inner := [.int .i32 0, .bool true, .bool false]) (ok := fun _ => True) (okp := fun _ => True) ?hr39 ?hp39 (fun _ hk => hk) trivial (Below.refl _ _) HSz.out (by simp) ?_; (case hd39 => rfl); (case hg39 => rfl); (case hr39 => first | (go_simp; done) | (go_simp; rfl)); (case hp39 => exact (sign_reps _ _ _ (⟨0, true, false⟩ : S94))); intro v3 w3 ho hb hg_ hnew_; clear hnew_; obtain ⟨A3, c3, rfl⟩ := Kd.R_slice ho; have HO3 := Lib.hid (Kd.R_reads' ho).2.2; have HB3 := Lib.hid hb; have HR3 := Lib.hid (Kd.R_grown2 HR2.out rfl hg_ (fun _ h => by cases h)); clear ho hb hg_)
                | ((with_reducible refine gate_builtin (b := .append) (xs := #[.tmp 37, .tmp 39]) rfl ?_); at_builtin; refine Kd.R_append_rows k94 (w0 := wr2) (w.heap.size + 1) rfl (.tmp 37) (.tmp 39) 89 94 (.agg #[.int .i32 0, .bool false, .bool false]) 8 rfl Try.underlying89 info_sign rfl (by decide) (by omega) _ acc [(⟨0, true, false⟩ : S94)] A3 _ c3 (fun _ => True) (fun _ => False) rfl rfl HR3.out HO3.out (fun x_ cs_ h_ => by rw [k94_open h_]; exact k94_mkM _ _ _ x_) (fun _ h => h.elim) (fun _ _ => trivial) HB3.out (Nat.le_trans HSz.out HB3.out.size) (by have := HSs.out; simp; omega) ?_; intro v4 w4 ho hb hg_ hnew_; clear hg_ hnew_; have HR4 := Lib.hid ho; have HI4 := Lib.hid (HS.out.above hb); clear ho hb))
              go_roundw
              case rel => exact ⟨p + wd s p, acc ++ [(⟨0, true, false⟩ : S94)], false, rfl, HW.out.2.1, by have := HW.out.1; simp; omega, HR4, Lib.hid (by rw [← HA.out, HF.out, List.map_cons]; rw [signsL, if_neg (by have := HQ.out; omega), if_neg (by have := HQ.out; omega), if_pos (by have := HQ.out; omega)]; simp), HI4.out⟩
              case measure => rw [HI4.out.pos, HPos.out]; have := HW.out; omega
            · have b63 : ((rn s p : Int) == 63) = false := beq_eq_false_iff_ne.2 (by omega)
              have HQ := Lib.hid (show ¬ rn s p = 92 ∧ ¬ rn s p = 42 ∧ ¬ rn s p = 63 from ⟨r92, r42, r63⟩)
              clear r92 h92 r42 r63
              go_wp2_with (first
                | ((with_reducible refine gate_dst (N := 15) rfl ?_); refine Kd.R_lit k94 (w0 := wr2) (w.heap.size + 1) 94 ?hg15 (N := 15) ?hd15 (xs := [(⟨(rn s p : Int), false, false⟩ : S94)]) (inner := [.int .i32 (rn s p : Int), .bool false, .bool false]) (ok := fun _ => True) (okp := fun _ => True) ?hr15 ?hp15 (fun _ hk => hk) trivial (Below.refl _ _) HSz.out (by simp) ?_; (case hd15 => rfl); (case hg15 => rfl); (case hr15 => first | (go_simp; done) | (go_simp; rfl)); (case hp15 => exact (sign_reps _ _ _ (⟨(rn s p : Int), false, false⟩ : S94))); intro v3 w3 ho hb hg_ hnew_; clear hnew_; obtain ⟨A3, c3, rfl⟩ := Kd.R_slice ho; have HO3 := Lib.hid (Kd.R_reads' ho).2.2; have HB3 := Lib.hid hb; have HR3 := Lib.hid (Kd.R_grown2 HR2.out rfl hg_ (fun _ h => by cases h)); clear ho hb hg_)
                | ((with_reducible refine gate_builtin (b := .append) (xs := #[.tmp 12, .tmp 15]) rfl ?_); at_builtin; refine Kd.R_append_rows k94 (w0 := wr2) (w.heap.size + 1) rfl (.tmp 12) (.tmp 15) 89 94 (.agg #[.int .i32 0, .bool false, .bool false]) 8 rfl Try.underlying89 info_sign rfl (by decide) (by omega) _ acc [(⟨(rn s p : Int), false, false⟩ : S94)] A3 _ c3 (fun _ => True) (fun _ => False) rfl rfl HR3.out HO3.out (fun x_ cs_ h_ => by rw [k94_open h_]; exact k94_mkM _ _ _ x_) (fun _ h => h.elim) (fun _ _ => trivial) HB3.out (Nat.le_trans HSz.out HB3.out.size) (by have := HSs.out; simp; omega) ?_; intro v4 w4 ho hb hg_ hnew_; clear hg_ hnew_; have HR4 := Lib.hid ho; have HI4 := Lib.hid (HS.out.above hb); clear ho hb))
              go_roundw
              case rel => exact ⟨p + wd s p, acc ++ [(⟨(rn s p : Int), false, false⟩ : S94)], false, rfl, HW.out.2.1, by have := HW.out.1; simp; omega, HR4, Lib.hid (by rw [← HA.out, HF.out, List.map_cons]; rw [signsL, if_neg (by have := HQ.out; omega), if_neg (by have := HQ.out; omega), if_neg (by have := HQ.out; omega)]; simp), HI4.out⟩
              case measure => rw [HI4.out.pos, HPos.out]; have := HW.out; omega
    · have hnx := HI.done (P := Try.prog) hlt
      have HE := Lib.hid (from_ge hlt)
      have HB := Lib.hid HI.bw
      cases esc with
      | false =>
        go_wp2
        go_ret
        refine ⟨_, rfl, ?_, HB.out⟩
        have h := HA.out
        rw [HE.out] at h
        simp [signsL] at h
        rw [← h]
        exact Kd.R_lower HR.out (Nat.le_succ _)
      | true =>
        have HR2 := HR
        have HS := Lib.hid HI
        have HSz := Lib.hid (iter_size HI)
        go_wp2_with (first
          | ((with_reducible refine gate_dst (N := 44) rfl ?_); refine Kd.R_lit k94 (w0 := wr) (w.heap.size + 1) 94 ?hg44 (N := 44) ?hd44 (xs := [(⟨92, false, false⟩ : S94)]) (inner := [.int .i32 92, .bool false, .bool false]) (ok := fun _ => True) (okp := fun _ => True) ?hr44 ?hp44 (fun _ hk => hk) trivial (Below.refl _ _) HSz.out (by simp) ?_; (case hd44 => rfl); (case hg44 => rfl); (case hr44 => first | (go_simp; done) | (go_simp; rfl)); (case hp44 => exact (sign_reps _ _ _ (⟨92, false, false⟩ : S94))); intro v3 w3 ho hb hg_ hnew_; clear hnew_; obtain ⟨A3, c3, rfl⟩ := Kd.R_slice ho; have HO3 := Lib.hid (Kd.R_reads' ho).2.2; have HB3 := Lib.hid hb; have HR3 := Lib.hid (Kd.R_grown2 HR2.out rfl hg_ (fun _ h => by cases h)); clear ho hb hg_)
          | ((with_reducible refine gate_builtin (b := .append) (xs := #[.tmp 42, .tmp 44]) rfl ?_); at_builtin; refine Kd.R_append_rows k94 (w0 := wr) (w.heap.size + 1) rfl (.tmp 42) (.tmp 44) 89 94 (.agg #[.int .i32 0, .bool false, .bool false]) 8 rfl Try.underlying89 info_sign rfl (by decide) (by omega) _ acc [(⟨92, false, false⟩ : S94)] A3 _ c3 (fun _ => True) (fun _ => False) rfl rfl HR3.out HO3.out (fun x_ cs_ h_ => by rw [k94_open h_]; exact k94_mkM _ _ _ x_) (fun _ h => h.elim) (fun _ _ => trivial) HB3.out (Nat.le_trans HSz.out HB3.out.size) (by have := HSs.out; simp; omega) ?_; intro v4 w4 ho hb hg_ hnew_; clear hg_ hnew_; have HR4 := Lib.hid ho; have HI4 := Lib.hid (HS.out.above hb); clear ho hb))
        go_ret
        refine ⟨_, rfl, ?_, HI4.out.bw⟩
        have h := HA.out
        rw [HE.out] at h
        simp only [List.map_nil, signsL] at h
        rw [← h]
        exact Kd.R_lower HR4.out (Nat.le_succ _)

end Go.Proofs.Ytffggkhahambhaa.Text

namespace Go.Proofs.Ytffggkhahambhaa.PAll
open Go.RowKit Go.Proofs.YtffggkhahambhaaW.PrintWords Go.Proofs.YtffggkhahambhaaW.PrintLast Go.Proofs.YtffggkhahambhaaW.PrintMore Go.Proofs.Ytffggkhahambhaa.Math Go.Proofs.Ytffggkhahambhaa.Runes Go.Proofs.Ytffggkhahambhaa.Text
set_option linter.unusedVariables false
theorem guard_some {α : Type} {c : Prop} [Decidable c] {x r : α} (h : (if c then some x else none) = some r) : c ∧ x = r := by
  by_cases hc : c
  · rw [if_pos hc] at h; exact ⟨hc, Option.some.inj h⟩
  · rw [if_neg hc] at h; cases h

def text_runes.f (a0 : ByteArray) : Option (List Int) := if a0.size ≤ 1000000 then some (runesI a0) else none
theorem text_runes.calls (a0 : ByteArray) (r : List Int) (w : World) (h : text_runes.f a0 = some r) :
    Calls Try.prog 60 #[.string a0] w fun e w' => ∃ v0_ : Value, e = .returned (v0_) ∧ Kd.R (Kd.int .i32) 21 w' w.heap.size (fun _ => True) v0_ r ∧ Below w.heap.size w w' := by
  obtain ⟨h1, rfl⟩ := guard_some h
  exact runes_calls a0 w h1
def text_signs.f (a0 : ByteArray) : Option (List S94) := if a0.size ≤ 1000000 then some (signsL false (runesI a0)) else none
theorem text_signs.calls (a0 : ByteArray) (r : List S94) (w : World) (h : text_signs.f a0 = some r) :
    Calls Try.prog 59 #[.string a0] w fun e w' => ∃ v0_ : Value, e = .returned (v0_) ∧ Kd.R k94 94 w' w.heap.size (fun _ => True) v0_ r ∧ Below w.heap.size w w' := by
  obtain ⟨h1, rfl⟩ := guard_some h
  exact signs_calls a0 w h1
end Go.Proofs.Ytffggkhahambhaa.PAll

namespace Go.Proofs.Ytffggkhahambhaa.Tr
open Go.RowKit Go.Proofs.YtffggkhahambhaaW.PrintWords Go.Proofs.YtffggkhahambhaaW.PrintLast Go.Proofs.YtffggkhahambhaaW.PrintMore Go.Proofs.Ytffggkhahambhaa.Math Go.Proofs.Ytffggkhahambhaa.PAll
set_option linter.unusedVariables false
set_option linter.unusedSimpArgs false
/-- filter.All's closure tells of these spans the opposite of p, as long as nothing below B turns. -/
def Keeps (B : Nat) (w0 : World) (bq : Nat) (p : Sp → Bool) (l : List Sp) : Prop := ∀ s ∈ l, ∀ w, Below B w0 w → Calls Try.prog 25 #[.agg (encS s).toArray, .pointer (some ⟨bq, 0, none⟩)] w fun e w' => e = .returned (.bool (!p s)) ∧ Below w.heap.size w w'
theorem bel_then {B : Nat} {w0 w w1 : World} (h : Below B w0 w) (hB : B ≤ w.heap.size) (h1 : Below w.heap.size w w1) : Below B w0 w1 := h.trans ⟨h1.os, h1.tape, h1.output, h1.size, fun k hk => h1.block k (by omega)⟩
set_option maxHeartbeats 2000000 in
theorem clone_calls (A : Option Addr) (c : Nat) (l : List Sp) (w : World) (hr : Kd.C kS w A l.length l) (hl : l.length ≤ c) (hn : l.length ≤ 1000000) :
    Calls Try.prog 24 #[.slice A l.length c] w fun e w' => ∃ v, e = .returned v ∧ Kd.R kS 34 w' w.heap.size (fun _ => True) v l ∧ Below w.heap.size w w' := by
  have q : ∀ (w : World) (a : Option Addr) (n c n' c' : Nat), (binOp .eql 25 (.slice a n c) (.slice none n' c')).run Try.prog w = .ok (.bool a.isNone) w := fun w a n c n' c' => Lib.run_eql_slice_nil w _ _ a n c n' c' Try.underlying25
  rcases A with _ | ad
  · have h0 : l = [] := by
      rcases Nat.eq_zero_or_pos l.length with h0 | h0
      · exact List.length_eq_zero_iff.1 h0
      · obtain ⟨ad, h, _⟩ := hr.2.2 h0
        cases h
    subst h0
    go_enter Try.func24, Try.ntmps24
    go_wp2
    go_ret
    exact ⟨_, rfl, Kd.R_nil _ _ _ _ _, Below.refl _ _⟩
  · have HR := Lib.hid hr
    have HL := Lib.hid hn
    clear hr hn
    go_enter Try.func24, Try.ntmps24
    go_wp2_with (first | ((with_reducible refine gate_dst (N := 5) rfl ?_); refine Kd.R_lit kS _ 34 ?hg (N := 5) ?hd (xs := ([] : List Sp)) (inner := []) (ok := fun _ => True) (okp := fun _ => True) ?hr ?hp (fun _ hk => hk) trivial (Below.refl _ _) (Nat.le_refl _) (by simp) ?_; (case hd => rfl); (case hg => rfl); (case hr => first | (go_simp; done) | (go_simp; rfl)); (case hp => exact (Reps.none _ _)); intro v1 w1 ho hb hg_ hnew_; clear hg_ hnew_; have HO := Lib.hid ho; have HB := Lib.hid hb; clear ho hb) | ((with_reducible refine gate_builtin (b := .append) (xs := #[.tmp 5, .tmp 6]) rfl ?_); at_builtin; refine Kd.R_append_rows kS (w0 := w) w.heap.size rfl (.tmp 5) (.tmp 6) 25 34 (.agg #[(.int .u64 0), (.int .u64 0), (.int .u64 0), (.string ⟨#[]⟩), (.string ⟨#[]⟩), (.int .i64 0), (.int .i64 0), (.int .i64 0), (.slice none 0 0), (.slice none 0 0), (.slice none 0 0)]) 152 rfl Try.underlying25 infoS rfl (by decide) (by omega) v1 [] l _ _ _ (fun _ => True) (fun _ => False) rfl rfl ?aO ?aR (fun _ _ h => h) (fun _ h => h.elim) ?aF ?aB ?aS ?aL ?_; (case aR => exact Kd.C_below HR.out HB.out); (case aB => exact HB.out); (case aF => exact (fun _ _ => trivial)); (case aO => exact HO.out); (case aS => exact below_size HB.out); (case aL => have := HL.out; simp; omega); intro v2 w2 ho hb hg hat; have HO2 := Lib.hid ho; have HB2 := Lib.hid hb; clear ho hb hg hat))
    go_ret
    exact ⟨_, rfl, by simpa using HO2.out, HB2.out⟩

set_option maxHeartbeats 4000000 in
set_option maxRecDepth 100000 in
theorem indexf_calls (A : Option Addr) (c : Nat) (l : List Sp) {B bq : Nat} {p : Sp → Bool} {w0 w : World} (hP : Keeps B w0 bq p l) (hB0 : Below B w0 w) (hBs : B ≤ w.heap.size) (hr : Kd.C kS w A l.length l) (hl : l.length ≤ c) (hn : l.length ≤ 1000000) :
    Calls Try.prog 47 #[.slice A l.length c, .func (.func 25) #[] #[.pointer (some ⟨bq, 0, none⟩)]] w fun e w' => ∃ i : Int, e = .returned (.int .i64 i) ∧ ((i = -1 ∧ ∀ s ∈ l, p s = true) ∨ ∃ k : Nat, i = k ∧ k < l.length ∧ (∀ s ∈ l.take k, p s = true) ∧ ∀ s, l[k]? = some s → p s = false) ∧ Below w.heap.size w w' := by
  have HP := Lib.hid hP
  have HB0 := Lib.hid hB0
  have HBs := Lib.hid hBs
  have HR := Lib.hid hr
  have HN := Lib.hid hn
  clear hP hB0 hBs hr hn
  go_enter Try.func47, Try.ntmps47
  go_wp2
  go_loopw [5, 8] (fun _ i wr => ∃ k : Nat, k ≤ l.length ∧ i = .int .i64 k ∧ Hid (∀ s ∈ l.take k, p s = true) ∧ Hid (Below w.heap.size w wr)) (fun _ i _ => l.length - (intOf i).toNat)
  case atStart => exact ⟨0, by omega, rfl, Lib.hid (fun s hs => by simp at hs), Lib.hid (Below.refl _ _)⟩
  case round =>
    obtain ⟨k, hk, rfl, HA, HB⟩ := hrel
    by_cases hlt : k < l.length
    · obtain ⟨s, hs⟩ : ∃ s, l[k]? = some s := ⟨_, List.getElem?_eq_getElem hlt⟩
      obtain ⟨ad, rfl, x0, x1, x2, x3, x4, x5, x6, x7, x8, x9, x10⟩ := at_S (Kd.C_below HR.out HB.out) hs
      have HTk := Lib.hid (show l.take (k + 1) = l.take k ++ [s] by
        obtain ⟨hk2, e⟩ := List.getElem?_eq_some_iff.1 hs
        rw [List.take_succ_eq_append_getElem hk2, e])
      have q : (k : Int) < (l.length : Int) := by omega
      have HK := Lib.hid (show k + 1 ≤ l.length by omega)
      have HW := Lib.hid (show wrap64 ((k : Int) + 1) = ((k + 1 : Nat) : Int) by have := HN.out; unfold wrap64; omega)
      have HGS := Lib.hid hs
      have hcall := HP.out s (List.mem_of_getElem? hs) wr (bel_then HB0.out HBs.out HB.out)
      rw [arr_S] at hcall
      have HCALL := Lib.hid hcall
      clear hs hlt hk hcall
      go_wp2_with fail
      refine HCALL.out.mono ?_
      rintro e w1 ⟨rfl, hb⟩
      have HB1 := Lib.hid (below_step HB.out hb)
      clear hb x0 x1 x2 x3 x4 x5 x6 x7 x8 x9 x10
      cases hroot : p s with
      | true =>
        have HRT := Lib.hid hroot
        clear hroot
        go_wp2
        go_roundw
        case rel => exact ⟨k + 1, HK.out, by rw [HW.out], Lib.hid (by rw [HTk.out]; intro y hy; rcases List.mem_append.1 hy with hy | hy; exact HA.out y hy; rw [List.mem_singleton.1 hy]; exact HRT.out), HB1⟩
        case measure => exact meas_up HN.out HK.out
      | false =>
        have HRT := Lib.hid hroot
        clear hroot
        go_wp2
        go_ret
        exact ⟨k, rfl, .inr ⟨k, rfl, by have := HK.out; omega, HA.out, fun y hy => by rw [HGS.out] at hy; injection hy with hy; rw [← hy]; exact HRT.out⟩, HB1.out⟩
    · have hkl : k = l.length := by omega
      subst hkl
      have q : decide ((l.length : Int) < (l.length : Int)) = false := decide_eq_false (by omega)
      rw [List.take_length] at HA
      clear hlt hk
      go_wp2
      go_ret
      exact ⟨-1, rfl, .inl ⟨rfl, HA.out⟩, HB.out⟩

theorem take_set_snoc {ys : List Sp} {i : Nat} (hi : i < ys.length) (s : Sp) : (ys.set i s).take (i + 1) = ys.take i ++ [s] := by
  rw [List.take_succ_eq_append_getElem (by rw [List.length_set]; exact hi), List.getElem_set_self, List.take_set_of_le (Nat.le_refl _)]

set_option maxHeartbeats 4000000 in
set_option maxRecDepth 100000 in
theorem delf_calls (A : Option Addr) (c : Nat) (l : List Sp) {base bq : Nat} {p : Sp → Bool} {w0 w : World} (hP : Keeps base w0 bq p l) (hB0 : Below base w0 w) (hbs : base ≤ w.heap.size) (hr : Kd.R kS 34 w base (fun _ => True) (.slice A l.length c) l) (hn : l.length ≤ 1000000) :
    Calls Try.prog 23 #[.slice A l.length c, .func (.func 25) #[] #[.pointer (some ⟨bq, 0, none⟩)]] w fun e w' => ∃ v', e = .returned v' ∧ Kd.R kS 34 w' base (fun _ => True) v' (l.filter fun s => p s) ∧ Below base w w' := by
  have hix := indexf_calls A c l hP hB0 hbs (Kd.R_reads' hr).2.2 (Kd.R_reads' hr).2.1 hn
  have HIX := Lib.hid hix
  have HP := Lib.hid hP
  have HB0 := Lib.hid hB0
  have HR := Lib.hid hr
  have HN := Lib.hid hn
  have HBS := Lib.hid hbs
  clear hix hP hB0 hr hn hbs
  go_enter Try.func23, Try.ntmps23
  go_wp2_with fail
  refine HIX.out.mono ?_
  rintro e w1 ⟨ix, rfl, hix, hb⟩
  have HB1 := Lib.hid (show Below base w w1 from ⟨hb.os, hb.tape, hb.output, hb.size, fun k hk => hb.block k (by have := HBS.out; omega)⟩)
  have HR1 := Lib.hid (Kd.R_below HR.out hb)
  clear hb HIX
  rcases hix with ⟨rfl, hall⟩ | ⟨k0, rfl, hk0, hall, hno⟩
  · have HALL := Lib.hid hall
    clear hall
    go_wp2
    go_ret
    exact ⟨_, rfl, by rw [List.filter_eq_self.2 HALL.out]; exact HR1.out, HB1.out⟩
  · obtain ⟨ad, rfl⟩ : ∃ ad, A = some ad := by
      obtain ⟨ad, c', h⟩ := Kd.R_slice1 HR1.out (by omega)
      injection h with h
      exact ⟨ad, h⟩
    have q0 : ((k0 : Int) == -1) = false := beq_eq_false_iff_ne.2 (by omega)
    have HW0 := Lib.hid (show wrap64 ((k0 : Int) + 1) = ((k0 + 1 : Nat) : Int) by have := HN.out; unfold wrap64; omega)
    have HK0 := Lib.hid hk0
    have HT0 := Lib.hid (show l.take k0 = (l.take (k0 + 1)).filter fun s => p s by
      rw [List.take_succ_eq_append_getElem hk0, List.filter_append, List.filter_eq_self.2 hall, List.filter_cons_of_neg (by rw [hno _ (List.getElem?_eq_getElem hk0)]; decide)]
      simp)
    obtain ⟨k1, hk1⟩ : ∃ k1, k1 = k0 + 1 := ⟨_, rfl⟩
    rw [← hk1] at HW0 HT0
    have HK1 := Lib.hid hk1
    clear hall hno hk0 hk1
    go_wp2
    rw [HW0.out]
    go_loopw [5, 6, 7] (fun a5 a6 _ wr => ∃ (i j : Nat) (ys : List Sp), j ≤ l.length ∧ a5 = .int .i64 i ∧ a6 = .int .i64 j ∧ Hid (i < j) ∧ Hid (ys.length = l.length) ∧ Hid (ys.take i = (l.take j).filter fun s => p s) ∧ Hid (ys.drop j = l.drop j) ∧ Hid (Kd.R kS 34 wr base (fun _ => True) (.slice (some ad) l.length c) ys) ∧ Hid (Below base w wr)) (fun _ a6 _ _ => l.length - (intOf a6).toNat)
    case atStart => exact ⟨k0, k1, l, by have := HK0.out; have := HK1.out; omega, rfl, rfl, Lib.hid (by have := HK1.out; omega), Lib.hid rfl, HT0, Lib.hid rfl, HR1, HB1⟩
    case round =>
      clear HR1 HB1 HR HT0
      obtain ⟨i, j, ys, hj, rfl, rfl, HIJ, HYL, HYT, HYD, HR, HB⟩ := hrel
      have HBZ := Lib.hid (Nat.le_trans HBS.out HB.out.size)
      by_cases hlt : j < l.length
      · obtain ⟨s, hs⟩ : ∃ s, ys[j]? = some s := ⟨_, List.getElem?_eq_getElem (by rw [HYL.out]; exact hlt)⟩
        have HLS := Lib.hid (show l[j]? = some s by
          have h1 : (ys.drop j)[0]? = (l.drop j)[0]? := by rw [HYD.out]
          rw [List.getElem?_drop, List.getElem?_drop, Nat.add_zero, hs] at h1
          exact h1.symm)
        obtain ⟨ad2, he2, x0, x1, x2, x3, x4, x5, x6, x7, x8, x9, x10⟩ := at_S (Kd.R_reads' HR.out).2.2 hs
        injection he2 with he2
        subst he2
        have q : (j : Int) < (l.length : Int) := by omega
        have HK := Lib.hid (show j + 1 ≤ l.length by omega)
        have HW := Lib.hid (show wrap64 ((j : Int) + 1) = ((j + 1 : Nat) : Int) by have := HN.out; unfold wrap64; omega)
        have hz := below_alloc (Below.refl wr.heap.size wr) (.cells (encS s).toArray 34)
        have HRx := Lib.hid (Kd.R_below HR.out hz)
        have HBx := Lib.hid (show Below base w (wr.alloc (.cells (encS s).toArray 34)) from HB.out.alloc HBZ.out _)
        have KS := Lib.hid (heap_alloc_new wr (.cells (encS s).toArray 34))
        rw [arr_S] at HRx HBx KS
        clear hs hlt hj hz
        go_upto_region 8 with (fail)
        clear x0 x1 x2 x3 x4 x5 x6 x7 x8 x9 x10 q
        generalize (wr.alloc (.cells #[.int .u64 s.tr, .int .u64 s.id, .int .u64 s.par, .string s.svc, .string s.op, .int .i64 s.st, .int .i64 s.du, .int .i64 s.stt, .slice s.a.1 s.a.2.1 s.a.2.2, .slice s.e.1 s.e.2.1 s.e.2.2, .slice s.l.1 s.l.2.1 s.l.2.2] 34)) = w8 at HRx HBx KS ⊢
        generalize (Value.agg #[.int .u64 s.tr, .int .u64 s.id, .int .u64 s.par, .string s.svc, .string s.op, .int .i64 s.st, .int .i64 s.du, .int .i64 s.stt, .slice s.a.1 s.a.2.1 s.a.2.2, .slice s.e.1 s.e.2.1 s.e.2.2, .slice s.l.1 s.l.2.1 s.l.2.2]) = junk1
        obtain ⟨x0, x1, x2, x3, x4, x5, x6, x7, x8, x9, x10⟩ := blkS (s := s) KS.out
        have hcall := HP.out s (List.mem_of_getElem? HLS.out) w8 (HB0.out.trans HBx.out)
        rw [arr_S] at hcall
        have HCALL := Lib.hid hcall
        clear hcall
        go_wp2_with fail
        refine HCALL.out.mono ?_
        rintro e w9 ⟨rfl, hb⟩
        have HR9 := Lib.hid (Kd.R_below HRx.out hb)
        have HB9 := Lib.hid (show Below base w w9 from HBx.out.trans ⟨hb.os, hb.tape, hb.output, hb.size, fun k hk => hb.block k (by have := HBx.out.size; have := HBS.out; omega)⟩)
        have K9 := Lib.hid (block_below KS.out hb)
        clear hb x0 x1 x2 x3 x4 x5 x6 x7 x8 x9 x10
        cases hroot : p s with
        | true =>
          have hi : i < ys.length := by have := HIJ.out; have := HYL.out; have := HK.out; omega
          obtain ⟨z, hzz⟩ : ∃ z, ys[i]? = some z := ⟨_, List.getElem?_eq_getElem hi⟩
          obtain ⟨hr2, hb2, hf2, f0⟩ := row_put HR9.out hi s
          have f1 := hf2 1 (by omega)
          have f2 := hf2 2 (by omega)
          have f3 := hf2 3 (by omega)
          have f4 := hf2 4 (by omega)
          have f5 := hf2 5 (by omega)
          have f6 := hf2 6 (by omega)
          have f7 := hf2 7 (by omega)
          have f8 := hf2 8 (by omega)
          have f9 := hf2 9 (by omega)
          have f10 := hf2 10 (by omega)
          have HRP := Lib.hid hr2
          have HBP := Lib.hid (HB9.out.trans hb2)
          obtain ⟨ad3, he3, y0, y1, y2, y3, y4, y5, y6, y7, y8, y9, y10⟩ := at_S (Kd.R_reads' HR9.out).2.2 hzz
          injection he3 with he3
          subst he3
          obtain ⟨x0, x1, x2, x3, x4, x5, x6, x7, x8, x9, x10⟩ := blkS (s := s) K9.out
          have qi : (i : Int) < (l.length : Int) := by have := HYL.out; omega
          have HYT2 := Lib.hid (show (ys.set i s).take (i + 1) = (l.take (j + 1)).filter fun s => p s by
            obtain ⟨hk2, e⟩ := List.getElem?_eq_some_iff.1 HLS.out
            rw [take_set_snoc hi, HYT.out, List.take_succ_eq_append_getElem hk2, e, List.filter_append, List.filter_cons_of_pos hroot]
            rfl)
          have HYD2 := Lib.hid (show (ys.set i s).drop (j + 1) = l.drop (j + 1) by
            rw [List.drop_set_of_lt (by have := HIJ.out; omega), ← List.drop_drop, ← List.drop_drop, HYD.out])
          have HWI := Lib.hid (show wrap64 ((i : Int) + 1) = ((i + 1 : Nat) : Int) by have := HN.out; unfold wrap64; omega)
          obtain ⟨g, hg⟩ : ∃ g, ad = ⟨g, 0, none⟩ := by
            obtain ⟨g, cur, h, _⟩ := row_open HR9.out (by omega)
            exact ⟨g, h⟩
          have hadd : ad.add (i * 11) = ⟨g, i * 11, none⟩ := by rw [hg]; exact add_at g (i * 11)
          simp only [hadd] at f0 f1 f2 f3 f4 f5 f6 f7 f8 f9 f10 y0 y1 y2 y3 y4 y5 y6 y7 y8 y9 y10 HRP HBP
          clear hroot hr2 hb2 hf2 hzz hi hg
          go_upto_region 10 with (fail)
          change Hid (Kd.R kS 34 (((((((((((w9.setCell ⟨g, i * 11, none⟩ (.int .u64 s.tr)).setCell ⟨g, i * 11 + 1, none⟩ (.int .u64 s.id)).setCell ⟨g, i * 11 + 2, none⟩ (.int .u64 s.par)).setCell ⟨g, i * 11 + 3, none⟩ (.string s.svc)).setCell ⟨g, i * 11 + 4, none⟩ (.string s.op)).setCell ⟨g, i * 11 + 5, none⟩ (.int .i64 s.st)).setCell ⟨g, i * 11 + 6, none⟩ (.int .i64 s.du)).setCell ⟨g, i * 11 + 7, none⟩ (.int .i64 s.stt)).setCell ⟨g, i * 11 + 8, none⟩ (.slice s.a.1 s.a.2.1 s.a.2.2)).setCell ⟨g, i * 11 + 9, none⟩ (.slice s.e.1 s.e.2.1 s.e.2.2)).setCell ⟨g, i * 11 + 10, none⟩ (.slice s.l.1 s.l.2.1 s.l.2.2)) base (fun _ => True) (.slice (some ad) l.length c) (ys.set i s)) at HRP
          change Hid (Below base w (((((((((((w9.setCell ⟨g, i * 11, none⟩ (.int .u64 s.tr)).setCell ⟨g, i * 11 + 1, none⟩ (.int .u64 s.id)).setCell ⟨g, i * 11 + 2, none⟩ (.int .u64 s.par)).setCell ⟨g, i * 11 + 3, none⟩ (.string s.svc)).setCell ⟨g, i * 11 + 4, none⟩ (.string s.op)).setCell ⟨g, i * 11 + 5, none⟩ (.int .i64 s.st)).setCell ⟨g, i * 11 + 6, none⟩ (.int .i64 s.du)).setCell ⟨g, i * 11 + 7, none⟩ (.int .i64 s.stt)).setCell ⟨g, i * 11 + 8, none⟩ (.slice s.a.1 s.a.2.1 s.a.2.2)).setCell ⟨g, i * 11 + 9, none⟩ (.slice s.e.1 s.e.2.1 s.e.2.2)).setCell ⟨g, i * 11 + 10, none⟩ (.slice s.l.1 s.l.2.1 s.l.2.2))) at HBP
          generalize (((((((((((w9.setCell ⟨g, i * 11, none⟩ (.int .u64 s.tr)).setCell ⟨g, i * 11 + 1, none⟩ (.int .u64 s.id)).setCell ⟨g, i * 11 + 2, none⟩ (.int .u64 s.par)).setCell ⟨g, i * 11 + 3, none⟩ (.string s.svc)).setCell ⟨g, i * 11 + 4, none⟩ (.string s.op)).setCell ⟨g, i * 11 + 5, none⟩ (.int .i64 s.st)).setCell ⟨g, i * 11 + 6, none⟩ (.int .i64 s.du)).setCell ⟨g, i * 11 + 7, none⟩ (.int .i64 s.stt)).setCell ⟨g, i * 11 + 8, none⟩ (.slice s.a.1 s.a.2.1 s.a.2.2)).setCell ⟨g, i * 11 + 9, none⟩ (.slice s.e.1 s.e.2.1 s.e.2.2)).setCell ⟨g, i * 11 + 10, none⟩ (.slice s.l.1 s.l.2.1 s.l.2.2)) = w10 at HRP HBP ⊢
          clear x0 x1 x2 x3 x4 x5 x6 x7 x8 x9 x10 y0 y1 y2 y3 y4 y5 y6 y7 y8 y9 y10 f0 f1 f2 f3 f4 f5 f6 f7 f8 f9 f10 qi
          go_wp2
          go_roundw
          case rel => exact ⟨i + 1, j + 1, ys.set i s, HK.out, by rw [HWI.out], by rw [HW.out], Lib.hid (by have := HIJ.out; omega), Lib.hid (by rw [List.length_set]; exact HYL.out), HYT2, HYD2, HRP, HBP⟩
          case measure => exact meas_up HN.out HK.out
        | false =>
          have HYT2 := Lib.hid (show ys.take i = (l.take (j + 1)).filter fun s => p s by
            obtain ⟨hk2, e⟩ := List.getElem?_eq_some_iff.1 HLS.out
            rw [HYT.out, List.take_succ_eq_append_getElem hk2, e, List.filter_append, List.filter_cons_of_neg (by rw [hroot]; decide)]
            simp)
          have HYD2 := Lib.hid (show ys.drop (j + 1) = l.drop (j + 1) by rw [← List.drop_drop, ← List.drop_drop, HYD.out])
          clear hroot
          go_wp2
          go_roundw
          case rel => exact ⟨i, j + 1, ys, HK.out, rfl, by rw [HW.out], Lib.hid (by have := HIJ.out; omega), HYL, HYT2, HYD2, HR9, HB9⟩
          case measure => exact meas_up HN.out HK.out
      · have hkl : j = l.length := by omega
        subst hkl
        have q : decide ((l.length : Int) < (l.length : Int)) = false := decide_eq_false (by omega)
        rw [List.take_length] at HYT
        have hij := HIJ.out
        have hlc := (Kd.R_reads' HR.out).2.1
        obtain ⟨inf, hinf, hsz⟩ : ∃ inf, Try.prog.info? 34 = some inf ∧ inf.size = 11 := by
          obtain ⟨inf, h1, h2⟩ := Option.map_eq_some_iff.1 infoS
          simp only [Prod.mk.injEq] at h2
          exact ⟨inf, h1, h2.2.1⟩
        have kc1 := cut_from (P := Try.prog) 25 34 .i64 Try.underlying25 hinf 11 hsz (some ad) l.length c (i : Int) (by omega) (by omega)
        rw [Int.toNat_natCast, if_neg (by omega)] at kc1
        change ∀ W : World, _ = Result.ok (Value.slice (some (ad.add (i * 11))) (l.length - i) (c - i)) W at kc1
        have kc2 := cut_to (P := Try.prog) 25 34 .i64 Try.underlying25 hinf (some ad) l.length c (i : Int) (by omega) (by omega) hlc
        rw [Int.toNat_natCast] at kc2
        obtain ⟨W, hclr, hrW, hbW⟩ := row_clear HR.out (i := i) (by rw [HYL.out]; exact hij) (c - i)
        have hbc : ∀ ats ty cs args, builtin .clear ats ty cs args = (do pure (.value (← Builtin.clear_ ats ty args))) := fun _ _ _ _ => rfl
        have HRW := Lib.hid hrW
        have HBW := Lib.hid (HB.out.trans hbW)
        clear hlt hj hij hlc hinf hsz hrW hbW
        go_wp2
        go_ret
        exact ⟨_, rfl, by rw [← HYT.out]; exact HRW.out, HBW.out⟩

end Go.Proofs.Ytffggkhahambhaa.Tr

namespace Go.Proofs.Ytffggkhahambhaa.Stab
set_option linter.unusedVariables false
variable {α : Type}

/-- A strict weak order. -/
structure Swo (lt : α → α → Bool) : Prop where
  irr : ∀ x, lt x x = false
  asym : ∀ x y, lt x y = true → lt y x = false
  ntr : ∀ x y z, lt x y = false → lt y z = false → lt x z = false
def eqv (lt : α → α → Bool) (x y : α) : Bool := !lt x y && !lt y x
theorem eqv_iff {lt : α → α → Bool} {x y : α} : eqv lt x y = true ↔ lt x y = false ∧ lt y x = false := by unfold eqv; cases lt x y <;> cases lt y x <;> simp
theorem eqv_ne {lt : α → α → Bool} (h : Swo lt) {x a b : α} (ha : eqv lt x a = true) (hb : eqv lt x b = true) : lt a b = false := by
  rw [eqv_iff] at ha hb
  exact h.ntr a x b ha.2 hb.1
/-- In order. -/
def Sd (lt : α → α → Bool) (l : List α) : Prop := l.Pairwise fun a b => lt b a = false
/-- Alike ones stay in their order. -/
def Kp (lt : α → α → Bool) (xs ys : List α) : Prop := ∀ x, ys.filter (eqv lt x) = xs.filter (eqv lt x)
theorem Kp.refl (lt : α → α → Bool) (xs : List α) : Kp lt xs xs := fun _ => rfl
theorem Kp.trans {lt : α → α → Bool} {xs ys zs : List α} (h : Kp lt xs ys) (g : Kp lt ys zs) : Kp lt xs zs := fun x => (g x).trans (h x)
theorem Kp.symm {lt : α → α → Bool} {xs ys : List α} (h : Kp lt xs ys) : Kp lt ys xs := fun x => (h x).symm
theorem Kp.app {lt : α → α → Bool} {xs ys us vs : List α} (h : Kp lt xs ys) (g : Kp lt us vs) : Kp lt (xs ++ us) (ys ++ vs) := fun x => by rw [List.filter_append, List.filter_append, h x, g x]
theorem Kp.mem {lt : α → α → Bool} (hw : Swo lt) {xs ys : List α} (h : Kp lt xs ys) {y : α} : y ∈ ys ↔ y ∈ xs := by
  have e : ∀ l : List α, y ∈ l ↔ y ∈ l.filter (eqv lt y) := fun l => by
    rw [List.mem_filter, eqv_iff]
    exact ⟨fun g => ⟨g, hw.irr y, hw.irr y⟩, fun g => g.1⟩
  rw [e ys, e xs, h y]
theorem Kp.nil {lt : α → α → Bool} (hw : Swo lt) {ys : List α} (h : Kp lt [] ys) : ys = [] := by
  cases ys with
  | nil => rfl
  | cons y ys => exact absurd ((h.mem hw).1 List.mem_cons_self) (by simp)
/-- There's one such row. -/
theorem sd_unique {lt : α → α → Bool} (hw : Swo lt) : ∀ {ys zs : List α}, Sd lt ys → Sd lt zs → Kp lt ys zs → ys = zs
  | [], zs, _, _, h => (h.nil hw).symm
  | y :: ys, [], _, _, h => absurd ((h.symm.mem hw).1 List.mem_cons_self) (by simp)
  | y :: ys, z :: zs, hy, hz, h => by
    unfold Sd at hy hz
    rw [List.pairwise_cons] at hy hz
    have h1 : lt z y = false := by
      rcases List.mem_cons.1 ((h.mem hw).1 (List.mem_cons_self (a := z) (l := zs))) with e | e
      · rw [e]; exact hw.irr y
      · exact hy.1 z e
    have h2 : lt y z = false := by
      rcases List.mem_cons.1 ((h.symm.mem hw).1 (List.mem_cons_self (a := y) (l := ys))) with e | e
      · rw [e]; exact hw.irr z
      · exact hz.1 y e
    have hyz : y = z := by
      have := h y
      rw [List.filter_cons, if_pos (eqv_iff.2 ⟨h2, h1⟩), List.filter_cons, if_pos (eqv_iff.2 ⟨hw.irr y, hw.irr y⟩)] at this
      injection this with e _
      exact e.symm
    subst hyz
    rw [sd_unique hw hy.2 hz.2 (fun x => by
      have := h x
      rw [List.filter_cons, List.filter_cons] at this
      split at this
      · injection this
      · exact this)]
/-- Blocks that hold nothing alike may change places. -/
theorem Kp.swap {lt : α → α → Bool} (hw : Swo lt) {A B : List α} (h : ∀ a ∈ A, ∀ b ∈ B, lt b a = true) : Kp lt (A ++ B) (B ++ A) := fun x => by
  rw [List.filter_append, List.filter_append]
  cases hA : A.filter (eqv lt x) with
  | nil => simp
  | cons a r =>
    have ha := List.mem_filter.1 (show a ∈ A.filter (eqv lt x) by rw [hA]; exact List.mem_cons_self)
    have hB : B.filter (eqv lt x) = [] := by
      rw [List.filter_eq_nil_iff]
      intro b hb e
      have := eqv_ne hw e ha.2
      rw [h a ha.1 b hb] at this
      cases this
    rw [hB]; simp
theorem sd_app {lt : α → α → Bool} {A B : List α} : Sd lt (A ++ B) ↔ Sd lt A ∧ Sd lt B ∧ ∀ a ∈ A, ∀ b ∈ B, lt b a = false := by unfold Sd; rw [List.pairwise_append]
/-- A row sorted, alike ones as they were. -/
structure Stb (lt : α → α → Bool) (xs ys : List α) : Prop where
  srt : Sd lt ys
  keep : Kp lt xs ys
theorem Stb.unique {lt : α → α → Bool} (hw : Swo lt) {xs ys zs : List α} (h : Stb lt xs ys) (g : Stb lt xs zs) : ys = zs := sd_unique hw h.srt g.srt (h.keep.symm.trans g.keep)
theorem Stb.nil (lt : α → α → Bool) : Stb lt [] [] := ⟨List.Pairwise.nil, Kp.refl _ _⟩
/-- One more, laid in its place: A not above it, B above it. -/
theorem Stb.add {lt : α → α → Bool} (hw : Swo lt) {xs A B : List α} {v : α} (h : Stb lt xs (A ++ B)) (hA : ∀ a ∈ A, lt v a = false) (hB : ∀ b ∈ B, lt v b = true) : Stb lt (xs ++ [v]) (A ++ v :: B) := by
  obtain ⟨h1, h2, h3⟩ := sd_app.1 h.srt
  refine ⟨sd_app.2 ⟨h1, List.pairwise_cons.2 ⟨fun b hb => hw.asym v b (hB b hb), h2⟩, fun a ha b hb => ?_⟩, ?_⟩
  · rcases List.mem_cons.1 hb with rfl | hb
    · exact hA a ha
    · exact h3 a ha b hb
  · have h4 : Kp lt (A ++ B ++ [v]) (A ++ v :: B) := by
      rw [List.append_assoc]
      exact (Kp.refl lt A).app (Kp.swap hw (fun b hb x hx => by rw [List.mem_singleton.1 hx]; exact hB b hb))
    exact (h.keep.app (Kp.refl lt [v])).trans h4
/-- The last of those ahead tells of all. -/
theorem all_le {lt : α → α → Bool} (hw : Swo lt) {A : List α} {u v : α} (h : Sd lt (A ++ [u])) (hu : lt v u = false) : ∀ a ∈ A ++ [u], lt v a = false := by
  intro a ha
  rcases List.mem_append.1 ha with ha | ha
  · exact hw.ntr v u a hu ((sd_app.1 h).2.2 a ha u (by simp))
  · rw [List.mem_singleton.1 ha]; exact hu
/-- Two sorted rows, one behind the other, merged. -/
structure Mg (lt : α → α → Bool) (L R S : List α) : Prop where
  stb : Stb lt (L ++ R) S
  len : S.length = L.length + R.length
/-- .. by exchange of the middle blocks. -/
theorem Mg.join {lt : α → α → Bool} (hw : Swo lt) {L1 L2 R1 R2 S1 S2 : List α} (h1 : Mg lt L1 R1 S1) (h2 : Mg lt L2 R2 S2) (hL : Sd lt (L1 ++ L2)) (hR : Sd lt (R1 ++ R2)) (ha : ∀ a ∈ L1, ∀ b ∈ R2, lt b a = false) (hb : ∀ a ∈ L2, ∀ b ∈ R1, lt b a = true) : Mg lt (L1 ++ L2) (R1 ++ R2) (S1 ++ S2) := by
  refine ⟨⟨sd_app.2 ⟨h1.stb.srt, h2.stb.srt, fun a ha1 b hb1 => ?_⟩, ?_⟩, by rw [List.length_append, h1.len, h2.len, List.length_append, List.length_append]; omega⟩
  · rcases List.mem_append.1 ((h1.stb.keep.mem hw).1 ha1) with h3 | h3 <;> rcases List.mem_append.1 ((h2.stb.keep.mem hw).1 hb1) with h4 | h4
    · exact (sd_app.1 hL).2.2 a h3 b h4
    · exact ha a h3 b h4
    · exact hw.asym _ _ (hb b h4 a h3)
    · exact (sd_app.1 hR).2.2 a h3 b h4
  · have h3 : Kp lt (L1 ++ L2 ++ (R1 ++ R2)) (L1 ++ R1 ++ (L2 ++ R2)) := by
      have := ((Kp.refl lt L1).app (Kp.swap hw hb)).app (Kp.refl lt R2)
      simp only [List.append_assoc] at this ⊢
      exact this
    exact h3.trans (h1.stb.keep.app h2.stb.keep)
theorem Mg.nilL {lt : α → α → Bool} {R : List α} (h : Sd lt R) : Mg lt [] R R := ⟨⟨h, by rw [List.nil_append]; exact Kp.refl _ _⟩, by simp⟩
theorem Mg.nilR {lt : α → α → Bool} {L : List α} (h : Sd lt L) : Mg lt L [] L := ⟨⟨h, by rw [List.append_nil]; exact Kp.refl _ _⟩, by simp⟩
theorem Mg.oneL {lt : α → α → Bool} (hw : Swo lt) {v : α} {R1 R2 : List α} (h : Sd lt (R1 ++ R2)) (h1 : ∀ r ∈ R1, lt r v = true) (h2 : ∀ r ∈ R2, lt r v = false) : Mg lt [v] (R1 ++ R2) (R1 ++ v :: R2) := by
  have := Mg.join hw (Mg.nilL (sd_app.1 h).1) (Mg.mk (lt := lt) (L := [v]) (R := R2) (S := v :: R2) ⟨List.pairwise_cons.2 ⟨h2, (sd_app.1 h).2.1⟩, Kp.refl _ _⟩ (by simp [Nat.add_comm])) (L1 := []) (List.pairwise_singleton _ _) h (fun a ha => by cases ha) (fun a ha b hb => by rw [List.mem_singleton.1 ha]; exact h1 b hb)
  simpa using this
theorem Mg.oneR {lt : α → α → Bool} (hw : Swo lt) {v : α} {L1 L2 : List α} (h : Sd lt (L1 ++ L2)) (h1 : ∀ l ∈ L1, lt v l = false) (h2 : ∀ l ∈ L2, lt v l = true) : Mg lt (L1 ++ L2) [v] (L1 ++ v :: L2) := by
  refine ⟨?_, by simp; omega⟩
  exact Stb.add hw ⟨h, Kp.refl _ _⟩ h1 h2
theorem sd_get {lt : α → α → Bool} {l : List α} (h : Sd lt l) {i j : Nat} {x y : α} (hij : i < j) (hx : l[i]? = some x) (hy : l[j]? = some y) : lt y x = false := by
  obtain ⟨h1, rfl⟩ := List.getElem?_eq_some_iff.1 hx
  obtain ⟨h2, rfl⟩ := List.getElem?_eq_some_iff.1 hy
  exact (List.pairwise_iff_getElem.1 h) i j h1 h2 hij
theorem sd_get' {lt : α → α → Bool} (hw : Swo lt) {l : List α} (h : Sd lt l) {i j : Nat} {x y : α} (hij : i ≤ j) (hx : l[i]? = some x) (hy : l[j]? = some y) : lt y x = false := by
  rcases Nat.lt_or_ge i j with h1 | h1
  · exact sd_get h h1 hx hy
  · have : i = j := by omega
    subst this
    rw [hx] at hy
    injection hy with hy
    rw [hy]; exact hw.irr _
/-- The split's two sides, by its border. -/
theorem border_le {lt : α → α → Bool} (hw : Swo lt) {L R : List α} (hL : Sd lt L) (hR : Sd lt R) {k1 k2 : Nat} (hk : k1 ≤ L.length) (h : 0 < k1 → ∀ x y, L[k1 - 1]? = some x → R[k2]? = some y → lt y x = false) : ∀ a ∈ L.take k1, ∀ b ∈ R.drop k2, lt b a = false := by
  intro a ha b hb
  obtain ⟨i, hi⟩ := List.mem_iff_getElem?.1 ha
  obtain ⟨j, hj⟩ := List.mem_iff_getElem?.1 hb
  rw [List.getElem?_take] at hi
  split at hi
  · rename_i hik
    rw [List.getElem?_drop] at hj
    have h1 := (List.getElem?_eq_some_iff.1 hi).1
    have h2 := (List.getElem?_eq_some_iff.1 hj).1
    obtain ⟨x, hx⟩ : ∃ x, L[k1 - 1]? = some x := ⟨_, List.getElem?_eq_getElem (by omega)⟩
    obtain ⟨y, hy⟩ : ∃ y, R[k2]? = some y := ⟨_, List.getElem?_eq_getElem (by omega)⟩
    exact hw.ntr b y a (sd_get' hw hR (by omega) hy hj) (hw.ntr y x a (h (by omega) x y hx hy) (sd_get' hw hL (by omega) hi hx))
  · cases hi
theorem border_lt {lt : α → α → Bool} (hw : Swo lt) {L R : List α} (hL : Sd lt L) (hR : Sd lt R) {k1 k2 : Nat} (hk : k2 ≤ R.length) (h : 0 < k2 → ∀ x y, L[k1]? = some x → R[k2 - 1]? = some y → lt y x = true) : ∀ a ∈ L.drop k1, ∀ b ∈ R.take k2, lt b a = true := by
  intro a ha b hb
  obtain ⟨i, hi⟩ := List.mem_iff_getElem?.1 ha
  obtain ⟨j, hj⟩ := List.mem_iff_getElem?.1 hb
  rw [List.getElem?_take] at hj
  split at hj
  · rename_i hjk
    rw [List.getElem?_drop] at hi
    have h1 := (List.getElem?_eq_some_iff.1 hi).1
    have h2 := (List.getElem?_eq_some_iff.1 hj).1
    obtain ⟨x, hx⟩ : ∃ x, L[k1]? = some x := ⟨_, List.getElem?_eq_getElem (by omega)⟩
    obtain ⟨y, hy⟩ : ∃ y, R[k2 - 1]? = some y := ⟨_, List.getElem?_eq_getElem (by omega)⟩
    rw [← Bool.not_eq_false]
    intro e
    have h3 := hw.ntr y b x (sd_get' hw hR (by omega) hj hy) (hw.ntr b a x e (sd_get' hw hL (by omega) hx hi))
    rw [h (by omega) x y hx hy] at h3
    cases h3
  · cases hj
/-- Insertion, plainly: behind the last one that isn't above it. -/
def insS (lt : α → α → Bool) (v : α) (l : List α) : List α := l.takeWhile (fun x => !lt v x) ++ v :: l.dropWhile (fun x => !lt v x)
end Go.Proofs.Ytffggkhahambhaa.Stab

namespace Go.Proofs.Ytffggkhahambhaa.Tr
open Go.RowKit Go.Proofs.YtffggkhahambhaaW.PrintWords Go.Proofs.YtffggkhahambhaaW.PrintLast Go.Proofs.YtffggkhahambhaaW.PrintMore Go.Proofs.Ytffggkhahambhaa.Math Go.Proofs.Ytffggkhahambhaa.PAll Go.Proofs.Ytffggkhahambhaa.Stab
open Go.Sort (HoldsK flatK get_flatK size_flatK)
set_option linter.unusedVariables false
set_option linter.unusedSimpArgs false

/-- The row, and what else may have changed. -/
structure Sr (w0 w : World) (base g n c : Nat) (ys : List Sp) : Prop where
  row : Kd.R kS 34 w base (fun _ => True) (.slice (some ⟨g, 0, none⟩) n c) ys
  gr : w0.grownBy w (some g)
theorem grownBy_refl (w : World) (r : Option Nat) : w.grownBy w r := ⟨rfl, rfl, rfl, Nat.le_refl _, fun _ _ _ => rfl⟩
theorem grownBy_trans {w0 w1 w2 : World} {r : Option Nat} (h : w0.grownBy w1 r) (k : w1.grownBy w2 r) : w0.grownBy w2 r :=
  ⟨k.os.trans h.os, k.tape.trans h.tape, k.output.trans h.output, Nat.le_trans h.size k.size, fun i hi hn => (k.block i (Nat.lt_of_lt_of_le hi h.size) hn).trans (h.block i hi hn)⟩
theorem grownBy_below {w w1 : World} (r : Option Nat) (h : Below w.heap.size w w1) : w.grownBy w1 r := ⟨h.os, h.tape, h.output, h.size, fun k hk _ => h.block k hk⟩
theorem Sr.start {w : World} {base g n c : Nat} {ys : List Sp} (h : Kd.R kS 34 w base (fun _ => True) (.slice (some ⟨g, 0, none⟩) n c) ys) : Sr w w base g n c ys := ⟨h, grownBy_refl _ _⟩
theorem Sr.next {w0 w w1 : World} {base g n c : Nat} {ys : List Sp} (h : Sr w0 w base g n c ys) (hb : Below w.heap.size w w1) : Sr w0 w1 base g n c ys := ⟨Kd.R_below h.row hb, grownBy_trans h.gr (grownBy_below _ hb)⟩
theorem Sr.drew {w0 w : World} {base g n c : Nat} {ys : List Sp} (h : Sr w0 w base g n c ys) : Sr w0 w.drew base g n c ys := h.next (below_drew (Below.refl _ _))
theorem Sr.then_ {w0 w1 w2 : World} {base g n c : Nat} {ys zs : List Sp} (h : Sr w0 w1 base g n c ys) (k : Sr w1 w2 base g n c zs) : Sr w0 w2 base g n c zs := ⟨k.row, grownBy_trans h.gr k.gr⟩
theorem Sr.len {w0 w : World} {base g n c : Nat} {ys : List Sp} (h : Sr w0 w base g n c ys) : n = ys.length := (Kd.R_reads' h.row).1
theorem Sr.holds {w0 w : World} {base g n c : Nat} {ys : List Sp} (h : Sr w0 w base g n c ys) (h0 : 0 < ys.length) : HoldsK encS 11 w g 0 ys.toArray := by
  obtain ⟨g', cur, he, hn, hg, hh, hnc, hcm, hcs, hr⟩ := row_open h.row h0
  injection he with he
  subst he
  exact holds_of hh hnc hcs hr
theorem Sr.ld {w0 w : World} {base g n c : Nat} {ys : List Sp} (h : Sr w0 w base g n c ys) {i : Nat} {x : Sp} (hx : ys[i]? = some x) (P : Program) : Sem.run P (loadCellsFrom ⟨g, i * 11, none⟩ 0 11 #[]) w = .ok (encS x).toArray w := by
  obtain ⟨hi, he⟩ := List.getElem?_eq_some_iff.1 hx
  have hH := h.holds (by omega)
  have := run_loadCellsFrom_list P w ⟨g, 0 + i * 11, none⟩ (encS (ys.toArray[i]!)) 11 (encS_len _) (HoldsK.cells hH encS_len (by simpa using hi))
  rw [Nat.zero_add] at this
  rw [this]
  have e : ys.toArray[i]! = x := by simp [hi, he]
  rw [e]
theorem Sr.st {w0 w : World} {base g n c : Nat} {ys : List Sp} (h : Sr w0 w base g n c ys) {i : Nat} (hi : i < ys.length) (x : Sp) (P : Program) : Sem.run P (storeCells ⟨g, i * 11, none⟩ (encS x) 0) w = .ok () (w.setCells g (i * 11) (encS x)) := by
  have hH := h.holds (by omega)
  have := stores_of_holds P hH (i * 11) (encS x) (by rw [encS_len, size_flatK]; have : i * 11 + 11 ≤ ys.length * 11 := by omega
                                                     simpa using this) (encS_one x)
  rw [Nat.zero_add] at this
  exact this
theorem setCells_put (w : World) (g o : Nat) (x : Sp) : w.setCells g o (encS x) = putA w ⟨g, o, none⟩ x := rfl
theorem Sr.put {w0 w : World} {base g n c : Nat} {ys : List Sp} (h : Sr w0 w base g n c ys) {i : Nat} (hi : i < ys.length) (x : Sp) : Sr w0 (w.setCells g (i * 11) (encS x)) base g n c (ys.set i x) := by
  have hp := (row_put h.row hi x).1
  have hb := (row_put h.row hi x).2.1
  rw [add_at] at hp hb
  rw [setCells_put]
  exact ⟨hp, grownBy_trans h.gr ⟨hb.os, hb.tape, hb.output, hb.size, fun k _ hk => putA_far x (fun e => hk (by rw [e]))⟩⟩
theorem set_set {P M Q : List Sp} {x y : Sp} : ((P ++ x :: (M ++ y :: Q)).set P.length y).set (P.length + (M.length + 1)) x = P ++ y :: (M ++ x :: Q) := by
  rw [List.set_append_right _ _ (Nat.le_refl _), Nat.sub_self, List.set_cons_zero, List.set_append_right _ _ (by omega), show P.length + (M.length + 1) - P.length = M.length + 1 by omega, List.set_cons_succ, List.set_append_right _ _ (Nat.le_refl _), Nat.sub_self, List.set_cons_zero]

set_option maxHeartbeats 4000000 in
set_option maxRecDepth 1000000 in
theorem swapRange_calls (w0 : World) (base g n c : Nat) (A B M P Q : List Sp) (a b k : Nat) (f : Value) (w : World) (ha : P.length = a) (hb : P.length + A.length + M.length = b) (hA : A.length = k) (hB : B.length = k) (hn : n ≤ 1000000) (hS : Sr w0 w base g n c (P ++ A ++ M ++ B ++ Q)) :
    Calls Try.prog 81 #[.slice (some ⟨g, 0, none⟩) n c, .int .i64 a, .int .i64 b, .int .i64 k, f] w fun e w' => e = .returned (.tuple #[]) ∧ Sr w0 w' base g n c (P ++ B ++ M ++ A ++ Q) := by
  have HS := Lib.hid hS
  have HA := Lib.hid hA
  have HB := Lib.hid hB
  have HPa := Lib.hid ha
  have HPb := Lib.hid hb
  have HN := Lib.hid hn
  have HL := Lib.hid (show n = P.length + k + M.length + k + Q.length by have := hS.len; simp only [List.length_append] at this; omega)
  clear hS hA hB ha hb hn
  go_enter Try.func81, Try.ntmps81
  go_wp2
  go_loopw [10] (fun s wr => ∃ i : Nat, i ≤ k ∧ s = .int .i64 i ∧ Hid (Sr w0 wr base g n c (P ++ (B.take i ++ A.drop i) ++ M ++ (A.take i ++ B.drop i) ++ Q))) (fun s _ => k - (intOf s).toNat)
  case atStart => exact ⟨0, Nat.zero_le _, rfl, Lib.hid (by simpa using HS.out)⟩
  case round =>
    clear HS
    obtain ⟨i, hi, rfl, HS⟩ := hrel
    by_cases hlt : i < k
    · obtain ⟨x, hx⟩ : ∃ x, A[i]? = some x := ⟨_, List.getElem?_eq_getElem (by rw [HA.out]; exact hlt)⟩
      obtain ⟨y, hy⟩ : ∃ y, B[i]? = some y := ⟨_, List.getElem?_eq_getElem (by rw [HB.out]; exact hlt)⟩
      obtain ⟨hxl, hxe⟩ := List.getElem?_eq_some_iff.1 hx
      obtain ⟨hyl, hye⟩ := List.getElem?_eq_some_iff.1 hy
      have hs0 : P ++ (B.take i ++ A.drop i) ++ M ++ (A.take i ++ B.drop i) ++ Q = (P ++ B.take i) ++ x :: ((A.drop (i + 1) ++ M ++ A.take i) ++ y :: (B.drop (i + 1) ++ Q)) := by
        rw [List.drop_eq_getElem_cons hxl, List.drop_eq_getElem_cons hyl, hxe, hye]
        simp only [List.append_assoc, List.cons_append]
      have hs1 : (P ++ B.take i) ++ y :: ((A.drop (i + 1) ++ M ++ A.take i) ++ x :: (B.drop (i + 1) ++ Q)) = P ++ (B.take (i + 1) ++ A.drop (i + 1)) ++ M ++ (A.take (i + 1) ++ B.drop (i + 1)) ++ Q := by
        rw [List.take_succ_eq_append_getElem hxl, List.take_succ_eq_append_getElem hyl, hxe, hye]
        simp only [List.append_assoc, List.cons_append, List.singleton_append, List.nil_append]
      rw [hs0] at HS
      obtain ⟨P', hP'⟩ : ∃ P', P ++ B.take i = P' := ⟨_, rfl⟩
      obtain ⟨M', hM'⟩ : ∃ M', A.drop (i + 1) ++ M ++ A.take i = M' := ⟨_, rfl⟩
      obtain ⟨Q', hQ'⟩ : ∃ Q', B.drop (i + 1) ++ Q = Q' := ⟨_, rfl⟩
      have hPl : P'.length = a + i := by rw [← hP', List.length_append, List.length_take, HB.out, HPa.out]; omega
      have hMl : P'.length + (M'.length + 1) = b + i := by rw [hPl, ← hM', List.length_append, List.length_append, List.length_drop, List.length_take, HA.out, ← HPb.out, HPa.out, HA.out]; omega
      rw [hP', hM', hQ'] at HS hs1
      have HS1 := Lib.hid hs1
      clear hs0 hs1 hP' hM' hQ' hx hy hxl hxe hyl hye
      obtain ⟨X, hX⟩ : ∃ X, a + i = X := ⟨_, rfl⟩
      obtain ⟨Y, hY⟩ : ∃ Y, b + i = Y := ⟨_, rfl⟩
      rw [hX] at hPl
      rw [hY] at hMl
      have hsw := set_set (P := P') (M := M') (Q := Q') (x := x) (y := y)
      rw [hMl, hPl] at hsw
      have hgx : (P' ++ x :: (M' ++ y :: Q'))[X]? = some x := by rw [← hPl, List.getElem?_append_right (Nat.le_refl _), Nat.sub_self]; rfl
      have hgy : (P' ++ x :: (M' ++ y :: Q'))[Y]? = some y := by rw [← hMl, List.getElem?_append_right (by omega), show P'.length + (M'.length + 1) - P'.length = M'.length + 1 by omega, List.getElem?_cons_succ, List.getElem?_append_right (Nat.le_refl _), Nat.sub_self]; rfl
      have hXl : X < (P' ++ x :: (M' ++ y :: Q')).length := (List.getElem?_eq_some_iff.1 hgx).1
      have hYl : Y < (P' ++ x :: (M' ++ y :: Q')).length := (List.getElem?_eq_some_iff.1 hgy).1
      have hn2 := HS.out.len
      have HSd := HS.out.drew
      have HSx := HSd.put hXl y
      have HSy := HSx.put (i := Y) (by rw [List.length_set]; exact hYl) x
      rw [hsw, HS1.out] at HSy
      have HSZ := Lib.hid HSy
      have HWX := Lib.hid (show wrap64 ((a : Int) + (i : Int)) = (X : Int) by have := HN.out; unfold wrap64; omega)
      have HWY := Lib.hid (show wrap64 ((b : Int) + (i : Int)) = (Y : Int) by have := HN.out; unfold wrap64; omega)
      have HW := Lib.hid (show wrap64 ((i : Int) + 1) = ((i + 1 : Nat) : Int) by have := HN.out; have := HL.out; unfold wrap64; omega)
      have HK := Lib.hid (show i + 1 ≤ k by omega)
      have HKN := Lib.hid (show k ≤ 1000000 by have := HN.out; have := HL.out; omega)
      have q : (i : Int) < (k : Int) := by omega
      have e1 : ((X : Int)).toNat = X := by omega
      have p1 : (0 : Int) ≤ (X : Int) := by omega
      have b1 : (X : Int) < (n : Int) := by omega
      have r1 : IntKind.i64.wrap ((X : Int)) = (X : Int) := by rw [IntKind.wrap_i64]; have := HN.out; omega
      have e2 : ((Y : Int)).toNat = Y := by omega
      have p2 : (0 : Int) ≤ (Y : Int) := by omega
      have b2 : (Y : Int) < (n : Int) := by omega
      have r2 : IntKind.i64.wrap ((Y : Int)) = (Y : Int) := by rw [IntKind.wrap_i64]; have := HN.out; omega
      have la := HSd.ld hgx Try.prog
      have lb := HSd.ld hgy Try.prog
      have sa := HSd.st hXl y Try.prog
      have sb := HSx.st (i := Y) (by rw [List.length_set]; exact hYl) x Try.prog
      have na : (encS x).length = 11 := encS_len x
      have nb : (encS y).length = 11 := encS_len y
      have aX : (⟨g, 0, none⟩ : Addr).add (X * 11) = ⟨g, X * 11, none⟩ := add_at _ _
      have aY : (⟨g, 0, none⟩ : Addr).add (Y * 11) = ⟨g, Y * 11, none⟩ := add_at _ _
      have aE := Try.isAgg34
      have zE := Try.sizeOf34
      have hwx := HWX.out
      have hwy := HWY.out
      obtain ⟨kk, hkk⟩ : ∃ kk : Nat, kk = 11 := ⟨_, rfl⟩
      have HKK := Lib.hid hkk
      rw [← hkk] at la lb sa sb na nb aX aY HSZ
      simp only [← hkk] at zE
      generalize encS x = cx at la lb sa sb na HSZ
      generalize encS y = cy at lb sa sb nb HSZ
      clear hkk
      clear hgx hgy hXl hYl hn2 HSd HSx HSy hsw hPl hMl hX hY hlt hi
      have mixed : Try.prog.follows Departure.mixedOrders = true := by kernel_rfl
      go_upto_region 3 with (fail)
      go_big_region_o
      clear la lb sa sb
      generalize (wr.drew.setCells g (X * kk) cy).setCells g (Y * kk) cx = w2 at HSZ ⊢
      go_wp2
      go_roundw
      case rel => exact ⟨i + 1, HK.out, by rw [HW.out], HSZ⟩
      case measure => exact meas_up HKN.out HK.out
    · have hik : i = k := by omega
      subst hik
      have q : decide ((i : Int) < (i : Int)) = false := decide_eq_false (by omega)
      have HE := Lib.hid (show Sr w0 wr base g n c (P ++ B ++ M ++ A ++ Q) by
        have h := HS.out
        rw [List.take_of_length_le (by rw [HB.out]; exact Nat.le_refl _), List.drop_eq_nil_of_le (by rw [HA.out]; exact Nat.le_refl _), List.take_of_length_le (by rw [HA.out]; exact Nat.le_refl _), List.drop_eq_nil_of_le (by rw [HB.out]; exact Nat.le_refl _), List.append_nil, List.append_nil] at h
        exact h)
      clear hlt hi
      go_wp2
      go_end0
      exact ⟨rfl, HE.out⟩
end Go.Proofs.Ytffggkhahambhaa.Tr

namespace Go.Proofs.Ytffggkhahambhaa.Tr
open Go.RowKit Go.Proofs.YtffggkhahambhaaW.PrintWords Go.Proofs.YtffggkhahambhaaW.PrintLast Go.Proofs.YtffggkhahambhaaW.PrintMore Go.Proofs.Ytffggkhahambhaa.Math Go.Proofs.Ytffggkhahambhaa.PAll Go.Proofs.Ytffggkhahambhaa.Stab
set_option linter.unusedVariables false
set_option linter.unusedSimpArgs false
theorem w64 (x : Int) (h1 : -9223372036854775808 ≤ x) (h2 : x ≤ 9223372036854775807) : wrap64 x = x := by unfold wrap64; omega
theorem rot_meas1 {x y j : Nat} (hx : x = y - j) (hj : 0 < j) (hy : j < y) : (intOf (.int .i64 (x : Int)) + intOf (.int .i64 (j : Int))).toNat < (intOf (.int .i64 (y : Int)) + intOf (.int .i64 (j : Int))).toNat := by
  show ((x : Int) + (j : Int)).toNat < ((y : Int) + (j : Int)).toNat
  omega
theorem rot_meas2 {x y j : Nat} (hx : x = y - j) (hj : 0 < j) (hy : j < y) : (intOf (.int .i64 (j : Int)) + intOf (.int .i64 (x : Int))).toNat < (intOf (.int .i64 (j : Int)) + intOf (.int .i64 (y : Int))).toNat := by
  show ((j : Int) + (x : Int)).toNat < ((j : Int) + (y : Int)).toNat
  omega

set_option maxHeartbeats 4000000 in
set_option maxRecDepth 1000000 in
theorem rotate_calls (w0 : World) (base g n c : Nat) (P X Y Q : List Sp) (a m b : Nat) (f : Value) (w : World) (ha : P.length = a) (hm : P.length + X.length = m) (hb : m + Y.length = b) (hX : 0 < X.length) (hY : 0 < Y.length) (hn : n ≤ 1000000) (hS : Sr w0 w base g n c (P ++ X ++ Y ++ Q)) :
    Calls Try.prog 77 #[.slice (some ⟨g, 0, none⟩) n c, .int .i64 a, .int .i64 m, .int .i64 b, f] w fun e w' => e = .returned (.tuple #[]) ∧ Sr w0 w' base g n c (P ++ Y ++ X ++ Q) := by
  have HS := Lib.hid hS
  have HN := Lib.hid hn
  have hlen := hS.len
  simp only [List.length_append] at hlen
  have HM := Lib.hid (show m ≤ 1000000 by omega)
  have HX := Lib.hid hX
  have HY := Lib.hid hY
  have HPX := Lib.hid hm
  have HI := Lib.hid (show wrap64 ((m : Int) - (a : Int)) = (X.length : Int) by rw [w64 _ (by omega) (by omega)]; omega)
  have HJ := Lib.hid (show wrap64 ((b : Int) - (m : Int)) = (Y.length : Int) by rw [w64 _ (by omega) (by omega)]; omega)
  clear hS hn hlen ha hm hb hX hY
  go_enter Try.func77, Try.ntmps77
  have hi := HI.out
  have hj := HJ.out
  go_wp2
  clear hi hj
  go_loopw [10, 11] (fun s t wr => ∃ (P' X' Y' Q' : List Sp), s = .int .i64 X'.length ∧ t = .int .i64 Y'.length ∧ Hid (P'.length + X'.length = m) ∧ Hid (0 < X'.length) ∧ Hid (0 < Y'.length) ∧ Hid (P' ++ Y' ++ X' ++ Q' = P ++ Y ++ X ++ Q) ∧ Hid (Sr w0 wr base g n c (P' ++ X' ++ Y' ++ Q'))) (fun s t _ => (intOf s + intOf t).toNat)
  case atStart => exact ⟨P, X, Y, Q, by rw [HI.out], by rw [HJ.out], HPX, HX, HY, Lib.hid rfl, HS⟩
  case round =>
    clear HS HX HY HPX HI HJ
    obtain ⟨P', X', Y', Q', rfl, rfl, HPX, HX, HY, HE, HS⟩ := hrel
    have hlen := HS.out.len
    simp only [List.length_append] at hlen
    obtain ⟨p, hp⟩ : ∃ p, P'.length = p := ⟨_, rfl⟩
    obtain ⟨x, hx⟩ : ∃ x, X'.length = x := ⟨_, rfl⟩
    obtain ⟨y, hy⟩ : ∃ y, Y'.length = y := ⟨_, rfl⟩
    rw [hx, hy]
    have hpx := HPX.out
    have hx0 := HX.out
    have hy0 := HY.out
    have hn := HN.out
    rw [hp, hx] at hpx
    rw [hx] at hx0
    rw [hy] at hy0
    have HP := Lib.hid hp
    have HXl := Lib.hid hx
    have HYl := Lib.hid hy
    have HW := Lib.hid (show wrap64 ((m : Int) - (x : Int)) = (p : Int) by rw [w64 _ (by omega) (by omega)]; omega)
    rcases Nat.lt_trichotomy x y with hlt | heq | hgt
    · -- the rest of the right block stays
      have HSP := Lib.hid (List.take_append_drop (y - x) Y')
      have HL2 := Lib.hid (show (Y'.drop (y - x)).length = x by rw [List.length_drop, hy]; omega)
      have HL1 := Lib.hid (show (Y'.take (y - x)).length = y - x by rw [List.length_take, hy]; omega)
      obtain ⟨Y1, hY1⟩ : ∃ Y1, Y'.take (y - x) = Y1 := ⟨_, rfl⟩
      obtain ⟨Y2, hY2⟩ : ∃ Y2, Y'.drop (y - x) = Y2 := ⟨_, rfl⟩
      rw [hY1, hY2] at HSP
      rw [hY2] at HL2
      rw [hY1] at HL1
      obtain ⟨z, hz⟩ : ∃ z, y - x = z := ⟨_, rfl⟩
      rw [hz] at HL1
      have HZ := Lib.hid hz
      have HLT := Lib.hid hlt
      have hsr := HS.out
      rw [← HSP.out] at hsr
      have hcall := swapRange_calls w0 base g n c X' Y2 Y1 P' Q' p (m + z) x f wr HP.out (by rw [HP.out, HXl.out, HL1.out]; omega) HXl.out HL2.out HN.out (by simpa only [List.append_assoc] using hsr)
      obtain ⟨mz, hmz⟩ : ∃ mz, m + z = mz := ⟨_, rfl⟩
      rw [hmz] at hcall
      have HCALL := Lib.hid hcall
      have HW2 := Lib.hid (show wrap64 (wrap64 ((m : Int) + (y : Int)) - (x : Int)) = (mz : Int) by rw [w64 ((m : Int) + (y : Int)) (by omega) (by omega), w64 _ (by omega) (by omega)]; omega)
      have HW3 := Lib.hid (show wrap64 ((y : Int) - (x : Int)) = (z : Int) by rw [w64 _ (by omega) (by omega)]; omega)
      have q1 : ((x : Int) == (y : Int)) = false := beq_eq_false_iff_ne.2 (by omega)
      have q1' : ((x : Int) != (y : Int)) = true := by rw [bne, q1]; rfl
      have q2 : decide ((y : Int) < (x : Int)) = false := decide_eq_false (by omega)
      have q2' : (x : Int) < (y : Int) := by omega
      clear hcall hsr hlen hp hx hy hpx hx0 hn hz hmz hlt hY1 hY2
      have hw := HW.out
      have hw2 := HW2.out
      have hw3 := HW3.out
      go_wp2_with fail
      refine HCALL.out.mono ?_
      rintro e w2 ⟨rfl, hs2⟩
      have HS2 := Lib.hid hs2
      clear hs2
      go_wp2
      go_roundw
      case rel => exact ⟨P', Y2, Y1, X' ++ Q', by rw [HL2.out], by rw [HL1.out]; first | rfl | rw [hw3], by rw [HL2.out]; exact Lib.hid (by have := HPX.out; rw [HXl.out] at this; exact this), Lib.hid (by rw [HL2.out, ← HXl.out]; exact HX.out), Lib.hid (by rw [HL1.out]; have h1 := HZ.out; have h2 := HLT.out; omega), Lib.hid (by rw [← HE.out, ← HSP.out]; simp only [List.append_assoc]), Lib.hid (by have := HS2.out; simpa only [List.append_assoc] using this)⟩
      case measure => first | (rw [hw3]; exact rot_meas2 HZ.out.symm (by have := HX.out; rw [HXl.out] at this; exact this) HLT.out) | exact rot_meas2 HZ.out.symm (by have := HX.out; rw [HXl.out] at this; exact this) HLT.out
    · subst heq
      have q1 : ((x : Int) == (x : Int)) = true := beq_iff_eq.2 rfl
      have hcall := swapRange_calls w0 base g n c X' Y' [] P' Q' p m x f wr HP.out (by rw [HP.out, HXl.out, List.length_nil]; omega) HXl.out HYl.out HN.out (by simpa using HS.out)
      have HCALL := Lib.hid hcall
      clear hcall hlen hp hx hy hpx hx0 hy0 hn
      have hw := HW.out
      go_wp2_with fail
      refine HCALL.out.mono ?_
      rintro e w2 ⟨rfl, hs2⟩
      have HS2 := Lib.hid hs2
      clear hs2
      go_wp2
      go_end0
      exact ⟨rfl, by rw [← HE.out]; simpa using HS2.out⟩
    · have HSP := Lib.hid (List.take_append_drop y X')
      have HL1 := Lib.hid (show (X'.take y).length = y by rw [List.length_take, hx]; omega)
      have HL2 := Lib.hid (show (X'.drop y).length = x - y by rw [List.length_drop, hx])
      obtain ⟨X1, hX1⟩ : ∃ X1, X'.take y = X1 := ⟨_, rfl⟩
      obtain ⟨X2, hX2⟩ : ∃ X2, X'.drop y = X2 := ⟨_, rfl⟩
      rw [hX1, hX2] at HSP
      rw [hX1] at HL1
      rw [hX2] at HL2
      obtain ⟨z, hz⟩ : ∃ z, x - y = z := ⟨_, rfl⟩
      rw [hz] at HL2
      have HZ := Lib.hid hz
      have HGT := Lib.hid hgt
      have hsr := HS.out
      rw [← HSP.out] at hsr
      have hcall := swapRange_calls w0 base g n c X1 Y' X2 P' Q' p m y f wr HP.out (by rw [HP.out, HL1.out, HL2.out]; omega) HL1.out HYl.out HN.out (by simpa only [List.append_assoc] using hsr)
      have HCALL := Lib.hid hcall
      have HW3 := Lib.hid (show wrap64 ((x : Int) - (y : Int)) = (z : Int) by rw [w64 _ (by omega) (by omega)]; omega)
      have HPZ := Lib.hid (show p + y + z = m by omega)
      have q1 : ((x : Int) == (y : Int)) = false := beq_eq_false_iff_ne.2 (by omega)
      have q1' : ((x : Int) != (y : Int)) = true := by rw [bne, q1]; rfl
      have q2 : (y : Int) < (x : Int) := by omega
      clear hcall hsr hlen hp hx hy hpx hx0 hn hz hgt hX1 hX2
      have hw := HW.out
      have hw3 := HW3.out
      go_wp2_with fail
      refine HCALL.out.mono ?_
      rintro e w2 ⟨rfl, hs2⟩
      have HS2 := Lib.hid hs2
      clear hs2
      go_wp2
      go_roundw
      case rel => exact ⟨P' ++ Y', X2, X1, Q', by rw [HL2.out]; first | rfl | rw [hw3], by rw [HL1.out], Lib.hid (by rw [List.length_append, HL2.out, HP.out, HYl.out]; exact HPZ.out), Lib.hid (by rw [HL2.out]; have h1 := HZ.out; have h2 := HGT.out; omega), Lib.hid (by rw [HL1.out, ← HYl.out]; exact HY.out), Lib.hid (by rw [← HE.out, ← HSP.out]; simp only [List.append_assoc]), Lib.hid (by have := HS2.out; simpa only [List.append_assoc] using this)⟩
      case measure => first | (rw [hw3]; exact rot_meas1 HZ.out.symm (by have := HY.out; rw [HYl.out] at this; exact this) HGT.out) | exact rot_meas1 HZ.out.symm (by have := HY.out; rw [HYl.out] at this; exact this) HGT.out
end Go.Proofs.Ytffggkhahambhaa.Tr

namespace Go.Proofs.Ytffggkhahambhaa.Tr
open Go.RowKit Go.Proofs.YtffggkhahambhaaW.PrintWords Go.Proofs.YtffggkhahambhaaW.PrintLast Go.Proofs.YtffggkhahambhaaW.PrintMore Go.Proofs.Ytffggkhahambhaa.Math Go.Proofs.Ytffggkhahambhaa.PAll Go.Proofs.Ytffggkhahambhaa.Stab
set_option linter.unusedVariables false
set_option linter.unusedSimpArgs false
section
variable {P : Program} {ops : Array Oper} {Q : Exit → Act → World → Prop}
/-- A call of a function value: as goes_. -/
theorem goesv_ {oi : Oper} {N : Option Tmp} {a : Act} {w : World} {K : Act → World → Prop} {f : FuncId} {fn : Func} {x : Operand} {cap : Array Value} {as_ : Array Operand} {ts : Array TypeId} (hf : P.funcs[f]? = some fn) (hname : (fn.name == "runtime.NumGoroutine") = false) (hb : fn.body.isSome = true) (args : Array Value)
    (hw : Region.wanted oi (yielded ops a.tmps) = true) (hN : oi.dst = N) (hop : oi.op = .call { callee := .value x, args := as_, argTypes := ts }) (hx : a.eval x = .func (.func f) #[] cap) (hargs : as_.map a.eval ++ cap = args)
    (h : Calls P f args w fun e w' => ∃ v, e = .returned v ∧ K (a.put N v) w') : if Region.wanted oi (yielded ops a.tmps) = true then Oper.wp P oi a w K Q else K (a.put N undef) w := by
  refine call_ f args hw hN ?_ h
  have he := enters_ hf hname hb args w
  unfold execOp
  simp [hop, resolve, Deferred.ofValue, invoke, hargs, hx, he]
end
theorem ins_down (p : Nat) : (intOf (.int .i64 (p : Int))).toNat < (intOf (.int .i64 ((p + 1 : Nat) : Int))).toNat := by
  show ((p : Nat) : Int).toNat < ((p + 1 : Nat) : Int).toNat
  omega
theorem ins_meas {b I : Nat} (h : I < b) : b + 1 - (intOf (.int .i64 ((I + 1 : Nat) : Int))).toNat < b + 1 - (intOf (.int .i64 (I : Int))).toNat := by
  show b + 1 - ((I + 1 : Nat) : Int).toNat < b + 1 - ((I : Nat) : Int).toNat
  omega
/-- What compares, while the row is sorted: bq the query's block. -/
def Cmp (w0 : World) (g bq : Nat) (cf : Sp → Sp → Int) : Prop := ∀ (x y : Sp) (w : World), w0.grownBy w (some g) → Calls Try.prog 27 #[.agg (encS x).toArray, .agg (encS y).toArray, .pointer (some ⟨bq, 0, none⟩)] w fun e w' => e = .returned (.int .i64 (cf x y)) ∧ Below w.heap.size w w'
def ltC (cf : Sp → Sp → Int) (x y : Sp) : Bool := decide (cf x y < 0)
theorem set_set' {P Q : List Sp} {x y : Sp} : ((P ++ x :: y :: Q).set (P.length + 1) x).set P.length y = P ++ y :: x :: Q := by
  rw [List.set_append_right _ _ (by omega), show P.length + 1 - P.length = 1 by omega, List.set_cons_succ, List.set_cons_zero, List.set_append_right _ _ (Nat.le_refl _), Nat.sub_self, List.set_cons_zero]
theorem Sr.ldk {w0 w : World} {base g n c : Nat} {ys : List Sp} (h : Sr w0 w base g n c ys) {i : Nat} {x : Sp} (hx : ys[i]? = some x) {kk : Nat} (hk : kk = 11) (P : Program) : Sem.run P (loadCellsFrom ⟨g, i * kk, none⟩ 0 kk #[]) w = .ok (encS x).toArray w := by subst hk; exact h.ld hx P

set_option maxHeartbeats 8000000 in
set_option maxRecDepth 1000000 in
theorem insertion_calls (w0 : World) (base g n c bq : Nat) (cf : Sp → Sp → Int) (hw : Swo (ltC cf)) (HC : Hid (Cmp w0 g bq cf)) (P X Q : List Sp) (a b : Nat) (w : World) (ha : P.length = a) (hb : a + X.length = b) (hn : n ≤ 1000000) (hS : Sr w0 w base g n c (P ++ X ++ Q)) :
    Calls Try.prog 66 #[.slice (some ⟨g, 0, none⟩) n c, .int .i64 a, .int .i64 b, .func (.func 27) #[] #[.pointer (some ⟨bq, 0, none⟩)]] w fun e w' => e = .returned (.tuple #[]) ∧ ∃ S, S.length = X.length ∧ Stb (ltC cf) X S ∧ Sr w0 w' base g n c (P ++ S ++ Q) := by
  have HWO := Lib.hid hw
  have HN := Lib.hid hn
  have HPa := Lib.hid ha
  have hlen := hS.len
  simp only [List.length_append] at hlen
  have HAB := Lib.hid hb
  have HBN := Lib.hid (show b ≤ 1000000 by omega)
  have HS := Lib.hid (show Sr w0 w base g n c (P ++ X.take 1 ++ X.drop 1 ++ Q) by rw [List.append_assoc P, List.take_append_drop]; exact hS)
  have HS1 := Lib.hid (show Stb (ltC cf) (X.take 1) (X.take 1) by
    cases X with
    | nil => exact Stb.nil _
    | cons x r => exact ⟨List.pairwise_singleton _ _, Kp.refl _ _⟩)
  clear hw hn ha hb hS hlen
  have HA1 := Lib.hid (show wrap64 ((a : Int) + 1) = ((a + 1 : Nat) : Int) by rw [w64 _ (by omega) (by have := HAB.out; have := HBN.out; omega)]; omega)
  have mixed : Try.prog.follows Departure.mixedOrders = true := by kernel_rfl
  go_enter Try.func66, Try.ntmps66
  go_wp2
  go_loopw [8, 9] (fun s _ wr => ∃ (k I : Nat) (S : List Sp), s = .int .i64 I ∧ Hid (I = a + k) ∧ Hid (1 ≤ k) ∧ Hid (k ≤ X.length + 1) ∧ Hid (Stb (ltC cf) (X.take k) S) ∧ Hid (S.length = (X.take k).length) ∧ Hid (Sr w0 wr base g n c (P ++ S ++ X.drop k ++ Q))) (fun s _ _ => b + 1 - (intOf s).toNat)
  case atStart => exact ⟨1, a + 1, X.take 1, by rw [HA1.out], Lib.hid rfl, Lib.hid (Nat.le_refl _), Lib.hid (by omega), HS1, Lib.hid rfl, HS⟩
  case round =>
    clear HS HS1 HA1
    obtain ⟨k, I, S, rfl, HI, HK1, HKL, HST, HSL, HS⟩ := hrel
    by_cases hlt : I < b
    · have hkX : k < X.length := by have := HI.out; have := HAB.out; omega
      obtain ⟨v, hv⟩ : ∃ v, X[k]? = some v := ⟨_, List.getElem?_eq_getElem hkX⟩
      obtain ⟨hvl, hve⟩ := List.getElem?_eq_some_iff.1 hv
      have HTK := Lib.hid (show X.take (k + 1) = X.take k ++ [v] by rw [List.take_succ_eq_append_getElem hvl, hve])
      have hrow : P ++ S ++ X.drop k ++ Q = P ++ S ++ v :: ([] ++ (X.drop (k + 1) ++ Q)) := by
        rw [List.drop_eq_getElem_cons hvl, hve]; simp
      rw [hrow] at HS
      have HPS := Lib.hid (show P.length + S.length = I by rw [HPa.out, HSL.out, List.length_take, HI.out]; omega)
      have HLT := Lib.hid hlt
      have HKX := Lib.hid hkX
      have HWI := Lib.hid (show wrap64 ((I : Int) + 1) = ((I + 1 : Nat) : Int) by rw [w64 _ (by omega) (by have := HBN.out; omega)]; omega)
      obtain ⟨R, hR⟩ : ∃ R, X.drop (k + 1) ++ Q = R := ⟨_, rfl⟩
      have HRR := Lib.hid hR
      rw [hR] at HS
      have q : (I : Int) < (b : Int) := by omega
      clear hlt hkX hv hvl hve hrow hR
      go_wp2
      clear q
      go_loopw [9] (fun t wr => ∃ (j : Nat) (A B : List Sp), t = .int .i64 j ∧ Hid (P.length + A.length = j) ∧ Hid (j ≤ I) ∧ Hid (A ++ B = S) ∧ Hid (∀ x ∈ B, ltC cf v x = true) ∧ Hid (Sr w0 wr base g n c (P ++ A ++ v :: (B ++ R)))) (fun t _ => (intOf t).toNat)
      case atStart => exact ⟨I, S, [], rfl, HPS, Lib.hid (Nat.le_refl _), Lib.hid (List.append_nil S), Lib.hid (fun x hx => by cases hx), HS⟩
      case round =>
        clear HS HPS
        obtain ⟨j, A, B, rfl, HJ, HJI, HAB2, HBV, HS⟩ := hrel
        have OUT : Hid ((∀ x ∈ A, ltC cf v x = false) → ∀ wz, Sr w0 wz base g n c (P ++ A ++ v :: (B ++ R)) → Stb (ltC cf) (X.take (k + 1)) (A ++ v :: B) ∧ (A ++ v :: B).length = (X.take (k + 1)).length ∧ Sr w0 wz base g n c (P ++ (A ++ v :: B) ++ X.drop (k + 1) ++ Q)) := by
          show _ → _
          intro hA wz hz
          refine ⟨?_, ?_, ?_⟩
          · rw [HTK.out]
            have h := HST.out
            rw [← HAB2.out] at h
            exact Stb.add HWO.out h hA HBV.out
          · have h1 := HSL.out
            rw [← HAB2.out, List.length_append] at h1
            rw [HTK.out, List.length_append, List.length_append, List.length_cons, List.length_singleton]
            omega
          · have e : P ++ (A ++ v :: B) ++ X.drop (k + 1) ++ Q = P ++ A ++ v :: (B ++ R) := by rw [← HRR.out]; simp only [List.append_assoc, List.cons_append]
            rw [e]; exact hz
        rcases List.eq_nil_or_concat A with rfl | ⟨A, u, rfl⟩
        · have hja : j = a := by have := HJ.out; rw [List.length_nil] at this; have := HPa.out; omega
          have q1 : decide ((a : Int) < (j : Int)) = false := decide_eq_false (by omega)
          have q1n : decide (a < j) = false := decide_eq_false (by omega)
          have HO := Lib.hid (OUT.out (fun x hx => by cases hx) wr.drew HS.out.drew)
          clear hja
          go_upto_region 4 with (fail)
          refine start_ (n := 17) (S := fun w' => True) (ds := []) #[false, false, false, false, false, false, false, false, false, false, false, false, false, false, false, false, false] (by kernel_rfl) rfl rfl trivial (fun hHeld => ?_)
          generalize hwe : wr.drew = w5 at HO hHeld ⊢
          clear hwe
          refine pure_ (i := 0) (N := some 18) (v := ?_) (a' := ?_) #[true, false, false, false, false, false, false, false, false, false, false, false, false, false, false, false, false] rfl rfl (by kernel_rfl) (fun _ _ _ h => h) (Or.inl ⟨by rfl, ?_⟩) ?_ ?_
          rotate_left
          · intro w'
            go_simp
            with_reducible rfl
          rotate_left
          · simp only [Act.put, List.setIfInBounds_toArray, List.set_cons_zero, List.set_cons_succ, i64_w, i32_w]
            rfl
          refine pure_ (i := 1) (N := some 19) (v := ?_) (a' := ?_) #[true, true, false, false, false, false, false, false, false, false, false, false, false, false, false, false, false] rfl rfl (by kernel_rfl) (fun _ _ _ h => h) (Or.inl ⟨by rfl, ?_⟩) ?_ ?_
          rotate_left
          · intro w'
            go_simp
            with_reducible rfl
          rotate_left
          · simp only [Act.put, List.setIfInBounds_toArray, List.set_cons_zero, List.set_cons_succ, i64_w, i32_w]
            rfl
          refine pure_ (i := 2) (N := some 20) (v := ?_) (a' := ?_) #[true, true, true, false, false, false, false, false, false, false, false, false, false, false, false, false, false] rfl rfl (by kernel_rfl) (fun _ _ _ h => h) (Or.inl ⟨by rfl, ?_⟩) ?_ ?_
          rotate_left
          · intro w'
            go_simp
            with_reducible rfl
          rotate_left
          · simp only [Act.put, List.setIfInBounds_toArray, List.set_cons_zero, List.set_cons_succ, i64_w, i32_w]
            rfl
          refine pure_ (i := 3) (N := some 21) (v := ?_) (a' := ?_) #[true, true, true, true, false, false, false, false, false, false, false, false, false, false, false, false, false] rfl rfl (by kernel_rfl) (fun _ _ _ h => h) (Or.inl ⟨by rfl, ?_⟩) ?_ ?_
          rotate_left
          · intro w'
            go_simp
            with_reducible rfl
          rotate_left
          · simp only [Act.put, List.setIfInBounds_toArray, List.set_cons_zero, List.set_cons_succ, i64_w, i32_w]
            rfl
          refine pure_ (i := 4) (N := some 22) (v := undef) (a' := ?_) #[true, true, true, true, true, false, false, false, false, false, false, false, false, false, false, false, false] rfl rfl (by kernel_rfl) (fun _ _ _ h => h) (Or.inr ⟨by rfl, rfl⟩) ?_ ?_
          rotate_left
          · simp only [Act.put, List.setIfInBounds_toArray, List.set_cons_zero, List.set_cons_succ, i64_w, i32_w]
            rfl
          refine pure_ (i := 5) (N := some 23) (v := undef) (a' := ?_) #[true, true, true, true, true, true, false, false, false, false, false, false, false, false, false, false, false] rfl rfl (by kernel_rfl) (fun _ _ _ h => h) (Or.inr ⟨by rfl, rfl⟩) ?_ ?_
          rotate_left
          · simp only [Act.put, List.setIfInBounds_toArray, List.set_cons_zero, List.set_cons_succ, i64_w, i32_w]
            rfl
          refine pure_ (i := 6) (N := some 24) (v := undef) (a' := ?_) #[true, true, true, true, true, true, true, false, false, false, false, false, false, false, false, false, false] rfl rfl (by kernel_rfl) (fun _ _ _ h => h) (Or.inr ⟨by rfl, rfl⟩) ?_ ?_
          rotate_left
          · simp only [Act.put, List.setIfInBounds_toArray, List.set_cons_zero, List.set_cons_succ, i64_w, i32_w]
            rfl
          refine pure_ (i := 7) (N := some 25) (v := undef) (a' := ?_) #[true, true, true, true, true, true, true, true, false, false, false, false, false, false, false, false, false] rfl rfl (by kernel_rfl) (fun _ _ _ h => h) (Or.inr ⟨by rfl, rfl⟩) ?_ ?_
          rotate_left
          · simp only [Act.put, List.setIfInBounds_toArray, List.set_cons_zero, List.set_cons_succ, i64_w, i32_w]
            rfl
          refine pure_ (i := 8) (N := some 26) (v := undef) (a' := ?_) #[true, true, true, true, true, true, true, true, true, false, false, false, false, false, false, false, false] rfl rfl (by kernel_rfl) (fun _ _ _ h => h) (Or.inr ⟨by rfl, rfl⟩) ?_ ?_
          rotate_left
          · simp only [Act.put, List.setIfInBounds_toArray, List.set_cons_zero, List.set_cons_succ, i64_w, i32_w]
            rfl
          refine pure_ (i := 9) (N := some 27) (v := undef) (a' := ?_) #[true, true, true, true, true, true, true, true, true, true, false, false, false, false, false, false, false] rfl rfl (by kernel_rfl) (fun _ _ _ h => h) (Or.inr ⟨by rfl, rfl⟩) ?_ ?_
          rotate_left
          · simp only [Act.put, List.setIfInBounds_toArray, List.set_cons_zero, List.set_cons_succ, i64_w, i32_w]
            rfl
          refine pure_ (i := 10) (N := some 28) (v := undef) (a' := ?_) #[true, true, true, true, true, true, true, true, true, true, true, false, false, false, false, false, false] rfl rfl (by kernel_rfl) (fun _ _ _ h => h) (Or.inr ⟨by rfl, rfl⟩) ?_ ?_
          rotate_left
          · simp only [Act.put, List.setIfInBounds_toArray, List.set_cons_zero, List.set_cons_succ, i64_w, i32_w]
            rfl
          refine pure_ (i := 11) (N := some 29) (v := undef) (a' := ?_) #[true, true, true, true, true, true, true, true, true, true, true, true, false, false, false, false, false] rfl rfl (by kernel_rfl) (fun _ _ _ h => h) (Or.inr ⟨by rfl, rfl⟩) ?_ ?_
          rotate_left
          · simp only [Act.put, List.setIfInBounds_toArray, List.set_cons_zero, List.set_cons_succ, i64_w, i32_w]
            rfl
          refine pure_ (i := 12) (N := some 30) (v := undef) (a' := ?_) #[true, true, true, true, true, true, true, true, true, true, true, true, true, false, false, false, false] rfl rfl (by kernel_rfl) (fun _ _ _ h => h) (Or.inr ⟨by rfl, rfl⟩) ?_ ?_
          rotate_left
          · simp only [Act.put, List.setIfInBounds_toArray, List.set_cons_zero, List.set_cons_succ, i64_w, i32_w]
            rfl
          refine pure_ (i := 13) (N := some 31) (v := undef) (a' := ?_) #[true, true, true, true, true, true, true, true, true, true, true, true, true, true, false, false, false] rfl rfl (by kernel_rfl) (fun _ _ _ h => h) (Or.inr ⟨by rfl, rfl⟩) ?_ ?_
          rotate_left
          · simp only [Act.put, List.setIfInBounds_toArray, List.set_cons_zero, List.set_cons_succ, i64_w, i32_w]
            rfl
          refine pure_ (i := 14) (N := some 32) (v := undef) (a' := ?_) #[true, true, true, true, true, true, true, true, true, true, true, true, true, true, true, false, false] rfl rfl (by kernel_rfl) (fun _ _ _ h => h) (Or.inr ⟨by rfl, rfl⟩) ?_ ?_
          rotate_left
          · simp only [Act.put, List.setIfInBounds_toArray, List.set_cons_zero, List.set_cons_succ, i64_w, i32_w]
            rfl
          refine pure_ (i := 15) (N := some 33) (v := undef) (a' := ?_) #[true, true, true, true, true, true, true, true, true, true, true, true, true, true, true, true, false] rfl rfl (by kernel_rfl) (fun _ _ _ h => h) (Or.inr ⟨by rfl, rfl⟩) ?_ ?_
          rotate_left
          · simp only [Act.put, List.setIfInBounds_toArray, List.set_cons_zero, List.set_cons_succ, i64_w, i32_w]
            rfl
          refine pure_ (i := 16) (N := some 34) (v := ?_) (a' := ?_) #[true, true, true, true, true, true, true, true, true, true, true, true, true, true, true, true, true] rfl rfl (by kernel_rfl) (fun _ _ _ h => h) (Or.inl ⟨by rfl, ?_⟩) ?_ ?_
          rotate_left
          · intro w'
            go_simp
            with_reducible rfl
          rotate_left
          · simp only [Act.put, List.setIfInBounds_toArray, List.set_cons_zero, List.set_cons_succ, i64_w, i32_w]
            rfl
          refine done_ (by kernel_rfl) ?_
          go_wp2
          go_roundw
          case rel => exact ⟨k + 1, I + 1, _, by rw [HWI.out], Lib.hid (by have := HI.out; omega), Lib.hid (by omega), Lib.hid (by have := HKX.out; omega), Lib.hid HO.out.1, Lib.hid HO.out.2.1, Lib.hid HO.out.2.2⟩
          case measure => rw [HWI.out]; exact ins_meas HLT.out
        · rw [List.concat_eq_append] at HJ HAB2 HS OUT
          have hjl := HJ.out
          rw [List.length_append, List.length_singleton] at hjl
          obtain ⟨p, hp⟩ : ∃ p, P.length + A.length = p := ⟨_, rfl⟩
          have hjp : j = p + 1 := by omega
          have hap : a ≤ p := by have := HPa.out; omega
          have q1 : (a : Int) < (j : Int) := by omega
          have q1n : a < j := by omega
          have hrow : P ++ (A ++ [u]) ++ v :: (B ++ R) = (P ++ A) ++ u :: v :: (B ++ R) := by simp only [List.append_assoc, List.cons_append, List.nil_append]
          rw [hrow] at HS
          have hPl : (P ++ A).length = p := by rw [List.length_append]; exact hp
          have hgp : ((P ++ A) ++ u :: v :: (B ++ R))[p]? = some u := by rw [← hPl, List.getElem?_append_right (Nat.le_refl _), Nat.sub_self]; rfl
          have hgj : ((P ++ A) ++ u :: v :: (B ++ R))[j]? = some v := by rw [hjp, ← hPl, List.getElem?_append_right (by omega), show (P ++ A).length + 1 - (P ++ A).length = 1 by omega]; rfl
          have hsw := set_set' (P := P ++ A) (Q := B ++ R) (x := u) (y := v)
          rw [hPl] at hsw
          have hn2 := HS.out.len
          have hjn : j < n := by rw [hn2]; exact (List.getElem?_eq_some_iff.1 hgj).1
          have HGP := Lib.hid hgp
          have HGJ := Lib.hid hgj
          have HSW := Lib.hid hsw
          have HJP := Lib.hid hjp
          have HPJ := Lib.hid (show P.length + A.length = p from hp)
          have b1 : (j : Int) < (n : Int) := by omega
          have b2 : (p : Int) < (n : Int) := by omega
          have HJN := Lib.hid hjn
          have HWJ := Lib.hid (show wrap64 ((j : Int) - 1) = (p : Int) by rw [w64 _ (by omega) (by have := HN.out; omega)]; omega)
          obtain ⟨kk, hkk⟩ : ∃ kk : Nat, kk = 11 := ⟨_, rfl⟩
          have HKK := Lib.hid hkk
          have zE := Try.sizeOf34
          simp only [← hkk] at zE
          have aE := Try.isAgg34
          have la := HS.out.drew.ldk hgj hkk Try.prog
          have lb := HS.out.drew.ldk hgp hkk Try.prog
          obtain ⟨cv, hcv⟩ : ∃ cv, encS v = cv := ⟨_, rfl⟩
          obtain ⟨cu, hcu⟩ : ∃ cu, encS u = cu := ⟨_, rfl⟩
          have na : cv.length = kk := by rw [← hcv, hkk]; rfl
          have nb : cu.length = kk := by rw [← hcu, hkk]; rfl
          rw [hcv] at la
          rw [hcu] at lb
          have HCV := Lib.hid hcv
          have HCU := Lib.hid hcu
          have aX : (⟨g, 0, none⟩ : Addr).add (j * kk) = ⟨g, j * kk, none⟩ := add_at _ _
          have aY : (⟨g, 0, none⟩ : Addr).add (p * kk) = ⟨g, p * kk, none⟩ := add_at _ _
          have hwj := HWJ.out
          have HSd := Lib.hid HS.out.drew
          clear hjl hp hjp hap hrow hPl hgp hgj hsw hn2 hjn hkk hcv hcu
          go_upto_region 4 with (fail)
          refine start_ (n := 17) (S := fun w' => Sem.run Try.prog (loadCellsFrom ⟨g, j * kk, none⟩ 0 kk #[]) w' = .ok cv.toArray w' ∧ Sem.run Try.prog (loadCellsFrom ⟨g, p * kk, none⟩ 0 kk #[]) w' = .ok cu.toArray w') (ds := []) #[false, false, false, false, false, false, false, false, false, false, false, false, false, false, false, false, false] (by kernel_rfl) rfl rfl ⟨la, lb⟩ (fun hHeld => ?_)
          generalize hwe : wr.drew = w5 at la lb HSd hHeld ⊢
          clear hwe la lb
          refine pure_ (i := 0) (N := some 18) (v := ?_) (a' := ?_) #[true, false, false, false, false, false, false, false, false, false, false, false, false, false, false, false, false] rfl rfl (by kernel_rfl) (fun _ _ _ h => h) (Or.inl ⟨by rfl, ?_⟩) ?_ ?_
          rotate_left
          · intro w'
            go_simp
            with_reducible rfl
          rotate_left
          · simp only [Act.put, List.setIfInBounds_toArray, List.set_cons_zero, List.set_cons_succ, i64_w, i32_w]
            rfl
          refine pure_ (i := 1) (N := some 19) (v := ?_) (a' := ?_) #[true, true, false, false, false, false, false, false, false, false, false, false, false, false, false, false, false] rfl rfl (by kernel_rfl) (fun _ _ _ h => h) (Or.inl ⟨by rfl, ?_⟩) ?_ ?_
          rotate_left
          · intro w'
            go_simp
            with_reducible rfl
          rotate_left
          · simp only [Act.put, List.setIfInBounds_toArray, List.set_cons_zero, List.set_cons_succ, i64_w, i32_w]
            rfl
          refine pure_ (i := 2) (N := some 20) (v := ?_) (a' := ?_) #[true, true, true, false, false, false, false, false, false, false, false, false, false, false, false, false, false] rfl rfl (by kernel_rfl) (fun _ _ _ h => h) (Or.inl ⟨by rfl, ?_⟩) ?_ ?_
          rotate_left
          · intro w'
            go_simp
            with_reducible rfl
          rotate_left
          · simp only [Act.put, List.setIfInBounds_toArray, List.set_cons_zero, List.set_cons_succ, i64_w, i32_w]
            rfl
          refine pure_ (i := 3) (N := some 21) (v := ?_) (a' := ?_) #[true, true, true, true, false, false, false, false, false, false, false, false, false, false, false, false, false] rfl rfl (by kernel_rfl) (fun _ _ _ h => h) (Or.inl ⟨by rfl, ?_⟩) ?_ ?_
          rotate_left
          · intro w'
            go_simp
            with_reducible rfl
          rotate_left
          · simp only [Act.put, List.setIfInBounds_toArray, List.set_cons_zero, List.set_cons_succ, i64_w, i32_w]
            rfl
          refine pure_ (i := 4) (N := some 22) (v := ?_) (a' := ?_) #[true, true, true, true, true, false, false, false, false, false, false, false, false, false, false, false, false] rfl rfl (by kernel_rfl) (fun _ _ _ h => h) (Or.inl ⟨by rfl, ?_⟩) ?_ ?_
          rotate_left
          · intro w'
            go_simp
            with_reducible rfl
          rotate_left
          · simp only [Act.put, List.setIfInBounds_toArray, List.set_cons_zero, List.set_cons_succ, i64_w, i32_w]
            rfl
          refine pure_ (i := 5) (N := some 23) (v := ?_) (a' := ?_) #[true, true, true, true, true, true, false, false, false, false, false, false, false, false, false, false, false] rfl rfl (by kernel_rfl) (fun _ _ _ h => h) (Or.inl ⟨by rfl, ?_⟩) ?_ ?_
          rotate_left
          · intro w'
            go_simp
            with_reducible rfl
          rotate_left
          · simp only [Act.put, List.setIfInBounds_toArray, List.set_cons_zero, List.set_cons_succ, i64_w, i32_w]
            rfl
          refine pure_ (i := 6) (N := some 24) (v := ?_) (a' := ?_) #[true, true, true, true, true, true, true, false, false, false, false, false, false, false, false, false, false] rfl rfl (by kernel_rfl) (fun _ _ _ h => h) (Or.inl ⟨by rfl, ?_⟩) ?_ ?_
          rotate_left
          · intro w'
            go_simp
            with_reducible rfl
          rotate_left
          · simp only [Act.put, List.setIfInBounds_toArray, List.set_cons_zero, List.set_cons_succ, i64_w, i32_w]
            rfl
          refine pure_ (i := 7) (N := some 25) (v := ?_) (a' := ?_) #[true, true, true, true, true, true, true, true, false, false, false, false, false, false, false, false, false] rfl rfl (by kernel_rfl) (fun _ _ _ h => h) (Or.inl ⟨by rfl, ?_⟩) ?_ ?_
          rotate_left
          · intro w'
            go_simp
            with_reducible rfl
          rotate_left
          · simp only [Act.put, List.setIfInBounds_toArray, List.set_cons_zero, List.set_cons_succ, i64_w, i32_w]
            rfl
          refine pure_ (i := 9) (N := some 27) (v := ?_) (a' := ?_) #[true, true, true, true, true, true, true, true, false, true, false, false, false, false, false, false, false] rfl rfl (by kernel_rfl) (fun _ _ _ h => h) (Or.inl ⟨by rfl, ?_⟩) ?_ ?_
          rotate_left
          · intro w'
            go_simp
            with_reducible rfl
          rotate_left
          · simp only [Act.put, List.setIfInBounds_toArray, List.set_cons_zero, List.set_cons_succ, i64_w, i32_w]
            rfl
          refine pure_ (i := 10) (N := some 28) (v := ?_) (a' := ?_) #[true, true, true, true, true, true, true, true, false, true, true, false, false, false, false, false, false] rfl rfl (by kernel_rfl) (fun _ _ _ h => h) (Or.inl ⟨by rfl, ?_⟩) ?_ ?_
          rotate_left
          · intro w'
            go_simp
            with_reducible rfl
          rotate_left
          · simp only [Act.put, List.setIfInBounds_toArray, List.set_cons_zero, List.set_cons_succ, i64_w, i32_w]
            rfl
          refine pure_ (i := 11) (N := some 29) (v := ?_) (a' := ?_) #[true, true, true, true, true, true, true, true, false, true, true, true, false, false, false, false, false] rfl rfl (by kernel_rfl) (fun _ _ _ h => h) (Or.inl ⟨by rfl, ?_⟩) ?_ ?_
          rotate_left
          · intro w'
            go_simp
            with_reducible rfl
          rotate_left
          · simp only [Act.put, List.setIfInBounds_toArray, List.set_cons_zero, List.set_cons_succ, i64_w, i32_w]
            rfl
          refine pure_ (i := 12) (N := some 30) (v := ?_) (a' := ?_) #[true, true, true, true, true, true, true, true, false, true, true, true, true, false, false, false, false] rfl rfl (by kernel_rfl) (fun _ _ _ h => h) (Or.inl ⟨by rfl, ?_⟩) ?_ ?_
          rotate_left
          · intro w'
            go_simp
            with_reducible rfl
          rotate_left
          · simp only [Act.put, List.setIfInBounds_toArray, List.set_cons_zero, List.set_cons_succ, i64_w, i32_w]
            rfl
          refine take_ (i := 8) (N := some 26) (v := ?_) (a' := ?_) #[true, true, true, true, true, true, true, true, true, true, true, true, true, false, false, false, false] rfl rfl (by kernel_rfl) (fun _ _ _ h => h) (Or.inl ⟨by rfl, ?_⟩) hHeld ?_ ?_
          rotate_left
          · rintro w' ⟨s0, s1⟩
            go_simp
            with_reducible rfl
          rotate_left
          · simp only [Act.put, List.setIfInBounds_toArray, List.set_cons_zero, List.set_cons_succ, i64_w, i32_w]
            rfl
          refine take_ (i := 13) (N := some 31) (v := ?_) (a' := ?_) #[true, true, true, true, true, true, true, true, true, true, true, true, true, true, false, false, false] rfl rfl (by kernel_rfl) (fun _ _ _ h => h) (Or.inl ⟨by rfl, ?_⟩) hHeld ?_ ?_
          rotate_left
          · rintro w' ⟨s0, s1⟩
            go_simp
            with_reducible rfl
          rotate_left
          · simp only [Act.put, List.setIfInBounds_toArray, List.set_cons_zero, List.set_cons_succ, i64_w, i32_w]
            rfl
          refine one_ (i := 14) (N := some 32) #[true, true, true, true, true, true, true, true, true, true, true, true, true, true, true, false, false] rfl rfl (by kernel_rfl) (by decide) (fun K hK => ?_)
          have hcm := HC.out v u w5 HSd.out.gr
          rw [HCV.out, HCU.out] at hcm
          refine goesv_ Try.func27 (by kernel_rfl) rfl #[.agg cv.toArray, .agg cu.toArray, .pointer (some ⟨bq, 0, none⟩)] (by rfl) rfl rfl (by rfl) (by simp only [List.map_toArray, List.map_cons, List.map_nil]; rfl) ?_
          with_reducible refine (hcm).mono ?_
          rintro ee w6 ⟨rfl, hb⟩
          refine ⟨_, rfl, ?_⟩
          have HS6 := Lib.hid (HSd.out.next hb)
          clear hb hcm
          have la := HS6.out.ldk HGJ.out HKK.out Try.prog
          have lb := HS6.out.ldk HGP.out HKK.out Try.prog
          rw [HCV.out] at la
          rw [HCU.out] at lb
          refine hK.out _ _ ⟨la, lb⟩ (fun hHeld => ?_)
          clear hK K
          refine norm_ (a' := ?_) ?_ ?_
          rotate_left
          · show Act.put _ (some 32) _ = _
            simp only [Act.put, List.setIfInBounds_toArray, List.set_cons_zero, List.set_cons_succ, i64_w, i32_w]
            rfl
          refine pure_ (i := 15) (N := some 33) (v := ?_) (a' := ?_) #[true, true, true, true, true, true, true, true, true, true, true, true, true, true, true, true, false] rfl rfl (by kernel_rfl) (fun _ _ _ h => h) (Or.inl ⟨by rfl, ?_⟩) ?_ ?_
          rotate_left
          · intro w'
            go_simp
            with_reducible rfl
          rotate_left
          · simp only [Act.put, List.setIfInBounds_toArray, List.set_cons_zero, List.set_cons_succ, i64_w, i32_w]
            rfl
          refine pure_ (i := 16) (N := some 34) (v := ?_) (a' := ?_) #[true, true, true, true, true, true, true, true, true, true, true, true, true, true, true, true, true] rfl rfl (by kernel_rfl) (fun _ _ _ h => h) (Or.inl ⟨by rfl, ?_⟩) ?_ ?_
          rotate_left
          · intro w'
            go_simp
            with_reducible rfl
          rotate_left
          · simp only [Act.put, List.setIfInBounds_toArray, List.set_cons_zero, List.set_cons_succ, i64_w, i32_w]
            rfl
          refine done_ (by kernel_rfl) ?_
          clear la lb
          by_cases hr : cf v u < 0
          · have e1 : decide (cf v u < 0) = true := decide_eq_true hr
            have HLV := Lib.hid (show ltC cf v u = true from decide_eq_true hr)
            have hlj := (List.getElem?_eq_some_iff.1 HGJ.out).1
            have hlp := (List.getElem?_eq_some_iff.1 HGP.out).1
            have HSe := HS6.out.drew
            have HSx := HSe.put hlj u
            have HSy := HSx.put (i := p) (by rw [List.length_set]; exact hlp) v
            have hsw := HSW.out
            rw [← HJP.out] at hsw
            rw [hsw] at HSy
            have HSZ := Lib.hid HSy
            have la := HSe.ldk HGJ.out HKK.out Try.prog
            have lb := HSe.ldk HGP.out HKK.out Try.prog
            have sa := HSe.st hlj u Try.prog
            have sb := HSx.st (i := p) (by rw [List.length_set]; exact hlp) v Try.prog
            rw [HCV.out] at la sb HSZ
            rw [HCU.out] at lb sa HSZ
            rw [HCU.out] at sb
            rw [← HKK.out] at sa sb HSZ
            have e2 : ((j : Int)).toNat = j := by omega
            have p2 : (0 : Int) ≤ (j : Int) := by omega
            have r2 : IntKind.i64.wrap ((j : Int)) = (j : Int) := by rw [IntKind.wrap_i64]; have := HJN.out; have := HN.out; omega
            have e3 : ((p : Int)).toNat = p := by omega
            have p3 : (0 : Int) ≤ (p : Int) := by omega
            have r3 : IntKind.i64.wrap ((p : Int)) = (p : Int) := by rw [IntKind.wrap_i64]; have := HJN.out; have := HN.out; have := HJP.out; omega
            have hwj := HWJ.out
            clear hlj hlp HSe HSx HSy hsw
            go_upto_region 6 with (fail)
            go_big_region_o
            clear la lb sa sb
            generalize (w6.drew.setCells g (j * kk) cu).setCells g (p * kk) cv = w7 at HSZ ⊢
            go_wp2
            go_roundw
            case rel => exact ⟨p, A, u :: B, by rw [HWJ.out], HPJ, Lib.hid (by have := HJP.out; have := HJI.out; omega), Lib.hid (by rw [← HAB2.out]; simp), Lib.hid (fun x hx => (List.mem_cons.1 hx).elim (fun e => by rw [e]; exact HLV.out) (HBV.out x)), Lib.hid (by have := HSZ.out; simpa only [List.append_assoc, List.cons_append] using this)⟩
            case measure => rw [HWJ.out, HJP.out]; exact ins_down p
          · have e1 : decide (cf v u < 0) = false := decide_eq_false hr
            have hr2 : 0 ≤ cf v u := by omega
            have HLV := Lib.hid (show ltC cf v u = false from decide_eq_false hr)
            have HALL := Lib.hid (show ∀ x ∈ A ++ [u], ltC cf v x = false from all_le HWO.out (by have h := HST.out.srt; rw [← HAB2.out] at h; exact (sd_app.1 h).1) HLV.out)
            have HO := Lib.hid (OUT.out HALL.out w6 (by have h := HS6.out; rw [show (P ++ A) ++ u :: v :: (B ++ R) = P ++ (A ++ [u]) ++ v :: (B ++ R) by simp only [List.append_assoc, List.cons_append, List.nil_append]] at h; exact h))
            clear hr
            go_wp2
            go_roundw
            case rel => exact ⟨k + 1, I + 1, A ++ [u] ++ v :: B, by rw [HWI.out], Lib.hid (by have := HI.out; omega), Lib.hid (by omega), Lib.hid (by have := HKX.out; omega), Lib.hid HO.out.1, Lib.hid HO.out.2.1, Lib.hid HO.out.2.2⟩
            case measure => rw [HWI.out]; exact ins_meas HLT.out
    · have q : decide ((I : Int) < (b : Int)) = false := decide_eq_false (by omega)
      have qn : decide (I < b) = false := decide_eq_false hlt
      have HGE := Lib.hid (show X.length ≤ k by have := HI.out; have := HAB.out; omega)
      clear hlt
      go_wp2
      go_end0
      refine ⟨rfl, S, ?_, ?_, ?_⟩
      · rw [HSL.out, List.take_of_length_le HGE.out]
      · have h := HST.out
        rw [List.take_of_length_le HGE.out] at h
        exact h
      · have h := HS.out
        rw [List.drop_eq_nil_of_le HGE.out, List.append_nil] at h
        exact h
end Go.Proofs.Ytffggkhahambhaa.Tr

namespace Go.Proofs.Ytffggkhahambhaa.Stab
set_option linter.unusedVariables false
variable {α : Type} {lt : α → α → Bool}
/-- Sorted in blocks of s; the last one may be shorter. -/
inductive Lv (lt : α → α → Bool) (s : Nat) : List α → List α → Prop
  | last (A S : List α) : A.length ≤ s → S.length = A.length → Stb lt A S → Lv lt s A S
  | cons (A S xs ys : List α) : A.length = s → S.length = s → Stb lt A S → Lv lt s xs ys → Lv lt s (A ++ xs) (S ++ ys)
/-- .. all blocks whole. -/
inductive Full (lt : α → α → Bool) (s : Nat) : List α → List α → Prop
  | nil : Full lt s [] []
  | cons (A S xs ys : List α) : A.length = s → S.length = s → Stb lt A S → Full lt s xs ys → Full lt s (A ++ xs) (S ++ ys)
theorem Full.snoc {s : Nat} {xs ys A S : List α} (h : Full lt s xs ys) (hA : A.length = s) (hS : S.length = s) (hst : Stb lt A S) : Full lt s (xs ++ A) (ys ++ S) := by
  induction h with
  | nil => have := Full.cons A S [] [] hA hS hst Full.nil; simpa using this
  | cons B T us vs h1 h2 h3 _ ih => rw [List.append_assoc, List.append_assoc]; exact Full.cons B T _ _ h1 h2 h3 ih
theorem Full.app {s : Nat} {xs ys us vs : List α} (h : Full lt s xs ys) (g : Lv lt s us vs) : Lv lt s (xs ++ us) (ys ++ vs) := by
  induction h with
  | nil => exact g
  | cons B T cs bs h1 h2 h3 _ ih => rw [List.append_assoc, List.append_assoc]; exact Lv.cons B T _ _ h1 h2 h3 ih
theorem Lv.len {s : Nat} {xs ys : List α} (h : Lv lt s xs ys) : ys.length = xs.length := by
  induction h with
  | last A S _ h _ => exact h
  | cons A S xs ys h1 h2 _ _ ih => rw [List.length_append, List.length_append, ih, h1, h2]
theorem Full.len {s : Nat} {xs ys : List α} (h : Full lt s xs ys) : ys.length = xs.length := by
  induction h with
  | nil => rfl
  | cons A S xs ys h1 h2 _ _ ih => rw [List.length_append, List.length_append, ih, h1, h2]
/-- No longer than a block: sorted. -/
theorem Lv.one {s : Nat} {xs ys : List α} (h : Lv lt s xs ys) (hl : ys.length ≤ s) : Stb lt xs ys := by
  cases h with
  | last _ _ _ _ h => exact h
  | cons A S us vs h1 h2 h3 h4 =>
    have hv : vs = [] := List.eq_nil_of_length_eq_zero (by rw [List.length_append] at hl; omega)
    subst hv
    have hu : us = [] := List.eq_nil_of_length_eq_zero (by rw [← h4.len]; rfl)
    subst hu
    simpa using h3
/-- Two blocks at the front. -/
theorem Lv.two {s : Nat} {xs ys : List α} (h : Lv lt s xs ys) (hs : 0 < s) (hl : 2 * s ≤ ys.length) : ∃ A1 A2 xr S1 S2 r, xs = A1 ++ A2 ++ xr ∧ ys = S1 ++ S2 ++ r ∧ A1.length = s ∧ A2.length = s ∧ S1.length = s ∧ S2.length = s ∧ Stb lt A1 S1 ∧ Stb lt A2 S2 ∧ Lv lt s xr r := by
  cases h with
  | last A S h1 h2 h3 => omega
  | cons A S us vs h1 h2 h3 h4 =>
    rw [List.length_append] at hl
    cases h4 with
    | last _ _ g1 g2 g3 => exact ⟨A, us, [], S, vs, [], by simp, by simp, h1, by omega, h2, by omega, h3, g3, .last [] [] (Nat.zero_le _) rfl (Stb.nil lt)⟩
    | cons B T cs bs g1 g2 g3 g4 => exact ⟨A, B, cs, S, T, bs, by simp, by simp, h1, g1, h2, g2, h3, g3, g4⟩
/-- A block and a shorter one. -/
theorem Lv.oneAnd {s : Nat} {xs ys : List α} (h : Lv lt s xs ys) (hl : s < ys.length) (hl2 : ys.length < 2 * s) : ∃ A1 A2 S1 S2, xs = A1 ++ A2 ∧ ys = S1 ++ S2 ∧ S1.length = s ∧ A1.length = s ∧ S2.length = A2.length ∧ 0 < S2.length ∧ Stb lt A1 S1 ∧ Stb lt A2 S2 := by
  cases h with
  | last A S h1 h2 h3 => omega
  | cons A S us vs h1 h2 h3 h4 =>
    rw [List.length_append] at hl hl2
    exact ⟨A, us, S, vs, rfl, rfl, h2, h1, h4.len, by omega, h3, h4.one (by omega)⟩
theorem Mg.of {A1 A2 S1 S2 S : List α} (h : Mg lt S1 S2 S) (h1 : Stb lt A1 S1) (h2 : Stb lt A2 S2) : Stb lt (A1 ++ A2) S := ⟨h.stb.srt, (h1.keep.app h2.keep).trans h.stb.keep⟩
end Go.Proofs.Ytffggkhahambhaa.Stab

namespace Go.Proofs.Ytffggkhahambhaa.Runes
open Go.RowKit Go.Proofs.Ytffggkhahambhaa.PAll Go.Proofs.YtffggkhahambhaaW.PrintWords Go.Proofs.YtffggkhahambhaaW.PrintLast Go.Proofs.YtffggkhahambhaaW.PrintMore Go.Proofs.Ytffggkhahambhaa.Math
set_option linter.unusedVariables false

theorem bt_nb (s : ByteArray) (i : Nat) (h : i < s.size) : bt s (i : Int) = (nb s i : Int) := by
  unfold bt nb
  rw [dif_pos (by simpa using h)]
  simp only [Int.toNat_natCast]
  rw [ByteArray.get!, getElem!_pos s.data i h]
  rfl

theorem tdiv64 {x : Int} (h : 0 ≤ x) (h1 : x < 256) : Int.tdiv x 64 % 256 = x / 64 := by rw [Int.tdiv_eq_ediv_of_nonneg h]; omega
theorem l0_step (k : Nat) (t : ByteArray) (n : Nat) (v least : Int) (i : Nat) (hi : i < n) (hsz : n ≤ t.size) (hn : n ≤ 4) (h0 : 0 ≤ v) (h1 : v ≤ 16777216) :
    cambiumref02_Rune.l0 (k + 1) t (n : Int) v least (i : Int) = if nb t i / 64 = 2 then cambiumref02_Rune.l0 k t (n : Int) (v * 64 + ((nb t i % 64 : Nat) : Int)) least ((i + 1 : Nat) : Int) else some (65533, 1) := by
  have hb := nb_lt t i
  rw [cambiumref02_Rune.l0, if_pos (by omega), if_pos (by omega), if_pos (by omega), bt_nb t i (by omega), tdiv64 (by omega) (by omega), wrap_id (x := (nb t i : Int)) (by omega) (by omega), Int.tmod_eq_emod_of_nonneg (by omega), wrap_id (x := v * 64) (by omega) (by omega), wrap_id (x := (i : Int) + 1) (by omega) (by omega), wrap_id (by omega) (by omega)]
  by_cases h : nb t i / 64 = 2
  · rw [if_pos (by omega), if_pos h]; congr 1
  · rw [if_neg (by omega), if_neg h]
def okRune (v least : Int) : Bool := decide (least ≤ v ∧ v ≤ 1114111 ∧ ¬ (55296 ≤ v ∧ v < 57344))
theorem l0_end (k : Nat) (t : ByteArray) (n : Nat) (v least : Int) : cambiumref02_Rune.l0 (k + 1) t (n : Int) v least (n : Int) = if okRune v least = true then some (v, (n : Int)) else some (65533, 1) := by
  rw [cambiumref02_Rune.l0, if_neg (by omega)]
  unfold okRune
  by_cases h1 : v < least
  · rw [if_pos h1, if_neg (by simp; omega)]
  · by_cases h2 : v > 1114111
    · rw [if_neg h1, if_pos h2, if_neg (by simp; omega)]
    · by_cases h3 : v ≥ 55296
      · by_cases h4 : v < 57344
        · rw [if_neg h1, if_neg h2, if_pos h3, if_pos h4, if_neg (by simp; omega)]
        · rw [if_neg h1, if_neg h2, if_pos h3, if_neg h4, if_pos (by simp; omega)]
      · rw [if_neg h1, if_neg h2, if_neg h3, if_pos (by simp; omega)]
theorem j3_eq (k : Nat) (t : ByteArray) (n : Nat) (v least : Int) : cambiumref02_Rune.j3 (k + 1) t (n : Int) v least = if t.size < n then some (65533, 1) else cambiumref02_Rune.l0 k t (n : Int) v least 1 := by
  rw [cambiumref02_Rune.j3]
  by_cases h : t.size < n
  · rw [if_pos (by omega), if_pos h]
  · rw [if_neg (by omega), if_neg h]

theorem rune_byte (k : Nat) (t : ByteArray) (h0 : 0 < t.size) : cambiumref02_Rune.f (k + 12) t =
    (if nb t 0 < 128 then some ((nb t 0 : Int), 1)
     else if nb t 0 < 194 ∨ 245 ≤ nb t 0 then some (65533, 1)
     else if nb t 0 < 224 then cambiumref02_Rune.j3 (k + 11) t ((2 : Nat) : Int) ((nb t 0 % 32 : Nat) : Int) 128
     else if nb t 0 < 240 then cambiumref02_Rune.j3 (k + 10) t ((3 : Nat) : Int) ((nb t 0 % 16 : Nat) : Int) 2048
     else cambiumref02_Rune.j3 (k + 9) t ((4 : Nat) : Int) ((nb t 0 % 8 : Nat) : Int) 65536) := by
  have hb := nb_lt t 0
  have hbt := bt_nb t 0 h0
  rw [show ((0 : Nat) : Int) = 0 from rfl] at hbt
  unfold cambiumref02_Rune.f
  rw [if_pos (by omega), hbt, wrap_id (by omega) (by omega)]
  generalize hc : nb t 0 = c at *
  have m32 : Int.tmod (c : Int) 32 = ((c % 32 : Nat) : Int) := by rw [Int.tmod_eq_emod_of_nonneg (by omega)]; omega
  have m16 : Int.tmod (c : Int) 16 = ((c % 16 : Nat) : Int) := by rw [Int.tmod_eq_emod_of_nonneg (by omega)]; omega
  have m8 : Int.tmod (c : Int) 8 = ((c % 8 : Nat) : Int) := by rw [Int.tmod_eq_emod_of_nonneg (by omega)]; omega
  by_cases h1 : c < 128
  · rw [if_neg (by omega), if_pos h1, cambiumref02_Rune.j0, if_neg (by simp), if_neg (by omega), cambiumref02_Rune.j1, if_neg (by simp), if_neg (by omega), cambiumref02_Rune.j2, if_neg (by simp), if_neg (by omega)]
    have e := j3_eq (k + 8) t 1 (c : Int) 0
    rw [show ((1 : Nat) : Int) = 1 from rfl] at e
    rw [e, if_neg (by omega)]
    have e2 := l0_end (k + 7) t 1 (c : Int) 0
    rw [show ((1 : Nat) : Int) = 1 from rfl] at e2
    rw [e2, if_pos (by unfold okRune; simp; omega)]
  rw [if_neg h1]
  by_cases h2 : c < 194
  · rw [if_neg (show ¬ (c : Int) ≥ 194 by omega), if_pos (show c < 194 ∨ 245 ≤ c from .inl h2), cambiumref02_Rune.j0, if_neg (by simp), if_neg (by omega), cambiumref02_Rune.j1, if_neg (by simp), if_neg (by omega), cambiumref02_Rune.j2, if_neg (by simp), if_pos (by omega)]
  rw [if_pos (show (c : Int) ≥ 194 by omega)]
  by_cases h3 : c < 224
  · rw [if_neg (show ¬ (c < 194 ∨ 245 ≤ c) by omega), if_pos h3, cambiumref02_Rune.j0, if_pos (by simpa using (by omega : (c : Int) < 224)), m32]; rfl
  rw [cambiumref02_Rune.j0, if_neg (show ¬ decide ((c : Int) < 224) = true by simp; omega), if_pos (show (c : Int) ≥ 224 by omega)]
  by_cases h4 : c < 240
  · rw [if_neg (show ¬ (c < 194 ∨ 245 ≤ c) by omega), if_neg h3, if_pos h4, cambiumref02_Rune.j1, if_pos (by simpa using (by omega : (c : Int) < 240)), m16]; rfl
  rw [cambiumref02_Rune.j1, if_neg (show ¬ decide ((c : Int) < 240) = true by simp; omega), if_pos (show (c : Int) ≥ 240 by omega)]
  by_cases h5 : c < 245
  · rw [if_neg (show ¬ (c < 194 ∨ 245 ≤ c) by omega), if_neg h3, if_neg h4, cambiumref02_Rune.j2, if_pos (by simpa using (by omega : (c : Int) < 245)), m8]; rfl
  · rw [if_pos (show c < 194 ∨ 245 ≤ c by omega), cambiumref02_Rune.j2, if_neg (show ¬ decide ((c : Int) < 245) = true by simp; omega), if_pos (by omega)]

theorem rune_eq (k : Nat) (t : ByteArray) (h0 : 0 < t.size) (hk : 12 ≤ k) : cambiumref02_Rune.f k t = some (((Utf8.decode t 0).1 : Int), ((Utf8.decode t 0).2 : Int)) := by
  obtain ⟨k, rfl⟩ : ∃ m, k = m + 12 := ⟨k - 12, by omega⟩
  rw [rune_byte k t h0, Lib.decode_at]
  change _ = some (((Lib.decodeN (t.size - 0) (nb t 0) (nb t (0 + 1)) (nb t (0 + 2)) (nb t (0 + 3))).1 : Int), ((Lib.decodeN (t.size - 0) (nb t 0) (nb t (0 + 1)) (nb t (0 + 2)) (nb t (0 + 3))).2 : Int))
  rw [show t.size - 0 = t.size from rfl, show 0 + 1 = 1 from rfl, show 0 + 2 = 2 from rfl, show 0 + 3 = 3 from rfl]
  have b0 := nb_lt t 0
  have b1 := nb_lt t 1
  have b2 := nb_lt t 2
  have b3 := nb_lt t 3
  have s1 := fun (kk n : Nat) (v least : Int) (hi : 1 < n) (hsz : n ≤ t.size) (hn : n ≤ 4) (h0 : 0 ≤ v) (h1 : v ≤ 16777216) => l0_step kk t n v least 1 hi hsz hn h0 h1
  have s2 := fun (kk n : Nat) (v least : Int) (hi : 2 < n) (hsz : n ≤ t.size) (hn : n ≤ 4) (h0 : 0 ≤ v) (h1 : v ≤ 16777216) => l0_step kk t n v least 2 hi hsz hn h0 h1
  have s3 := fun (kk n : Nat) (v least : Int) (hi : 3 < n) (hsz : n ≤ t.size) (hn : n ≤ 4) (h0 : 0 ≤ v) (h1 : v ≤ 16777216) => l0_step kk t n v least 3 hi hsz hn h0 h1
  have e2 := fun (kk : Nat) (v least : Int) => l0_end kk t 2 v least
  have e3 := fun (kk : Nat) (v least : Int) => l0_end kk t 3 v least
  have e4 := fun (kk : Nat) (v least : Int) => l0_end kk t 4 v least
  simp only [Int.natCast_one] at s1
  generalize nb t 0 = c0 at *
  generalize nb t 1 = c1 at *
  generalize nb t 2 = c2 at *
  generalize nb t 3 = c3 at *
  unfold Lib.decodeN
  by_cases h1 : c0 < 128
  · rw [if_pos h1, if_pos h1]; rfl
  rw [if_neg h1, if_neg h1]
  by_cases h2 : c0 < 194 ∨ 245 ≤ c0
  · rw [if_pos h2]
    by_cases g1 : c0 / 32 = 6 ∧ (1 < t.size ∧ c1 / 64 = 2)
    · rw [if_pos g1, if_neg (by omega)]; rfl
    rw [if_neg g1, if_neg (by omega)]
    by_cases g3 : c0 / 8 = 30 ∧ (1 < t.size ∧ c1 / 64 = 2) ∧ (2 < t.size ∧ c2 / 64 = 2) ∧ (3 < t.size ∧ c3 / 64 = 2)
    · rw [if_pos g3, if_neg (by omega)]; rfl
    · rw [if_neg g3]; rfl
  rw [if_neg h2]
  by_cases h3 : c0 < 224
  · rw [if_pos h3, j3_eq]
    by_cases g2 : t.size < 2
    · rw [if_pos g2, if_neg (by omega), if_neg (by omega), if_neg (by omega)]; rfl
    rw [if_neg g2, s1 _ 2 _ _ (by omega) (by omega) (by omega) (by omega) (by omega)]
    by_cases g1 : c1 / 64 = 2
    · rw [if_pos g1, show ((1 + 1 : Nat) : Int) = ((2 : Nat) : Int) from rfl, e2, if_pos (by unfold okRune; simp; omega), if_pos (show c0 / 32 = 6 ∧ (1 < t.size ∧ c1 / 64 = 2) from ⟨by omega, by omega, g1⟩), if_pos (by omega)]
      simp
    · rw [if_neg g1, if_neg (by omega), if_neg (by omega), if_neg (by omega)]; rfl
  rw [if_neg h3]
  by_cases h4 : c0 < 240
  · rw [if_pos h4, j3_eq]
    by_cases g0 : t.size < 3
    · rw [if_pos g0, if_neg (by omega), if_neg (by omega), if_neg (by omega)]; rfl
    rw [if_neg g0, s1 _ 3 _ _ (by omega) (by omega) (by omega) (by omega) (by omega)]
    by_cases g1 : c1 / 64 = 2
    · rw [if_pos g1]
      have := s2 (k + 7) 3 (((c0 % 16 : Nat) : Int) * 64 + ((c1 % 64 : Nat) : Int)) 2048 (by omega) (by omega) (by omega) (by omega) (by omega)
      rw [show ((1 + 1 : Nat) : Int) = ((2 : Nat) : Int) from rfl, this]
      by_cases g2 : c2 / 64 = 2
      · rw [if_pos g2, show ((2 + 1 : Nat) : Int) = ((3 : Nat) : Int) from rfl, e3]
        by_cases g3 : c0 % 16 * 4096 + c1 % 64 * 64 + c2 % 64 ≥ 2048 ∧ (c0 % 16 * 4096 + c1 % 64 * 64 + c2 % 64 < 55296 ∨ (57344 ≤ c0 % 16 * 4096 + c1 % 64 * 64 + c2 % 64 ∧ c0 % 16 * 4096 + c1 % 64 * 64 + c2 % 64 ≤ 1114111))
        · rw [if_pos (by unfold okRune; simp; omega), if_neg (by omega), if_pos (show c0 / 16 = 14 ∧ (1 < t.size ∧ c1 / 64 = 2) ∧ (2 < t.size ∧ c2 / 64 = 2) from ⟨by omega, ⟨by omega, g1⟩, by omega, g2⟩), if_pos g3]
          simp; omega
        · rw [if_neg (by unfold okRune; simp; omega), if_neg (by omega), if_pos (show c0 / 16 = 14 ∧ (1 < t.size ∧ c1 / 64 = 2) ∧ (2 < t.size ∧ c2 / 64 = 2) from ⟨by omega, ⟨by omega, g1⟩, by omega, g2⟩), if_neg g3]; rfl
      · rw [if_neg g2, if_neg (by omega), if_neg (by omega), if_neg (by omega)]; rfl
    · rw [if_neg g1, if_neg (by omega), if_neg (by omega), if_neg (by omega)]; rfl
  rw [if_neg h4, j3_eq]
  by_cases g0 : t.size < 4
  · rw [if_pos g0, if_neg (by omega), if_neg (by omega), if_neg (by omega)]; rfl
  rw [if_neg g0, s1 _ 4 _ _ (by omega) (by omega) (by omega) (by omega) (by omega)]
  by_cases g1 : c1 / 64 = 2
  · rw [if_pos g1]
    have := s2 (k + 6) 4 (((c0 % 8 : Nat) : Int) * 64 + ((c1 % 64 : Nat) : Int)) 65536 (by omega) (by omega) (by omega) (by omega) (by omega)
    rw [show ((1 + 1 : Nat) : Int) = ((2 : Nat) : Int) from rfl, this]
    by_cases g2 : c2 / 64 = 2
    · rw [if_pos g2]
      have := s3 (k + 5) 4 ((((c0 % 8 : Nat) : Int) * 64 + ((c1 % 64 : Nat) : Int)) * 64 + ((c2 % 64 : Nat) : Int)) 65536 (by omega) (by omega) (by omega) (by omega) (by omega)
      rw [show ((2 + 1 : Nat) : Int) = ((3 : Nat) : Int) from rfl, this]
      by_cases g3 : c3 / 64 = 2
      · rw [if_pos g3, show ((3 + 1 : Nat) : Int) = ((4 : Nat) : Int) from rfl, e4]
        by_cases g4 : c0 % 8 * 262144 + c1 % 64 * 4096 + c2 % 64 * 64 + c3 % 64 ≥ 65536 ∧ (c0 % 8 * 262144 + c1 % 64 * 4096 + c2 % 64 * 64 + c3 % 64 < 55296 ∨ (57344 ≤ c0 % 8 * 262144 + c1 % 64 * 4096 + c2 % 64 * 64 + c3 % 64 ∧ c0 % 8 * 262144 + c1 % 64 * 4096 + c2 % 64 * 64 + c3 % 64 ≤ 1114111))
        · rw [if_pos (by unfold okRune; simp; omega), if_neg (by omega), if_neg (by omega), if_pos (show c0 / 8 = 30 ∧ (1 < t.size ∧ c1 / 64 = 2) ∧ (2 < t.size ∧ c2 / 64 = 2) ∧ (3 < t.size ∧ c3 / 64 = 2) from ⟨by omega, ⟨by omega, g1⟩, ⟨by omega, g2⟩, by omega, g3⟩), if_pos g4]
          simp; omega
        · rw [if_neg (by unfold okRune; simp; omega), if_neg (by omega), if_neg (by omega), if_pos (show c0 / 8 = 30 ∧ (1 < t.size ∧ c1 / 64 = 2) ∧ (2 < t.size ∧ c2 / 64 = 2) ∧ (3 < t.size ∧ c3 / 64 = 2) from ⟨by omega, ⟨by omega, g1⟩, ⟨by omega, g2⟩, by omega, g3⟩), if_neg g4]; rfl
      · rw [if_neg g3, if_neg (by omega), if_neg (by omega), if_neg (by omega)]; rfl
    · rw [if_neg g2, if_neg (by omega), if_neg (by omega), if_neg (by omega)]; rfl
  · rw [if_neg g1, if_neg (by omega), if_neg (by omega), if_neg (by omega)]; rfl

end Go.Proofs.Ytffggkhahambhaa.Runes

namespace Go.Proofs.Ytffggkhahambhaa.Runes
open Go.RowKit Go.Proofs.Ytffggkhahambhaa.PAll Go.Proofs.YtffggkhahambhaaW.PrintWords Go.Proofs.YtffggkhahambhaaW.PrintLast Go.Proofs.YtffggkhahambhaaW.PrintMore Go.Proofs.Ytffggkhahambhaa.Math
set_option linter.unusedVariables false

theorem rune_at (k : Nat) (s : ByteArray) (i : Nat) (h : i < s.size) (hk : 12 ≤ k) : cambiumref02_Rune.f k (s.extract i s.size) = some ((rn s i : Int), (wd s i : Int)) := by
  rw [rune_eq k _ (by rw [extract_size]; omega) hk, dec_extract]; rfl

theorem runes_l0 (s : ByteArray) (hs : s.size ≤ 1000000) (d : Nat) : ∀ (k i : Nat) (a b : List Int), s.size - i ≤ d → i ≤ s.size → a.length ≤ i → b.length ≤ i → d + 13 < k →
    cambiumref02_Runes.l0 k s a b (i : Int) = some (a ++ (from_ s i).map (fun j => (rn s j : Int)), b ++ (from_ s i).map (fun (j : Nat) => (j : Int))) := by
  induction d with
  | zero =>
    intro k i a b h1 h2 ha hb hk
    obtain ⟨k, rfl⟩ : ∃ m, k = m + 1 := ⟨k - 1, by omega⟩
    rw [cambiumref02_Runes.l0, if_neg (by omega), from_ge (by omega)]; simp
  | succ d ih =>
    intro k i a b h1 h2 ha hb hk
    obtain ⟨k, rfl⟩ : ∃ m, k = m + 1 := ⟨k - 1, by omega⟩
    by_cases hi : i < s.size
    · have hw := dec_bounds s i hi
      rw [cambiumref02_Runes.l0, if_pos (by omega), if_pos (by omega), if_pos (by omega), Int.toNat_natCast, rune_at k s i hi (by omega), Option.bind_some, if_pos (by omega), if_pos (by omega), wrap_id (by omega) (by omega)]
      have := ih k (i + wd s i) (a ++ [(rn s i : Int)]) (b ++ [(i : Int)]) (by omega) (by omega) (by simp; omega) (by simp; omega) (by omega)
      rw [show ((i : Int) + (wd s i : Int)) = ((i + wd s i : Nat) : Int) by omega, this, from_lt hi]
      simp
    · rw [cambiumref02_Runes.l0, if_neg (by omega), from_ge hi]; simp
theorem runes_eq (k : Nat) (s : ByteArray) (hs : s.size ≤ 1000000) (hk : s.size + 13 < k) : cambiumref02_Runes.f k s = some (runesI s, posI s) := by
  unfold cambiumref02_Runes.f
  have := runes_l0 s hs s.size k 0 [] [] (by omega) (by omega) (by simp) (by simp) hk
  simpa [runesI, posI] using this

/-- Is a text UTF-8, from a place on? -/
def utfFrom (s : ByteArray) (i : Nat) : Bool := (from_ s i).all fun j => !(rn s j == 65533 && wd s j == 1)
theorem utf_l0 (s : ByteArray) (hs : s.size ≤ 1000000) (d : Nat) : ∀ (k i : Nat), s.size - i ≤ d → i ≤ s.size → d + 13 < k → cambiumref02_Utf.l0 k s (i : Int) = some (utfFrom s i) := by
  induction d with
  | zero =>
    intro k i h1 h2 hk
    obtain ⟨k, rfl⟩ : ∃ m, k = m + 1 := ⟨k - 1, by omega⟩
    rw [cambiumref02_Utf.l0, if_neg (by omega)]
    unfold utfFrom
    rw [from_ge (by omega)]; rfl
  | succ d ih =>
    intro k i h1 h2 hk
    obtain ⟨k, rfl⟩ : ∃ m, k = m + 1 := ⟨k - 1, by omega⟩
    by_cases hi : i < s.size
    · have hw := dec_bounds s i hi
      have hr := ih k (i + wd s i) (by omega) (by omega) (by omega)
      rw [show ((i + wd s i : Nat) : Int) = (i : Int) + (wd s i : Int) by omega] at hr
      rw [cambiumref02_Utf.l0, if_pos (by omega), if_pos (by omega), if_pos (by omega), Int.toNat_natCast, rune_at k s i hi (by omega), Option.bind_some, wrap_id (by omega) (by omega), hr]
      have hu : utfFrom s i = (!(rn s i == 65533 && wd s i == 1) && utfFrom s (i + wd s i)) := by
        unfold utfFrom; rw [from_lt hi]; rfl
      rw [hu]
      by_cases h3 : rn s i = 65533
      · by_cases h4 : wd s i = 1
        · rw [if_pos (by omega), if_pos (by omega), h3, h4]; rfl
        · rw [if_pos (by omega), if_neg (by omega)]; simp [h4]
      · rw [if_neg (by omega)]; simp [h3]
    · rw [cambiumref02_Utf.l0, if_neg (by omega)]
      unfold utfFrom
      rw [from_ge hi]; rfl
theorem utf_eq (k : Nat) (s : ByteArray) (hs : s.size ≤ 1000000) (hk : s.size + 13 < k) : cambiumref02_Utf.f k s = some (utfFrom s 0) := by
  unfold cambiumref02_Utf.f
  exact utf_l0 s hs s.size k 0 (by omega) (by omega) hk

def rightB (s : ByteArray) : Bool := (runesI s).all okI && utfFrom s 0
theorem right_l0 (s : ByteArray) (l : List Int) (hs : s.size ≤ 1000000) (hl : l.length ≤ 1000000) (d : Nat) : ∀ (k i : Nat), l.length - i ≤ d → i ≤ l.length → d + s.size + 15 < k →
    cambiumref02_Right.l0 k s l (i : Int) = some ((l.drop i).all okI && utfFrom s 0) := by
  induction d with
  | zero =>
    intro k i h1 h2 hk
    obtain ⟨k, rfl⟩ : ∃ m, k = m + 1 := ⟨k - 1, by omega⟩
    rw [cambiumref02_Right.l0, if_neg (by omega), utf_eq k s hs (by omega), List.drop_of_length_le (by omega)]; rfl
  | succ d ih =>
    intro k i h1 h2 hk
    obtain ⟨k, rfl⟩ : ∃ m, k = m + 1 := ⟨k - 1, by omega⟩
    by_cases hi : i < l.length
    · have hr := ih k (i + 1) (by omega) (by omega) (by omega)
      rw [show ((i + 1 : Nat) : Int) = (i : Int) + 1 by omega] at hr
      rw [cambiumref02_Right.l0, if_pos (by omega), if_pos (by omega), wrap_id (by omega) (by omega), hr, rd_drop hi, List.all_cons]
      generalize rd l (i : Int) = r
      unfold okI
      by_cases h3 : r < 32
      · rw [if_pos h3]; simp [h3]
      · rw [if_neg h3]
        by_cases h4 : r ≥ 127
        · by_cases h5 : r ≤ 159
          · rw [if_pos h4, if_pos h5]; simp [h4, h5]
          · rw [if_pos h4, if_neg h5]; simp [h3, h5]
        · rw [if_neg h4]; simp [h3, h4]
    · rw [cambiumref02_Right.l0, if_neg (by omega), utf_eq k s hs (by omega), List.drop_of_length_le (by omega)]; rfl
theorem runesI_len (s : ByteArray) : (runesI s).length ≤ s.size := by
  unfold runesI
  rw [List.length_map]
  have := from_len s s.size 0 (by omega)
  omega
theorem right_eq (k : Nat) (s : ByteArray) (hs : s.size ≤ 1000000) (hk : 2 * s.size + 16 < k) : cambiumref02_Right.f k s = some (rightB s) := by
  unfold cambiumref02_Right.f
  have hl := runesI_len s
  rw [runes_eq k s hs (by omega), Option.bind_some]
  have := right_l0 s (runesI s) hs (by omega) (runesI s).length k 0 (by omega) (by omega) (by omega)
  simpa [rightB] using this

end Go.Proofs.Ytffggkhahambhaa.Runes
