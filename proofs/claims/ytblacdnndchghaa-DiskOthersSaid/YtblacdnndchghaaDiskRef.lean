/- The reference's disk: Read, Write: contracts by hand. -/
import Derived.Test.YtblacdnndchghaaDiskFn6
namespace Go.Proofs.Ytblacdnndchghaa.D
open Go.RowKit Go.Proofs.YtblacdnndchghaaW.PrintWords Go.Proofs.YtblacdnndchghaaW.PrintLast Go.Proofs.YtblacdnndchghaaW.PrintMore Go.Proofs.Ytblacdnndchghaa.Math Go.Proofs.Ytblacdnndchghaa.PAll
open Go.ChangeMaps (setBlock)
set_option linter.unusedVariables false
set_option linter.unusedSimpArgs false

theorem own_lit (w : World) (b e : Nat) (hb : b ≤ w.heap.size) : (w.alloc (.cells #[] e)).ownsRow b e 1 (.slice (some ⟨w.heap.size, 0, none⟩) 0 0) 0 [] := World.ownsRow_made w #[] 0 hb (by simp) rfl
theorem take_last {W : List (Int × List Int)} {k : Nat} {x : Int × List Int} (h : W[k]? = some x) (no : Int) : lastP (W.take (k + 1)) no = if no = x.1 then some x.2 else lastP (W.take k) no := by
  unfold lastP
  rw [List.take_add_one, h, List.foldl_append]
  rfl
set_option maxHeartbeats 4000000 in
theorem readR_calls {w : World} {B p : Nat} {vS vW : Value} {s : St} (h : RSt w B p vS vW s) (no : Int) :
    Calls Try.prog 16 #[.pointer (some ⟨p, 0, none⟩), .int .i64 no] w fun e w' => ∃ v, e = .returned (.tuple #[v, .int .i64 (readC s no)]) ∧ Made w w' v (readP s no) := by
  unfold readP readC
  obtain ⟨A, c, hvS, hc, hl⟩ := h.vS
  have k0 : w.cell? ⟨p, 0, none⟩ = some (.slice A s.S.length c) := by rw [← hvS]; exact (blk_cell h.blk 0).trans rfl
  by_cases hin : inside s no
  · rw [if_pos hin, if_pos hin]
    have hin' := hin
    unfold inside at hin'
    obtain ⟨h0, h1⟩ := hin'
    have d0 : decide (no < 0) = false := decide_eq_false (by omega)
    have d1 : decide (no ≥ (s.S.length : Int)) = false := decide_eq_false (by omega)
    obtain ⟨g, c2, v, hv, hcell, hpg⟩ := h.page no.toNat (by omega)
    rw [hvS] at hv
    injection hv with hA _ hcc
    subst hA
    obtain ⟨j, rfl⟩ := Int.eq_ofNat_of_zero_le h0
    rw [Int.toNat_natCast] at hcell hpg
    have hlw : ∃ AW cW, vW = .slice AW s.W.length cW := by
      obtain ⟨Sl, Wl, e1, e2, hr⟩ := h.body
      obtain ⟨AW, cW, hw, _⟩ := own_sl hr.w_
      exact ⟨AW, cW, by rw [hw, e2, List.length_map]⟩
    obtain ⟨AW, cW, hvW⟩ := hlw
    have k1 : w.cell? ⟨p, 1, none⟩ = some (.slice AW s.W.length cW) := by rw [← hvW]; exact (blk_cell h.blk 1).trans rfl
    obtain ⟨Av, cv, hvp, _, _⟩ := hpg.reads
    rw [hpg.1] at hvp
    rw [hvp] at hcell hpg
    have HP := Lib.hid hpg
    have HR := Lib.hid h
    have HV := Lib.hid hvW
    have hwl : s.W.length ≤ 9223372036854775807 := by
      obtain ⟨Sl, Wl, e1, e2, hr⟩ := h.body
      rw [e2, List.length_map]
      exact own_len hr.w_
    clear h hpg hvp hvS hcc hin hvW hc
    go_enter Try.func16, Try.ntmps16
    go_wp2
    go_loop [6, 7] (fun vb i => ∃ (k : Nat) (Ab : Option Addr) (cb : Nat) (b : List Int), k ≤ s.W.length ∧ i = .int .i64 k ∧ vb = .slice Ab 1024 cb ∧ Hid (Pg w B (.slice Ab 1024 cb) b) ∧ Hid (b = (lastP (s.W.take k) (j : Int)).getD (s.S.getD j []))) (fun _ i => s.W.length - (intOf i).toNat)
    case atStart => exact ⟨0, Av, cv, _, Nat.zero_le _, rfl, rfl, HP, Lib.hid rfl⟩
    case round =>
      obtain ⟨k, Ab, cb, b, hk, rfl, rfl, HB, HE⟩ := hrel
      clear HP hcell
      by_cases hlt : k < s.W.length
      · have q : (k : Int) < (s.W.length : Int) := by omega
        have d : decide ((k : Int) < (s.W.length : Int)) = true := decide_eq_true q
        have hwr : wrap64 ((k : Int) + 1) = ((k + 1 : Nat) : Int) := by unfold wrap64; omega
        obtain ⟨g', c', j', Ax, cx, bx, hv2, z0, z1, hpx, hWk, hjs⟩ := HR.out.wait hlt
        have hvv := HV.out
        rw [hv2] at hvv
        injection hvv with hA2 _ hcc2
        subst hA2
        have hL := take_last hWk (j : Int)
        have HX := Lib.hid hpx
        clear hv2 hcc2 hpx hWk hjs
        by_cases hjj : (j' : Int) = (j : Int)
        · have hbe : ((j' : Int) == (j : Int)) = true := beq_iff_eq.2 hjj
          rw [if_pos hjj.symm] at hL
          have HL := Lib.hid hL
          clear hL hjj
          go_wp2
          go_round
          case rel => exact ⟨k + 1, Ax, cx, bx, by omega, by go_num, rfl, HX, Lib.hid (by rw [HL.out]; rfl)⟩
          case measure => simp [intOf]; omega
        · have hbe : ((j' : Int) == (j : Int)) = false := beq_eq_false_iff_ne.2 hjj
          rw [if_neg (fun e => hjj e.symm)] at hL
          have HL := Lib.hid hL
          clear hL hjj
          go_wp2
          go_round
          case rel => exact ⟨k + 1, Ab, cb, b, by omega, by go_num, rfl, HB, Lib.hid (by rw [HL.out]; exact HE.out)⟩
          case measure => simp [intOf]; omega
      · have hk2 : k = s.W.length := by omega
        subst hk2
        have d : decide ((s.W.length : Int) < (s.W.length : Int)) = false := decide_eq_false (by omega)
        have hbb : b = seenP s (j : Int) := by have := HE.out; rw [List.take_length] at this; exact this
        obtain ⟨A9, c9, hv9, hc9, hC9⟩ := HB.out.reads
        injection hv9 with hA9 hn9 hcc9
        subst hA9
        rw [← hn9] at hC9
        have HBB := Lib.hid hbb
        have HR9 := Aside0.mk hC9
        have HL9 := Lib.hid hn9
        clear hC9 HE hbb HR HV hn9 hcc9
        go_wp2_with (first | ((with_reducible refine gate_dst (N := 53) rfl ?_); refine Kd.R_lit (Kd.int .u8) _ 5 ?hg (N := 53) ?hd (xs := ([] : List Int)) (inner := []) (ok := fun _ => True) (okp := fun _ => True) ?hr ?hp (fun _ hk => hk) trivial (Below.refl _ _) (Nat.le_refl _) (by simp) ?_; (case hd => rfl); (case hg => rfl); (case hr => first | (go_simp; done) | (go_simp; rfl)); (case hp => exact (Reps.none _ _)); intro v1 w1 ho hb hg_ hnew_; clear hg_ hnew_; have HO := Aside0.mk ho; have HB1 := Aside0.mk hb; clear ho hb) | ((with_reducible refine gate_builtin (b := .append) (xs := #[.tmp 53, .tmp 54]) rfl ?_); at_builtin; refine Kd.R_append_rows (Kd.int .u8) (w0 := w) w.heap.size rfl (.tmp 53) (.tmp 54) 34 5 (.int .u8 0) 1 rfl Try.underlying34 info5 rfl (by decide) (by omega) v1 [] b _ _ _ (fun _ => True) (fun _ => False) rfl rfl ?aO ?aR (fun _ _ h => h) (fun _ h => h.elim) ?aF ?aB ?aS ?aL ?_; (case aR => exact Kd.C_below HR9.out HB1.out); (case aB => exact HB1.out); (case aF => exact (fun _ _ => trivial)); (case aO => exact HO.out); (case aS => exact below_size HB1.out); (case aL => simp); intro v2 w2 ho hb hg hat; have HO2 := Aside0.mk ho; have HB2 := Aside0.mk hb; clear ho hb hg hat))
        go_ret2
        exact ⟨_, rfl, by rw [← HBB.out]; simpa using HO2.out, HB2.out⟩
  · rw [if_neg hin, if_neg hin]
    by_cases h0 : no < 0
    · have d0 : decide (no < 0) = true := decide_eq_true h0
      clear h hin hvS hc
      go_enter Try.func16, Try.ntmps16
      go_wp2
      go_ret2
      exact ⟨_, rfl, Kd.R_nil _ _ _ _ _, Below.refl _ _⟩
    · have d0 : decide (no < 0) = false := decide_eq_false h0
      have d1 : decide (no ≥ (s.S.length : Int)) = true := decide_eq_true (by unfold inside at hin; omega)
      clear h hin hvS hc
      go_enter Try.func16, Try.ntmps16
      go_wp2
      go_ret2
      exact ⟨_, rfl, Kd.R_nil _ _ _ _ _, Below.refl _ _⟩
end Go.Proofs.Ytblacdnndchghaa.D
