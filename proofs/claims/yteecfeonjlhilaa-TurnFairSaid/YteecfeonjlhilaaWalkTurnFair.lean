/- TurnFair: who wants is the first as soon as all have left who wanted ahead, whoever wants behind. The law's guard: 60 of each are gone through. -/
import Derived.Test.YteecfeonjlhilaaTurnAwake
namespace Go.Proofs.Yteecfeonjlhilaa.Walk
open Go.RowKit Go.Proofs.YteecfeonjlhilaaW.PrintWords Go.Proofs.YteecfeonjlhilaaW.PrintLast Go.Proofs.YteecfeonjlhilaaW.PrintMore Go.Proofs.Yteecfeonjlhilaa.Math Go.Proofs.Yteecfeonjlhilaa.Q
set_option linter.unusedVariables false
set_option linter.unusedSimpArgs false

theorem not_mem_take {l : List Int} {no : Int} {m : Nat} (h : ∀ j, j < m → j < l.length → ¬ rd l (j : Int) = no) : no ∉ l.take m := by
  intro hm
  rw [List.mem_take_iff_getElem] at hm
  obtain ⟨j, hj, he⟩ := hm
  refine h j (by omega) (by omega) ?_
  simpa [rd, List.getD_eq_getElem?_getD, List.getElem?_eq_getElem (show j < l.length by omega)] using he

set_option maxHeartbeats 4000000 in
set_option maxRecDepth 20000 in
theorem TurnFair (W : World) (A : Option Addr) (c : Nat) (l : List Int) (hl : l.length ≤ c) (hc : Kd.C (Kd.int .i64) W A l.length l)
    (hg : (∀ x ∈ l, (Lit.int .i64 x).wf = true) ∧ l.length * 8 ≤ 140737488351232) (no : Int) (ha : (Lit.int .i64 no).wf = true)
    (A2 : Option Addr) (c2 : Nat) (l2 : List Int) (hl2 : l2.length ≤ c2) (hc2 : Kd.C (Kd.int .i64) W A2 l2.length l2)
    (hg2 : (∀ x ∈ l2, (Lit.int .i64 x).wf = true) ∧ l2.length * 8 ≤ 140737488351232) :
    Calls Try.prog 4 #[.slice A l.length c, .int .i64 no, .slice A2 l2.length c2] W fun e w' => e = .returned (.bool true) ∧ Below W.heap.size W w' := by
  have hn := hc.2.1
  have hn2 := hc2.2.1
  have HC := Lib.hid hc
  have HC2 := Lib.hid hc2
  clear hg ha hl hl2 hg2 hc hc2
  go_enter Try.func4, Try.ntmps4
  go_wp2_with fail
  refine (awake_calls _).mono ?_
  rintro e w1 ⟨rfl, hb⟩
  go_wp2_with fail
  refine (new_q W w1 hb).mono ?_
  rintro e w2 ⟨rfl, hq⟩
  have HQ0 := Lib.hid hq
  generalize hp : w1.heap.size = p at hq HQ0 ⊢
  clear hb hq hp w1
  go_wp2
  go_loopw [8] (fun i wr => ∃ (k : Nat) (xs : List Int), k ≤ l.length ∧ k ≤ 60 ∧ i = .int .i64 k ∧ Hid (QSt 41 W wr (p + 1) p xs) ∧ Hid (Fair1 no l k xs)) (fun i _ => 60 - (intOf i).toNat)
  case atStart => exact ⟨0, [], by omega, by omega, rfl, HQ0, Lib.hid (fair1_start _ _)⟩
  case round =>
    clear HQ0
    obtain ⟨k, xs, hk, hk60, rfl, HQ, HF⟩ := hrel
    have hlen := HF.out.2.2.2
    by_cases hlt : k < l.length ∧ k < 60
    · obtain ⟨hlt, hlt60⟩ := hlt
      obtain ⟨ad, rfl, hcell⟩ := Kd.at_int (Kd.C_below HC.out HQ.out.below) (k : Int) (by omega) (by omega)
      rw [Int.toNat_natCast] at hcell
      have q : (k : Int) < (l.length : Int) := by omega
      by_cases he : rd l (k : Int) = no
      · have hb : (rd l (k : Int) == no) = true := beq_iff_eq.2 he
        clear he
        go_wp2
        go_ret
        exact ⟨rfl, HQ.out.below⟩
      · have hb : (rd l (k : Int) == no) = false := beq_eq_false_iff_ne.2 he
        have HS := Lib.hid (fair1_step HF.out hlt he)
        clear he
        generalize rd l (k : Int) = x at *
        go_wp2_with fail
        refine (want_q x HQ.out (by omega)).mono ?_
        rintro e w3 ⟨rfl, hq3, _⟩
        have HQ3 := Lib.hid hq3
        clear hq3
        go_wp2
        go_roundw
        case rel => exact ⟨k + 1, _, by omega, by omega, by go_num, HQ3, HS⟩
        case measure => simp [intOf]; omega
    · have hm : k = min l.length 60 := by omega
      have hno : no ∉ l.take k := fun h => HF.out.2.1 ((HF.out.2.2.1 no).2 h)
      have HNo := Lib.hid hno
      have HM := Lib.hid hm
      have hf2 := fair2_start HF.out
      obtain ⟨hf2, hfirst⟩ := hf2
      have HF2 := Lib.hid hf2
      have hfz : (rd (want xs no) 0 == no) = ((l.length : Int) == 0) := by
        rw [hfirst, Bool.eq_iff_iff, decide_eq_true_iff, beq_iff_eq]
        have h3 := HF.out.2.2.1
        constructor
        · intro h0
          rw [List.eq_nil_of_length_eq_zero h0] at h3
          rcases Nat.eq_zero_or_pos l.length with h1 | h1
          · omega
          · exact absurd ((h3 (rd l 0)).2 (by
              rw [List.mem_take_iff_getElem]
              exact ⟨0, by omega, by simp [rd, List.getD_eq_getElem?_getD, List.getElem?_eq_getElem h1]⟩)) (by simp)
        · intro h0; omega
      obtain ⟨fb, hfb⟩ : ∃ fb, ((l.length : Int) == 0) = fb := ⟨_, rfl⟩
      rw [hfb] at hfz
      have HFi := Lib.hid hfz
      have HFb := Lib.hid hfb
      clear hfb hfz
      have hstop : k < l.length → ¬ k < 60 := by omega
      by_cases hkl : k < l.length
      all_goals
        have hk60' : k < l.length → ¬ k < 60 := hstop
        clear hm hno hf2 hfirst hlt hstop
        go_wp2_with fail
        refine (want_q no HQ.out (by omega)).mono ?_
        rintro e w3 ⟨rfl, hq3, _⟩
        rw [HFi.out]
        have HQ3 := Lib.hid hq3
        clear hq3 HQ HF
        generalize want xs no = ys at HQ3 HF2
        go_wp2
        go_loopw [10] (fun i wr => ∃ (k2 : Nat) (xs : List Int), k2 ≤ l2.length ∧ k2 ≤ 60 ∧ i = .int .i64 k2 ∧ Hid (QSt 41 W wr (p + 1) p xs) ∧ Hid (Fair2 no l k 0 (k + 1 + k2) xs)) (fun i _ => 60 - (intOf i).toNat)
        case atStart => exact ⟨0, _, by omega, by omega, rfl, HQ3, HF2⟩
        case round =>
          clear HQ3 HF2
          obtain ⟨k2, xs, hk2, hk260, rfl, HQ, HF⟩ := hrel
          have hlen2 : xs.length ≤ k + 1 + k2 := by obtain ⟨_, _, _, _, _, _, h⟩ := HF.out; exact h
          by_cases hlt : k2 < l2.length ∧ k2 < 60
          · obtain ⟨hlt, hlt60⟩ := hlt
            obtain ⟨ad, rfl, hcell⟩ := Kd.at_int (Kd.C_below HC2.out HQ.out.below) (k2 : Int) (by omega) (by omega)
            rw [Int.toNat_natCast] at hcell
            have q : (k2 : Int) < (l2.length : Int) := by omega
            have HS := Lib.hid (fair2_behind HF.out (rd l2 (k2 : Int)))
            generalize rd l2 (k2 : Int) = x at *
            go_wp2_with fail
            refine (want_q x HQ.out (by omega)).mono ?_
            rintro e w4 ⟨rfl, hq4, _⟩
            have HQ4 := Lib.hid hq4
            clear hq4
            go_wp2
            go_roundw
            case rel => exact ⟨k2 + 1, _, by omega, by omega, by go_num, HQ4, HS⟩
            case measure => simp [intOf]; omega
          · have hstop2 : k2 < l2.length → ¬ k2 < 60 := by omega
            by_cases hkl2 : k2 < l2.length
            all_goals
              have hk260' : k2 < l2.length → ¬ k2 < 60 := hstop2
              have hfb := HFb.out
              clear hstop2 hlt
              go_wp2
              clear hfb
              go_loopw [11] (fun i wr => ∃ (j : Nat) (xs : List Int), j ≤ k ∧ i = .int .i64 j ∧ Hid (QSt 41 W wr (p + 1) p xs) ∧ Hid (Fair2 no l k j 200 xs)) (fun i _ => 60 - (intOf i).toNat)
              case atStart => exact ⟨0, _, by omega, rfl, HQ, Lib.hid (by obtain ⟨D, E, h1, h2, h3, h4, h5⟩ := HF.out; exact ⟨D, E, h1, h2, h3, h4, by omega⟩)⟩
              case round =>
                clear HQ HF
                obtain ⟨j, xs, hj, rfl, HQ, HF⟩ := hrel
                have hlen3 : xs.length ≤ 200 := by obtain ⟨_, _, _, _, _, _, h⟩ := HF.out; exact h
                have HP := Lib.hid (fair2_pos HF.out)
                by_cases hlt : j < k
                · obtain ⟨ad, rfl, hcell⟩ := Kd.at_int (Kd.C_below HC.out HQ.out.below) (j : Int) (by omega) (by omega)
                  rw [Int.toNat_natCast] at hcell
                  have HCA := Lib.hid (show ∀ w', Below W.heap.size W w' → w'.cell? (ad.add j) = some (.int .i64 (rd l (j : Int))) from fun w' hb => by
                    obtain ⟨ad', hA', h'⟩ := Kd.at_int (Kd.C_below HC.out hb) (j : Int) (by omega) (by omega)
                    injection hA' with hA'; subst hA'
                    rw [Int.toNat_natCast] at h'
                    exact h')
                  have q : (j : Int) < (l.length : Int) := by omega
                  have q2 : (j : Int) < 60 := by omega
                  have hs := fair2_step HF.out hlt hk HNo.out
                  have HS := Lib.hid hs
                  clear hs
                  generalize rd l (j : Int) = x at *
                  go_wp2_with fail
                  refine (first_calls _ _ _ _ HQ.out.at_).mono ?_
                  rintro e w4 ⟨rfl, rfl⟩
                  rw [HP.out.1]
                  by_cases he : rd xs 0 = no
                  · have heb : (rd xs 0 == no) = true := beq_iff_eq.2 he
                    have hx : decide (x ∈ xs) = false := decide_eq_false (HS.out.2 he)
                    have HX := Lib.hid hx
                    have hpos : decide ((0 : Int) < (xs.length : Int)) = true := decide_eq_true (by have := HP.out.2; omega)
                    have hposN : decide (0 < xs.length) = true := decide_eq_true HP.out.2
                    have hpn : 0 < xs.length := HP.out.2
                    clear he hx
                    have hle : leave xs x = xs := by rw [leave_erase]; exact List.erase_of_not_mem (by simpa using HX.out)
                    have HLe := Lib.hid hle
                    clear hle
                    go_wp2_with fail
                    refine (waiting_calls _ _ xs _ HQ.out.at_ (by omega)).mono ?_
                    rintro e w5 ⟨v5, rfl, hr5, hb5⟩
                    obtain ⟨A5, c5, rfl⟩ := Kd.R_slice hr5
                    have HQ5 := Lib.hid (HQ.out.next hb5)
                    have hcell5 := HCA.out w5 HQ5.out.below
                    clear hr5 hb5
                    go_wp2_with fail
                    refine (leave_q x HQ5.out (by omega)).mono ?_
                    rintro e w6 ⟨rfl, hq6, _⟩
                    rw [HX.out]
                    rw [HLe.out] at hq6
                    have HQ6 := Lib.hid hq6
                    have hcell6 := HCA.out w6 HQ6.out.below
                    clear hq6
                    go_wp2_with fail
                    refine (leave_q x HQ6.out (by omega)).mono ?_
                    rintro e w7 ⟨rfl, hq7, _⟩
                    have HQ7 := Lib.hid hq7
                    clear hq7
                    go_wp2
                    go_roundw
                    case rel => exact ⟨j + 1, _, by omega, by go_num, HQ7, Lib.hid HS.out.1⟩
                    case measure => simp [intOf]; omega
                  · have heb : (rd xs 0 == no) = false := beq_eq_false_iff_ne.2 he
                    clear he
                    go_wp2_with fail
                    refine (leave_q x HQ.out (by omega)).mono ?_
                    rintro e w7 ⟨rfl, hq7, _⟩
                    have HQ7 := Lib.hid hq7
                    clear hq7
                    go_wp2
                    go_roundw
                    case rel => exact ⟨j + 1, _, by omega, by go_num, HQ7, Lib.hid HS.out.1⟩
                    case measure => simp [intOf]; omega
                · have hjk : j = k := by omega
                  subst hjk
                  have HEnd := Lib.hid (fair2_end HF.out)
                  go_wp2_with fail
                  refine (first_calls _ _ _ _ HQ.out.at_).mono ?_
                  rintro e w4 ⟨rfl, rfl⟩
                  rw [HP.out.1, HEnd.out.1]
                  go_wp2_with fail
                  refine (want_q no HQ.out (by omega)).mono ?_
                  rintro e w5 ⟨rfl, hq5, _⟩
                  have HB := Lib.hid hq5.below
                  clear hq5
                  rw [HEnd.out.2]
                  go_wp2
                  go_ret
                  exact ⟨by simp, HB.out⟩

end Go.Proofs.Yteecfeonjlhilaa.Walk
