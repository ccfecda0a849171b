/- Fits of any span, filter.Key at a raw span, incoming rows of spans. -/
import Derived.Test.YtffggkhahambhaaSpanRef
import Derived.Test.YtffggkhahambhaaStAwake
import Derived.Test.YtffggkhahambhaaReads
import Derived.Test.YtffggkhahambhaaPAllx17
import Derived.Test.YtffggkhahambhaaRd
import Derived.Test.YtffggkhahambhaaPAllx26
namespace Go.Proofs.Ytffggkhahambhaa.Tr
open Go.RowKit Go.Proofs.YtffggkhahambhaaW.PrintWords Go.Proofs.YtffggkhahambhaaW.PrintLast Go.Proofs.YtffggkhahambhaaW.PrintMore Go.Proofs.Ytffggkhahambhaa.Math Go.Proofs.Ytffggkhahambhaa.PAll Go.Proofs.Ytffggkhahambhaa.Stab Go.Proofs.Ytffggkhahambhaa.Open
set_option linter.unusedVariables false
set_option linter.unusedSimpArgs false
def fitsF (k : Nat) (x : S34) : Option Bool := cambiumlaw22_Fits.f k x.f0 x.f1 x.f2 x.f3 x.f4 x.f5 x.f6 x.f7 x.f8 x.f9 x.f10
theorem fits_tot {x : S34} (hg : G34 x) : ∃ k r, fitsF k x = some r ∧ (r = true → Pure.HeadP x.f0 x.f1 x.f2 x.f3 x.f4 x.f5 x.f6 x.f7 ∧ Pure.BodyP x.f8 x.f9 x.f10) := by
  have h8 : x.f8.length ≤ 140737488351232 ∧ x.f9.length ≤ 140737488351232 ∧ x.f10.length ≤ 140737488351232 := by
    obtain ⟨_, _, _, _, _, _, _, _, ⟨_, h8⟩, ⟨_, h9⟩, ⟨_, h10⟩⟩ := hg
    have e8 : List.length x.f8 = x.f8.length := rfl
    exact ⟨by omega, by omega, by omega⟩
  obtain ⟨h8, h9, h10⟩ := h8
  obtain ⟨r1, e1⟩ := Pure.small_some (x.f8.length + x.f9.length + x.f10.length + 3000) x.f0 x.f1 x.f2 x.f3 x.f4 x.f5 x.f6 x.f7 x.f8 x.f9 x.f10 h8 h9 (by omega)
  obtain ⟨r2, e2, e3⟩ := Pure.ref_may (x.f8.length + x.f9.length + x.f10.length + 3000) x.f0 x.f1 x.f2 x.f3 x.f4 x.f5 x.f6 x.f7 x.f8 x.f9 x.f10 h9 h10 (by omega)
  refine ⟨x.f8.length + x.f9.length + x.f10.length + 3000, r1 && r2, ?_, fun h => e3.1 (by cases r1 <;> cases r2 <;> simp_all)⟩
  unfold fitsF cambiumlaw22_Fits.f
  rw [e1, Option.bind_some]
  cases r1 with
  | false => rfl
  | true => rw [if_pos rfl, e2]; rfl
theorem fits_calls {k : Nat} {w : World} {s : Sp} {x : S34} {r : Bool} (hx : Is w s x) (h : fitsF k x = some r) :
    Calls Try.prog 10 #[.agg (encS s).toArray] w fun e w' => e = .returned (.bool r) ∧ Below w.heap.size w w' := by
  obtain ⟨A8, c8, A9, c9, A10, c10, he, l8, g8, l9, g9, l10, g10⟩ := k34_open hx
  rw [he]
  exact cambiumlaw22_Fits.calls k x.f0 x.f1 x.f2 x.f3 x.f4 x.f5 x.f6 x.f7 A8 c8 x.f8 A9 c9 x.f9 A10 c10 x.f10 r w g8 l8 g9 l9 g10 l10 h
theorem key_calls (o : Int) (s : Sp) (w : World) : Calls Try.prog 17 #[.int .i64 o, .agg (encS s).toArray] w fun e w' => ∃ v, e = .returned v ∧ Kd.R (Kd.int .u8) 5 w' w.heap.size (fun _ => True) v (keyI o s) ∧ Below w.heap.size w w' := by
  rw [arr_S]
  exact filter_Key.callsR 9 o s.tr s.id s.par s.svc s.op s.st s.du s.stt s.a.1 s.a.2.2 s.a.2.1 s.e.1 s.e.2.2 s.e.2.1 s.l.1 s.l.2.2 s.l.2.1 (keyI o s) w (keyI_eq o s)
theorem keyI_len (o : Int) (s : Sp) (h : 0 ≤ o) (h2 : o ≤ 2) : ∃ h, keyI o s = h ++ keyI 0 s ∧ h.length ≤ 8 := by
  unfold keyI
  by_cases h0 : o = 0
  · exact ⟨[], by rw [if_pos h0, if_pos rfl]; rfl, by simp⟩
  · rw [if_neg h0, if_pos rfl]
    by_cases h1 : o = 1
    · exact ⟨_, by rw [if_pos h1], by rw [NumFacts.key8_len]; omega⟩
    · exact ⟨_, by rw [if_neg h1, if_pos (by omega)], by rw [NumFacts.key8_len]; omega⟩
theorem key0_len (s : Sp) : (keyI 0 s).length = 16 := rfl
end Go.Proofs.Ytffggkhahambhaa.Tr

namespace Go.Proofs.Ytffggkhahambhaa.Same
open Go.RowKit Go.Proofs.Ytffggkhahambhaa.PAll Go.Proofs.YtffggkhahambhaaW.PrintWords Go.Proofs.YtffggkhahambhaaW.PrintLast Go.Proofs.YtffggkhahambhaaW.PrintMore Go.Proofs.Ytffggkhahambhaa.Math

theorem same_l0 (a b : List Int) (hab : a.length = b.length) (hn : a.length ≤ 140737488355328) (d : Nat) : ∀ (k i : Nat), i ≤ a.length → a.length - i = d → d < k →
    cambiumref01_Same.l0 k a b (i : Int) = some (decide (a.drop i = b.drop i)) := by
  induction d with
  | zero =>
    intro k i h1 hd hk
    obtain ⟨k, rfl⟩ : ∃ m, k = m + 1 := ⟨k - 1, by omega⟩
    simp only [cambiumref01_Same.l0]
    rw [if_neg (by omega)]
    have : i = a.length := by omega
    subst this
    rw [List.drop_length, hab, List.drop_length]; simp
  | succ d ih =>
    intro k i h1 hd hk
    obtain ⟨k, rfl⟩ : ∃ m, k = m + 1 := ⟨k - 1, by omega⟩
    simp only [cambiumref01_Same.l0]
    rw [if_pos (by omega), if_pos (by omega), if_pos (by omega)]
    rw [rd_drop (l := a) (i := i) (by omega), rd_drop (l := b) (i := i) (by omega)]
    by_cases e : rd a (i : Int) = rd b (i : Int)
    · rw [if_pos e, wrap_id (by omega) (by omega)]
      have := ih k (i + 1) (by omega) (by omega) (by omega)
      rw [show (i : Int) + 1 = ((i + 1 : Nat) : Int) from rfl, this, e]
      simp
    · rw [if_neg e]
      simp [e]

/-- Same: whether two rows are one. -/
theorem same_eq (k : Nat) (a b : List Int) (hn : a.length ≤ 140737488355328) (hk : a.length < k) : cambiumref01_Same.f k a b = some (decide (a = b)) := by
  unfold cambiumref01_Same.f
  by_cases h : a.length = b.length
  · rw [if_pos (by omega)]
    have := same_l0 a b h hn a.length k 0 (by omega) (by omega) hk
    simpa using this
  · rw [if_neg (by omega)]
    have : ¬ a = b := fun e => h (by rw [e])
    simp [this]

end Go.Proofs.Ytffggkhahambhaa.Same

namespace Go.Proofs.Ytffggkhahambhaa.Walk
open Go.RowKit Go.Proofs.YtffggkhahambhaaW.PrintWords Go.Proofs.YtffggkhahambhaaW.PrintLast Go.Proofs.YtffggkhahambhaaW.PrintMore Go.Proofs.Ytffggkhahambhaa.Math Go.Proofs.Ytffggkhahambhaa.PAll Go.Proofs.Ytffggkhahambhaa.Open Go.Proofs.Ytffggkhahambhaa.Tr Go.Proofs.Ytffggkhahambhaa.Stab
set_option linter.unusedVariables false
set_option linter.unusedSimpArgs false

set_option maxHeartbeats 8000000 in
set_option maxRecDepth 100000 in
theorem FilterOrder (W : World) (A0 : Option Addr) (c0 : Nat) (l0 : List S34) (hl0 : l0.length ≤ c0) (hc0 : Kd.C k34 W A0 l0.length l0) (hg0 : (∀ x ∈ l0, G34 x) ∧ l0.length * 152 ≤ 140737488351232) (a1 : Int) (hg1 : (Lit.int .u8 a1).wf = true) :
    Calls Try.prog 6 #[.slice A0 l0.length c0, .int .u8 a1] W fun e w' => e = .returned (.bool true) ∧ Below W.heap.size W w' := by
  obtain ⟨rs, hlen, hC, hI⟩ := raw_of hc0
  have hb1 : 0 ≤ a1 ∧ a1 < 256 := by
    exact isB_of_wf (l := [a1]) (fun x hx => by rw [List.mem_singleton.1 hx]; exact hg1) a1 (by simp)
  obtain ⟨ord, hord⟩ : ∃ ord, a1.tmod 3 = ord := ⟨_, rfl⟩
  have ho : 0 ≤ ord ∧ ord ≤ 2 := by
    rw [← hord, Int.tmod_eq_emod_of_nonneg hb1.1]
    omega
  rw [← hlen] at hl0 hC ⊢
  have HI := Lib.hid hI
  have HG := Lib.hid hg0.1
  have HC := Lib.hid hC
  have HL := Lib.hid hl0
  have HO := Lib.hid ho
  have HOE := Lib.hid hord
  have HB1 := Lib.hid hb1
  clear hc0 hg0 hg1 hlen hC hI hl0 ho hord hb1
  have HAW := Lib.hid (awake_calls W)
  go_enter Try.func6, Try.ntmps6
  go_wp2_with fail
  refine HAW.out.mono ?_
  rintro e w1 ⟨rfl, hb1⟩
  have HB := Lib.hid hb1
  clear hb1 HAW
  by_cases h60 : (60 : Int) < (rs.length : Int)
  · have d60 : decide ((60 : Int) < (rs.length : Int)) = true := decide_eq_true h60
    clear h60
    go_wp2
    go_ret
    exact ⟨rfl, HB.out⟩
  · have d60 : decide ((60 : Int) < (rs.length : Int)) = false := decide_eq_false h60
    have HN := Lib.hid (show rs.length ≤ 60 by omega)
    clear h60
    go_wp2
    go_loopw [5] (fun i wr => ∃ k : Nat, k ≤ rs.length ∧ i = .int .i64 k ∧ Hid (Below W.heap.size W wr)) (fun i _ => rs.length - (intOf i).toNat)
    case atStart => exact ⟨0, by omega, rfl, HB⟩
    case round =>
      clear HB
      obtain ⟨k, hk, rfl, HB⟩ := hrel
      by_cases hlt : k < rs.length
      · obtain ⟨s, hs⟩ : ∃ s, rs[k]? = some s := ⟨_, List.getElem?_eq_getElem hlt⟩
        obtain ⟨x, hx, his⟩ := HI.out k s hs
        obtain ⟨kf, r, hr, _⟩ := fits_tot (HG.out x (List.mem_of_getElem? hx))
        obtain ⟨ad, rfl, x0, x1, x2, x3, x4, x5, x6, x7, x8, x9, x10⟩ := at_S (Kd.C_below HC.out HB.out) hs
        have q : (k : Int) < (rs.length : Int) := by omega
        have HK := Lib.hid (show k + 1 ≤ rs.length by omega)
        have HW := Lib.hid (show wrap64 ((k : Int) + 1) = ((k + 1 : Nat) : Int) by have := HN.out; unfold wrap64; omega)
        have hcall := fits_calls (his.below HB.out) hr
        rw [arr_S] at hcall
        have HCALL := Lib.hid hcall
        clear hs hx his hr hlt hk hcall
        go_wp2_with fail
        refine HCALL.out.mono ?_
        rintro e w2 ⟨rfl, hb⟩
        have HB2 := Lib.hid (below_step HB.out hb)
        clear hb HCALL x0 x1 x2 x3 x4 x5 x6 x7 x8 x9 x10
        cases r with
        | false =>
          go_wp2
          go_ret
          exact ⟨rfl, HB2.out⟩
        | true =>
          go_wp2
          go_roundw
          case rel => exact ⟨k + 1, HK.out, by rw [HW.out], HB2⟩
          case measure => exact meas_up (by have := HN.out; omega) HK.out
      · have hkl : k = rs.length := by omega
        subst hkl
        have q : decide ((rs.length : Int) < (rs.length : Int)) = false := decide_eq_false (by omega)
        have hw : wrap64 a1 = a1 := by have := HB1.out; unfold wrap64; omega
        have hm : a1.tmod 3 = ord := HOE.out
        have hwo : wrap64 ord = ord := by have := HO.out; unfold wrap64; omega
        clear hlt hk
        go_wp2_with fail
        refine (all_calls (l := rs) (ts := []) (m := fun _ => true) (fun s hs => ?_) (Kd.C_nil _ _) (by decide) (by decide) (Kd.C_below HC.out HB.out) HL.out (by have := HN.out; omega)).mono ?_
        · obtain ⟨j, hj, he⟩ := List.getElem_of_mem hs
          obtain ⟨x, _, his⟩ := HI.out j s (by rw [← he]; exact List.getElem?_eq_getElem hj)
          exact ⟨x, his.below HB.out, fun _ => true, fun t ht => absurd ht (by simp), rfl⟩
        rintro e w2 ⟨v7, ys, rfl, hR7, hst, hln, hb2⟩
        rw [List.filter_eq_self.2 (fun _ _ => rfl)] at hln
        obtain ⟨A7, c7, rfl⟩ := Kd.R_slice hR7
        have HR7 := Lib.hid hR7
        have HSD := Lib.hid hst.srt
        have HLN := Lib.hid hln
        have HB2 := Lib.hid (below_step HB.out hb2)
        clear hR7 hst hb2 hm hwo hw q
        rw [hln]
        go_wp2
        go_loopw [8, 9, 10] (fun i _ _ wr => ∃ k : Nat, k ≤ rs.length ∧ i = .int .i64 k ∧ Hid (Below w2.heap.size w2 wr)) (fun i _ _ _ => rs.length - (intOf i).toNat)
        case atStart => exact ⟨0, by omega, rfl, Lib.hid (Below.refl _ _)⟩
        case round =>
          obtain ⟨k, hk, rfl, HBR⟩ := hrel
          by_cases hlt : k < rs.length
          · obtain ⟨y, hy⟩ : ∃ y, ys[k]? = some y := ⟨_, List.getElem?_eq_getElem (by omega)⟩
            have hC7 := Kd.C_below (Kd.R_reads' HR7.out).2.2 HBR.out
            obtain ⟨ad, rfl, x0, x1, x2, x3, x4, x5, x6, x7, x8, x9, x10⟩ := at_S hC7 hy
            have q : (k : Int) < (rs.length : Int) := by omega
            have qy : k < rs.length := hlt
            have HK := Lib.hid (show k + 1 ≤ rs.length by omega)
            have HW := Lib.hid (show wrap64 ((k : Int) + 1) = ((k + 1 : Nat) : Int) by have := HN.out; unfold wrap64; omega)
            have HY := Lib.hid hy
            have HKC := Lib.hid (key_calls ord y wr)
            rw [arr_S] at HKC
            clear hy hlt hk hC7
            go_wp2_with fail
            refine HKC.out.mono ?_
            rintro e w3 ⟨v9, rfl, hr9, hb3⟩
            have HB3 := Lib.hid (below_step HBR.out hb3)
            have HR9 := Lib.hid hr9
            clear hr9 hb3 HKC x0 x1 x2 x3 x4 x5 x6 x7 x8 x9 x10
            obtain ⟨ad', had, x0, x1, x2, x3, x4, x5, x6, x7, x8, x9, x10⟩ := at_S (Kd.C_below (Kd.R_reads' HR7.out).2.2 HB3.out) HY.out
            injection had with had
            subst had
            have HKC := Lib.hid (key_calls 0 y w3)
            rw [arr_S] at HKC
            go_wp2_with fail
            refine HKC.out.mono ?_
            rintro e w4 ⟨v10, rfl, hr10, hb4⟩
            have HB4 := Lib.hid (below_step HB3.out hb4)
            have HR94 := Lib.hid (Kd.R_below HR9.out hb4)
            have HR10 := Lib.hid hr10
            clear hr10 hb4 HKC HR9 x0 x1 x2 x3 x4 x5 x6 x7 x8 x9 x10
            obtain ⟨hh, hkey, hhl⟩ := keyI_len ord y HO.out.1 HO.out.2
            obtain ⟨A9, c9, rfl⟩ := Kd.R_slice HR94.out
            obtain ⟨A10, c10, rfl⟩ := Kd.R_slice HR10.out
            have hnx : (keyI ord y).length = hh.length + 16 := by rw [hkey, List.length_append, key0_len]
            obtain ⟨i07, hi07, _, hsz7, _⟩ := info_parts info5
            obtain ⟨A7', hcut, hA7, hC7⟩ := print_drop_of (P := Try.prog) (Value.int .u8) (0 : Int) 50 5 .i64 Try.underlying50 hi07 hsz7 A9 c9 (keyI ord y) (hh.length : Int) (by omega) (by omega) (Kd.R_reads' HR94.out).2.1
            have hdrop : (keyI ord y).drop ((hh.length : Int)).toNat = keyI 0 y := by rw [Int.toNat_natCast, hkey, List.drop_left]
            rw [hdrop] at hcut hA7 hC7
            have hcs : Kd.C (Kd.int .u8) w4 A7' (keyI 0 y).length (keyI 0 y) := Kd.C_of_reads (h1 := fun _ => rfl) (hA7 _ (Kd.reads_of_C (Kd.R_reads' HR94.out).2.2))
            have HSM := Lib.hid (cambiumref01_Same.calls 100 A7' (c9 - ((hh.length : Int)).toNat) (keyI 0 y) A10 c10 (keyI 0 y) true w4 hcs hC7 (Kd.R_reads' HR10.out).2.2 (Kd.R_reads' HR10.out).2.1 (by rw [Same.same_eq 100 _ _ (by rw [key0_len]; omega) (by rw [key0_len]; omega)]; simp))
            rw [key0_len] at hcut HSM ⊢
            rw [hnx] at hcut ⊢
            obtain ⟨m, hm⟩ : ∃ m, hh.length + 16 = m := ⟨_, rfl⟩
            obtain ⟨j, hj⟩ : ∃ j, hh.length = j := ⟨_, rfl⟩
            rw [hm] at hcut ⊢
            rw [hj] at hcut HSM hm hhl
            have HM := Lib.hid (show (keyI ord y).length = m ∧ m ≤ 24 by omega)
            have qm : ¬ (m : Int) < 16 := by omega
            have qmd : decide ((m : Int) < 16) = false := decide_eq_false qm
            have HWJ := Lib.hid (show wrap64 ((m : Int) - 16) = (j : Int) by unfold wrap64; omega)
            have hwj := HWJ.out
            clear hm hj hhl hnx hdrop hA7 hC7 hcs hsz7 hi07 hkey
            rcases k with _ | k
            · have q0 : ¬ (0 : Int) < ((0 : Nat) : Int) := by decide
              go_wp2_with fail
              refine HSM.out.mono ?_
              rintro e w5 ⟨rfl, nd, rfl⟩
              go_wp2
              go_roundw
              case rel => exact ⟨1, HK.out, rfl, Lib.hid (by exact ⟨HB4.out.os, HB4.out.tape, HB4.out.output, HB4.out.size, HB4.out.block⟩)⟩
              case measure =>
                show rs.length - ((1 : Int)).toNat < rs.length - (((0 : Nat) : Int)).toNat
                have := HK.out
                omega
            · have q0 : (0 : Int) < ((k + 1 : Nat) : Int) := by omega
              have HWK := Lib.hid (show wrap64 (k : Int) = (k : Int) by have := HN.out; have := HK.out; unfold wrap64; omega)
              obtain ⟨u, hu⟩ : ∃ u, ys[k]? = some u := ⟨_, List.getElem?_eq_getElem (by have := (List.getElem?_eq_some_iff.1 HY.out).1; omega)⟩
              have HU := Lib.hid hu
              have hwk := HWK.out
              have qk : (k : Int) < (rs.length : Int) := by omega
              clear hu
              go_wp2_with fail
              refine HSM.out.mono ?_
              rintro e w5 ⟨rfl, nd, rfl⟩
              obtain ⟨w5, hw5⟩ : ∃ w5, w4.drewN nd = w5 := ⟨_, rfl⟩
              rw [hw5]
              have hb5 : Below w4.heap.size w4 w5 := by rw [← hw5]; exact ⟨rfl, rfl, rfl, Nat.le_refl _, fun _ _ => rfl⟩
              have HB5 := Lib.hid (below_step HB4.out hb5)
              have HR95 := Lib.hid (Kd.R_below HR94.out hb5)
              clear hw5 hb5
              obtain ⟨ad', had, x0, x1, x2, x3, x4, x5, x6, x7, x8, x9, x10⟩ := at_S (Kd.C_below (Kd.R_reads' HR7.out).2.2 HB5.out) HU.out
              injection had with had
              subst had
              have HKC := Lib.hid (key_calls ord u w5)
              rw [arr_S] at HKC
              go_wp2_with fail
              refine HKC.out.mono ?_
              rintro e w6 ⟨v86, rfl, hr86, hb6⟩
              obtain ⟨A86, c86, rfl⟩ := Kd.R_slice hr86
              have HB6 := Lib.hid (below_step HB5.out hb6)
              have HR96 := Lib.hid (Kd.R_below HR95.out hb6)
              have hsd := HSD.out
              have hlx : lexLt (keyI ord y) (keyI ord u) = false := by
                rw [← ltC_cfK]
                obtain ⟨hy1, hy2⟩ := List.getElem?_eq_some_iff.1 HY.out
                obtain ⟨hu1, hu2⟩ := List.getElem?_eq_some_iff.1 HU.out
                rw [← hy2, ← hu2]
                exact List.pairwise_iff_getElem.1 hsd k (k + 1) hu1 hy1 (by omega)
              have HLS := Lib.hid (cambiumref01_Less.calls 100 A9 c9 (keyI ord y) A86 c86 (keyI ord u) false w6 (Kd.R_reads' HR96.out).2.2 (Kd.R_reads' HR96.out).2.1 (Kd.R_reads' hr86).2.2 (Kd.R_reads' hr86).2.1 (by have := HM.out; rw [NumFacts.less_eq 100 _ _ (by omega) (by omega), hlx]))
              rw [HM.out.1] at HLS
              clear hr86 hb6 hsd hlx HKC x0 x1 x2 x3 x4 x5 x6 x7 x8 x9 x10
              go_wp2_with fail
              refine HLS.out.mono ?_
              rintro e w7 ⟨rfl, nd2, rfl⟩
              clear HLS
              go_wp2
              go_roundw
              case rel => exact ⟨k + 1 + 1, HK.out, by rw [← HW.out]; rfl, Lib.hid (by exact ⟨HB6.out.os, HB6.out.tape, HB6.out.output, HB6.out.size, HB6.out.block⟩)⟩
              case measure => exact meas_up (by have := HN.out; omega) HK.out
          · have hkl : k = rs.length := by omega
            subst hkl
            have q : decide ((rs.length : Int) < (rs.length : Int)) = false := decide_eq_false (by omega)
            clear hlt hk
            go_wp2
            go_ret
            exact ⟨rfl, below_step HB2.out HBR.out⟩
end Go.Proofs.Ytffggkhahambhaa.Walk
