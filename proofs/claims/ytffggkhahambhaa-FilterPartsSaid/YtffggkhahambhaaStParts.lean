/- slices.stableCmpFunc, SortStableFunc of spans, by hand. -/
import Derived.Test.YtffggkhahambhaaSq
import Derived.Test.YtffggkhahambhaaRuns
import Derived.Lib.BytesEntry
import Derived.Laws.Externs
import Derived.Test.YtffggkhahambhaaStGlob
import Derived.Test.YtffggkhahambhaaConv
import Derived.Test.YtffggkhahambhaaPAllx8
import Derived.Test.YtffggkhahambhaaPAllx9
namespace Go.Proofs.Ytffggkhahambhaa.Tr
open Go.RowKit Go.Proofs.YtffggkhahambhaaW.PrintWords Go.Proofs.YtffggkhahambhaaW.PrintLast Go.Proofs.YtffggkhahambhaaW.PrintMore Go.Proofs.Ytffggkhahambhaa.Math Go.Proofs.Ytffggkhahambhaa.PAll Go.Proofs.Ytffggkhahambhaa.Stab
set_option linter.unusedVariables false
set_option linter.unusedSimpArgs false
theorem st_m {n a b : Nat} (h : a < b) (hb : a < n + 1) : n + 1 - (intOf (.int .i64 (b : Int))).toNat < n + 1 - (intOf (.int .i64 (a : Int))).toNat := by
  show n + 1 - ((b : Nat) : Int).toNat < n + 1 - ((a : Nat) : Int).toNat
  omega

set_option maxHeartbeats 8000000 in
set_option maxRecDepth 1000000 in
theorem stable_calls (w0 : World) (base g n c bq : Nat) (cf : Sp → Sp → Int) (hw : Swo (ltC cf)) (HC : Hid (Cmp w0 g bq cf)) (hn : n ≤ 1000000) (X : List Sp) (w : World) (hS : Sr w0 w base g n c X) :
    Calls Try.prog 48 #[.slice (some ⟨g, 0, none⟩) n c, .int .i64 n, .func (.func 27) #[] #[.pointer (some ⟨bq, 0, none⟩)]] w fun e w' => e = .returned (.tuple #[]) ∧ ∃ S, S.length = X.length ∧ Stb (ltC cf) X S ∧ Sr w0 w' base g n c S := by
  have HWO := Lib.hid hw
  have HN := Lib.hid hn
  have HS := Lib.hid hS
  have HL := Lib.hid hS.len
  clear hw hn hS
  have mixed : Try.prog.follows Departure.mixedOrders = true := by kernel_rfl
  go_enter Try.func48, Try.ntmps48
  go_wp2
  go_loopw [7, 8] (fun s u wr => ∃ (a b : Nat) (xD D U : List Sp), s = .int .i64 a ∧ u = .int .i64 b ∧ Hid (b = a + 20) ∧ Hid (a ≤ n) ∧ Hid (D.length = a) ∧ Hid (Full (ltC cf) 20 xD D) ∧ Hid (X = xD ++ U) ∧ Hid (Sr w0 wr base g n c (D ++ U))) (fun s _ _ => n + 1 - (intOf s).toNat)
  case atStart => exact ⟨0, 20, [], [], X, rfl, rfl, Lib.hid rfl, Lib.hid (Nat.zero_le _), Lib.hid rfl, Lib.hid .nil, Lib.hid rfl, HS⟩
  case round =>
    clear HS
    obtain ⟨a, b, xD, D, U, rfl, rfl, HBA, HAN, HDL, HF, HX, HS⟩ := hrel
    by_cases hlt : b ≤ n
    · have hba := HBA.out
      have hnn := HN.out
      have hdl := HDL.out
      have hlen := HS.out.len
      rw [List.length_append] at hlen
      have q : (b : Int) ≤ (n : Int) := by omega
      have HUT := Lib.hid (List.take_append_drop 20 U)
      obtain ⟨U1, hU1⟩ : ∃ U1, U.take 20 = U1 := ⟨_, rfl⟩
      obtain ⟨U2, hU2⟩ : ∃ U2, U.drop 20 = U2 := ⟨_, rfl⟩
      have HU1 := Lib.hid (show U1.length = 20 by rw [← hU1, List.length_take]; omega)
      rw [hU1, hU2] at HUT
      have hsr := HS.out
      rw [← HUT.out] at hsr
      have hcall := insertion_calls w0 base g n c bq cf HWO.out HC D U1 U2 a b wr hdl (by rw [HU1.out, hba]) HN.out (by simpa only [List.append_assoc] using hsr)
      have HCALL := Lib.hid hcall
      have HWB := Lib.hid (show wrap64 ((b : Int) + 20) = ((b + 20 : Nat) : Int) by rw [w64 _ (by omega) (by omega)]; omega)
      have HLT := Lib.hid hlt
      clear hcall hsr hlt hba hnn hdl hlen hU1 hU2
      go_wp2_with fail
      refine HCALL.out.mono ?_
      rintro e w2 ⟨rfl, S, hsl, hst, hs2⟩
      have HS2 := Lib.hid hs2
      have HF2 := Lib.hid (HF.out.snoc HU1.out (by rw [hsl]; exact HU1.out) hst)
      have HD2 := Lib.hid (show (D ++ S).length = b by rw [List.length_append, hsl, HU1.out, HDL.out, HBA.out])
      have HX2 := Lib.hid (show X = (xD ++ U1) ++ U2 by rw [HX.out, ← HUT.out, List.append_assoc])
      clear hs2 hst hsl HCALL
      go_wp2
      go_roundw
      case rel => exact ⟨b, b + 20, xD ++ U1, D ++ S, U2, rfl, by rw [HWB.out], Lib.hid rfl, HLT, HD2, HF2, HX2, HS2⟩
      case measure => exact st_m (by have := HBA.out; omega) (by have := HAN.out; omega)
    · have hba := HBA.out
      have hnn := HN.out
      have hdl := HDL.out
      have hlen := HS.out.len
      rw [List.length_append] at hlen
      have q : decide ((b : Int) ≤ (n : Int)) = false := decide_eq_false (by omega)
      have qn : decide (b ≤ n) = false := decide_eq_false hlt
      have hcall := insertion_calls w0 base g n c bq cf HWO.out HC D U [] a n wr hdl (by omega) HN.out (by simpa using HS.out)
      have HCALL := Lib.hid hcall
      have HUL := Lib.hid (show U.length < 20 by omega)
      clear hcall hlt hba hnn hdl hlen
      go_wp2_with fail
      refine HCALL.out.mono ?_
      rintro e w2 ⟨rfl, S, hsl, hst, hs2⟩
      have HS2 := Lib.hid (show Sr w0 w2 base g n c (D ++ S) by simpa using hs2)
      have HLV := Lib.hid (show Lv (ltC cf) 20 X (D ++ S) by rw [HX.out]; exact HF.out.app (.last U S (by have := HUL.out; omega) hsl hst))
      obtain ⟨Y, hY⟩ : ∃ Y, D ++ S = Y := ⟨_, rfl⟩
      rw [hY] at HS2 HLV
      clear hs2 hst hsl HCALL hY HS HF HX HUL HDL q qn
      go_wp2
      go_loopw [6, 7, 8, 9] (fun v6 _ _ _ wr => ∃ (s : Nat) (Y : List Sp), v6 = .int .i64 s ∧ Hid (0 < s) ∧ Hid (s ≤ 2000000) ∧ Hid (Lv (ltC cf) s X Y) ∧ Hid (Sr w0 wr base g n c Y)) (fun v6 _ _ _ _ => 4000001 - (intOf v6).toNat)
      case atStart => exact ⟨20, Y, rfl, Lib.hid (by decide), Lib.hid (by decide), HLV, HS2⟩
      case round =>
        clear HLV HS2
        obtain ⟨s, Y, rfl, HS0, HSB, HLV, HS⟩ := hrel
        have HYL := Lib.hid (show Y.length = n from HS.out.len.symm)
        by_cases hlt : s < n
        · have q : (s : Int) < (n : Int) := by omega
          obtain ⟨s2, hs2⟩ : ∃ s2, 2 * s = s2 := ⟨_, rfl⟩
          have HS2E := Lib.hid hs2
          have HSN := Lib.hid hlt
          have HW2 := Lib.hid (show wrap64 (2 * (s : Int)) = (s2 : Int) by have := HSB.out; rw [w64 _ (by omega) (by omega)]; omega)
          have HW3 := Lib.hid (show wrap64 ((s : Int) * 2) = (s2 : Int) by have := HSB.out; rw [w64 _ (by omega) (by omega)]; omega)
          clear hlt hs2
          go_wp2
          clear q
          go_loopw [7, 8] (fun v u wr => ∃ (a b : Nat) (xD D xU U : List Sp), v = .int .i64 a ∧ u = .int .i64 b ∧ Hid (b = a + s2) ∧ Hid (a ≤ n) ∧ Hid (D.length = a) ∧ Hid (Full (ltC cf) s2 xD D) ∧ Hid (Lv (ltC cf) s xU U) ∧ Hid (X = xD ++ xU) ∧ Hid (Sr w0 wr base g n c (D ++ U))) (fun v _ _ => n + 1 - (intOf v).toNat)
          case atStart => exact ⟨0, s2, [], [], X, Y, rfl, by rw [HW2.out], Lib.hid (by omega), Lib.hid (Nat.zero_le _), Lib.hid rfl, Lib.hid .nil, HLV, Lib.hid rfl, HS⟩
          case round =>
            clear HS HLV HYL
            obtain ⟨a, b, xD, D, xU, U, rfl, rfl, HBA, HAN, HDL, HF, HLV, HX, HS⟩ := hrel
            have hba := HBA.out
            have hnn := HN.out
            have hdl := HDL.out
            have hsb := HSB.out
            have hs0 := HS0.out
            have hs2e := HS2E.out
            have hlen := HS.out.len
            have han := HAN.out
            rw [List.length_append] at hlen
            obtain ⟨m, hm⟩ : ∃ m, a + s = m := ⟨_, rfl⟩
            have HWM := Lib.hid (show wrap64 ((a : Int) + (s : Int)) = (m : Int) by rw [w64 _ (by omega) (by omega)]; omega)
            by_cases hlt : b ≤ n
            · obtain ⟨A1, A2, xr, S1, S2, r, hx1, hu1, hA1, hA2, hS1, hS2, hst1, hst2, hlr⟩ := HLV.out.two hs0 (by omega)
              have q : (b : Int) ≤ (n : Int) := by omega
              have hsr := HS.out
              rw [hu1] at hsr
              have hcall := sym_calls w0 base g n c bq cf HWO.out HC HN.out (S1.length + S2.length) D S1 S2 r a m b wr (Nat.le_refl _) hdl (by omega) (by omega) (by omega) (by omega) hst1.srt hst2.srt (by simpa only [List.append_assoc] using hsr)
              have HCALL := Lib.hid hcall
              obtain ⟨b2, hb2⟩ : ∃ b2, b + s2 = b2 := ⟨_, rfl⟩
              have HB2 := Lib.hid hb2
              have HWB := Lib.hid (show wrap64 ((b : Int) + wrap64 (2 * (s : Int))) = (b2 : Int) by rw [HW2.out, w64 _ (by omega) (by omega)]; omega)
              have HA12 := Lib.hid (show (A1 ++ A2).length = s2 by rw [List.length_append]; omega)
              have HS12 := Lib.hid (show S1.length + S2.length = s2 by omega)
              have HT1 := Lib.hid hst1
              have HT2 := Lib.hid hst2
              have HLR := Lib.hid hlr
              have HX1 := Lib.hid (show X = (xD ++ (A1 ++ A2)) ++ xr by rw [HX.out, hx1]; simp only [List.append_assoc])
              have HLT := Lib.hid hlt
              have hwm := HWM.out
              clear hcall hsr hlt hba hnn hdl hsb hs0 hs2e hlen han hm hx1 hu1 hA1 hA2 hS1 hS2 hst1 hst2 hlr hb2
              go_wp2_with fail
              refine HCALL.out.mono ?_
              rintro e w2 ⟨rfl, S, hg, hs2⟩
              have HS2' := Lib.hid hs2
              have HF2 := Lib.hid (HF.out.snoc HA12.out (by rw [hg.len]; exact HS12.out) (hg.of HT1.out HT2.out))
              have HD2 := Lib.hid (show (D ++ S).length = b by rw [List.length_append, hg.len, HS12.out, HDL.out, HBA.out])
              clear hs2 hg HCALL
              go_wp2
              go_roundw
              case rel => exact ⟨b, b2, xD ++ (A1 ++ A2), D ++ S, xr, r, rfl, by rw [HWB.out], Lib.hid HB2.out.symm, HLT, HD2, HF2, HLR, HX1, HS2'⟩
              case measure => exact st_m (by have h1 := HBA.out; have h2 := HS2E.out; have h3 := HS0.out; omega) (by have := HAN.out; omega)
            · have q : decide ((b : Int) ≤ (n : Int)) = false := decide_eq_false (by omega)
              have qn : decide (b ≤ n) = false := decide_eq_false hlt
              by_cases hmn : m < n
              · have q2 : (m : Int) < (n : Int) := by omega
                obtain ⟨A1, A2, S1, S2, hx1, hu1, hS1, hA1, hS2, hpos, hst1, hst2⟩ := HLV.out.oneAnd (by omega) (by omega)
                have hsr := HS.out
                rw [hu1] at hsr
                have hul : U.length = S1.length + S2.length := by rw [hu1, List.length_append]
                have hcall := sym_calls w0 base g n c bq cf HWO.out HC HN.out (S1.length + S2.length) D S1 S2 [] a m n wr (Nat.le_refl _) hdl (by omega) (by omega) (by omega) (by omega) hst1.srt hst2.srt (by simpa only [List.append_assoc, List.append_nil] using hsr)
                have HCALL := Lib.hid hcall
                have HLV2 := Lib.hid (show ∀ S, Mg (ltC cf) S1 S2 S → Lv (ltC cf) s2 X (D ++ S) from fun S hg => by
                  rw [HX.out, hx1]
                  exact HF.out.app (.last _ _ (by rw [List.length_append]; omega) (by rw [hg.len, List.length_append]; omega) (hg.of hst1 hst2)))
                have HSB2 := Lib.hid (show s2 ≤ 2000000 by have := HSN.out; omega)
                have HS02 := Lib.hid (show 0 < s2 by omega)
                have HSS := Lib.hid (show s < s2 by omega)
                have hwm := HWM.out
                clear hcall hsr hlt hba hnn hdl hsb hs0 hs2e hlen han hm hx1 hu1 hA1 hS1 hS2 hst1 hst2 hpos hmn hul
                go_wp2_with fail
                refine HCALL.out.mono ?_
                rintro e w2 ⟨rfl, S, hg, hs2⟩
                have HS2' := Lib.hid (show Sr w0 w2 base g n c (D ++ S) by simpa only [List.append_nil] using hs2)
                have HLV3 := Lib.hid (HLV2.out S hg)
                clear hs2 hg HCALL
                go_wp2
                go_roundw
                case rel => exact ⟨s2, D ++ S, by rw [HW3.out], HS02, HSB2, HLV3, HS2'⟩
                case measure => rw [HW3.out]; exact st_m HSS.out (by have := HSB.out; omega)
              · have q2 : decide ((m : Int) < (n : Int)) = false := decide_eq_false (by omega)
                have q2n : decide (m < n) = false := decide_eq_false hmn
                have HLV3 := Lib.hid (show Lv (ltC cf) s2 X (D ++ U) by
                  rw [HX.out]
                  have h1 := HLV.out.one (by omega)
                  exact HF.out.app (.last _ _ (by rw [← HLV.out.len]; omega) HLV.out.len h1))
                have HSB2 := Lib.hid (show s2 ≤ 2000000 by have := HSN.out; omega)
                have HS02 := Lib.hid (show 0 < s2 by omega)
                have HSS := Lib.hid (show s < s2 by omega)
                have hwm := HWM.out
                clear hlt hba hnn hdl hsb hs0 hs2e hlen han hm hmn
                go_wp2
                go_roundw
                case rel => exact ⟨s2, D ++ U, by rw [HW3.out], HS02, HSB2, HLV3, HS⟩
                case measure => rw [HW3.out]; exact st_m HSS.out (by have := HSB.out; omega)
        · have q : decide ((s : Int) < (n : Int)) = false := decide_eq_false (by omega)
          have qn : decide (s < n) = false := decide_eq_false hlt
          have HST := Lib.hid (HLV.out.one (by have := HYL.out; omega))
          have HLX := Lib.hid HLV.out.len
          clear hlt
          go_wp2
          go_end0
          exact ⟨rfl, Y, HLX.out, HST.out, HS.out⟩
end Go.Proofs.Ytffggkhahambhaa.Tr

namespace Go.Proofs.Ytffggkhahambhaa.Tr
open Go.RowKit Go.Proofs.YtffggkhahambhaaW.PrintWords Go.Proofs.YtffggkhahambhaaW.PrintLast Go.Proofs.YtffggkhahambhaaW.PrintMore Go.Proofs.Ytffggkhahambhaa.Math Go.Proofs.Ytffggkhahambhaa.PAll Go.Proofs.Ytffggkhahambhaa.Stab
set_option linter.unusedVariables false
set_option linter.unusedSimpArgs false
set_option maxHeartbeats 4000000 in
set_option maxRecDepth 100000 in
theorem insertion_nil (v f : Value) (w : World) : Calls Try.prog 66 #[v, .int .i64 0, .int .i64 0, f] w fun e w' => e = .returned (.tuple #[]) ∧ w = w' := by
  have HW1 := Lib.hid (show wrap64 (0 + 1) = 1 by unfold wrap64; omega)
  go_enter Try.func66, Try.ntmps66
  go_wp2
  go_loopw [8, 9] (fun s _ wr => s = .int .i64 1 ∧ w = wr) (fun _ _ _ => 0)
  case atStart => exact ⟨by first | rfl | rw [HW1.out], rfl⟩
  case round =>
    obtain ⟨rfl, rfl⟩ := hrel
    go_wp2
    go_end0
    exact ⟨rfl, rfl⟩
set_option maxHeartbeats 4000000 in
set_option maxRecDepth 100000 in
theorem stable_nil (v f : Value) (w : World) : Calls Try.prog 48 #[v, .int .i64 0, f] w fun e w' => e = .returned (.tuple #[]) ∧ w = w' := by
  have hi := Lib.hid (insertion_nil v f w)
  go_enter Try.func48, Try.ntmps48
  go_wp2
  go_loopw [7, 8] (fun s u wr => s = .int .i64 0 ∧ u = .int .i64 20 ∧ w = wr) (fun _ _ _ => 0)
  case atStart => exact ⟨rfl, rfl, rfl⟩
  case round =>
    obtain ⟨rfl, rfl, rfl⟩ := hrel
    go_wp2_with fail
    refine hi.out.mono ?_
    rintro e w2 ⟨rfl, rfl⟩
    go_wp2
    go_loopw [6, 7, 8, 9] (fun s _ _ _ wr => s = .int .i64 20 ∧ w = wr) (fun _ _ _ _ _ => 0)
    case atStart => exact ⟨rfl, rfl⟩
    case round =>
      obtain ⟨rfl, rfl⟩ := hrel
      go_wp2
      go_end0
      exact ⟨rfl, rfl⟩
set_option maxHeartbeats 4000000 in
set_option maxRecDepth 100000 in
theorem sortStable_pos {base bq g n c : Nat} {xs : List Sp} {w : World} {cf : Sp → Sp → Int} (HS : Hid (Calls Try.prog 48 #[.slice (some ⟨g, 0, none⟩) n c, .int .i64 n, .func (.func 27) #[] #[.pointer (some ⟨bq, 0, none⟩)]] w fun e w' => e = .returned (.tuple #[]) ∧ ∃ S, S.length = xs.length ∧ Stb (ltC cf) xs S ∧ Sr w w' base g n c S)) :
    Calls Try.prog 26 #[.slice (some ⟨g, 0, none⟩) n c, .func (.func 27) #[] #[.pointer (some ⟨bq, 0, none⟩)]] w fun e w' => e = .returned (.tuple #[]) ∧ ∃ S, S.length = xs.length ∧ Stb (ltC cf) xs S ∧ Sr w w' base g n c S := by
  go_enter Try.func26, Try.ntmps26
  go_wp2_with fail
  refine HS.out.mono ?_
  rintro e w2 ⟨rfl, hs⟩
  have HS2 := Lib.hid hs
  clear hs HS
  go_wp2
  go_end0
  exact ⟨rfl, HS2.out⟩
set_option maxHeartbeats 4000000 in
set_option maxRecDepth 100000 in
theorem sortStable_calls {base bq n c : Nat} {A : Option Addr} {xs : List Sp} {w : World} {cf : Sp → Sp → Int} (hw : Swo (ltC cf)) (h : Kd.R kS 34 w base (fun _ => True) (.slice A n c) xs) (hn : xs.length ≤ 1000000) (HC : ∀ g, A = some ⟨g, 0, none⟩ → Cmp w g bq cf) :
    Calls Try.prog 26 #[.slice A n c, .func (.func 27) #[] #[.pointer (some ⟨bq, 0, none⟩)]] w fun e w' => e = .returned (.tuple #[]) ∧ ∃ ys : List Sp, ys.length = xs.length ∧ Stb (ltC cf) xs ys ∧ Kd.R kS 34 w' base (fun _ => True) (.slice A n c) ys ∧ w.grownBy w' (Value.slice A n c).ownBlock := by
  have hnl := (Kd.R_reads' h).1
  rcases Nat.eq_zero_or_pos xs.length with hz0 | h0
  · have hnil : xs = [] := List.length_eq_zero_iff.1 hz0
    subst hnil
    have hn0 : n = 0 := hnl
    subst hn0
    have HS := Lib.hid (stable_nil (.slice A 0 c) (.func (.func 27) #[] #[.pointer (some ⟨bq, 0, none⟩)]) w)
    have HR := Lib.hid h
    clear h hw hn HC hz0 hnl
    go_enter Try.func26, Try.ntmps26
    go_wp2_with fail
    refine HS.out.mono ?_
    rintro e w2 ⟨rfl, rfl⟩
    go_wp2
    go_end0
    exact ⟨rfl, [], rfl, Stb.nil _, HR.out, grownBy_refl _ _⟩
  · obtain ⟨ad, c', he⟩ := Kd.R_slice1 h h0
    injection he with he1 he2 he3
    subst he1
    obtain ⟨g, cur, rfl, _⟩ := row_open h h0
    refine (sortStable_pos (Lib.hid (stable_calls w base g n c bq cf hw (Lib.hid (HC g rfl)) (by omega) xs w (Sr.start h)))).mono ?_
    rintro e w2 ⟨rfl, S, hsl, hst, hs2⟩
    exact ⟨rfl, S, hsl, hst, hs2.row, hs2.gr⟩
end Go.Proofs.Ytffggkhahambhaa.Tr

namespace Go.Proofs.Ytffggkhahambhaa.Tr
open Go.RowKit Go.Proofs.YtffggkhahambhaaW.PrintWords Go.Proofs.YtffggkhahambhaaW.PrintLast Go.Proofs.YtffggkhahambhaaW.PrintMore Go.Proofs.Ytffggkhahambhaa.Math Go.Proofs.Ytffggkhahambhaa.PAll Go.Proofs.Ytffggkhahambhaa.Stab Go.Proofs.Ytffggkhahambhaa.NumFacts
set_option linter.unusedVariables false
set_option linter.unusedSimpArgs false

theorem cells_u8 {w : World} {A : Option Addr} {n : Nat} {xs : List Int} (h : Kd.C (Kd.int .u8) w A n xs) (hp : 0 < n) : ∃ ad, A = some ad ∧ ∀ (j : Nat) x, xs[j]? = some x → w.cell? (ad.add j) = some (.int .u8 x) := by
  obtain ⟨ad, rfl, hc⟩ := h.2.2 hp
  refine ⟨ad, rfl, fun j x hj => ?_⟩
  obtain ⟨c, hcl, hK, hce⟩ := hc j x hj
  have hK : c = [.int .u8 x] := hK
  subst hK
  have h2 : w.cell? (ad.add (j * 1 + 0)) = some (.int .u8 x) := hce 0 _ rfl
  rwa [Nat.mul_one, Nat.add_zero] at h2
theorem run_bytes {P : Program} {w : World} {A : Option Addr} {n : Nat} {xs : List Int} (c : Nat) (h : Kd.C (Kd.int .u8) w A n xs) (hn : xs.length = n) :
    (Extern.Bytes.bytesOf (.slice A n c)).run P w = .ok ⟨(Lib.bytesOf xs).toArray⟩ w := by
  subst hn
  rcases Nat.eq_zero_or_pos xs.length with h0 | h0
  · have hx : xs = [] := List.length_eq_zero_iff.1 h0
    subst hx
    cases A <;> rfl
  · obtain ⟨ad, rfl, hc⟩ := cells_u8 h h0
    have := Lib.run_loadBytesX (P := P) w xs ad .empty hc
    have he : (⟨ByteArray.empty.data ++ (Lib.bytesOf xs).toArray⟩ : ByteArray) = ⟨(Lib.bytesOf xs).toArray⟩ := by
      apply ByteArray.ext
      show (#[] : Array UInt8) ++ (Lib.bytesOf xs).toArray = (Lib.bytesOf xs).toArray
      simp
    rw [he] at this
    exact this
/-- How two rows of bytes stand. -/
def cmpB (xs ys : List Int) : Int := Lib.compareBytes (Lib.bytesOf xs) (Lib.bytesOf ys)
theorem run_cmp {P : Program} {w : World} {A B : Option Addr} {n m c d : Nat} {xs ys : List Int} (h1 : Kd.C (Kd.int .u8) w A n xs) (e1 : xs.length = n) (h2 : Kd.C (Kd.int .u8) w B m ys) (e2 : ys.length = m) :
    (Extern.BytealgCompare.compare #[.slice A n c, .slice B m d]).run P w = .ok (.int .i64 (cmpB xs ys)) w := by
  change Sem.run P (do pure (goInt (Extern.BytealgCompare.cmp (← Extern.Bytes.bytesOf (.slice A n c)) (← Extern.Bytes.bytesOf (.slice B m d))))) w = _
  simp only [Sem.run_bind, Sem.run_pure, run_bytes c h1 e1, run_bytes d h2 e2, Result.andThen]
  rw [Lib.cmp_eq]
  rfl
set_option maxHeartbeats 2000000 in
theorem bcmp_calls {w : World} {A B : Option Addr} {n m c d : Nat} {xs ys : List Int} (h1 : Kd.C (Kd.int .u8) w A n xs) (e1 : xs.length = n) (h2 : Kd.C (Kd.int .u8) w B m ys) (e2 : ys.length = m) :
    Calls Try.prog 28 #[.slice A n c, .slice B m d] w fun e w' => e = .returned (.int .i64 (cmpB xs ys)) ∧ w = w' := by
  have hr := run_cmp (P := Try.prog) (c := c) (d := d) h1 e1 h2 e2
  have HR := Lib.hid hr
  clear hr h1 h2 e1 e2
  go_enter Try.func28, Try.ntmps28
  go_wp2_with fail
  rw [run_callFunc_extern Try.func49 (by kernel_rfl) (by kernel_rfl) (by kernel_rfl) (e := Extern.BytealgCompare.compare) (by kernel_rfl), HR.out]
  simp only [Result.andThen]
  rw [Oper.upon_value]
  go_wp2
  go_ret
  exact ⟨rfl, rfl⟩

/-- The order's key of a span. -/
def keyI (o : Int) (x : Sp) : List Int := if o = 0 then key8 x.tr ++ key8 x.id else if o = 1 then key8 (IntKind.u64.wrap x.st) ++ (key8 x.tr ++ key8 x.id) else if o = 2 then key8 (IntKind.u64.wrap x.du) ++ (key8 x.tr ++ key8 x.id) else []
theorem keyI_eq (o : Int) (x : Sp) : filter_Key.f 9 o x.tr x.id x.par x.svc x.op x.st x.du x.stt [] [] [] = some (keyI o x) := by
  unfold filter_Key.f key_Primary.f keyI
  have hk : ∀ v, num_Key.f 9 v = some (key8 v) := fun v => key_eq 9 v (by omega)
  simp only [hk, Option.bind_some, List.length_append, key8_len, show 8 + 8 < 140737488355328 by decide, show 8 + (8 + 8) < 140737488355328 by decide, if_true]
  by_cases h0 : o = 0
  · rw [if_pos h0, if_pos h0]
  · rw [if_neg h0, if_neg h0]
    by_cases h1 : o = 1
    · rw [if_pos h1, if_pos h1]
    · rw [if_neg h1, if_neg h1]
      by_cases h2 : o = 2
      · rw [if_pos h2, if_pos h2]
      · rw [if_neg h2, if_neg h2]
theorem keyI_isB (o : Int) (x : Sp) : IsB (keyI o x) := by
  have happ : ∀ a b : List Int, IsB a → IsB b → IsB (a ++ b) := by
    intro a b ha hb y hy
    rcases List.mem_append.1 hy with h | h
    · exact ha y h
    · exact hb y h
  unfold keyI
  have h8 := fun v => key8_isB v
  split
  · exact happ _ _ (h8 _) (h8 _)
  · split
    · exact happ _ _ (h8 _) (happ _ _ (h8 _) (h8 _))
    · split
      · exact happ _ _ (h8 _) (happ _ _ (h8 _) (h8 _))
      · intro y hy; cases hy
/-- Rows of bytes stand as their signs. -/
theorem cmpB_lt : ∀ {a b : List Int}, IsB a → IsB b → decide (cmpB a b < 0) = lexLt a b
  | [], [], _, _ => rfl
  | [], y :: b, _, _ => rfl
  | x :: a, [], _, _ => rfl
  | x :: a, y :: b, ha, hb => by
    have hx := ha x (by simp)
    have hy := hb y (by simp)
    have ih := cmpB_lt (a := a) (b := b) (fun z hz => ha z (by simp [hz])) (fun z hz => hb z (by simp [hz]))
    have hlt : (x.toNat.toUInt8 < y.toNat.toUInt8) ↔ x < y := by
      rw [UInt8.lt_iff_toNat_lt]
      simp only [Nat.toUInt8_eq, UInt8.toNat_ofNat']
      rw [Nat.mod_eq_of_lt (by omega), Nat.mod_eq_of_lt (by omega)]
      omega
    have hgt : (y.toNat.toUInt8 < x.toNat.toUInt8) ↔ y < x := by
      rw [UInt8.lt_iff_toNat_lt]
      simp only [Nat.toUInt8_eq, UInt8.toNat_ofNat']
      rw [Nat.mod_eq_of_lt (by omega), Nat.mod_eq_of_lt (by omega)]
      omega
    have e : cmpB (x :: a) (y :: b) = if x < y then -1 else if y < x then 1 else cmpB a b := by
      show (if x.toNat.toUInt8 < y.toNat.toUInt8 then (-1 : Int) else if y.toNat.toUInt8 < x.toNat.toUInt8 then 1 else Lib.compareBytes (Lib.bytesOf a) (Lib.bytesOf b)) = _
      simp only [hlt, hgt]
      rfl
    rw [e]
    show _ = lexLt (x :: a) (y :: b)
    unfold lexLt
    by_cases h1 : x < y
    · rw [if_pos h1, if_neg (show ¬ x = y by omega)]; simp [h1]
    · by_cases h2 : y < x
      · rw [if_neg h1, if_pos h2, if_neg (show ¬ x = y by omega)]; simp; omega
      · rw [if_neg h1, if_neg h2, if_pos (show x = y by omega)]; exact ih
theorem swo_key (f : Sp → List Int) (hf : ∀ x, IsB (f x)) : Swo (ltC fun x y => cmpB (f x) (f y)) := by
  have e : ∀ x y, ltC (fun x y => cmpB (f x) (f y)) x y = lexLt (f x) (f y) := fun x y => cmpB_lt (hf x) (hf y)
  refine ⟨fun x => ?_, fun x y h => ?_, fun x y z h1 h2 => ?_⟩
  · rw [e]; exact lexLt_irrefl _
  · rw [e] at h ⊢; exact lexLt_asymm _ _ h
  · rw [e] at h1 h2 ⊢
    cases h3 : lexLt (f x) (f z) with
    | false => rfl
    | true =>
      rcases lexLt_tri (f y) (f z) with h | h | h
      · rw [h] at h2; cases h2
      · rw [h, h3] at h1; cases h1
      · rw [lexLt_trans _ _ _ h3 h] at h1; cases h1
end Go.Proofs.Ytffggkhahambhaa.Tr

namespace Go.Proofs.Ytffggkhahambhaa.Tr
open Go.RowKit Go.Proofs.YtffggkhahambhaaW.PrintWords Go.Proofs.YtffggkhahambhaaW.PrintLast Go.Proofs.YtffggkhahambhaaW.PrintMore Go.Proofs.Ytffggkhahambhaa.Math Go.Proofs.Ytffggkhahambhaa.PAll Go.Proofs.Ytffggkhahambhaa.Stab Go.Proofs.Ytffggkhahambhaa.NumFacts
set_option linter.unusedVariables false
set_option linter.unusedSimpArgs false
set_option maxHeartbeats 8000000 in
set_option maxRecDepth 1000000 in
theorem all2_calls (x y : Sp) {bq : Nat} {o : Int} (w : World) (hq : w.cell? ⟨bq, 1, none⟩ = some (.int .i64 o)) : Calls Try.prog 27 #[.agg (encS x).toArray, .agg (encS y).toArray, .pointer (some ⟨bq, 0, none⟩)] w fun e w' => e = .returned (.int .i64 (cmpB (keyI o x) (keyI o y))) ∧ Below w.heap.size w w' := by
  have hgr := below_alloc (below_alloc (Below.refl w.heap.size w) (.cells (encS x).toArray 34)) (.cells (encS y).toArray 34)
  have k1 : ((w.alloc (.cells (encS x).toArray 34)).alloc (.cells (encS y).toArray 34)).heap[w.heap.size]? = some (.cells (encS x).toArray 34 (0, 0)) := block_below (heap_alloc_new w _) (below_alloc (Below.refl _ _) _)
  have k2 : ((w.alloc (.cells (encS x).toArray 34)).alloc (.cells (encS y).toArray 34)).heap[(w.alloc (.cells (encS x).toArray 34)).heap.size]? = some (.cells (encS y).toArray 34 (0, 0)) := heap_alloc_new _ _
  rw [show (w.alloc (.cells (encS x).toArray 34)).heap.size = w.heap.size + 1 by simp] at k2
  have HG := Lib.hid hgr
  have K1 := Lib.hid k1
  have K2 := Lib.hid k2
  have HQ := Lib.hid hq
  clear hgr k1 k2 hq
  obtain ⟨r, hr⟩ : ∃ r, cmpB (keyI o x) (keyI o y) = r := ⟨_, rfl⟩
  rw [hr]
  have HR := Lib.hid hr
  clear hr
  rw [arr_S, arr_S] at HG K1 K2 ⊢
  go_enter Try.func27, Try.ntmps27
  go_wp2
  have k1 := blk_drew K1.out
  have k2 := blk_drew K2.out
  have hg := below_drew1 HG.out
  have hq : ((w.alloc (.cells #[.int .u64 x.tr, .int .u64 x.id, .int .u64 x.par, .string x.svc, .string x.op, .int .i64 x.st, .int .i64 x.du, .int .i64 x.stt, .slice x.a.1 x.a.2.1 x.a.2.2, .slice x.e.1 x.e.2.1 x.e.2.2, .slice x.l.1 x.l.2.1 x.l.2.2] 34)).alloc (.cells #[.int .u64 y.tr, .int .u64 y.id, .int .u64 y.par, .string y.svc, .string y.op, .int .i64 y.st, .int .i64 y.du, .int .i64 y.stt, .slice y.a.1 y.a.2.1 y.a.2.2, .slice y.e.1 y.e.2.1 y.e.2.2, .slice y.l.1 y.l.2.1 y.l.2.2] 34)).drew.cell? ⟨bq, 1, none⟩ = some (.int .i64 o) := pw_cell_below hg HQ.out
  refine start_ (n := 10) (S := fun w' => w'.cell? ⟨w.heap.size, 0, none⟩ = some (.int .u64 x.tr) ∧ w'.cell? ⟨w.heap.size, 1, none⟩ = some (.int .u64 x.id) ∧ w'.cell? ⟨w.heap.size, 2, none⟩ = some (.int .u64 x.par) ∧ w'.cell? ⟨w.heap.size, 3, none⟩ = some (.string x.svc) ∧ w'.cell? ⟨w.heap.size, 4, none⟩ = some (.string x.op) ∧ w'.cell? ⟨w.heap.size, 5, none⟩ = some (.int .i64 x.st) ∧ w'.cell? ⟨w.heap.size, 6, none⟩ = some (.int .i64 x.du) ∧ w'.cell? ⟨w.heap.size, 7, none⟩ = some (.int .i64 x.stt) ∧ w'.cell? ⟨w.heap.size, 8, none⟩ = some (.slice x.a.1 x.a.2.1 x.a.2.2) ∧ w'.cell? ⟨w.heap.size, 9, none⟩ = some (.slice x.e.1 x.e.2.1 x.e.2.2) ∧ w'.cell? ⟨w.heap.size, 10, none⟩ = some (.slice x.l.1 x.l.2.1 x.l.2.2) ∧ w'.cell? ⟨w.heap.size + 1, 0, none⟩ = some (.int .u64 y.tr) ∧ w'.cell? ⟨w.heap.size + 1, 1, none⟩ = some (.int .u64 y.id) ∧ w'.cell? ⟨w.heap.size + 1, 2, none⟩ = some (.int .u64 y.par) ∧ w'.cell? ⟨w.heap.size + 1, 3, none⟩ = some (.string y.svc) ∧ w'.cell? ⟨w.heap.size + 1, 4, none⟩ = some (.string y.op) ∧ w'.cell? ⟨w.heap.size + 1, 5, none⟩ = some (.int .i64 y.st) ∧ w'.cell? ⟨w.heap.size + 1, 6, none⟩ = some (.int .i64 y.du) ∧ w'.cell? ⟨w.heap.size + 1, 7, none⟩ = some (.int .i64 y.stt) ∧ w'.cell? ⟨w.heap.size + 1, 8, none⟩ = some (.slice y.a.1 y.a.2.1 y.a.2.2) ∧ w'.cell? ⟨w.heap.size + 1, 9, none⟩ = some (.slice y.e.1 y.e.2.1 y.e.2.2) ∧ w'.cell? ⟨w.heap.size + 1, 10, none⟩ = some (.slice y.l.1 y.l.2.1 y.l.2.2) ∧ w'.cell? ⟨bq, 1, none⟩ = some (.int .i64 o)) (ds := []) #[false, false, false, false, false, false, false, false, false, false] (by kernel_rfl) rfl rfl ⟨(blk_cell k1 0).trans rfl, (blk_cell k1 1).trans rfl, (blk_cell k1 2).trans rfl, (blk_cell k1 3).trans rfl, (blk_cell k1 4).trans rfl, (blk_cell k1 5).trans rfl, (blk_cell k1 6).trans rfl, (blk_cell k1 7).trans rfl, (blk_cell k1 8).trans rfl, (blk_cell k1 9).trans rfl, (blk_cell k1 10).trans rfl, (blk_cell k2 0).trans rfl, (blk_cell k2 1).trans rfl, (blk_cell k2 2).trans rfl, (blk_cell k2 3).trans rfl, (blk_cell k2 4).trans rfl, (blk_cell k2 5).trans rfl, (blk_cell k2 6).trans rfl, (blk_cell k2 7).trans rfl, (blk_cell k2 8).trans rfl, (blk_cell k2 9).trans rfl, (blk_cell k2 10).trans rfl, hq⟩ (fun hHeld => ?_)
  generalize ((w.alloc (.cells #[.int .u64 x.tr, .int .u64 x.id, .int .u64 x.par, .string x.svc, .string x.op, .int .i64 x.st, .int .i64 x.du, .int .i64 x.stt, .slice x.a.1 x.a.2.1 x.a.2.2, .slice x.e.1 x.e.2.1 x.e.2.2, .slice x.l.1 x.l.2.1 x.l.2.2] 34)).alloc (.cells #[.int .u64 y.tr, .int .u64 y.id, .int .u64 y.par, .string y.svc, .string y.op, .int .i64 y.st, .int .i64 y.du, .int .i64 y.stt, .slice y.a.1 y.a.2.1 y.a.2.2, .slice y.e.1 y.e.2.1 y.e.2.2, .slice y.l.1 y.l.2.1 y.l.2.2] 34)).drew = w5 at k1 k2 hg hq hHeld ⊢
  have K15 := Lib.hid k1
  have K25 := Lib.hid k2
  have HG5 := Lib.hid hg
  have HQ5 := Lib.hid hq
  clear k1 k2 hg hq
  refine pure_ (i := 0) (N := some 6) (v := ?_) (a' := ?_) #[true, false, false, false, false, false, false, false, false, false] rfl rfl (by kernel_rfl) (fun _ _ _ h => h) (Or.inl ⟨by rfl, ?_⟩) ?_ ?_
  rotate_left
  · intro w'
    go_simp
    with_reducible rfl
  rotate_left
  · simp only [Act.put, List.setIfInBounds_toArray, List.set_cons_zero, List.set_cons_succ, i64_w, i32_w]
    rfl
  refine pure_ (i := 4) (N := some 10) (v := ?_) (a' := ?_) #[true, false, false, false, true, false, false, false, false, false] rfl rfl (by kernel_rfl) (fun _ _ _ h => h) (Or.inl ⟨by rfl, ?_⟩) ?_ ?_
  rotate_left
  · intro w'
    go_simp
    with_reducible rfl
  rotate_left
  · simp only [Act.put, List.setIfInBounds_toArray, List.set_cons_zero, List.set_cons_succ, i64_w, i32_w]
    rfl
  refine take_ (i := 1) (N := some 7) (v := ?_) (a' := ?_) #[true, true, false, false, true, false, false, false, false, false] rfl rfl (by kernel_rfl) (fun _ _ _ h => h) (Or.inl ⟨by rfl, ?_⟩) hHeld ?_ ?_
  rotate_left
  · rintro w' ⟨s0, s1, s2, s3, s4, s5, s6, s7, s8, s9, s10, s11, s12, s13, s14, s15, s16, s17, s18, s19, s20, s21, s22⟩
    go_simp
    with_reducible rfl
  rotate_left
  · simp only [Act.put, List.setIfInBounds_toArray, List.set_cons_zero, List.set_cons_succ, i64_w, i32_w]
    rfl
  refine take_ (i := 2) (N := some 8) (v := ?_) (a' := ?_) #[true, true, true, false, true, false, false, false, false, false] rfl rfl (by kernel_rfl) (fun _ _ _ h => h) (Or.inl ⟨by rfl, ?_⟩) hHeld ?_ ?_
  rotate_left
  · rintro w' ⟨s0, s1, s2, s3, s4, s5, s6, s7, s8, s9, s10, s11, s12, s13, s14, s15, s16, s17, s18, s19, s20, s21, s22⟩
    go_simp
    with_reducible rfl
  rotate_left
  · simp only [Act.put, List.setIfInBounds_toArray, List.set_cons_zero, List.set_cons_succ, i64_w, i32_w]
    rfl
  refine take_ (i := 5) (N := some 11) (v := ?_) (a' := ?_) #[true, true, true, false, true, true, false, false, false, false] rfl rfl (by kernel_rfl) (fun _ _ _ h => h) (Or.inl ⟨by rfl, ?_⟩) hHeld ?_ ?_
  rotate_left
  · rintro w' ⟨s0, s1, s2, s3, s4, s5, s6, s7, s8, s9, s10, s11, s12, s13, s14, s15, s16, s17, s18, s19, s20, s21, s22⟩
    go_simp
    with_reducible rfl
  rotate_left
  · simp only [Act.put, List.setIfInBounds_toArray, List.set_cons_zero, List.set_cons_succ, i64_w, i32_w]
    rfl
  refine take_ (i := 6) (N := some 12) (v := ?_) (a' := ?_) #[true, true, true, false, true, true, true, false, false, false] rfl rfl (by kernel_rfl) (fun _ _ _ h => h) (Or.inl ⟨by rfl, ?_⟩) hHeld ?_ ?_
  rotate_left
  · rintro w' ⟨s0, s1, s2, s3, s4, s5, s6, s7, s8, s9, s10, s11, s12, s13, s14, s15, s16, s17, s18, s19, s20, s21, s22⟩
    go_simp
    with_reducible rfl
  rotate_left
  · simp only [Act.put, List.setIfInBounds_toArray, List.set_cons_zero, List.set_cons_succ, i64_w, i32_w]
    rfl
  refine one_ (i := 3) (N := some 9) #[true, true, true, true, true, true, true, false, false, false] rfl rfl (by kernel_rfl) (by decide) (fun K hK => ?_)
  refine goes_ Try.func17 (by kernel_rfl) rfl #[.int .i64 o, .agg #[.int .u64 x.tr, .int .u64 x.id, .int .u64 x.par, .string x.svc, .string x.op, .int .i64 x.st, .int .i64 x.du, .int .i64 x.stt, .slice x.a.1 x.a.2.1 x.a.2.2, .slice x.e.1 x.e.2.1 x.e.2.2, .slice x.l.1 x.l.2.1 x.l.2.2]] (by rfl) rfl rfl (by simp only [List.map_toArray, List.map_cons, List.map_nil]; rfl) ?_
  with_reducible refine (filter_Key.callsR 9 o x.tr x.id x.par x.svc x.op x.st x.du x.stt x.a.1 x.a.2.2 x.a.2.1 x.e.1 x.e.2.2 x.e.2.1 x.l.1 x.l.2.2 x.l.2.1 (keyI o x) w5 (keyI_eq o x)).mono ?_
  rintro e w6 ⟨v3, rfl, h3, hb6⟩
  refine ⟨_, rfl, ?_⟩
  have K16 := Lib.hid (block_below K15.out hb6)
  have K26 := Lib.hid (block_below K25.out hb6)
  have HG6 := Lib.hid (below_step HG5.out hb6)
  have HQ6 := Lib.hid (pw_cell_below hb6 HQ5.out)
  have H36 := Lib.hid h3
  clear h3 hb6
  refine hK.out _ _ ⟨(blk_cell K16.out 0).trans rfl, (blk_cell K16.out 1).trans rfl, (blk_cell K16.out 2).trans rfl, (blk_cell K16.out 3).trans rfl, (blk_cell K16.out 4).trans rfl, (blk_cell K16.out 5).trans rfl, (blk_cell K16.out 6).trans rfl, (blk_cell K16.out 7).trans rfl, (blk_cell K16.out 8).trans rfl, (blk_cell K16.out 9).trans rfl, (blk_cell K16.out 10).trans rfl, (blk_cell K26.out 0).trans rfl, (blk_cell K26.out 1).trans rfl, (blk_cell K26.out 2).trans rfl, (blk_cell K26.out 3).trans rfl, (blk_cell K26.out 4).trans rfl, (blk_cell K26.out 5).trans rfl, (blk_cell K26.out 6).trans rfl, (blk_cell K26.out 7).trans rfl, (blk_cell K26.out 8).trans rfl, (blk_cell K26.out 9).trans rfl, (blk_cell K26.out 10).trans rfl, HQ6.out⟩ (fun hHeld => ?_)
  clear hK K
  refine norm_ (a' := ?_) ?_ ?_
  rotate_left
  · show Act.put _ (some 9) _ = _
    simp only [Act.put, List.setIfInBounds_toArray, List.set_cons_zero, List.set_cons_succ, i64_w, i32_w]
    rfl
  refine one_ (i := 7) (N := some 13) #[true, true, true, true, true, true, true, true, false, false] rfl rfl (by kernel_rfl) (by decide) (fun K hK => ?_)
  refine goes_ Try.func17 (by kernel_rfl) rfl #[.int .i64 o, .agg #[.int .u64 y.tr, .int .u64 y.id, .int .u64 y.par, .string y.svc, .string y.op, .int .i64 y.st, .int .i64 y.du, .int .i64 y.stt, .slice y.a.1 y.a.2.1 y.a.2.2, .slice y.e.1 y.e.2.1 y.e.2.2, .slice y.l.1 y.l.2.1 y.l.2.2]] (by rfl) rfl rfl (by simp only [List.map_toArray, List.map_cons, List.map_nil]; rfl) ?_
  with_reducible refine (filter_Key.callsR 9 o y.tr y.id y.par y.svc y.op y.st y.du y.stt y.a.1 y.a.2.2 y.a.2.1 y.e.1 y.e.2.2 y.e.2.1 y.l.1 y.l.2.2 y.l.2.1 (keyI o y) w6 (keyI_eq o y)).mono ?_
  rintro e w7 ⟨v7, rfl, h7, hb7⟩
  refine ⟨_, rfl, ?_⟩
  have K17 := Lib.hid (block_below K16.out hb7)
  have K27 := Lib.hid (block_below K26.out hb7)
  have HG7 := Lib.hid (below_step HG6.out hb7)
  have HQ7 := Lib.hid (pw_cell_below hb7 HQ6.out)
  have H37 := Lib.hid (Kd.R_below H36.out hb7)
  have H77 := Lib.hid h7
  clear h7 hb7
  refine hK.out _ _ ⟨(blk_cell K17.out 0).trans rfl, (blk_cell K17.out 1).trans rfl, (blk_cell K17.out 2).trans rfl, (blk_cell K17.out 3).trans rfl, (blk_cell K17.out 4).trans rfl, (blk_cell K17.out 5).trans rfl, (blk_cell K17.out 6).trans rfl, (blk_cell K17.out 7).trans rfl, (blk_cell K17.out 8).trans rfl, (blk_cell K17.out 9).trans rfl, (blk_cell K17.out 10).trans rfl, (blk_cell K27.out 0).trans rfl, (blk_cell K27.out 1).trans rfl, (blk_cell K27.out 2).trans rfl, (blk_cell K27.out 3).trans rfl, (blk_cell K27.out 4).trans rfl, (blk_cell K27.out 5).trans rfl, (blk_cell K27.out 6).trans rfl, (blk_cell K27.out 7).trans rfl, (blk_cell K27.out 8).trans rfl, (blk_cell K27.out 9).trans rfl, (blk_cell K27.out 10).trans rfl, HQ7.out⟩ (fun hHeld => ?_)
  clear hK K
  refine norm_ (a' := ?_) ?_ ?_
  rotate_left
  · show Act.put _ (some 13) _ = _
    simp only [Act.put, List.setIfInBounds_toArray, List.set_cons_zero, List.set_cons_succ, i64_w, i32_w]
    rfl
  refine one_ (i := 8) (N := some 14) #[true, true, true, true, true, true, true, true, true, false] rfl rfl (by kernel_rfl) (by decide) (fun K hK => ?_)
  obtain ⟨A8, c8, rfl⟩ := Kd.R_slice H37.out
  obtain ⟨A9, c9, rfl⟩ := Kd.R_slice H77.out
  have hcm := bcmp_calls (c := c8) (d := c9) (Kd.R_reads' H37.out).2.2 rfl (Kd.R_reads' H77.out).2.2 rfl
  rw [HR.out] at hcm
  refine goes_ Try.func28 (by kernel_rfl) rfl #[.slice A8 (keyI o x).length c8, .slice A9 (keyI o y).length c9] (by rfl) rfl rfl (by simp only [List.map_toArray, List.map_cons, List.map_nil]; rfl) ?_
  with_reducible refine (hcm).mono ?_
  rintro e w8 ⟨rfl, rfl⟩
  refine ⟨_, rfl, ?_⟩
  refine hK.out _ _ ⟨(blk_cell K17.out 0).trans rfl, (blk_cell K17.out 1).trans rfl, (blk_cell K17.out 2).trans rfl, (blk_cell K17.out 3).trans rfl, (blk_cell K17.out 4).trans rfl, (blk_cell K17.out 5).trans rfl, (blk_cell K17.out 6).trans rfl, (blk_cell K17.out 7).trans rfl, (blk_cell K17.out 8).trans rfl, (blk_cell K17.out 9).trans rfl, (blk_cell K17.out 10).trans rfl, (blk_cell K27.out 0).trans rfl, (blk_cell K27.out 1).trans rfl, (blk_cell K27.out 2).trans rfl, (blk_cell K27.out 3).trans rfl, (blk_cell K27.out 4).trans rfl, (blk_cell K27.out 5).trans rfl, (blk_cell K27.out 6).trans rfl, (blk_cell K27.out 7).trans rfl, (blk_cell K27.out 8).trans rfl, (blk_cell K27.out 9).trans rfl, (blk_cell K27.out 10).trans rfl, HQ7.out⟩ (fun hHeld => ?_)
  clear hK K
  refine norm_ (a' := ?_) ?_ ?_
  rotate_left
  · show Act.put _ (some 14) _ = _
    simp only [Act.put, List.setIfInBounds_toArray, List.set_cons_zero, List.set_cons_succ, i64_w, i32_w]
    rfl
  refine pure_ (i := 9) (N := some 5) (v := ?_) (a' := ?_) #[true, true, true, true, true, true, true, true, true, true] rfl rfl (by kernel_rfl) (fun _ _ _ h => h) (Or.inl ⟨by rfl, ?_⟩) ?_ ?_
  rotate_left
  · intro w'
    go_simp
    with_reducible rfl
  rotate_left
  · simp only [Act.put, List.setIfInBounds_toArray, List.set_cons_zero, List.set_cons_succ, i64_w, i32_w]
    rfl
  refine done_ (by kernel_rfl) ?_
  go_wp2
  go_ret
  exact ⟨rfl, HG7.out⟩
end Go.Proofs.Ytffggkhahambhaa.Tr

namespace Go.Proofs.Ytffggkhahambhaa.Tr
open Go.RowKit Go.Proofs.YtffggkhahambhaaW.PrintWords Go.Proofs.YtffggkhahambhaaW.PrintLast Go.Proofs.YtffggkhahambhaaW.PrintMore Go.Proofs.Ytffggkhahambhaa.Math Go.Proofs.Ytffggkhahambhaa.PAll Go.Proofs.Ytffggkhahambhaa.Stab
set_option linter.unusedVariables false
set_option linter.unusedSimpArgs false
/-- How filter.All sets two spans. -/
def cfK (o : Int) (x y : Sp) : Int := cmpB (keyI o x) (keyI o y)
theorem swo_cfK (o : Int) : Swo (ltC (cfK o)) := swo_key (keyI o) (keyI_isB o)
/-- Of these spans a query's terms all hold just where m tells so. -/
def Holding (w : World) (ts : List S41) (m : Sp → Bool) (l : List Sp) : Prop := ∀ s ∈ l, ∃ x, Is w s x ∧ ∃ pt : S41 → Bool, (∀ t ∈ ts, ∃ k, holdF k t x = some (pt t)) ∧ ts.all pt = m s
theorem cmp_holds {w : World} {g bq : Nat} {o : Int} (hq : w.cell? ⟨bq, 1, none⟩ = some (.int .i64 o)) (hne : bq ≠ g) : Cmp w g bq (cfK o) := by
  intro x y w' hg
  refine (all2_calls x y w' ?_).mono fun e w2 h => h
  have hlt := World.block_lt_of_cell? w _ hq
  have hb := hg.block bq hlt (fun e => hne (Option.some.inj e))
  rw [World.cell?_of_block (w := w) (w' := w') hb]
  exact hq
set_option maxHeartbeats 4000000 in
set_option maxRecDepth 100000 in
theorem all_calls {A : Option Addr} {c : Nat} {l : List Sp} {Aq : Option Addr} {cq : Nat} {ts : List S41} {o : Int} {m : Sp → Bool} {w : World} (hH : Holding w ts m l) (hq : Kd.C k41 w Aq ts.length ts) (hlq : ts.length ≤ cq) (hnq : ts.length ≤ 1000000) (hr : Kd.C kS w A l.length l) (hl : l.length ≤ c) (hn : l.length ≤ 1000000) :
    Calls Try.prog 12 #[.agg #[.slice Aq ts.length cq, .int .i64 o], .slice A l.length c] w fun e w' => ∃ v ys, e = .returned v ∧ Kd.R kS 34 w' w.heap.size (fun _ => True) v ys ∧ Stb (ltC (cfK o)) (l.filter m) ys ∧ ys.length = (l.filter m).length ∧ Below w.heap.size w w' := by
  have hal := below_alloc (Below.refl w.heap.size w) (.cells #[.slice Aq ts.length cq, .int .i64 o] 24)
  have k1 := heap_alloc_new w (.cells #[.slice Aq ts.length cq, .int .i64 o] 24)
  have hsz : (w.alloc (.cells #[.slice Aq ts.length cq, .int .i64 o] 24)).heap.size = w.heap.size + 1 := by simp
  obtain ⟨w1, hw1⟩ : ∃ w1, w.alloc (.cells #[.slice Aq ts.length cq, .int .i64 o] 24) = w1 := ⟨_, rfl⟩
  have HCL := Lib.hid (clone_calls A c l _ (Kd.C_below hr hal) hl hn)
  rw [hw1] at hal k1 hsz HCL
  have HW1 := Lib.hid hw1
  have HAL := Lib.hid hal
  have HK1 := Lib.hid k1
  have HSZ := Lib.hid hsz
  have HH := Lib.hid hH
  have HQ := Lib.hid hq
  have HLQ := Lib.hid hlq
  have HNQ := Lib.hid hnq
  have HN := Lib.hid hn
  clear hal k1 hsz hH hq hlq hnq hr hl hn
  go_enter Try.func12, Try.ntmps12
  go_wp2_with fail
  clear hw1
  refine HCL.out.mono ?_
  rintro e w2 ⟨v2, rfl, hR2, hb2⟩
  obtain ⟨A2, c2, rfl⟩ := Kd.R_slice hR2
  have HR2 := Lib.hid hR2
  have HB2 := Lib.hid hb2
  have hkeep : Keeps w1.heap.size w2 w.heap.size m l := by
    intro s hs w' hb'
    obtain ⟨x, hx, pt, hpt, hm⟩ := HH.out s hs
    have hbw : Below w1.heap.size w1 w' := HB2.out.trans hb'
    have hbw0 : Below w.heap.size w w' := HAL.out.trans (hbw.mono (by rw [HSZ.out]; omega))
    have hq' := (hbw.block w.heap.size (by rw [HSZ.out]; omega)).trans HK1.out
    refine (all1_calls hq' hpt (hx.below hbw0) (Kd.C_below HQ.out hbw0) HLQ.out HNQ.out).mono ?_
    rintro e w5 ⟨rfl, hb5⟩
    exact ⟨by rw [hm], hb5⟩
  have HD := Lib.hid (delf_calls A2 c2 l hkeep (Below.refl _ _) HB2.out.size hR2 HN.out)
  clear hkeep hR2 hb2 HCL
  go_wp2_with fail
  refine HD.out.mono ?_
  rintro e w3 ⟨v3, rfl, hR3, hb3⟩
  obtain ⟨A3, c3, rfl⟩ := Kd.R_slice hR3
  have hq3 : w3.cell? ⟨w.heap.size, 1, none⟩ = some (.int .i64 o) := (blk_cell (((HB2.out.trans hb3).block w.heap.size (by rw [HSZ.out]; omega)).trans HK1.out) 1).trans rfl
  have hrl := row_lt hR3
  have HS := Lib.hid (sortStable_calls (swo_cfK o) hR3 (Nat.le_trans (List.length_filter_le _ _) HN.out) (bq := w.heap.size) (fun g hg => cmp_holds hq3 (fun e => by
    subst hg
    have := (hrl g rfl).1
    rw [HSZ.out] at this
    omega)))
  have HR3 := Lib.hid hR3
  have HB3 := Lib.hid hb3
  have HRL := Lib.hid hrl
  clear hR3 hb3 HD hq3 hrl
  go_wp2_with fail
  refine HS.out.mono ?_
  rintro e w4 ⟨rfl, ys, hlen, hst, hR4, hg⟩
  have HR4 := Lib.hid hR4
  have HST := Lib.hid hst
  have HB4 := Lib.hid (Below.grown (HB2.out.trans HB3.out) hg (Nat.le_trans HB2.out.size HB3.out.size) (fun k hk => (HRL.out k hk).1))
  have HLN := Lib.hid hlen
  clear hR4 hst hg hlen HS
  go_wp2
  go_ret
  exact ⟨_, ys, rfl, Kd.R_lower HR4.out (by rw [HSZ.out]; omega), HST.out, HLN.out, HAL.out.trans (HB4.out.mono (by rw [HSZ.out]; omega))⟩
end Go.Proofs.Ytffggkhahambhaa.Tr

namespace Go.Proofs.Ytffggkhahambhaa.Tr
open Go.RowKit Go.Proofs.YtffggkhahambhaaW.PrintWords Go.Proofs.YtffggkhahambhaaW.PrintLast Go.Proofs.YtffggkhahambhaaW.PrintMore Go.Proofs.Ytffggkhahambhaa.Math Go.Proofs.Ytffggkhahambhaa.PAll Go.Proofs.Ytffggkhahambhaa.Stab
set_option linter.unusedVariables false
set_option linter.unusedSimpArgs false
def sA : S34 := ⟨1, 2, 0, ⟨#[97, 112, 105]⟩, ⟨#[103, 101, 116]⟩, 5, 7, 0, [], [], []⟩
def spA : Sp := ⟨1, 2, 0, ⟨#[97, 112, 105]⟩, ⟨#[103, 101, 116]⟩, 5, 7, 0, (none, 0, 0), (none, 0, 0), (none, 0, 0)⟩
def tA : S41 := ⟨⟨#[100, 117, 114]⟩, 5, ⟨1, ⟨#[]⟩, 7, false⟩⟩
def uA : S41 := ⟨⟨#[64, 99, 111, 100, 101]⟩, 2, ⟨1, ⟨#[]⟩, 500, false⟩⟩
theorem isA (w : World) : Is w spA sA := k34_mk w sA (A8 := none) (c8 := 0) (Nat.le_refl _) ⟨rfl, by simp [sA], fun h => absurd h (by decide)⟩ (A9 := none) (c9 := 0) (Nat.le_refl _) ⟨rfl, by simp [sA], fun h => absurd h (by decide)⟩ (A10 := none) (c10 := 0) (Nat.le_refl _) ⟨rfl, by simp [sA], fun h => absurd h (by decide)⟩
theorem hold_tA : holdF 5 tA sA = some true := by kernel_rfl
theorem hold_uA : holdF 5 uA sA = some false := by kernel_rfl
theorem add_at0 (g j : Nat) : (⟨g, 0, none⟩ : Addr).add j = ⟨g, j, none⟩ := by
  unfold Addr.add
  split
  · subst_vars; rfl
  · simp
theorem row_tA {w : World} {g : Nat} (h : w.heap[g]? = some (.cells (encT tA).toArray 41 (0, 0))) : Kd.C k41 w (some ⟨g, 0, none⟩) [tA].length [tA] := by
  refine ⟨rfl, by simp, fun _ => ⟨_, rfl, fun j p hj => ?_⟩⟩
  rcases j with _ | j
  · injection hj with hj
    subst hj
    refine ⟨encT tA, rfl, k41_mk w tA, fun i u hu => ?_⟩
    have hc := blk_cell h (0 * 6 + i)
    have e : (⟨g, 0, none⟩ : Addr).add (0 * 6 + i) = ⟨g, 0 * 6 + i, none⟩ := add_at0 g _
    show w.cell? ((⟨g, 0, none⟩ : Addr).add (0 * 6 + i)) = some u
    rw [e, hc, Nat.zero_mul, Nat.zero_add]
    simpa using hu
  · cases hj
theorem row_sA {w : World} {g : Nat} (h : w.heap[g]? = some (.cells (encS spA).toArray 34 (0, 0))) : Kd.C kS w (some ⟨g, 0, none⟩) [spA].length [spA] := by
  refine ⟨rfl, by simp, fun _ => ⟨_, rfl, fun j p hj => ?_⟩⟩
  rcases j with _ | j
  · injection hj with hj
    subst hj
    refine ⟨encS spA, rfl, rfl, fun i u hu => ?_⟩
    have hc := blk_cell h (0 * 11 + i)
    have e : (⟨g, 0, none⟩ : Addr).add (0 * 11 + i) = ⟨g, 0 * 11 + i, none⟩ := add_at0 g _
    show w.cell? ((⟨g, 0, none⟩ : Addr).add (0 * 11 + i)) = some u
    rw [e, hc, Nat.zero_mul, Nat.zero_add]
    simpa using hu
  · cases hj
set_option maxHeartbeats 8000000 in
set_option maxRecDepth 1000000 in
theorem awake_calls (w : World) : Calls Try.prog 7 #[] w fun e w' => e = .returned (.bool true) ∧ Below w.heap.size w w' := by
  obtain ⟨n, hn⟩ : ∃ n, w.heap.size = n := ⟨_, rfl⟩
  have sz : ∀ (W : World) (o : Obj), (W.alloc o).heap.size = W.heap.size + 1 := fun W o => by simp
  have hb : Below w.heap.size w (((w.alloc (.cells #[.int .u64 1, .int .u64 2, .int .u64 0, .string ⟨#[97, 112, 105]⟩, .string ⟨#[103, 101, 116]⟩, .int .i64 5, .int .i64 7, .int .i64 0, .slice none 0 0, .slice none 0 0, .slice none 0 0] 34)).alloc (.cells #[.string ⟨#[100, 117, 114]⟩, .int .i64 5, .int .i64 1, .string ⟨#[]⟩, .int .i64 7, .bool false] 41)).alloc (.cells #[.string ⟨#[64, 99, 111, 100, 101]⟩, .int .i64 2, .int .i64 1, .string ⟨#[]⟩, .int .i64 500, .bool false] 41)) := below_alloc (below_alloc (below_alloc (Below.refl _ _) _) _) _
  have h1 := block_below (block_below (heap_alloc_new w (.cells #[.int .u64 1, .int .u64 2, .int .u64 0, .string ⟨#[97, 112, 105]⟩, .string ⟨#[103, 101, 116]⟩, .int .i64 5, .int .i64 7, .int .i64 0, .slice none 0 0, .slice none 0 0, .slice none 0 0] 34)) (below_alloc (Below.refl _ _) (.cells #[.string ⟨#[100, 117, 114]⟩, .int .i64 5, .int .i64 1, .string ⟨#[]⟩, .int .i64 7, .bool false] 41))) (below_alloc (Below.refl _ _) (.cells #[.string ⟨#[64, 99, 111, 100, 101]⟩, .int .i64 2, .int .i64 1, .string ⟨#[]⟩, .int .i64 500, .bool false] 41))
  have h2 := block_below (heap_alloc_new (w.alloc (.cells #[.int .u64 1, .int .u64 2, .int .u64 0, .string ⟨#[97, 112, 105]⟩, .string ⟨#[103, 101, 116]⟩, .int .i64 5, .int .i64 7, .int .i64 0, .slice none 0 0, .slice none 0 0, .slice none 0 0] 34)) (.cells #[.string ⟨#[100, 117, 114]⟩, .int .i64 5, .int .i64 1, .string ⟨#[]⟩, .int .i64 7, .bool false] 41)) (below_alloc (Below.refl _ _) (.cells #[.string ⟨#[64, 99, 111, 100, 101]⟩, .int .i64 2, .int .i64 1, .string ⟨#[]⟩, .int .i64 500, .bool false] 41))
  have h3 := heap_alloc_new ((w.alloc (.cells #[.int .u64 1, .int .u64 2, .int .u64 0, .string ⟨#[97, 112, 105]⟩, .string ⟨#[103, 101, 116]⟩, .int .i64 5, .int .i64 7, .int .i64 0, .slice none 0 0, .slice none 0 0, .slice none 0 0] 34)).alloc (.cells #[.string ⟨#[100, 117, 114]⟩, .int .i64 5, .int .i64 1, .string ⟨#[]⟩, .int .i64 7, .bool false] 41)) (.cells #[.string ⟨#[64, 99, 111, 100, 101]⟩, .int .i64 2, .int .i64 1, .string ⟨#[]⟩, .int .i64 500, .bool false] 41)
  simp only [sz] at h2 h3
  have H1 := Lib.hid h1
  have H2 := Lib.hid h2
  have H3 := Lib.hid h3
  have HB := Lib.hid hb
  clear h1 h2 h3 hb sz hn

  have x0 : (((w.alloc (.cells #[.int .u64 1, .int .u64 2, .int .u64 0, .string ⟨#[97, 112, 105]⟩, .string ⟨#[103, 101, 116]⟩, .int .i64 5, .int .i64 7, .int .i64 0, .slice none 0 0, .slice none 0 0, .slice none 0 0] 34)).alloc (.cells #[.string ⟨#[100, 117, 114]⟩, .int .i64 5, .int .i64 1, .string ⟨#[]⟩, .int .i64 7, .bool false] 41)).alloc (.cells #[.string ⟨#[64, 99, 111, 100, 101]⟩, .int .i64 2, .int .i64 1, .string ⟨#[]⟩, .int .i64 500, .bool false] 41)).cell? ⟨w.heap.size, 0, none⟩ = some (.int .u64 1) := (blk_cell H1.out 0).trans rfl
  have x1 : (((w.alloc (.cells #[.int .u64 1, .int .u64 2, .int .u64 0, .string ⟨#[97, 112, 105]⟩, .string ⟨#[103, 101, 116]⟩, .int .i64 5, .int .i64 7, .int .i64 0, .slice none 0 0, .slice none 0 0, .slice none 0 0] 34)).alloc (.cells #[.string ⟨#[100, 117, 114]⟩, .int .i64 5, .int .i64 1, .string ⟨#[]⟩, .int .i64 7, .bool false] 41)).alloc (.cells #[.string ⟨#[64, 99, 111, 100, 101]⟩, .int .i64 2, .int .i64 1, .string ⟨#[]⟩, .int .i64 500, .bool false] 41)).cell? ⟨w.heap.size, 1, none⟩ = some (.int .u64 2) := (blk_cell H1.out 1).trans rfl
  have x2 : (((w.alloc (.cells #[.int .u64 1, .int .u64 2, .int .u64 0, .string ⟨#[97, 112, 105]⟩, .string ⟨#[103, 101, 116]⟩, .int .i64 5, .int .i64 7, .int .i64 0, .slice none 0 0, .slice none 0 0, .slice none 0 0] 34)).alloc (.cells #[.string ⟨#[100, 117, 114]⟩, .int .i64 5, .int .i64 1, .string ⟨#[]⟩, .int .i64 7, .bool false] 41)).alloc (.cells #[.string ⟨#[64, 99, 111, 100, 101]⟩, .int .i64 2, .int .i64 1, .string ⟨#[]⟩, .int .i64 500, .bool false] 41)).cell? ⟨w.heap.size, 2, none⟩ = some (.int .u64 0) := (blk_cell H1.out 2).trans rfl
  have x3 : (((w.alloc (.cells #[.int .u64 1, .int .u64 2, .int .u64 0, .string ⟨#[97, 112, 105]⟩, .string ⟨#[103, 101, 116]⟩, .int .i64 5, .int .i64 7, .int .i64 0, .slice none 0 0, .slice none 0 0, .slice none 0 0] 34)).alloc (.cells #[.string ⟨#[100, 117, 114]⟩, .int .i64 5, .int .i64 1, .string ⟨#[]⟩, .int .i64 7, .bool false] 41)).alloc (.cells #[.string ⟨#[64, 99, 111, 100, 101]⟩, .int .i64 2, .int .i64 1, .string ⟨#[]⟩, .int .i64 500, .bool false] 41)).cell? ⟨w.heap.size, 3, none⟩ = some (.string ⟨#[97, 112, 105]⟩) := (blk_cell H1.out 3).trans rfl
  have x4 : (((w.alloc (.cells #[.int .u64 1, .int .u64 2, .int .u64 0, .string ⟨#[97, 112, 105]⟩, .string ⟨#[103, 101, 116]⟩, .int .i64 5, .int .i64 7, .int .i64 0, .slice none 0 0, .slice none 0 0, .slice none 0 0] 34)).alloc (.cells #[.string ⟨#[100, 117, 114]⟩, .int .i64 5, .int .i64 1, .string ⟨#[]⟩, .int .i64 7, .bool false] 41)).alloc (.cells #[.string ⟨#[64, 99, 111, 100, 101]⟩, .int .i64 2, .int .i64 1, .string ⟨#[]⟩, .int .i64 500, .bool false] 41)).cell? ⟨w.heap.size, 4, none⟩ = some (.string ⟨#[103, 101, 116]⟩) := (blk_cell H1.out 4).trans rfl
  have x5 : (((w.alloc (.cells #[.int .u64 1, .int .u64 2, .int .u64 0, .string ⟨#[97, 112, 105]⟩, .string ⟨#[103, 101, 116]⟩, .int .i64 5, .int .i64 7, .int .i64 0, .slice none 0 0, .slice none 0 0, .slice none 0 0] 34)).alloc (.cells #[.string ⟨#[100, 117, 114]⟩, .int .i64 5, .int .i64 1, .string ⟨#[]⟩, .int .i64 7, .bool false] 41)).alloc (.cells #[.string ⟨#[64, 99, 111, 100, 101]⟩, .int .i64 2, .int .i64 1, .string ⟨#[]⟩, .int .i64 500, .bool false] 41)).cell? ⟨w.heap.size, 5, none⟩ = some (.int .i64 5) := (blk_cell H1.out 5).trans rfl
  have x6 : (((w.alloc (.cells #[.int .u64 1, .int .u64 2, .int .u64 0, .string ⟨#[97, 112, 105]⟩, .string ⟨#[103, 101, 116]⟩, .int .i64 5, .int .i64 7, .int .i64 0, .slice none 0 0, .slice none 0 0, .slice none 0 0] 34)).alloc (.cells #[.string ⟨#[100, 117, 114]⟩, .int .i64 5, .int .i64 1, .string ⟨#[]⟩, .int .i64 7, .bool false] 41)).alloc (.cells #[.string ⟨#[64, 99, 111, 100, 101]⟩, .int .i64 2, .int .i64 1, .string ⟨#[]⟩, .int .i64 500, .bool false] 41)).cell? ⟨w.heap.size, 6, none⟩ = some (.int .i64 7) := (blk_cell H1.out 6).trans rfl
  have x7 : (((w.alloc (.cells #[.int .u64 1, .int .u64 2, .int .u64 0, .string ⟨#[97, 112, 105]⟩, .string ⟨#[103, 101, 116]⟩, .int .i64 5, .int .i64 7, .int .i64 0, .slice none 0 0, .slice none 0 0, .slice none 0 0] 34)).alloc (.cells #[.string ⟨#[100, 117, 114]⟩, .int .i64 5, .int .i64 1, .string ⟨#[]⟩, .int .i64 7, .bool false] 41)).alloc (.cells #[.string ⟨#[64, 99, 111, 100, 101]⟩, .int .i64 2, .int .i64 1, .string ⟨#[]⟩, .int .i64 500, .bool false] 41)).cell? ⟨w.heap.size, 7, none⟩ = some (.int .i64 0) := (blk_cell H1.out 7).trans rfl
  have x8 : (((w.alloc (.cells #[.int .u64 1, .int .u64 2, .int .u64 0, .string ⟨#[97, 112, 105]⟩, .string ⟨#[103, 101, 116]⟩, .int .i64 5, .int .i64 7, .int .i64 0, .slice none 0 0, .slice none 0 0, .slice none 0 0] 34)).alloc (.cells #[.string ⟨#[100, 117, 114]⟩, .int .i64 5, .int .i64 1, .string ⟨#[]⟩, .int .i64 7, .bool false] 41)).alloc (.cells #[.string ⟨#[64, 99, 111, 100, 101]⟩, .int .i64 2, .int .i64 1, .string ⟨#[]⟩, .int .i64 500, .bool false] 41)).cell? ⟨w.heap.size, 8, none⟩ = some (.slice none 0 0) := (blk_cell H1.out 8).trans rfl
  have x9 : (((w.alloc (.cells #[.int .u64 1, .int .u64 2, .int .u64 0, .string ⟨#[97, 112, 105]⟩, .string ⟨#[103, 101, 116]⟩, .int .i64 5, .int .i64 7, .int .i64 0, .slice none 0 0, .slice none 0 0, .slice none 0 0] 34)).alloc (.cells #[.string ⟨#[100, 117, 114]⟩, .int .i64 5, .int .i64 1, .string ⟨#[]⟩, .int .i64 7, .bool false] 41)).alloc (.cells #[.string ⟨#[64, 99, 111, 100, 101]⟩, .int .i64 2, .int .i64 1, .string ⟨#[]⟩, .int .i64 500, .bool false] 41)).cell? ⟨w.heap.size, 9, none⟩ = some (.slice none 0 0) := (blk_cell H1.out 9).trans rfl
  have x10 : (((w.alloc (.cells #[.int .u64 1, .int .u64 2, .int .u64 0, .string ⟨#[97, 112, 105]⟩, .string ⟨#[103, 101, 116]⟩, .int .i64 5, .int .i64 7, .int .i64 0, .slice none 0 0, .slice none 0 0, .slice none 0 0] 34)).alloc (.cells #[.string ⟨#[100, 117, 114]⟩, .int .i64 5, .int .i64 1, .string ⟨#[]⟩, .int .i64 7, .bool false] 41)).alloc (.cells #[.string ⟨#[64, 99, 111, 100, 101]⟩, .int .i64 2, .int .i64 1, .string ⟨#[]⟩, .int .i64 500, .bool false] 41)).cell? ⟨w.heap.size, 10, none⟩ = some (.slice none 0 0) := (blk_cell H1.out 10).trans rfl
  have y0 : (((w.alloc (.cells #[.int .u64 1, .int .u64 2, .int .u64 0, .string ⟨#[97, 112, 105]⟩, .string ⟨#[103, 101, 116]⟩, .int .i64 5, .int .i64 7, .int .i64 0, .slice none 0 0, .slice none 0 0, .slice none 0 0] 34)).alloc (.cells #[.string ⟨#[100, 117, 114]⟩, .int .i64 5, .int .i64 1, .string ⟨#[]⟩, .int .i64 7, .bool false] 41)).alloc (.cells #[.string ⟨#[64, 99, 111, 100, 101]⟩, .int .i64 2, .int .i64 1, .string ⟨#[]⟩, .int .i64 500, .bool false] 41)).cell? ⟨w.heap.size + 1, 0, none⟩ = some (.string ⟨#[100, 117, 114]⟩) := (blk_cell H2.out 0).trans rfl
  have y1 : (((w.alloc (.cells #[.int .u64 1, .int .u64 2, .int .u64 0, .string ⟨#[97, 112, 105]⟩, .string ⟨#[103, 101, 116]⟩, .int .i64 5, .int .i64 7, .int .i64 0, .slice none 0 0, .slice none 0 0, .slice none 0 0] 34)).alloc (.cells #[.string ⟨#[100, 117, 114]⟩, .int .i64 5, .int .i64 1, .string ⟨#[]⟩, .int .i64 7, .bool false] 41)).alloc (.cells #[.string ⟨#[64, 99, 111, 100, 101]⟩, .int .i64 2, .int .i64 1, .string ⟨#[]⟩, .int .i64 500, .bool false] 41)).cell? ⟨w.heap.size + 1, 1, none⟩ = some (.int .i64 5) := (blk_cell H2.out 1).trans rfl
  have y2 : (((w.alloc (.cells #[.int .u64 1, .int .u64 2, .int .u64 0, .string ⟨#[97, 112, 105]⟩, .string ⟨#[103, 101, 116]⟩, .int .i64 5, .int .i64 7, .int .i64 0, .slice none 0 0, .slice none 0 0, .slice none 0 0] 34)).alloc (.cells #[.string ⟨#[100, 117, 114]⟩, .int .i64 5, .int .i64 1, .string ⟨#[]⟩, .int .i64 7, .bool false] 41)).alloc (.cells #[.string ⟨#[64, 99, 111, 100, 101]⟩, .int .i64 2, .int .i64 1, .string ⟨#[]⟩, .int .i64 500, .bool false] 41)).cell? ⟨w.heap.size + 1, 2, none⟩ = some (.int .i64 1) := (blk_cell H2.out 2).trans rfl
  have y3 : (((w.alloc (.cells #[.int .u64 1, .int .u64 2, .int .u64 0, .string ⟨#[97, 112, 105]⟩, .string ⟨#[103, 101, 116]⟩, .int .i64 5, .int .i64 7, .int .i64 0, .slice none 0 0, .slice none 0 0, .slice none 0 0] 34)).alloc (.cells #[.string ⟨#[100, 117, 114]⟩, .int .i64 5, .int .i64 1, .string ⟨#[]⟩, .int .i64 7, .bool false] 41)).alloc (.cells #[.string ⟨#[64, 99, 111, 100, 101]⟩, .int .i64 2, .int .i64 1, .string ⟨#[]⟩, .int .i64 500, .bool false] 41)).cell? ⟨w.heap.size + 1, 3, none⟩ = some (.string ⟨#[]⟩) := (blk_cell H2.out 3).trans rfl
  have y4 : (((w.alloc (.cells #[.int .u64 1, .int .u64 2, .int .u64 0, .string ⟨#[97, 112, 105]⟩, .string ⟨#[103, 101, 116]⟩, .int .i64 5, .int .i64 7, .int .i64 0, .slice none 0 0, .slice none 0 0, .slice none 0 0] 34)).alloc (.cells #[.string ⟨#[100, 117, 114]⟩, .int .i64 5, .int .i64 1, .string ⟨#[]⟩, .int .i64 7, .bool false] 41)).alloc (.cells #[.string ⟨#[64, 99, 111, 100, 101]⟩, .int .i64 2, .int .i64 1, .string ⟨#[]⟩, .int .i64 500, .bool false] 41)).cell? ⟨w.heap.size + 1, 4, none⟩ = some (.int .i64 7) := (blk_cell H2.out 4).trans rfl
  have y5 : (((w.alloc (.cells #[.int .u64 1, .int .u64 2, .int .u64 0, .string ⟨#[97, 112, 105]⟩, .string ⟨#[103, 101, 116]⟩, .int .i64 5, .int .i64 7, .int .i64 0, .slice none 0 0, .slice none 0 0, .slice none 0 0] 34)).alloc (.cells #[.string ⟨#[100, 117, 114]⟩, .int .i64 5, .int .i64 1, .string ⟨#[]⟩, .int .i64 7, .bool false] 41)).alloc (.cells #[.string ⟨#[64, 99, 111, 100, 101]⟩, .int .i64 2, .int .i64 1, .string ⟨#[]⟩, .int .i64 500, .bool false] 41)).cell? ⟨w.heap.size + 1, 5, none⟩ = some (.bool false) := (blk_cell H2.out 5).trans rfl
  have z0 : (((w.alloc (.cells #[.int .u64 1, .int .u64 2, .int .u64 0, .string ⟨#[97, 112, 105]⟩, .string ⟨#[103, 101, 116]⟩, .int .i64 5, .int .i64 7, .int .i64 0, .slice none 0 0, .slice none 0 0, .slice none 0 0] 34)).alloc (.cells #[.string ⟨#[100, 117, 114]⟩, .int .i64 5, .int .i64 1, .string ⟨#[]⟩, .int .i64 7, .bool false] 41)).alloc (.cells #[.string ⟨#[64, 99, 111, 100, 101]⟩, .int .i64 2, .int .i64 1, .string ⟨#[]⟩, .int .i64 500, .bool false] 41)).cell? ⟨w.heap.size + 1 + 1, 0, none⟩ = some (.string ⟨#[64, 99, 111, 100, 101]⟩) := (blk_cell H3.out 0).trans rfl
  have z1 : (((w.alloc (.cells #[.int .u64 1, .int .u64 2, .int .u64 0, .string ⟨#[97, 112, 105]⟩, .string ⟨#[103, 101, 116]⟩, .int .i64 5, .int .i64 7, .int .i64 0, .slice none 0 0, .slice none 0 0, .slice none 0 0] 34)).alloc (.cells #[.string ⟨#[100, 117, 114]⟩, .int .i64 5, .int .i64 1, .string ⟨#[]⟩, .int .i64 7, .bool false] 41)).alloc (.cells #[.string ⟨#[64, 99, 111, 100, 101]⟩, .int .i64 2, .int .i64 1, .string ⟨#[]⟩, .int .i64 500, .bool false] 41)).cell? ⟨w.heap.size + 1 + 1, 1, none⟩ = some (.int .i64 2) := (blk_cell H3.out 1).trans rfl
  have z2 : (((w.alloc (.cells #[.int .u64 1, .int .u64 2, .int .u64 0, .string ⟨#[97, 112, 105]⟩, .string ⟨#[103, 101, 116]⟩, .int .i64 5, .int .i64 7, .int .i64 0, .slice none 0 0, .slice none 0 0, .slice none 0 0] 34)).alloc (.cells #[.string ⟨#[100, 117, 114]⟩, .int .i64 5, .int .i64 1, .string ⟨#[]⟩, .int .i64 7, .bool false] 41)).alloc (.cells #[.string ⟨#[64, 99, 111, 100, 101]⟩, .int .i64 2, .int .i64 1, .string ⟨#[]⟩, .int .i64 500, .bool false] 41)).cell? ⟨w.heap.size + 1 + 1, 2, none⟩ = some (.int .i64 1) := (blk_cell H3.out 2).trans rfl
  have z3 : (((w.alloc (.cells #[.int .u64 1, .int .u64 2, .int .u64 0, .string ⟨#[97, 112, 105]⟩, .string ⟨#[103, 101, 116]⟩, .int .i64 5, .int .i64 7, .int .i64 0, .slice none 0 0, .slice none 0 0, .slice none 0 0] 34)).alloc (.cells #[.string ⟨#[100, 117, 114]⟩, .int .i64 5, .int .i64 1, .string ⟨#[]⟩, .int .i64 7, .bool false] 41)).alloc (.cells #[.string ⟨#[64, 99, 111, 100, 101]⟩, .int .i64 2, .int .i64 1, .string ⟨#[]⟩, .int .i64 500, .bool false] 41)).cell? ⟨w.heap.size + 1 + 1, 3, none⟩ = some (.string ⟨#[]⟩) := (blk_cell H3.out 3).trans rfl
  have z4 : (((w.alloc (.cells #[.int .u64 1, .int .u64 2, .int .u64 0, .string ⟨#[97, 112, 105]⟩, .string ⟨#[103, 101, 116]⟩, .int .i64 5, .int .i64 7, .int .i64 0, .slice none 0 0, .slice none 0 0, .slice none 0 0] 34)).alloc (.cells #[.string ⟨#[100, 117, 114]⟩, .int .i64 5, .int .i64 1, .string ⟨#[]⟩, .int .i64 7, .bool false] 41)).alloc (.cells #[.string ⟨#[64, 99, 111, 100, 101]⟩, .int .i64 2, .int .i64 1, .string ⟨#[]⟩, .int .i64 500, .bool false] 41)).cell? ⟨w.heap.size + 1 + 1, 4, none⟩ = some (.int .i64 500) := (blk_cell H3.out 4).trans rfl
  have z5 : (((w.alloc (.cells #[.int .u64 1, .int .u64 2, .int .u64 0, .string ⟨#[97, 112, 105]⟩, .string ⟨#[103, 101, 116]⟩, .int .i64 5, .int .i64 7, .int .i64 0, .slice none 0 0, .slice none 0 0, .slice none 0 0] 34)).alloc (.cells #[.string ⟨#[100, 117, 114]⟩, .int .i64 5, .int .i64 1, .string ⟨#[]⟩, .int .i64 7, .bool false] 41)).alloc (.cells #[.string ⟨#[64, 99, 111, 100, 101]⟩, .int .i64 2, .int .i64 1, .string ⟨#[]⟩, .int .i64 500, .bool false] 41)).cell? ⟨w.heap.size + 1 + 1, 5, none⟩ = some (.bool false) := (blk_cell H3.out 5).trans rfl
  go_enter Try.func7, Try.ntmps7
  go_wp2_with fail
  refine (holds_calls (isA _) hold_tA).mono ?_
  rintro e w4 ⟨rfl, hb4⟩
  have H1a := Lib.hid (block_below H1.out hb4)
  have H2a := Lib.hid (block_below H2.out hb4)
  have H3a := Lib.hid (block_below H3.out hb4)
  have HBa := Lib.hid (below_step HB.out hb4)
  clear x0 x1 x2 x3 x4 x5 x6 x7 x8 x9 x10 y0 y1 y2 y3 y4 y5 z0 z1 z2 z3 z4 z5
  clear hb4
  have x0 : w4.cell? ⟨w.heap.size, 0, none⟩ = some (.int .u64 1) := (blk_cell H1a.out 0).trans rfl
  have x1 : w4.cell? ⟨w.heap.size, 1, none⟩ = some (.int .u64 2) := (blk_cell H1a.out 1).trans rfl
  have x2 : w4.cell? ⟨w.heap.size, 2, none⟩ = some (.int .u64 0) := (blk_cell H1a.out 2).trans rfl
  have x3 : w4.cell? ⟨w.heap.size, 3, none⟩ = some (.string ⟨#[97, 112, 105]⟩) := (blk_cell H1a.out 3).trans rfl
  have x4 : w4.cell? ⟨w.heap.size, 4, none⟩ = some (.string ⟨#[103, 101, 116]⟩) := (blk_cell H1a.out 4).trans rfl
  have x5 : w4.cell? ⟨w.heap.size, 5, none⟩ = some (.int .i64 5) := (blk_cell H1a.out 5).trans rfl
  have x6 : w4.cell? ⟨w.heap.size, 6, none⟩ = some (.int .i64 7) := (blk_cell H1a.out 6).trans rfl
  have x7 : w4.cell? ⟨w.heap.size, 7, none⟩ = some (.int .i64 0) := (blk_cell H1a.out 7).trans rfl
  have x8 : w4.cell? ⟨w.heap.size, 8, none⟩ = some (.slice none 0 0) := (blk_cell H1a.out 8).trans rfl
  have x9 : w4.cell? ⟨w.heap.size, 9, none⟩ = some (.slice none 0 0) := (blk_cell H1a.out 9).trans rfl
  have x10 : w4.cell? ⟨w.heap.size, 10, none⟩ = some (.slice none 0 0) := (blk_cell H1a.out 10).trans rfl
  have y0 : w4.cell? ⟨w.heap.size + 1, 0, none⟩ = some (.string ⟨#[100, 117, 114]⟩) := (blk_cell H2a.out 0).trans rfl
  have y1 : w4.cell? ⟨w.heap.size + 1, 1, none⟩ = some (.int .i64 5) := (blk_cell H2a.out 1).trans rfl
  have y2 : w4.cell? ⟨w.heap.size + 1, 2, none⟩ = some (.int .i64 1) := (blk_cell H2a.out 2).trans rfl
  have y3 : w4.cell? ⟨w.heap.size + 1, 3, none⟩ = some (.string ⟨#[]⟩) := (blk_cell H2a.out 3).trans rfl
  have y4 : w4.cell? ⟨w.heap.size + 1, 4, none⟩ = some (.int .i64 7) := (blk_cell H2a.out 4).trans rfl
  have y5 : w4.cell? ⟨w.heap.size + 1, 5, none⟩ = some (.bool false) := (blk_cell H2a.out 5).trans rfl
  have z0 : w4.cell? ⟨w.heap.size + 1 + 1, 0, none⟩ = some (.string ⟨#[64, 99, 111, 100, 101]⟩) := (blk_cell H3a.out 0).trans rfl
  have z1 : w4.cell? ⟨w.heap.size + 1 + 1, 1, none⟩ = some (.int .i64 2) := (blk_cell H3a.out 1).trans rfl
  have z2 : w4.cell? ⟨w.heap.size + 1 + 1, 2, none⟩ = some (.int .i64 1) := (blk_cell H3a.out 2).trans rfl
  have z3 : w4.cell? ⟨w.heap.size + 1 + 1, 3, none⟩ = some (.string ⟨#[]⟩) := (blk_cell H3a.out 3).trans rfl
  have z4 : w4.cell? ⟨w.heap.size + 1 + 1, 4, none⟩ = some (.int .i64 500) := (blk_cell H3a.out 4).trans rfl
  have z5 : w4.cell? ⟨w.heap.size + 1 + 1, 5, none⟩ = some (.bool false) := (blk_cell H3a.out 5).trans rfl
  go_wp2_with fail
  refine (holds_calls (isA _) hold_uA).mono ?_
  rintro e w5 ⟨rfl, hb5⟩
  have H1b := Lib.hid (block_below H1a.out hb5)
  have H2b := Lib.hid (block_below H2a.out hb5)
  have H3b := Lib.hid (block_below H3a.out hb5)
  have HBb := Lib.hid (below_step HBa.out hb5)
  clear x0 x1 x2 x3 x4 x5 x6 x7 x8 x9 x10 y0 y1 y2 y3 y4 y5 z0 z1 z2 z3 z4 z5
  clear hb5
  have x0 : w5.cell? ⟨w.heap.size, 0, none⟩ = some (.int .u64 1) := (blk_cell H1b.out 0).trans rfl
  have x1 : w5.cell? ⟨w.heap.size, 1, none⟩ = some (.int .u64 2) := (blk_cell H1b.out 1).trans rfl
  have x2 : w5.cell? ⟨w.heap.size, 2, none⟩ = some (.int .u64 0) := (blk_cell H1b.out 2).trans rfl
  have x3 : w5.cell? ⟨w.heap.size, 3, none⟩ = some (.string ⟨#[97, 112, 105]⟩) := (blk_cell H1b.out 3).trans rfl
  have x4 : w5.cell? ⟨w.heap.size, 4, none⟩ = some (.string ⟨#[103, 101, 116]⟩) := (blk_cell H1b.out 4).trans rfl
  have x5 : w5.cell? ⟨w.heap.size, 5, none⟩ = some (.int .i64 5) := (blk_cell H1b.out 5).trans rfl
  have x6 : w5.cell? ⟨w.heap.size, 6, none⟩ = some (.int .i64 7) := (blk_cell H1b.out 6).trans rfl
  have x7 : w5.cell? ⟨w.heap.size, 7, none⟩ = some (.int .i64 0) := (blk_cell H1b.out 7).trans rfl
  have x8 : w5.cell? ⟨w.heap.size, 8, none⟩ = some (.slice none 0 0) := (blk_cell H1b.out 8).trans rfl
  have x9 : w5.cell? ⟨w.heap.size, 9, none⟩ = some (.slice none 0 0) := (blk_cell H1b.out 9).trans rfl
  have x10 : w5.cell? ⟨w.heap.size, 10, none⟩ = some (.slice none 0 0) := (blk_cell H1b.out 10).trans rfl
  have y0 : w5.cell? ⟨w.heap.size + 1, 0, none⟩ = some (.string ⟨#[100, 117, 114]⟩) := (blk_cell H2b.out 0).trans rfl
  have y1 : w5.cell? ⟨w.heap.size + 1, 1, none⟩ = some (.int .i64 5) := (blk_cell H2b.out 1).trans rfl
  have y2 : w5.cell? ⟨w.heap.size + 1, 2, none⟩ = some (.int .i64 1) := (blk_cell H2b.out 2).trans rfl
  have y3 : w5.cell? ⟨w.heap.size + 1, 3, none⟩ = some (.string ⟨#[]⟩) := (blk_cell H2b.out 3).trans rfl
  have y4 : w5.cell? ⟨w.heap.size + 1, 4, none⟩ = some (.int .i64 7) := (blk_cell H2b.out 4).trans rfl
  have y5 : w5.cell? ⟨w.heap.size + 1, 5, none⟩ = some (.bool false) := (blk_cell H2b.out 5).trans rfl
  have z0 : w5.cell? ⟨w.heap.size + 1 + 1, 0, none⟩ = some (.string ⟨#[64, 99, 111, 100, 101]⟩) := (blk_cell H3b.out 0).trans rfl
  have z1 : w5.cell? ⟨w.heap.size + 1 + 1, 1, none⟩ = some (.int .i64 2) := (blk_cell H3b.out 1).trans rfl
  have z2 : w5.cell? ⟨w.heap.size + 1 + 1, 2, none⟩ = some (.int .i64 1) := (blk_cell H3b.out 2).trans rfl
  have z3 : w5.cell? ⟨w.heap.size + 1 + 1, 3, none⟩ = some (.string ⟨#[]⟩) := (blk_cell H3b.out 3).trans rfl
  have z4 : w5.cell? ⟨w.heap.size + 1 + 1, 4, none⟩ = some (.int .i64 500) := (blk_cell H3b.out 4).trans rfl
  have z5 : w5.cell? ⟨w.heap.size + 1 + 1, 5, none⟩ = some (.bool false) := (blk_cell H3b.out 5).trans rfl
  go_wp2_with fail
  refine (filter_Key.callsR 9 1 1 2 0 ⟨#[97, 112, 105]⟩ ⟨#[103, 101, 116]⟩ 5 7 0 none 0 0 none 0 0 none 0 0 (keyI 1 spA) w5 (keyI_eq 1 spA)).mono ?_
  rintro e w6 ⟨v6, rfl, hR6, hb6⟩
  obtain ⟨A6, c6, rfl⟩ := Kd.R_slice hR6
  have hlen : (keyI 1 spA).length = 24 := by kernel_rfl
  rw [hlen]
  clear hR6 hlen
  have H1c := Lib.hid (block_below H1b.out hb6)
  have H2c := Lib.hid (block_below H2b.out hb6)
  have H3c := Lib.hid (block_below H3b.out hb6)
  have HBc := Lib.hid (below_step HBb.out hb6)
  clear x0 x1 x2 x3 x4 x5 x6 x7 x8 x9 x10 y0 y1 y2 y3 y4 y5 z0 z1 z2 z3 z4 z5
  clear hb6
  have x0 : w6.cell? ⟨w.heap.size, 0, none⟩ = some (.int .u64 1) := (blk_cell H1c.out 0).trans rfl
  have x1 : w6.cell? ⟨w.heap.size, 1, none⟩ = some (.int .u64 2) := (blk_cell H1c.out 1).trans rfl
  have x2 : w6.cell? ⟨w.heap.size, 2, none⟩ = some (.int .u64 0) := (blk_cell H1c.out 2).trans rfl
  have x3 : w6.cell? ⟨w.heap.size, 3, none⟩ = some (.string ⟨#[97, 112, 105]⟩) := (blk_cell H1c.out 3).trans rfl
  have x4 : w6.cell? ⟨w.heap.size, 4, none⟩ = some (.string ⟨#[103, 101, 116]⟩) := (blk_cell H1c.out 4).trans rfl
  have x5 : w6.cell? ⟨w.heap.size, 5, none⟩ = some (.int .i64 5) := (blk_cell H1c.out 5).trans rfl
  have x6 : w6.cell? ⟨w.heap.size, 6, none⟩ = some (.int .i64 7) := (blk_cell H1c.out 6).trans rfl
  have x7 : w6.cell? ⟨w.heap.size, 7, none⟩ = some (.int .i64 0) := (blk_cell H1c.out 7).trans rfl
  have x8 : w6.cell? ⟨w.heap.size, 8, none⟩ = some (.slice none 0 0) := (blk_cell H1c.out 8).trans rfl
  have x9 : w6.cell? ⟨w.heap.size, 9, none⟩ = some (.slice none 0 0) := (blk_cell H1c.out 9).trans rfl
  have x10 : w6.cell? ⟨w.heap.size, 10, none⟩ = some (.slice none 0 0) := (blk_cell H1c.out 10).trans rfl
  have y0 : w6.cell? ⟨w.heap.size + 1, 0, none⟩ = some (.string ⟨#[100, 117, 114]⟩) := (blk_cell H2c.out 0).trans rfl
  have y1 : w6.cell? ⟨w.heap.size + 1, 1, none⟩ = some (.int .i64 5) := (blk_cell H2c.out 1).trans rfl
  have y2 : w6.cell? ⟨w.heap.size + 1, 2, none⟩ = some (.int .i64 1) := (blk_cell H2c.out 2).trans rfl
  have y3 : w6.cell? ⟨w.heap.size + 1, 3, none⟩ = some (.string ⟨#[]⟩) := (blk_cell H2c.out 3).trans rfl
  have y4 : w6.cell? ⟨w.heap.size + 1, 4, none⟩ = some (.int .i64 7) := (blk_cell H2c.out 4).trans rfl
  have y5 : w6.cell? ⟨w.heap.size + 1, 5, none⟩ = some (.bool false) := (blk_cell H2c.out 5).trans rfl
  have z0 : w6.cell? ⟨w.heap.size + 1 + 1, 0, none⟩ = some (.string ⟨#[64, 99, 111, 100, 101]⟩) := (blk_cell H3c.out 0).trans rfl
  have z1 : w6.cell? ⟨w.heap.size + 1 + 1, 1, none⟩ = some (.int .i64 2) := (blk_cell H3c.out 1).trans rfl
  have z2 : w6.cell? ⟨w.heap.size + 1 + 1, 2, none⟩ = some (.int .i64 1) := (blk_cell H3c.out 2).trans rfl
  have z3 : w6.cell? ⟨w.heap.size + 1 + 1, 3, none⟩ = some (.string ⟨#[]⟩) := (blk_cell H3c.out 3).trans rfl
  have z4 : w6.cell? ⟨w.heap.size + 1 + 1, 4, none⟩ = some (.int .i64 500) := (blk_cell H3c.out 4).trans rfl
  have z5 : w6.cell? ⟨w.heap.size + 1 + 1, 5, none⟩ = some (.bool false) := (blk_cell H3c.out 5).trans rfl
  have hbt := below_alloc (Below.refl w6.heap.size w6) (.cells #[.string ⟨#[100, 117, 114]⟩, .int .i64 5, .int .i64 1, .string ⟨#[]⟩, .int .i64 7, .bool false] 41)
  have hbs := below_alloc (Below.refl (w6.alloc (.cells #[.string ⟨#[100, 117, 114]⟩, .int .i64 5, .int .i64 1, .string ⟨#[]⟩, .int .i64 7, .bool false] 41)).heap.size (w6.alloc (.cells #[.string ⟨#[100, 117, 114]⟩, .int .i64 5, .int .i64 1, .string ⟨#[]⟩, .int .i64 7, .bool false] 41))) (.cells #[.int .u64 1, .int .u64 2, .int .u64 0, .string ⟨#[97, 112, 105]⟩, .string ⟨#[103, 101, 116]⟩, .int .i64 5, .int .i64 7, .int .i64 0, .slice none 0 0, .slice none 0 0, .slice none 0 0] 34)
  have kt := block_below (heap_alloc_new w6 (.cells #[.string ⟨#[100, 117, 114]⟩, .int .i64 5, .int .i64 1, .string ⟨#[]⟩, .int .i64 7, .bool false] 41)) hbs
  have ks := heap_alloc_new (w6.alloc (.cells #[.string ⟨#[100, 117, 114]⟩, .int .i64 5, .int .i64 1, .string ⟨#[]⟩, .int .i64 7, .bool false] 41)) (.cells #[.int .u64 1, .int .u64 2, .int .u64 0, .string ⟨#[97, 112, 105]⟩, .string ⟨#[103, 101, 116]⟩, .int .i64 5, .int .i64 7, .int .i64 0, .slice none 0 0, .slice none 0 0, .slice none 0 0] 34)
  rw [show (w6.alloc (.cells #[.string ⟨#[100, 117, 114]⟩, .int .i64 5, .int .i64 1, .string ⟨#[]⟩, .int .i64 7, .bool false] 41)).heap.size = w6.heap.size + 1 by simp] at ks
  have H1d := Lib.hid (block_below H1c.out hbt)
  have HT := Lib.hid (row_tA kt)
  have HS := Lib.hid (row_sA ks)
  have HBd := Lib.hid (below_step HBc.out (below_step hbt hbs))
  clear hbt hbs kt ks
  have u0 : (w6.alloc (.cells #[.string ⟨#[100, 117, 114]⟩, .int .i64 5, .int .i64 1, .string ⟨#[]⟩, .int .i64 7, .bool false] 41)).cell? ⟨w.heap.size, 0, none⟩ = some (.int .u64 1) := (blk_cell H1d.out 0).trans rfl
  have u1 : (w6.alloc (.cells #[.string ⟨#[100, 117, 114]⟩, .int .i64 5, .int .i64 1, .string ⟨#[]⟩, .int .i64 7, .bool false] 41)).cell? ⟨w.heap.size, 1, none⟩ = some (.int .u64 2) := (blk_cell H1d.out 1).trans rfl
  have u2 : (w6.alloc (.cells #[.string ⟨#[100, 117, 114]⟩, .int .i64 5, .int .i64 1, .string ⟨#[]⟩, .int .i64 7, .bool false] 41)).cell? ⟨w.heap.size, 2, none⟩ = some (.int .u64 0) := (blk_cell H1d.out 2).trans rfl
  have u3 : (w6.alloc (.cells #[.string ⟨#[100, 117, 114]⟩, .int .i64 5, .int .i64 1, .string ⟨#[]⟩, .int .i64 7, .bool false] 41)).cell? ⟨w.heap.size, 3, none⟩ = some (.string ⟨#[97, 112, 105]⟩) := (blk_cell H1d.out 3).trans rfl
  have u4 : (w6.alloc (.cells #[.string ⟨#[100, 117, 114]⟩, .int .i64 5, .int .i64 1, .string ⟨#[]⟩, .int .i64 7, .bool false] 41)).cell? ⟨w.heap.size, 4, none⟩ = some (.string ⟨#[103, 101, 116]⟩) := (blk_cell H1d.out 4).trans rfl
  have u5 : (w6.alloc (.cells #[.string ⟨#[100, 117, 114]⟩, .int .i64 5, .int .i64 1, .string ⟨#[]⟩, .int .i64 7, .bool false] 41)).cell? ⟨w.heap.size, 5, none⟩ = some (.int .i64 5) := (blk_cell H1d.out 5).trans rfl
  have u6 : (w6.alloc (.cells #[.string ⟨#[100, 117, 114]⟩, .int .i64 5, .int .i64 1, .string ⟨#[]⟩, .int .i64 7, .bool false] 41)).cell? ⟨w.heap.size, 6, none⟩ = some (.int .i64 7) := (blk_cell H1d.out 6).trans rfl
  have u7 : (w6.alloc (.cells #[.string ⟨#[100, 117, 114]⟩, .int .i64 5, .int .i64 1, .string ⟨#[]⟩, .int .i64 7, .bool false] 41)).cell? ⟨w.heap.size, 7, none⟩ = some (.int .i64 0) := (blk_cell H1d.out 7).trans rfl
  have u8 : (w6.alloc (.cells #[.string ⟨#[100, 117, 114]⟩, .int .i64 5, .int .i64 1, .string ⟨#[]⟩, .int .i64 7, .bool false] 41)).cell? ⟨w.heap.size, 8, none⟩ = some (.slice none 0 0) := (blk_cell H1d.out 8).trans rfl
  have u9 : (w6.alloc (.cells #[.string ⟨#[100, 117, 114]⟩, .int .i64 5, .int .i64 1, .string ⟨#[]⟩, .int .i64 7, .bool false] 41)).cell? ⟨w.heap.size, 9, none⟩ = some (.slice none 0 0) := (blk_cell H1d.out 9).trans rfl
  have u10 : (w6.alloc (.cells #[.string ⟨#[100, 117, 114]⟩, .int .i64 5, .int .i64 1, .string ⟨#[]⟩, .int .i64 7, .bool false] 41)).cell? ⟨w.heap.size, 10, none⟩ = some (.slice none 0 0) := (blk_cell H1d.out 10).trans rfl
  go_wp2_with fail
  refine (all_calls (l := [spA]) (ts := [tA]) (m := fun _ => true) (fun s hs => ?_) HT.out (by decide) (by decide) HS.out (by decide) (by decide)).mono ?_
  · rw [List.mem_singleton] at hs
    subst hs
    refine ⟨sA, isA _, fun _ => true, fun t ht => ?_, rfl⟩
    rw [List.mem_singleton] at ht
    subst ht
    exact ⟨5, hold_tA⟩
  rintro e w7 ⟨v7, ys, rfl, hR7, hst, hln7, hb7⟩
  obtain ⟨A7, c7, rfl⟩ := Kd.R_slice hR7
  have hl : ys = [spA] := Stb.unique (swo_cfK 0) hst ⟨List.pairwise_singleton _ _, Kp.refl _ _⟩
  subst hl
  have HB7 := Lib.hid (below_step HBd.out hb7)
  clear hR7 hb7 hln7
  go_wp2
  go_ret
  exact ⟨rfl, HB7.out⟩
end Go.Proofs.Ytffggkhahambhaa.Tr

namespace Go.Proofs.Ytffggkhahambhaa.Tr
open Go.RowKit Go.Proofs.YtffggkhahambhaaW.PrintWords Go.Proofs.YtffggkhahambhaaW.PrintLast Go.Proofs.YtffggkhahambhaaW.PrintMore Go.Proofs.Ytffggkhahambhaa.Math Go.Proofs.Ytffggkhahambhaa.PAll Go.Proofs.Ytffggkhahambhaa.Span Go.Proofs.Ytffggkhahambhaa.Runes Go.Proofs.Ytffggkhahambhaa.Text Go.Proofs.Ytffggkhahambhaa.Glob
set_option linter.unusedVariables false
set_option linter.unusedSimpArgs false
theorem runes_short (s : ByteArray) (n : Nat) (h : s.size ≤ n) : (runesI s).length ≤ n := by
  have := from_len s s.size 0 (by omega)
  unfold runesI
  rw [List.length_map]
  omega
theorem signsL_len : ∀ (l : List Int) (b : Bool), (signsL b l).length ≤ l.length + 1 := by
  intro l
  induction l with
  | nil => intro b; cases b <;> rw [signsL] <;> simp
  | cons r t ih =>
    intro b
    cases b with
    | true => rw [signsL, List.length_cons, List.length_cons]; have := ih false; omega
    | false =>
      have hf := ih false
      have ht := ih true
      rw [signsL]
      split
      · rw [List.length_cons]; omega
      · split
        · rw [List.length_cons, List.length_cons]; omega
        · split <;> (rw [List.length_cons, List.length_cons]; omega)
theorem match_tot (k : Nat) (p s : ByteArray) (hp : p.size ≤ 700) (hs : s.size ≤ 700) (hk : 3000000 ≤ k) : ∃ r, text_Match.f k p s = some r ∧ (r = true ↔ gm (signsL false (runesI p)) (runesI s)) :=
  match_is k p s hp hs (by have := signsL_len (runesI p) false; have := runes_short p 700 hp; omega) (runes_short s 700 hs) hk
theorem rel_tot (a n : Int) : ∃ b, filter_holds.f a n = some b := by
  unfold filter_holds.f
  repeat' split
  all_goals exact ⟨_, rfl⟩
theorem trim_tot (a p : ByteArray) : ∃ r, strings_TrimPrefix.f a p = some r := by
  unfold strings_TrimPrefix.f stringslite_TrimPrefix.f stringslite_HasPrefix.f
  by_cases h : (a.size : Int) ≥ (p.size : Int)
  · rw [if_pos h, if_pos (by omega), if_pos (by omega), Option.bind_some]
    split
    · exact ⟨_, rfl⟩
    · exact ⟨_, rfl⟩
  · rw [if_neg h, Option.bind_some, if_neg (by decide)]; exact ⟨_, rfl⟩
/-- The attribute of a name. -/
def attrV (nm : ByteArray) : List S45 → Int × ByteArray × Int × Bool × Bool
  | [] => (0, ⟨#[]⟩, 0, false, false)
  | a :: l => if a.f0 = nm then (a.f1.f0, a.f1.f1, a.f1.f2, a.f1.f3, true) else attrV nm l
theorem toList_inj {a b : ByteArray} : a.toList = b.toList ↔ a = b := by
  refine ⟨fun h => ?_, fun h => by rw [h]⟩
  rw [ByteArray.toList_eq, ByteArray.toList_eq] at h
  exact ByteArray.ext (Array.toList_inj.1 h)
theorem attr_l0 (nm : ByteArray) (A : List S45) (hA : A.length ≤ 140737488351232) (n : Nat) : ∀ (k i : Nat), A.length - i = n → i ≤ A.length → n < k → span_Attr.l0 k nm A (A.length : Int) (i : Int) = some (attrV nm (A.drop i)) := by
  induction n with
  | zero =>
    intro k i h hi hk
    obtain ⟨k, rfl⟩ : ∃ j, k = j + 1 := ⟨k - 1, by omega⟩
    rw [span_Attr.l0, if_neg (by omega), List.drop_eq_nil_of_le (by omega), attrV]
  | succ n ih =>
    intro k i h hi hk
    obtain ⟨k, rfl⟩ : ∃ j, k = j + 1 := ⟨k - 1, by omega⟩
    have hlt : i < A.length := by omega
    have hx : rd_T45 A (i : Int) = A[i] := by
      show A.getD i z45 = A[i]
      rw [List.getD_eq_getElem?_getD, List.getElem?_eq_getElem hlt]
      rfl
    rw [span_Attr.l0, if_pos (by omega), if_pos (by omega), if_pos (by omega), hx, List.drop_eq_getElem_cons hlt, attrV]
    have hw : wrap64 ((i : Int) + 1) = ((i + 1 : Nat) : Int) := by unfold wrap64; omega
    by_cases he : A[i].f0 = nm
    · rw [if_pos he, if_pos (toList_inj.2 he)]
    · rw [if_neg he, if_neg (fun h => he (toList_inj.1 h)), hw, ih k (i + 1) (by omega) (by omega) (by omega)]
theorem attrV_size (nm : ByteArray) (n : Nat) : ∀ (A : List S45), (∀ a ∈ A, a.f1.f1.size ≤ n) → (attrV nm A).2.1.size ≤ n
  | [], _ => by simp [attrV]; exact Nat.zero_le _
  | a :: l, h => by
    unfold attrV
    split
    · exact h a (by simp)
    · exact attrV_size nm n l (fun b hb => h b (by simp [hb]))
theorem value_tot (k : Nat) (f : ByteArray) (x : S34) (hk : x.f8.length < k) (hA : x.f8.length ≤ 140737488351232) (h3 : x.f3.size ≤ 700) (h4 : x.f4.size ≤ 700) (h8 : ∀ a ∈ x.f8, a.f1.f1.size ≤ 700) :
    ∃ v, filter_value.f k f x.f0 x.f1 x.f2 x.f3 x.f4 x.f5 x.f6 x.f7 x.f8 x.f9 x.f10 = some v ∧ v.2.1.size ≤ 700 := by
  unfold filter_value.f
  by_cases c1 : f.toList = ([115, 101, 114, 118, 105, 99, 101] : List UInt8)
  · rw [if_pos c1]; exact ⟨_, rfl, h3⟩
  · rw [if_neg c1]
    by_cases c2 : f.toList = ([111, 112] : List UInt8)
    · rw [if_pos c2]; exact ⟨_, rfl, h4⟩
    · rw [if_neg c2]
      obtain ⟨nm, hnm⟩ := trim_tot f ⟨#[64]⟩
      have ha : span_Attr.f k x.f0 x.f1 x.f2 x.f3 x.f4 x.f5 x.f6 x.f7 x.f8 x.f9 x.f10 nm = some (attrV nm x.f8) := attr_l0 nm x.f8 hA x.f8.length k 0 (by omega) (by omega) hk
      rw [hnm, Option.bind_some, ha, Option.bind_some]
      exact ⟨_, rfl, attrV_size nm 700 x.f8 h8⟩
theorem holdF_tot (t : S41) (x : S34) (ht : t.f2.f1.size ≤ 700) (hA : x.f8.length ≤ 140737488351232) (h3 : x.f3.size ≤ 700) (h4 : x.f4.size ≤ 700) (h8 : ∀ a ∈ x.f8, a.f1.f1.size ≤ 700) : ∃ k b, holdF k t x = some b := by
  refine ⟨3000000 + x.f8.length, ?_⟩
  unfold holdF
  cases numI x.f0 x.f1 x.f2 x.f5 x.f6 x.f7 t.f0 with
  | some n => exact rel_tot _ _
  | none =>
    obtain ⟨v, hv, hs⟩ := value_tot (3000000 + x.f8.length) t.f0 x (by omega) hA h3 h4 h8
    show ∃ b, (filter_value.f _ _ _ _ _ _ _ _ _ _ _ _ _).bind _ = some b
    rw [hv, Option.bind_some]
    unfold holdV
    split
    · exact ⟨_, rfl⟩
    · split
      · split
        · obtain ⟨r, hr, _⟩ := match_tot (3000000 + x.f8.length) t.f2.f1 v.2.1 ht hs (by omega)
          exact ⟨r, hr⟩
        · exact ⟨_, rfl⟩
      · split
        · exact rel_tot _ _
        · exact ⟨_, rfl⟩
end Go.Proofs.Ytffggkhahambhaa.Tr

namespace Go.Proofs.Ytffggkhahambhaa.Tr
open Go.RowKit Go.Proofs.YtffggkhahambhaaW.PrintWords Go.Proofs.YtffggkhahambhaaW.PrintLast Go.Proofs.YtffggkhahambhaaW.PrintMore Go.Proofs.Ytffggkhahambhaa.Math Go.Proofs.Ytffggkhahambhaa.PAll Go.Proofs.Ytffggkhahambhaa.Sq Go.Proofs.Ytffggkhahambhaa.Runes
set_option linter.unusedVariables false
set_option linter.unusedSimpArgs false
/-- A truth is told, and it tells this much. -/
def RetB (p : Bool → Prop) (e : Ending) : Prop := ∃ r, e = .returned (.bool r) ∧ p r
theorem RetB.no {p : Prop} : RetB (fun r => r = true → p) (.returned (.bool false)) := ⟨false, rfl, fun h => by cases h⟩
theorem RetB.any (r : Bool) : RetB (fun _ => True) (.returned (.bool r)) := ⟨r, rfl, trivial⟩
theorem RetB.yes {p : Prop} (r : Bool) (h : p) : RetB (fun r => r = true → p) (.returned (.bool r)) := ⟨r, rfl, fun _ => h⟩
theorem at_I {k0 : IntKind} {w : World} {A : Option Addr} {n : Nat} {xs : List Int} (h : Kd.C (Kd.int k0) w A n xs) {k : Nat} (hk : k < xs.length) : ∃ ad, A = some ad ∧ w.cell? (ad.add k) = some (.int k0 (xs[k]'hk)) := by
  obtain ⟨hn, _, hC⟩ := h
  obtain ⟨ad, e, hcc⟩ := hC (by omega)
  obtain ⟨c, hcl, hK, hc⟩ := hcc k _ (List.getElem?_eq_getElem hk)
  have hK : c = [.int k0 (xs[k]'hk)] := hK
  subst hK
  have h0 := hc 0 _ rfl
  have h1 : w.cell? (ad.add (k * 1 + 0)) = _ := h0
  rw [Nat.mul_one, Nat.add_zero] at h1
  exact ⟨ad, e, h1⟩
theorem letter_w (c : Int) (w : World) : Calls Try.prog 55 #[.int .i64 c] w fun e w' => RetB (fun _ => True) e ∧ w = w' := by
  go_enter Try.func55, Try.ntmps55
  go_wp2
  all_goals
    go_ret
    exact ⟨RetB.any _, rfl⟩
theorem time_w (n : Int) (w : World) : Calls Try.prog 46 #[.int .i64 n] w fun e w' => RetB (fun _ => True) e ∧ w = w' := by
  go_enter Try.func46, Try.ntmps46
  go_wp2
  all_goals
    go_ret
    exact ⟨RetB.any _, rfl⟩
theorem right_d (s : ByteArray) (h : s.size ≤ 1000) (w : World) : Calls Try.prog 53 #[.string s] w fun e w' => e = .returned (.bool (rightB s)) ∧ Below w.heap.size w w' :=
  cambiumref02_Right.calls 3000 s _ w (right_eq 3000 s (by omega) (by omega))
theorem name_d (s : ByteArray) : ∃ b, (b = true → s.size ≤ 32) ∧ ∀ w, Calls Try.prog 34 #[.string s] w fun e w' => e = .returned (.bool b) ∧ Below w.heap.size w w' := by
  by_cases h : 1 ≤ s.size ∧ s.size ≤ 32
  · refine ⟨rightB s, fun _ => h.2, fun w => ?_⟩
    have HR := Lib.hid (right_d s (by omega) w)
    have q1 : decide ((1 : Int) ≤ (s.size : Int)) = true := decide_eq_true (by omega)
    have q2 : decide ((s.size : Int) ≤ 32) = true := decide_eq_true (by omega)
    have q3 : decide ((s.size : Int) ≥ 1) = true := decide_eq_true (by omega)
    clear h
    go_enter Try.func34, Try.ntmps34
    go_wp2_with fail
    refine HR.out.mono ?_
    rintro e w2 ⟨rfl, hb⟩
    go_wp2
    go_ret
    exact ⟨rfl, hb⟩
  · refine ⟨false, (fun h => by cases h), fun w => ?_⟩
    by_cases h1 : 1 ≤ s.size
    · have q1 : decide ((1 : Int) ≤ (s.size : Int)) = true := decide_eq_true (by omega)
      have q2 : decide ((s.size : Int) ≤ 32) = false := decide_eq_false (by omega)
      clear h h1
      go_enter Try.func34, Try.ntmps34
      go_wp2
      go_ret
      exact ⟨rfl, Below.refl _ _⟩
    · have q1 : decide ((1 : Int) ≤ (s.size : Int)) = false := decide_eq_false (by omega)
      clear h h1
      go_enter Try.func34, Try.ntmps34
      go_wp2
      go_ret
      exact ⟨rfl, Below.refl _ _⟩
theorem name_w (s : ByteArray) (w : World) : Calls Try.prog 34 #[.string s] w fun e w' => RetB (fun r => r = true → s.size ≤ 32) e ∧ Below w.heap.size w w' := by
  obtain ⟨b, hb, hc⟩ := name_d s
  refine (hc w).mono ?_
  rintro e w' ⟨rfl, hw⟩
  exact ⟨⟨b, rfl, hb⟩, hw⟩
set_option maxHeartbeats 8000000 in
set_option maxRecDepth 100000 in
theorem value_d (kd : Int) (t : ByteArray) (n : Int) (v : Bool) : ∃ b, (b = true → t.size ≤ 200 ∧ (kd = 0 ∨ kd = 1 ∨ kd = 2)) ∧ ∀ w, Calls Try.prog 31 #[.agg #[.int .i64 kd, .string t, .int .i64 n, .bool v]] w fun e w' => e = .returned (.bool b) ∧ Below w.heap.size w w' := by
  rcases (show kd < 0 ∨ 2 < kd ∨ kd = 0 ∨ kd = 1 ∨ kd = 2 by omega) with h1 | h1 | rfl | rfl | rfl
  · have q0 : decide (kd < 0) = true := decide_eq_true h1
    refine ⟨false, (fun h => by cases h), fun w => ?_⟩
    have HAL := Lib.hid (below_alloc (Below.refl w.heap.size w) (.cells #[.int .i64 kd, .string t, .int .i64 n, .bool v] 39))
    go_enter Try.func31, Try.ntmps31
    go_wp2
    go_ret
    exact ⟨rfl, HAL.out⟩
  · have q0 : decide (kd < 0) = false := decide_eq_false (by omega)
    have q1 : decide (2 < kd) = true := decide_eq_true h1
    refine ⟨false, (fun h => by cases h), fun w => ?_⟩
    have HAL := Lib.hid (below_alloc (Below.refl w.heap.size w) (.cells #[.int .i64 kd, .string t, .int .i64 n, .bool v] 39))
    go_enter Try.func31, Try.ntmps31
    go_wp2
    go_ret
    exact ⟨rfl, HAL.out⟩
  · skip
    by_cases hn : n = 0
    · have n1 : (n != 0) = false := bne_eq_false_iff_eq.2 hn
      clear hn
      cases v with
      | true =>
        refine ⟨false, (fun h => by cases h), fun w => ?_⟩
        have HAL := Lib.hid (below_alloc (Below.refl w.heap.size w) (.cells #[.int .i64 0, .string t, .int .i64 n, .bool true] 39))
        go_enter Try.func31, Try.ntmps31
        go_wp2
        go_ret
        exact ⟨rfl, HAL.out⟩
      | false =>
        by_cases hs : t.size ≤ 200
        · have q : decide ((t.size : Int) ≤ 200) = true := decide_eq_true (by omega)
          have HH := Lib.hid hs
          clear hs
          refine ⟨rightB t, fun _ => ⟨HH.out, by first | omega | simp⟩, fun w => ?_⟩
          have HAL := Lib.hid (below_alloc (Below.refl w.heap.size w) (.cells #[.int .i64 0, .string t, .int .i64 n, .bool false] 39))
          have HR := Lib.hid (right_d t (by have := HH.out; omega) (w.alloc (.cells #[.int .i64 0, .string t, .int .i64 n, .bool false] 39)))
          go_enter Try.func31, Try.ntmps31
          go_wp2_with fail
          refine HR.out.mono ?_
          rintro e w2 ⟨rfl, hb⟩
          go_wp2
          go_ret
          exact ⟨rfl, below_step HAL.out hb⟩
        · have q : decide ((t.size : Int) ≤ 200) = false := decide_eq_false (by omega)
          clear hs
          refine ⟨false, (fun h => by cases h), fun w => ?_⟩
          have HAL := Lib.hid (below_alloc (Below.refl w.heap.size w) (.cells #[.int .i64 0, .string t, .int .i64 n, .bool false] 39))
          go_enter Try.func31, Try.ntmps31
          go_wp2
          go_ret
          exact ⟨rfl, HAL.out⟩
    · have n1 : (n != 0) = true := bne_iff_ne.2 hn
      clear hn
      refine ⟨false, (fun h => by cases h), fun w => ?_⟩
      have HAL := Lib.hid (below_alloc (Below.refl w.heap.size w) (.cells #[.int .i64 0, .string t, .int .i64 n, .bool v] 39))
      go_enter Try.func31, Try.ntmps31
      go_wp2
      go_ret
      exact ⟨rfl, HAL.out⟩
  · skip
    by_cases ht : t.toList = ([] : List UInt8)
    · have t1 : (t.toList != ([] : List UInt8)) = false := bne_eq_false_iff_eq.2 ht
      have t2 : (!t.toList.isEmpty) = false := by rw [ht]; rfl
      cases v with
      | true =>
        refine ⟨false, (fun h => by cases h), fun w => ?_⟩
        have HAL := Lib.hid (below_alloc (Below.refl w.heap.size w) (.cells #[.int .i64 1, .string t, .int .i64 n, .bool true] 39))
        go_enter Try.func31, Try.ntmps31
        go_wp2
        go_ret
        exact ⟨rfl, HAL.out⟩
      | false =>
        by_cases hs : t.size ≤ 200
        · have q : decide ((t.size : Int) ≤ 200) = true := decide_eq_true (by omega)
          have HH := Lib.hid hs
          clear hs
          refine ⟨rightB t, fun _ => ⟨HH.out, by first | omega | simp⟩, fun w => ?_⟩
          have HAL := Lib.hid (below_alloc (Below.refl w.heap.size w) (.cells #[.int .i64 1, .string t, .int .i64 n, .bool false] 39))
          have HR := Lib.hid (right_d t (by have := HH.out; omega) (w.alloc (.cells #[.int .i64 1, .string t, .int .i64 n, .bool false] 39)))
          go_enter Try.func31, Try.ntmps31
          go_wp2_with fail
          refine HR.out.mono ?_
          rintro e w2 ⟨rfl, hb⟩
          go_wp2
          go_ret
          exact ⟨rfl, below_step HAL.out hb⟩
        · have q : decide ((t.size : Int) ≤ 200) = false := decide_eq_false (by omega)
          clear hs
          refine ⟨false, (fun h => by cases h), fun w => ?_⟩
          have HAL := Lib.hid (below_alloc (Below.refl w.heap.size w) (.cells #[.int .i64 1, .string t, .int .i64 n, .bool false] 39))
          go_enter Try.func31, Try.ntmps31
          go_wp2
          go_ret
          exact ⟨rfl, HAL.out⟩
    · have t1 : (t.toList != ([] : List UInt8)) = true := bne_iff_ne.2 ht
      have t2 : (!t.toList.isEmpty) = true := by cases hh : t.toList with | nil => exact absurd hh ht | cons a l => rfl
      clear ht
      refine ⟨false, (fun h => by cases h), fun w => ?_⟩
      have HAL := Lib.hid (below_alloc (Below.refl w.heap.size w) (.cells #[.int .i64 1, .string t, .int .i64 n, .bool v] 39))
      go_enter Try.func31, Try.ntmps31
      go_wp2
      go_ret
      exact ⟨rfl, HAL.out⟩
  · skip
    by_cases ht : t.toList = ([] : List UInt8)
    · have t1 : (t.toList != ([] : List UInt8)) = false := bne_eq_false_iff_eq.2 ht
      have t2 : (!t.toList.isEmpty) = false := by rw [ht]; rfl
      by_cases hn : n = 0
      · have n1 : (n != 0) = false := bne_eq_false_iff_eq.2 hn
        clear hn
        by_cases hs : t.size ≤ 200
        · have q : decide ((t.size : Int) ≤ 200) = true := decide_eq_true (by omega)
          have HH := Lib.hid hs
          clear hs
          refine ⟨rightB t, fun _ => ⟨HH.out, by first | omega | simp⟩, fun w => ?_⟩
          have HAL := Lib.hid (below_alloc (Below.refl w.heap.size w) (.cells #[.int .i64 2, .string t, .int .i64 n, .bool v] 39))
          have HR := Lib.hid (right_d t (by have := HH.out; omega) (w.alloc (.cells #[.int .i64 2, .string t, .int .i64 n, .bool v] 39)))
          go_enter Try.func31, Try.ntmps31
          go_wp2_with fail
          refine HR.out.mono ?_
          rintro e w2 ⟨rfl, hb⟩
          go_wp2
          go_ret
          exact ⟨rfl, below_step HAL.out hb⟩
        · have q : decide ((t.size : Int) ≤ 200) = false := decide_eq_false (by omega)
          clear hs
          refine ⟨false, (fun h => by cases h), fun w => ?_⟩
          have HAL := Lib.hid (below_alloc (Below.refl w.heap.size w) (.cells #[.int .i64 2, .string t, .int .i64 n, .bool v] 39))
          go_enter Try.func31, Try.ntmps31
          go_wp2
          go_ret
          exact ⟨rfl, HAL.out⟩
      · have n1 : (n != 0) = true := bne_iff_ne.2 hn
        clear hn
        refine ⟨false, (fun h => by cases h), fun w => ?_⟩
        have HAL := Lib.hid (below_alloc (Below.refl w.heap.size w) (.cells #[.int .i64 2, .string t, .int .i64 n, .bool v] 39))
        go_enter Try.func31, Try.ntmps31
        go_wp2
        go_ret
        exact ⟨rfl, HAL.out⟩
    · have t1 : (t.toList != ([] : List UInt8)) = true := bne_iff_ne.2 ht
      have t2 : (!t.toList.isEmpty) = true := by cases hh : t.toList with | nil => exact absurd hh ht | cons a l => rfl
      clear ht
      refine ⟨false, (fun h => by cases h), fun w => ?_⟩
      have HAL := Lib.hid (below_alloc (Below.refl w.heap.size w) (.cells #[.int .i64 2, .string t, .int .i64 n, .bool v] 39))
      go_enter Try.func31, Try.ntmps31
      go_wp2
      go_ret
      exact ⟨rfl, HAL.out⟩
theorem value_w (kd : Int) (t : ByteArray) (n : Int) (v : Bool) (w : World) : Calls Try.prog 31 #[.agg #[.int .i64 kd, .string t, .int .i64 n, .bool v]] w fun e w' => RetB (fun r => r = true → t.size ≤ 200 ∧ (kd = 0 ∨ kd = 1 ∨ kd = 2)) e ∧ Below w.heap.size w w' := by
  obtain ⟨b, hb, hc⟩ := value_d kd t n v
  refine (hc w).mono ?_
  rintro e w' ⟨rfl, hw⟩
  exact ⟨⟨b, rfl, hb⟩, hw⟩
/-- Is it a text's field, a number's? -/
def isT (s : ByteArray) : Bool := if s.toList = ([115, 101, 114, 118, 105, 99, 101] : List UInt8) then true else s.toList == ([111, 112] : List UInt8)
def isN (s : ByteArray) : Bool := if s.toList = ([115, 116, 97, 116, 117, 115] : List UInt8) then true else if s.toList = ([100, 117, 114] : List UInt8) then true else if s.toList = ([115, 116, 97, 114, 116] : List UInt8) then true else if s.toList = ([116, 114, 97, 99, 101] : List UInt8) then true else if s.toList = ([105, 100] : List UInt8) then true else s.toList == ([112, 97, 114, 101, 110, 116] : List UInt8)
theorem text2_is (s : ByteArray) : cambiumref21_text2.f s = some (isT s) := by
  unfold cambiumref21_text2.f isT
  split <;> rfl
theorem number_is (s : ByteArray) : cambiumref21_number.f s = some (isN s) := by
  unfold cambiumref21_number.f isN
  repeat' split
  all_goals rfl
/-- What a term that may be asks of its field. -/
def FieldP (f : ByteArray) (r kd n : Int) : Prop := (isT f = true ∧ kd = 0 ∧ (r = 0 ∨ r = 1 ∨ r = 6)) ∨ (isT f = false ∧ isN f = true ∧ kd = 1 ∧ 0 ≤ n) ∨ (isT f = false ∧ isN f = false ∧ 2 ≤ f.size ∧ bt f 0 = 64)
structure OneP (f : ByteArray) (r kd : Int) (t : ByteArray) (n : Int) (v : Bool) : Prop where
  sz : t.size ≤ 200
  kr : kd = 0 ∨ kd = 1 ∨ kd = 2
  lo : 0 ≤ r
  hi : r ≤ 6
  like : r = 6 → kd = 0
  fld : FieldP f r kd n
def OneT (t : S41) : Prop := OneP t.f0 t.f1 t.f2.f0 t.f2.f1 t.f2.f2 t.f2.f3
/-- Letters ahead: some number. -/
theorem lead_w (s : ByteArray) (h : s.size ≤ 1000) (w : World) : Calls Try.prog 35 #[.string s] w fun e w' => (∃ n, e = .returned (.int .i64 n)) ∧ Below w.heap.size w w' := by
  have hr := cambiumref02_Runes.calls 3000 s _ _ w (runes_eq 3000 s (by omega) (by omega))
  have HR := Lib.hid hr
  have HPL := Lib.hid (show (posI s).length = (runesI s).length by unfold posI runesI; rw [List.length_map, List.length_map])
  have HLN := Lib.hid (show (runesI s).length ≤ 1000 by have := runesI_len s; omega)
  clear hr
  go_enter Try.func35, Try.ntmps35
  go_wp2_with fail
  refine HR.out.mono ?_
  rintro e w1 ⟨v0, v1, rfl, h0, h1, hb⟩
  obtain ⟨A0, c0, rfl⟩ := Kd.R_slice h0
  obtain ⟨A1, c1, rfl⟩ := Kd.R_slice h1
  have HC0 := Lib.hid (Kd.R_reads' h0).2.2
  have HC1 := Lib.hid (Kd.R_reads' h1).2.2
  have HB := Lib.hid hb
  clear h0 h1 hb HR
  go_wp2
  go_loopw [5] (fun i wr => ∃ k : Nat, k ≤ (runesI s).length ∧ i = .int .i64 k ∧ w1 = wr) (fun i _ => (runesI s).length - (intOf i).toNat)
  case atStart => exact ⟨0, by omega, rfl, rfl⟩
  case round =>
    obtain ⟨k, hk, rfl, rfl⟩ := hrel
    by_cases hlt : k < (runesI s).length
    · obtain ⟨a0, rfl, x0⟩ := at_I HC0.out hlt
      obtain ⟨a1, rfl, x1⟩ := at_I HC1.out (k := k) (by rw [HPL.out]; exact hlt)
      have q : decide ((k : Int) < ((runesI s).length : Int)) = true := decide_eq_true (by omega)
      have q2 : (k : Int) < ((runesI s).length : Int) := by omega
      have q3 : (k : Int) < ((posI s).length : Int) := by rw [HPL.out]; exact q2
      have HK := Lib.hid (show k + 1 ≤ (runesI s).length by omega)
      have HW := Lib.hid (show wrap64 ((k : Int) + 1) = ((k + 1 : Nat) : Int) by have := HLN.out; unfold wrap64; omega)
      have HLC := Lib.hid (letter_w ((runesI s)[k]'hlt) w1)
      obtain ⟨c, hc⟩ : ∃ c, (runesI s)[k]'hlt = c := ⟨_, rfl⟩
      rw [hc] at x0 HLC
      obtain ⟨c2, hc2⟩ : ∃ c2, (posI s)[k]'(by rw [HPL.out]; exact hlt) = c2 := ⟨_, rfl⟩
      rw [hc2] at x1
      clear hc hc2 hlt hk
      go_wp2_with fail
      refine HLC.out.mono ?_
      rintro e w2 ⟨⟨r, rfl, _⟩, rfl⟩
      clear HLC
      cases r with
      | true =>
        go_wp2
        go_roundw
        case rel => exact ⟨k + 1, HK.out, by rw [HW.out], by first | rfl | trivial⟩
        case measure => exact meas_up (by have := HLN.out; omega) HK.out
      | false =>
        go_wp2
        go_ret
        exact ⟨⟨_, rfl⟩, HB.out⟩
    · have hkl : k = (runesI s).length := by omega
      subst hkl
      have q : decide (((runesI s).length : Int) < ((runesI s).length : Int)) = false := decide_eq_false (by omega)
      clear hlt hk
      go_wp2
      go_ret
      exact ⟨⟨_, rfl⟩, HB.out⟩
theorem box6 {w : World} {g : Nat} {t : TypeId} {a b c d e f : Value} (h : w.heap[g]? = some (.cells #[a, b, c, d, e, f] t (0, 0))) : w.cell? ⟨g, 0, none⟩ = some a ∧ w.cell? ⟨g, 1, none⟩ = some b ∧ w.cell? ⟨g, 2, none⟩ = some c ∧ w.cell? ⟨g, 3, none⟩ = some d ∧ w.cell? ⟨g, 4, none⟩ = some e ∧ w.cell? ⟨g, 5, none⟩ = some f :=
  ⟨(blk_cell h 0).trans rfl, (blk_cell h 1).trans rfl, (blk_cell h 2).trans rfl, (blk_cell h 3).trans rfl, (blk_cell h 4).trans rfl, (blk_cell h 5).trans rfl⟩
theorem text2_w (s : ByteArray) (w : World) : Calls Try.prog 32 #[.string s] w fun e w' => e = .returned (.bool (isT s)) ∧ Below w.heap.size w w' := by
  refine (cambiumref21_text2.calls s (isT s) w (text2_is s)).mono ?_
  rintro e w2 ⟨rfl, nd, rfl⟩
  exact ⟨rfl, ⟨rfl, rfl, rfl, Nat.le_refl _, fun _ _ => rfl⟩⟩
theorem number_w (s : ByteArray) (w : World) : Calls Try.prog 33 #[.string s] w fun e w' => e = .returned (.bool (isN s)) ∧ Below w.heap.size w w' := by
  refine (cambiumref21_number.calls s (isN s) w (number_is s)).mono ?_
  rintro e w2 ⟨rfl, nd, rfl⟩
  exact ⟨rfl, ⟨rfl, rfl, rfl, Nat.le_refl _, fun _ _ => rfl⟩⟩
set_option maxHeartbeats 8000000 in
set_option maxRecDepth 100000 in
theorem one_w (f : ByteArray) (r kd : Int) (t : ByteArray) (n : Int) (v : Bool) (w : World) : Calls Try.prog 14 #[.agg #[.string f, .int .i64 r, .int .i64 kd, .string t, .int .i64 n, .bool v]] w fun e w' => RetB (fun b => b = true → OneP f r kd t n v) e ∧ Below w.heap.size w w' := by
  have HAL := Lib.hid (below_alloc (Below.refl w.heap.size w) (.cells #[.string f, .int .i64 r, .int .i64 kd, .string t, .int .i64 n, .bool v] 41))
  have HK0 := Lib.hid (heap_alloc_new w (.cells #[.string f, .int .i64 r, .int .i64 kd, .string t, .int .i64 n, .bool v] 41))
  go_enter Try.func14, Try.ntmps14
  go_wp2_with fail
  refine (value_w kd t n v _).mono ?_
  rintro e w1 ⟨⟨rv, rfl, hv⟩, hb⟩
  have HB := Lib.hid (below_step HAL.out hb)
  have HK := Lib.hid (block_below HK0.out hb)
  have HVV := Lib.hid hv
  clear hb hv HAL HK0
  obtain ⟨y0, y1, y2, y3, y4, y5⟩ := box6 HK.out
  cases rv with
  | false =>
    go_wp2
    go_ret
    exact ⟨RetB.no, HB.out⟩
  | true =>
    have HV := Lib.hid (HVV.out (by first | rfl | trivial))
    clear HVV
    by_cases h1 : r < 0
    · have r1 : decide (r < 0) = true := decide_eq_true h1
      go_wp2
      go_ret
      exact ⟨RetB.no, HB.out⟩
    have r1 : decide (r < 0) = false := decide_eq_false h1
    by_cases h2 : 6 < r
    · have r2 : decide (6 < r) = true := decide_eq_true h2
      clear h1
      go_wp2
      go_ret
      exact ⟨RetB.no, HB.out⟩
    have r2 : decide (6 < r) = false := decide_eq_false h2
    obtain ⟨b6, hb6⟩ : ∃ b, (r == 6) = b := ⟨_, rfl⟩
    obtain ⟨bk, hbk⟩ : ∃ b, (kd != 0) = b := ⟨_, rfl⟩
    by_cases h3 : b6 = true ∧ bk = true
    · obtain ⟨rfl, rfl⟩ := h3
      clear h1 h2
      go_wp2
      go_ret
      exact ⟨RetB.no, HB.out⟩
    have HR := Lib.hid (show 0 ≤ r ∧ r ≤ 6 ∧ (r = 6 → kd = 0) from ⟨by omega, by omega, fun e => by
      by_cases hk : kd = 0
      · exact hk
      · exact absurd ⟨by rw [← hb6]; exact beq_iff_eq.2 e, by rw [← hbk]; exact bne_iff_ne.2 hk⟩ h3⟩)
    have h4 : b6 = false ∨ (b6 = true ∧ bk = false) := by cases b6 <;> cases bk <;> simp_all
    clear h1 h2 h3
    rcases h4 with rfl | ⟨rfl, rfl⟩
    all_goals
      go_wp2_with fail
      refine (text2_w f _).mono ?_
      rintro e w3 ⟨rfl, hb⟩
      have HB := Lib.hid (below_step HB.out hb)
      have HK := Lib.hid (block_below HK.out hb)
      clear y0 y1 y2 y3 y4 y5 hb
      obtain ⟨y0, y1, y2, y3, y4, y5⟩ := box6 HK.out
      cases hT : isT f with
      | true =>
        have HT := Lib.hid hT
        clear hT
        by_cases hh : kd = 0
        · have HKD := Lib.hid hh
          have k0 : (kd == 0) = true := beq_iff_eq.2 hh
          clear hh
          by_cases hh : r = 0
          · have H0 := Lib.hid (show r = 0 ∨ r = 1 ∨ r = 6 by omega)
            have r0 : (r == 0) = true := beq_iff_eq.2 hh
            clear hh
            go_wp2
            go_ret
            exact ⟨RetB.yes _ ⟨HV.out.1, HV.out.2, HR.out.1, HR.out.2.1, HR.out.2.2, .inl ⟨HT.out, HKD.out, H0.out⟩⟩, HB.out⟩
          · have r0 : (r == 0) = false := beq_eq_false_iff_ne.2 hh
            clear hh
            by_cases hh : r = 1
            · have H1 := Lib.hid (show r = 0 ∨ r = 1 ∨ r = 6 by omega)
              have r1 : (r == 1) = true := beq_iff_eq.2 hh
              clear hh
              go_wp2
              go_ret
              exact ⟨RetB.yes _ ⟨HV.out.1, HV.out.2, HR.out.1, HR.out.2.1, HR.out.2.2, .inl ⟨HT.out, HKD.out, H1.out⟩⟩, HB.out⟩
            · have r1 : (r == 1) = false := beq_eq_false_iff_ne.2 hh
              clear hh
              by_cases hh : r = 6
              · have H6 := Lib.hid (show r = 0 ∨ r = 1 ∨ r = 6 by omega)
                have r6 : (r == 6) = true := beq_iff_eq.2 hh
                clear hh
                go_wp2
                go_ret
                exact ⟨RetB.yes _ ⟨HV.out.1, HV.out.2, HR.out.1, HR.out.2.1, HR.out.2.2, .inl ⟨HT.out, HKD.out, H6.out⟩⟩, HB.out⟩
              · have r6 : (r == 6) = false := beq_eq_false_iff_ne.2 hh
                clear hh
                go_wp2
                go_ret
                first | exact ⟨RetB.no, HB.out⟩ | (exfalso; rw [hb6] at r6; cases r6)
        · have k0 : (kd == 0) = false := beq_eq_false_iff_ne.2 hh
          clear hh
          go_wp2
          go_ret
          exact ⟨RetB.no, HB.out⟩
      | false =>
        have HT := Lib.hid hT
        clear hT
        go_wp2_with fail
        refine (number_w f _).mono ?_
        rintro e w4 ⟨rfl, hb⟩
        have HB := Lib.hid (below_step HB.out hb)
        have HK := Lib.hid (block_below HK.out hb)
        clear y0 y1 y2 y3 y4 y5 hb
        obtain ⟨y0, y1, y2, y3, y4, y5⟩ := box6 HK.out
        cases hN : isN f with
        | true =>
          have HN := Lib.hid hN
          clear hN
          by_cases hh : kd = 1
          · have HKD := Lib.hid hh
            have k1 : (kd == 1) = true := beq_iff_eq.2 hh
            clear hh
            by_cases hh : 0 ≤ n
            · have HN0 := Lib.hid hh
              have n0 : decide (0 ≤ n) = true := decide_eq_true hh
              clear hh
              go_wp2
              go_ret
              exact ⟨RetB.yes _ ⟨HV.out.1, HV.out.2, HR.out.1, HR.out.2.1, HR.out.2.2, .inr (.inl ⟨HT.out, HN.out, HKD.out, HN0.out⟩)⟩, HB.out⟩
            · have n0 : decide (0 ≤ n) = false := decide_eq_false hh
              clear hh
              go_wp2
              go_ret
              exact ⟨RetB.no, HB.out⟩
          · have k1 : (kd == 1) = false := beq_eq_false_iff_ne.2 hh
            clear hh
            go_wp2
            go_ret
            exact ⟨RetB.no, HB.out⟩
        | false =>
          have HN := Lib.hid hN
          clear hN
          by_cases hs : f.size < 2
          · have s2 : decide ((f.size : Int) < 2) = true := decide_eq_true (by omega)
            clear hs
            go_wp2
            go_ret
            exact ⟨RetB.no, HB.out⟩
          · have s2 : decide ((f.size : Int) < 2) = false := decide_eq_false (by omega)
            have hs : 2 ≤ f.size := by omega
            have s0 : (0 : Int) < (f.size : Int) := by omega
            have hx : ∀ h : 0 < f.size, ((f[0]'h).toNat : Int) = bt f 0 := bt_at f 0
            by_cases hh : bt f 0 = 64
            · have HBT := Lib.hid hh
              have b0 : (bt f 0 != 64) = false := bne_eq_false_iff_eq.2 hh
              clear hh
              have HS := Lib.hid hs
              have hsl : (1 : Int) ≤ (f.size : Int) := by omega
              clear hs
              go_wp2_with fail
              refine (name_w (f.extract 1 f.size) _).mono ?_
              rintro e w5 ⟨⟨rn, rfl, hn⟩, hb⟩
              have HB := Lib.hid (below_step HB.out hb)
              have HNM := Lib.hid hn
              clear y0 y1 y2 y3 y4 y5 hb hn
              cases rn with
              | false =>
                go_wp2
                go_ret
                exact ⟨RetB.no, HB.out⟩
              | true =>
                have HNL := Lib.hid (HNM.out (by first | rfl | trivial))
                have HLD := Lib.hid (lead_w (f.extract 1 f.size) (by have := HNL.out; omega) w5)
                go_wp2_with fail
                refine HLD.out.mono ?_
                rintro e w6 ⟨⟨nl, rfl⟩, hb⟩
                have HB := Lib.hid (below_step HB.out hb)
                clear hb HLD
                go_wp2
                all_goals
                  go_ret
                  exact ⟨RetB.yes _ ⟨HV.out.1, HV.out.2, HR.out.1, HR.out.2.1, HR.out.2.2, .inr (.inr ⟨HT.out, HN.out, HS.out, HBT.out⟩)⟩, HB.out⟩
            · have b0 : (bt f 0 != 64) = true := bne_iff_ne.2 hh
              clear hh hs
              go_wp2
              go_ret
              exact ⟨RetB.no, HB.out⟩
/-- The terms of a query that came in. -/
theorem at_T6 {w : World} {A : Option Addr} {n : Nat} {xs : List S41} (h : Kd.C k41 w A n xs) {k : Nat} {t : S41} (hk : xs[k]? = some t) : ∃ ad, A = some ad ∧ w.cell? (ad.add (k * 6)) = some (.string t.f0) ∧ w.cell? ⟨(ad.add (k * 6)).block, (ad.add (k * 6)).off + 1, none⟩ = some (.int .i64 t.f1) ∧ w.cell? ⟨(ad.add (k * 6)).block, (ad.add (k * 6)).off + 2, none⟩ = some (.int .i64 t.f2.f0) ∧ w.cell? ⟨(ad.add (k * 6)).block, (ad.add (k * 6)).off + 3, none⟩ = some (.string t.f2.f1) ∧ w.cell? ⟨(ad.add (k * 6)).block, (ad.add (k * 6)).off + 4, none⟩ = some (.int .i64 t.f2.f2) ∧ w.cell? ⟨(ad.add (k * 6)).block, (ad.add (k * 6)).off + 5, none⟩ = some (.bool t.f2.f3) := by
  obtain ⟨hkl, hs⟩ := List.getElem?_eq_some_iff.1 hk
  obtain ⟨hn, _, hC⟩ := h
  obtain ⟨ad, e, hcc⟩ := hC (by omega)
  obtain ⟨c, hcl, hK, hc⟩ := hcc k t hk
  have hK := k41_open hK
  subst hK
  have hc : ∀ j u, ([.string t.f0, .int .i64 t.f1, .int .i64 t.f2.f0, .string t.f2.f1, .int .i64 t.f2.f2, .bool t.f2.f3] : List Value)[j]? = some u → w.cell? (ad.add (k * 6 + j)) = some u := hc
  exact ⟨ad, e, hc 0 _ rfl, by rw [← add_field _ _ 1 (by omega)]; exact hc 1 _ rfl, by rw [← add_field _ _ 2 (by omega)]; exact hc 2 _ rfl, by rw [← add_field _ _ 3 (by omega)]; exact hc 3 _ rfl, by rw [← add_field _ _ 4 (by omega)]; exact hc 4 _ rfl, by rw [← add_field _ _ 5 (by omega)]; exact hc 5 _ rfl⟩
theorem meas_up2 {L k : Nat} (h : L ≤ 100000000000000) (hk : k + 1 ≤ L) : L - (intOf (.int .i64 (wrap64 ((k : Int) + 1)))).toNat < L - (intOf (.int .i64 k)).toNat := by
  have hw : wrap64 ((k : Int) + 1) = ((k + 1 : Nat) : Int) := by unfold wrap64; omega
  rw [hw]
  show L - ((k + 1 : Nat) : Int).toNat < L - (k : Int).toNat
  rw [Int.toNat_natCast, Int.toNat_natCast]
  omega
set_option maxHeartbeats 8000000 in
set_option maxRecDepth 100000 in
theorem may21_w {A : Option Addr} {c : Nat} {ts : List S41} {o : Int} {w : World} (hr : Kd.C k41 w A ts.length ts) (hl : ts.length ≤ c) (hn : ts.length ≤ 100000000000000) :
    Calls Try.prog 9 #[.agg #[.slice A ts.length c, .int .i64 o]] w fun e w' => RetB (fun b => b = true → (∀ t ∈ ts, OneT t) ∧ ts.length ≤ 8 ∧ 0 ≤ o ∧ o ≤ 2) e ∧ Below w.heap.size w w' := by
  have HAL := Lib.hid (below_alloc (Below.refl w.heap.size w) (.cells #[.slice A ts.length c, .int .i64 o] 24))
  have HK0 := Lib.hid (heap_alloc_new w (.cells #[.slice A ts.length c, .int .i64 o] 24))
  have HR := Lib.hid hr
  have HN := Lib.hid hn
  clear hr hl hn
  go_enter Try.func9, Try.ntmps9
  go_wp2
  go_loopw [3] (fun i wr => ∃ k : Nat, k ≤ ts.length ∧ i = .int .i64 k ∧ Hid (∀ t ∈ ts.take k, OneT t) ∧ Hid (Below w.heap.size w wr) ∧ Hid (wr.heap[w.heap.size]? = some (.cells #[.slice A ts.length c, .int .i64 o] 24 (0, 0)))) (fun i _ => ts.length - (intOf i).toNat)
  case atStart => exact ⟨0, by omega, rfl, Lib.hid (fun t ht => by simp at ht), HAL, HK0⟩
  case round =>
    clear HAL HK0
    obtain ⟨k, hk, rfl, HP, HB, HK⟩ := hrel
    have y0 : wr.cell? ⟨w.heap.size, 0, none⟩ = some (.slice A ts.length c) := (blk_cell HK.out 0).trans rfl
    have y1 : wr.cell? ⟨w.heap.size, 1, none⟩ = some (.int .i64 o) := (blk_cell HK.out 1).trans rfl
    by_cases hlt : k < ts.length
    · obtain ⟨t, hs⟩ : ∃ t, ts[k]? = some t := ⟨_, List.getElem?_eq_getElem hlt⟩
      obtain ⟨ad, rfl, x0, x1, x2, x3, x4, x5⟩ := at_T6 (Kd.C_below HR.out HB.out) hs
      have HTk := Lib.hid (show ts.take (k + 1) = ts.take k ++ [t] by
        obtain ⟨hk2, e⟩ := List.getElem?_eq_some_iff.1 hs
        rw [List.take_succ_eq_append_getElem hk2, e])
      have q : decide ((k : Int) < (ts.length : Int)) = true := decide_eq_true (by omega)
      have q2 : (k : Int) < (ts.length : Int) := by omega
      have HKL := Lib.hid (show k + 1 ≤ ts.length by omega)
      have HW := Lib.hid (show wrap64 ((k : Int) + 1) = ((k + 1 : Nat) : Int) by have := HN.out; unfold wrap64; omega)
      have HC := Lib.hid (one_w t.f0 t.f1 t.f2.f0 t.f2.f1 t.f2.f2 t.f2.f3 wr)
      clear hs hlt hk
      go_wp2_with fail
      refine HC.out.mono ?_
      rintro e w2 ⟨⟨r, rfl, ho⟩, hb⟩
      have HO := Lib.hid ho
      have HB2 := Lib.hid (below_step HB.out hb)
      have HK2 := Lib.hid (block_below HK.out hb)
      clear ho hb HC y0 y1 x0 x1 x2 x3 x4 x5 HB HK
      cases r with
      | false =>
        go_wp2
        go_ret
        exact ⟨RetB.no, HB2.out⟩
      | true =>
        go_wp2
        go_roundw
        case rel => exact ⟨k + 1, HKL.out, by rw [HW.out], Lib.hid (by rw [HTk.out]; intro y hy; rcases List.mem_append.1 hy with hy | hy; exact HP.out y hy; rw [List.mem_singleton.1 hy]; exact HO.out (by first | rfl | trivial)), HB2, HK2⟩
        case measure => exact meas_up2 HN.out HKL.out
    · have hkl : k = ts.length := by omega
      subst hkl
      have q : decide ((ts.length : Int) < (ts.length : Int)) = false := decide_eq_false (by omega)
      rw [List.take_length] at HP
      clear hlt hk
      by_cases h8 : ts.length ≤ 8
      · have q8 : decide ((ts.length : Int) ≤ 8) = true := decide_eq_true (by omega)
        by_cases h0 : 0 ≤ o
        · have q0 : decide (0 ≤ o) = true := decide_eq_true h0
          by_cases h2 : o ≤ 2
          · have q22 : decide (o ≤ 2) = true := decide_eq_true h2
            have HF := Lib.hid (show (∀ t ∈ ts, OneT t) ∧ ts.length ≤ 8 ∧ 0 ≤ o ∧ o ≤ 2 from ⟨HP.out, h8, h0, h2⟩)
            clear h8 h0 h2
            go_wp2
            go_ret
            exact ⟨RetB.yes _ HF.out, HB.out⟩
          · have q22 : decide (o ≤ 2) = false := decide_eq_false h2
            clear h8 h0 h2
            go_wp2
            go_ret
            exact ⟨RetB.no, HB.out⟩
        · have q0 : decide (0 ≤ o) = false := decide_eq_false h0
          clear h8 h0
          go_wp2
          go_ret
          exact ⟨RetB.no, HB.out⟩
      · have q8 : decide ((ts.length : Int) ≤ 8) = false := decide_eq_false (by omega)
        clear h8
        go_wp2
        go_ret
        exact ⟨RetB.no, HB.out⟩
set_option maxHeartbeats 8000000 in
set_option maxRecDepth 100000 in
theorem small21_w {A : Option Addr} {c : Nat} {ts : List S41} {o : Int} {w : World} (hr : Kd.C k41 w A ts.length ts) (hl : ts.length ≤ c) (hn : ts.length ≤ 100000000000000) :
    Calls Try.prog 8 #[.agg #[.slice A ts.length c, .int .i64 o]] w fun e w' => RetB (fun _ => True) e ∧ Below w.heap.size w w' := by
  have HAL := Lib.hid (below_alloc (Below.refl w.heap.size w) (.cells #[.slice A ts.length c, .int .i64 o] 24))
  have HK0 := Lib.hid (heap_alloc_new w (.cells #[.slice A ts.length c, .int .i64 o] 24))
  have HR := Lib.hid hr
  have HN := Lib.hid hn
  clear hr hl hn
  go_enter Try.func8, Try.ntmps8
  go_wp2
  go_loopw [3, 4] (fun m i wr => ∃ (k : Nat) (z : Int), k ≤ ts.length ∧ i = .int .i64 k ∧ m = .int .i64 z ∧ Hid (Below w.heap.size w wr) ∧ Hid (wr.heap[w.heap.size]? = some (.cells #[.slice A ts.length c, .int .i64 o] 24 (0, 0)))) (fun _ i _ => ts.length - (intOf i).toNat)
  case atStart => exact ⟨0, 0, by omega, rfl, rfl, HAL, HK0⟩
  case round =>
    clear HAL HK0
    obtain ⟨k, z, hk, rfl, rfl, HB, HK⟩ := hrel
    have y0 : wr.cell? ⟨w.heap.size, 0, none⟩ = some (.slice A ts.length c) := (blk_cell HK.out 0).trans rfl
    have y1 : wr.cell? ⟨w.heap.size, 1, none⟩ = some (.int .i64 o) := (blk_cell HK.out 1).trans rfl
    by_cases hlt : k < ts.length
    · have q : decide ((k : Int) < (ts.length : Int)) = true := decide_eq_true (by omega)
      have q2 : (k : Int) < (ts.length : Int) := by omega
      by_cases hz : z ≤ 4000
      · have qz : decide (z ≤ 4000) = true := decide_eq_true hz
        obtain ⟨t, hs⟩ : ∃ t, ts[k]? = some t := ⟨_, List.getElem?_eq_getElem hlt⟩
        obtain ⟨ad, rfl, x0, x1, x2, x3, x4, x5⟩ := at_T6 (Kd.C_below HR.out HB.out) hs
        have HKL := Lib.hid (show k + 1 ≤ ts.length by omega)
        have HW := Lib.hid (show wrap64 ((k : Int) + 1) = ((k + 1 : Nat) : Int) by have := HN.out; unfold wrap64; omega)
        clear hs hlt hk hz
        go_wp2
        repeat (go_quiet (fail); try go_wp2)
        go_roundw
        case rel => exact ⟨k + 1, _, HKL.out, by rw [HW.out], rfl, Lib.hid (below_drewN HB.out _), Lib.hid (blk_drewN HK.out _)⟩
        case measure => exact meas_up2 HN.out HKL.out
      · have qz : decide (z ≤ 4000) = false := decide_eq_false hz
        clear hlt hk hz
        go_wp2
        go_ret
        exact ⟨RetB.any _, HB.out⟩
    · have hkl : k = ts.length := by omega
      subst hkl
      have q : decide ((ts.length : Int) < (ts.length : Int)) = false := decide_eq_false (by omega)
      clear hlt hk
      go_wp2
      go_ret
      exact ⟨RetB.any _, HB.out⟩
end Go.Proofs.Ytffggkhahambhaa.Tr

namespace Go.Proofs.Ytffggkhahambhaa.Stab
theorem Stb.filter {α : Type} {lt : α → α → Bool} {xs ys : List α} (p : α → Bool) (h : Stb lt xs ys) : Stb lt (xs.filter p) (ys.filter p) := by
  refine ⟨List.Pairwise.filter p h.srt, fun x => ?_⟩
  have hc : ∀ l : List α, (l.filter p).filter (eqv lt x) = (l.filter (eqv lt x)).filter p := fun l => by
    rw [List.filter_filter, List.filter_filter]
    congr 1
    funext a
    exact Bool.and_comm _ _
  rw [hc, hc, h.keep x]
theorem Stb.self {α : Type} {lt : α → α → Bool} {xs : List α} (h : Sd lt xs) : Stb lt xs xs := ⟨h, Kp.refl _ _⟩
/-- Chosen by both and sorted; or chosen by the one, sorted, chosen by the other, sorted. -/
theorem parts_same {α : Type} {lt : α → α → Bool} (hw : Swo lt) {l ys zs us : List α} {p q : α → Bool} (h1 : Stb lt (l.filter fun s => p s && q s) ys) (h2 : Stb lt (l.filter p) zs) (h3 : Stb lt (zs.filter q) us) : ys = us := by
  have h4 := h2.filter q
  have h5 : us = zs.filter q := Stb.unique hw h3 (Stb.self h4.srt)
  have h6 : (l.filter p).filter q = l.filter fun s => p s && q s := by
    rw [List.filter_filter]
    congr 1
    funext a
    exact Bool.and_comm _ _
  rw [h6] at h4
  rw [h5]
  exact Stb.unique hw h1 h4
end Go.Proofs.Ytffggkhahambhaa.Stab
