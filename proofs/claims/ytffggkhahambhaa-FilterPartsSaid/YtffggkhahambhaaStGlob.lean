/- slices.symMergeCmpFunc of spans, by hand. -/
import Derived.Test.YtffggkhahambhaaRuns
import Derived.Test.YtffggkhahambhaaPAllx5
namespace Go.Proofs.Ytffggkhahambhaa.Tr
open Go.RowKit Go.Proofs.YtffggkhahambhaaW.PrintWords Go.Proofs.YtffggkhahambhaaW.PrintLast Go.Proofs.YtffggkhahambhaaW.PrintMore Go.Proofs.Ytffggkhahambhaa.Math Go.Proofs.Ytffggkhahambhaa.PAll Go.Proofs.Ytffggkhahambhaa.Stab
set_option linter.unusedVariables false
set_option linter.unusedSimpArgs false
/-- The middle of two places, as it is reckoned. -/
theorem half_eq {I J H : Nat} (hI : I ≤ 2000000) (hJ : J ≤ 2000000) (hH : (I + J) / 2 = H) : wrap64 (IntKind.u64.wrap (wrap64 ((I : Int) + (J : Int))) / 2) = (H : Int) := by
  rw [w64 ((I : Int) + (J : Int)) (by omega) (by omega)]
  have e : IntKind.u64.wrap ((I : Int) + (J : Int)) = (I : Int) + (J : Int) := by
    rw [IntKind.wrap_u64]; omega
  rw [e, w64 _ (by omega) (by omega)]
  omega
theorem bs_m1 {I J H : Nat} (h1 : I ≤ H) (h2 : H < J) : (intOf (.int .i64 (J : Int)) - intOf (.int .i64 ((H + 1 : Nat) : Int))).toNat < (intOf (.int .i64 (J : Int)) - intOf (.int .i64 (I : Int))).toNat := by
  show ((J : Int) - ((H + 1 : Nat) : Int)).toNat < ((J : Int) - (I : Int)).toNat
  omega
theorem bs_m2 {I J H : Nat} (h1 : I ≤ H) (h2 : H < J) : (intOf (.int .i64 (H : Int)) - intOf (.int .i64 (I : Int))).toNat < (intOf (.int .i64 (J : Int)) - intOf (.int .i64 (I : Int))).toNat := by
  show ((H : Int) - (I : Int)).toNat < ((J : Int) - (I : Int)).toNat
  omega
theorem bub_m {T Y z : Nat} (h : Y = T + 1) (hz : T < z) : z - (intOf (.int .i64 (Y : Int))).toNat < z - (intOf (.int .i64 (T : Int))).toNat := by
  show z - ((Y : Nat) : Int).toNat < z - ((T : Nat) : Int).toNat
  omega

set_option maxHeartbeats 8000000 in
set_option maxRecDepth 1000000 in
theorem symL_calls (w0 : World) (base g n c bq : Nat) (cf : Sp → Sp → Int) (hw : Swo (ltC cf)) (HC : Hid (Cmp w0 g bq cf)) (P R Q : List Sp) (v : Sp) (a m b : Nat) (w : World) (ha : P.length = a) (hm : a + 1 = m) (hb : m + R.length = b) (hR : Sd (ltC cf) R) (hn : n ≤ 1000000) (hS : Sr w0 w base g n c (P ++ v :: R ++ Q)) :
    Calls Try.prog 67 #[.slice (some ⟨g, 0, none⟩) n c, .int .i64 a, .int .i64 m, .int .i64 b, .func (.func 27) #[] #[.pointer (some ⟨bq, 0, none⟩)]] w fun e w' => e = .returned (.tuple #[]) ∧ ∃ S, Mg (ltC cf) [v] R S ∧ Sr w0 w' base g n c (P ++ S ++ Q) := by
  have HWO := Lib.hid hw
  have HN := Lib.hid hn
  have HPa := Lib.hid ha
  have hlen := hS.len
  simp only [List.length_append, List.length_cons] at hlen
  have HBN := Lib.hid (show b ≤ n by omega)
  have HS := Lib.hid hS
  have HSR := Lib.hid hR
  have HM := Lib.hid hm
  have HB := Lib.hid hb
  clear hw hn hlen hS hR
  have HMA := Lib.hid (show wrap64 ((m : Int) - (a : Int)) = 1 by rw [w64 _ (by omega) (by omega)]; omega)
  clear ha hm hb
  have mixed : Try.prog.follows Departure.mixedOrders = true := by kernel_rfl
  go_enter Try.func67, Try.ntmps67
  have hma := HMA.out
  go_wp2
  clear hma
  go_loopw [10, 11, 12] (fun s u _ wr => ∃ (i j I J : Nat), Hid (i ≤ j) ∧ Hid (j ≤ R.length) ∧ s = .int .i64 I ∧ u = .int .i64 J ∧ Hid (m + i = I) ∧ Hid (m + j = J) ∧ Hid (0 < i → ∀ x, R[i - 1]? = some x → ltC cf x v = true) ∧ Hid (∀ x, R[j]? = some x → ltC cf x v = false) ∧ Hid (Sr w0 wr base g n c (P ++ v :: R ++ Q))) (fun s u _ _ => (intOf u - intOf s).toNat)
  case atStart => exact ⟨0, R.length, m, b, Lib.hid (Nat.zero_le _), Lib.hid (Nat.le_refl _), rfl, rfl, Lib.hid (Nat.add_zero m), HB, Lib.hid (fun h => absurd h (Nat.lt_irrefl _)), Lib.hid (fun x hx => by simp at hx), HS⟩
  case round =>
    clear HS
    obtain ⟨i, j, I, J, HIJ, HJR, rfl, rfl, HMI, HMJ, HI, HJ, HS⟩ := hrel
    by_cases hlt : I < J
    · have q : (I : Int) < (J : Int) := by omega
      obtain ⟨H, hH⟩ : ∃ H, (I + J) / 2 = H := ⟨_, rfl⟩
      obtain ⟨h, hh⟩ : ∃ h, (i + j) / 2 = h := ⟨_, rfl⟩
      have hmi := HMI.out
      have hmj := HMJ.out
      have hmh : m + h = H := by omega
      have hih : i ≤ h := by omega
      have hhj : h < j := by omega
      have hjr := HJR.out
      obtain ⟨x, hx⟩ : ∃ x, R[h]? = some x := ⟨_, List.getElem?_eq_getElem (by omega)⟩
      have hpa := HPa.out
      have hma2 := HM.out
      have HGX := Lib.hid (show (P ++ v :: R ++ Q)[H]? = some x by rw [List.append_assoc, List.getElem?_append_right (by omega), show H - P.length = h + 1 by omega, List.cons_append, List.getElem?_cons_succ, List.getElem?_append_left (by omega)]; exact hx)
      have HGY := Lib.hid (show (P ++ v :: R ++ Q)[a]? = some v by rw [List.append_assoc, List.getElem?_append_right (by omega), show a - P.length = 0 by omega]; rfl)
      have HX := Lib.hid hx
      have HHL := Lib.hid (show I ≤ H by omega)
      have HHJ := Lib.hid (show H < J by omega)
      have HIH := Lib.hid hih
      have HHj := Lib.hid hhj
      have HMH := Lib.hid hmh
      have hbn := HBN.out
      have hnn := HN.out
      have hbb := HB.out
      have b1 : (H : Int) < (n : Int) := by omega
      have b2 : (a : Int) < (n : Int) := by omega
      have HHALF := Lib.hid (half_eq (by omega) (by omega) hH)
      have HWH := Lib.hid (show wrap64 ((H : Int) + 1) = ((H + 1 : Nat) : Int) by rw [w64 _ (by omega) (by omega)]; omega)
      clear hlt hH hh hmi hmj hmh hih hhj hjr hx hpa hma2 hbn hnn hbb
      obtain ⟨kk, hkk⟩ : ∃ kk : Nat, kk = 11 := ⟨_, rfl⟩
      have HKK := Lib.hid hkk
      have zE := Try.sizeOf34
      simp only [← hkk] at zE
      have aE := Try.isAgg34
      have la := HS.out.drew.ldk HGX.out hkk Try.prog
      have lb := HS.out.drew.ldk HGY.out hkk Try.prog
      obtain ⟨cx, hcx⟩ : ∃ cx, encS x = cx := ⟨_, rfl⟩
      obtain ⟨cy, hcy⟩ : ∃ cy, encS v = cy := ⟨_, rfl⟩
      have na : cx.length = kk := by rw [← hcx, hkk]; rfl
      have nb : cy.length = kk := by rw [← hcy, hkk]; rfl
      rw [hcx] at la
      rw [hcy] at lb
      have HCX := Lib.hid hcx
      have HCY := Lib.hid hcy
      have aX : (⟨g, 0, none⟩ : Addr).add (H * kk) = ⟨g, H * kk, none⟩ := add_at _ _
      have aY : (⟨g, 0, none⟩ : Addr).add (a * kk) = ⟨g, a * kk, none⟩ := add_at _ _
      have HSd := Lib.hid HS.out.drew
      clear hkk hcx hcy
      have hhalf := HHALF.out
      go_upto_region 5 with (fail)
      refine start_ (n := 11) (S := fun w' => Sem.run Try.prog (loadCellsFrom ⟨g, H * kk, none⟩ 0 kk #[]) w' = .ok cx.toArray w' ∧ Sem.run Try.prog (loadCellsFrom ⟨g, a * kk, none⟩ 0 kk #[]) w' = .ok cy.toArray w') (ds := []) #[false, false, false, false, false, false, false, false, false, false, false] (by kernel_rfl) rfl rfl ⟨la, lb⟩ (fun hHeld => ?_)
      generalize hwe : wr.drew = w5 at la lb HSd hHeld ⊢
      clear hwe la lb
      refine pure_ (i := 0) (N := some 40) (v := ?_) (a' := ?_) #[true, false, false, false, false, false, false, false, false, false, false] rfl rfl (by kernel_rfl) (fun _ _ _ h => h) (Or.inl ⟨by rfl, ?_⟩) ?_ ?_
      rotate_left
      · intro w'
        go_simp
        with_reducible rfl
      rotate_left
      · simp only [Act.put, List.setIfInBounds_toArray, List.set_cons_zero, List.set_cons_succ, i64_w, i32_w]
        rfl
      refine pure_ (i := 1) (N := some 41) (v := ?_) (a' := ?_) #[true, true, false, false, false, false, false, false, false, false, false] rfl rfl (by kernel_rfl) (fun _ _ _ h => h) (Or.inl ⟨by rfl, ?_⟩) ?_ ?_
      rotate_left
      · intro w'
        go_simp
        with_reducible rfl
      rotate_left
      · simp only [Act.put, List.setIfInBounds_toArray, List.set_cons_zero, List.set_cons_succ, i64_w, i32_w]
        rfl
      refine pure_ (i := 2) (N := some 42) (v := ?_) (a' := ?_) #[true, true, true, false, false, false, false, false, false, false, false] rfl rfl (by kernel_rfl) (fun _ _ _ h => h) (Or.inl ⟨by rfl, ?_⟩) ?_ ?_
      rotate_left
      · intro w'
        go_simp
        with_reducible rfl
      rotate_left
      · simp only [Act.put, List.setIfInBounds_toArray, List.set_cons_zero, List.set_cons_succ, i64_w, i32_w]
        rfl
      refine pure_ (i := 3) (N := some 43) (v := ?_) (a' := ?_) #[true, true, true, true, false, false, false, false, false, false, false] rfl rfl (by kernel_rfl) (fun _ _ _ h => h) (Or.inl ⟨by rfl, ?_⟩) ?_ ?_
      rotate_left
      · intro w'
        go_simp
        with_reducible rfl
      rotate_left
      · simp only [Act.put, List.setIfInBounds_toArray, List.set_cons_zero, List.set_cons_succ, i64_w, i32_w]
        rfl
      refine pure_ (i := 5) (N := some 45) (v := ?_) (a' := ?_) #[true, true, true, true, false, true, false, false, false, false, false] rfl rfl (by kernel_rfl) (fun _ _ _ h => h) (Or.inl ⟨by rfl, ?_⟩) ?_ ?_
      rotate_left
      · intro w'
        go_simp
        with_reducible rfl
      rotate_left
      · simp only [Act.put, List.setIfInBounds_toArray, List.set_cons_zero, List.set_cons_succ, i64_w, i32_w]
        rfl
      refine pure_ (i := 6) (N := some 46) (v := ?_) (a' := ?_) #[true, true, true, true, false, true, true, false, false, false, false] rfl rfl (by kernel_rfl) (fun _ _ _ h => h) (Or.inl ⟨by rfl, ?_⟩) ?_ ?_
      rotate_left
      · intro w'
        go_simp
        with_reducible rfl
      rotate_left
      · simp only [Act.put, List.setIfInBounds_toArray, List.set_cons_zero, List.set_cons_succ, i64_w, i32_w]
        rfl
      refine pure_ (i := 7) (N := some 47) (v := ?_) (a' := ?_) #[true, true, true, true, false, true, true, true, false, false, false] rfl rfl (by kernel_rfl) (fun _ _ _ h => h) (Or.inl ⟨by rfl, ?_⟩) ?_ ?_
      rotate_left
      · intro w'
        go_simp
        with_reducible rfl
      rotate_left
      · simp only [Act.put, List.setIfInBounds_toArray, List.set_cons_zero, List.set_cons_succ, i64_w, i32_w]
        rfl
      refine take_ (i := 4) (N := some 44) (v := ?_) (a' := ?_) #[true, true, true, true, true, true, true, true, false, false, false] rfl rfl (by kernel_rfl) (fun _ _ _ h => h) (Or.inl ⟨by rfl, ?_⟩) hHeld ?_ ?_
      rotate_left
      · rintro w' ⟨s0, s1⟩
        go_simp
        with_reducible rfl
      rotate_left
      · simp only [Act.put, List.setIfInBounds_toArray, List.set_cons_zero, List.set_cons_succ, i64_w, i32_w]
        rfl
      refine take_ (i := 8) (N := some 48) (v := ?_) (a' := ?_) #[true, true, true, true, true, true, true, true, true, false, false] rfl rfl (by kernel_rfl) (fun _ _ _ h => h) (Or.inl ⟨by rfl, ?_⟩) hHeld ?_ ?_
      rotate_left
      · rintro w' ⟨s0, s1⟩
        go_simp
        with_reducible rfl
      rotate_left
      · simp only [Act.put, List.setIfInBounds_toArray, List.set_cons_zero, List.set_cons_succ, i64_w, i32_w]
        rfl
      refine one_ (i := 9) (N := some 49) #[true, true, true, true, true, true, true, true, true, true, false] rfl rfl (by kernel_rfl) (by decide) (fun K hK => ?_)
      have hcm := HC.out x v w5 HSd.out.gr
      rw [HCX.out, HCY.out] at hcm
      refine goesv_ Try.func27 (by kernel_rfl) rfl #[.agg cx.toArray, .agg cy.toArray, .pointer (some ⟨bq, 0, none⟩)] (by rfl) rfl rfl (by rfl) (by simp only [List.map_toArray, List.map_cons, List.map_nil]; rfl) ?_
      with_reducible refine (hcm).mono ?_
      rintro ee w6 ⟨rfl, hb⟩
      refine ⟨_, rfl, ?_⟩
      have HS6 := Lib.hid (HSd.out.next hb)
      clear hb hcm
      have la := HS6.out.ldk HGX.out HKK.out Try.prog
      have lb := HS6.out.ldk HGY.out HKK.out Try.prog
      rw [HCX.out] at la
      rw [HCY.out] at lb
      refine hK.out _ _ ⟨la, lb⟩ (fun hHeld => ?_)
      clear hK K
      refine norm_ (a' := ?_) ?_ ?_
      rotate_left
      · show Act.put _ (some 49) _ = _
        simp only [Act.put, List.setIfInBounds_toArray, List.set_cons_zero, List.set_cons_succ, i64_w, i32_w]
        rfl
      refine pure_ (i := 10) (N := some 50) (v := ?_) (a' := ?_) #[true, true, true, true, true, true, true, true, true, true, true] rfl rfl (by kernel_rfl) (fun _ _ _ h => h) (Or.inl ⟨by rfl, ?_⟩) ?_ ?_
      rotate_left
      · intro w'
        go_simp
        with_reducible rfl
      rotate_left
      · simp only [Act.put, List.setIfInBounds_toArray, List.set_cons_zero, List.set_cons_succ, i64_w, i32_w]
        rfl
      refine done_ (by kernel_rfl) ?_
      clear la lb
      clear hhalf b1 b2
      by_cases hr : cf x v < 0
      · have e1 : decide (cf x v < 0) = true := decide_eq_true hr
        have HLV := Lib.hid (show ltC cf x v = true from decide_eq_true hr)
        go_wp2
        go_roundw
        case rel => exact ⟨h + 1, j, H + 1, J, Lib.hid (by have := HHj.out; omega), HJR, by rw [HHALF.out, HWH.out], rfl, Lib.hid (by have := HMH.out; omega), HMJ, Lib.hid (fun _ y hy => by rw [Nat.add_sub_cancel, HX.out] at hy; injection hy with hy; rw [← hy]; exact HLV.out), HJ, HS6⟩
        case measure => rw [HHALF.out, HWH.out]; exact bs_m1 HHL.out HHJ.out
      · have e1 : decide (cf x v < 0) = false := decide_eq_false hr
        have hr2 : 0 ≤ cf x v := by omega
        have HLV := Lib.hid (show ltC cf x v = false from decide_eq_false hr)
        clear hr
        go_wp2
        go_roundw
        case rel => exact ⟨i, h, I, H, HIH, Lib.hid (by have h1 := HHj.out; have h2 := HJR.out; omega), rfl, by rw [HHALF.out], HMI, HMH, HI, Lib.hid (fun y hy => by rw [HX.out] at hy; injection hy with hy; rw [← hy]; exact HLV.out), HS6⟩
        case measure => rw [HHALF.out]; exact bs_m2 HHL.out HHJ.out
    · have hij : i = j := by have h1 := HMI.out; have h2 := HMJ.out; have h3 := HIJ.out; omega
      subst hij
      have q : decide ((I : Int) < (J : Int)) = false := decide_eq_false (by omega)
      have qn : decide (I < J) = false := decide_eq_false hlt
      have HT := Lib.hid (show Mg (ltC cf) [v] R (R.take i ++ v :: R.drop i) by
        have h1 := border_lt (L := [v]) (k1 := 0) HWO.out (List.pairwise_singleton _ _) HSR.out HJR.out (fun h x y hx hy => by injection hx with hx; rw [← hx]; exact HI.out h y hy)
        have h2 := border_le (L := [v]) (k1 := 1) HWO.out (List.pairwise_singleton _ _) HSR.out (Nat.le_refl _) (fun h x y hx hy => by injection hx with hx; rw [← hx]; exact HJ.out y hy)
        have h3 := Mg.oneL (v := v) (R1 := R.take i) (R2 := R.drop i) HWO.out (by rw [List.take_append_drop]; exact HSR.out) (fun r hr => h1 v (by simp) r hr) (fun r hr => h2 v (by simp) r hr)
        rw [List.take_append_drop] at h3
        exact h3)
      have HWI := Lib.hid (show wrap64 ((I : Int) - 1) = (a : Int) + (i : Int) by
        have h1 := HMI.out; have h2 := HM.out; have h3 := HN.out; have h4 := HBN.out; have h5 := HB.out; have h6 := HJR.out
        rw [w64 _ (by omega) (by omega)]; omega)
      have HS0 := Lib.hid (show Sr w0 wr base g n c (P ++ R.take 0 ++ v :: (R.drop 0 ++ Q)) by
        have h := HS.out
        rw [List.take_zero, List.drop_zero, List.append_nil]
        rwa [List.append_assoc] at h)
      clear hlt HS HI HJ HMJ HIJ
      go_wp2
      clear q qn
      go_loopw [13] (fun s wr => ∃ (t T : Nat), Hid (t ≤ i) ∧ s = .int .i64 T ∧ Hid (a + t = T) ∧ Hid (Sr w0 wr base g n c (P ++ R.take t ++ v :: (R.drop t ++ Q)))) (fun s _ => a + i - (intOf s).toNat)
      case atStart => exact ⟨0, a, Lib.hid (Nat.zero_le _), rfl, Lib.hid (Nat.add_zero a), HS0⟩
      case round =>
        clear HS0
        obtain ⟨t, T, HTI, rfl, HAT, HS⟩ := hrel
        by_cases htl : t < i
        · have hjr := HJR.out
          have hat := HAT.out
          have hpa := HPa.out
          have hbn := HBN.out
          have hbb := HB.out
          have hmm := HM.out
          have hnn := HN.out
          obtain ⟨y, hy⟩ : ∃ y, R[t]? = some y := ⟨_, List.getElem?_eq_getElem (by omega)⟩
          obtain ⟨hyl, hye⟩ := List.getElem?_eq_some_iff.1 hy
          have hrow : P ++ R.take t ++ v :: (R.drop t ++ Q) = (P ++ R.take t) ++ v :: y :: (R.drop (t + 1) ++ Q) := by rw [List.drop_eq_getElem_cons hyl, hye]; rfl
          rw [hrow] at HS
          have hPl : (P ++ R.take t).length = T := by rw [List.length_append, List.length_take]; omega
          obtain ⟨Y, hY⟩ : ∃ Y, T + 1 = Y := ⟨_, rfl⟩
          have HGX := Lib.hid (show ((P ++ R.take t) ++ v :: y :: (R.drop (t + 1) ++ Q))[T]? = some v by rw [← hPl, List.getElem?_append_right (Nat.le_refl _), Nat.sub_self]; rfl)
          have HGY := Lib.hid (show ((P ++ R.take t) ++ v :: y :: (R.drop (t + 1) ++ Q))[Y]? = some y by rw [← hY, ← hPl, List.getElem?_append_right (by omega), show (P ++ R.take t).length + 1 - (P ++ R.take t).length = 1 by omega]; rfl)
          have HSW := Lib.hid (show (((P ++ R.take t) ++ v :: y :: (R.drop (t + 1) ++ Q)).set T y).set Y v = P ++ R.take (t + 1) ++ v :: (R.drop (t + 1) ++ Q) by
            have h := set_set (P := P ++ R.take t) (M := []) (Q := R.drop (t + 1) ++ Q) (x := v) (y := y)
            rw [hPl, List.length_nil, Nat.zero_add, hY] at h
            simp only [List.nil_append] at h
            rw [h, List.take_succ_eq_append_getElem hyl, hye]
            simp only [List.append_assoc, List.cons_append, List.nil_append])
          have HXN := Lib.hid (show T < n by omega)
          have HYN := Lib.hid (show Y < n by omega)
          have HWJ := Lib.hid (show wrap64 ((T : Int) + 1) = (Y : Int) by rw [w64 _ (by omega) (by omega)]; omega)
          have HTY := Lib.hid (show a + (t + 1) = Y by omega)
          have HTI2 := Lib.hid (show t + 1 ≤ i by omega)
          have HTL := Lib.hid htl
          have HTYe := Lib.hid hY
          obtain ⟨kk, hkk⟩ : ∃ kk : Nat, kk = 11 := ⟨_, rfl⟩
          have HKK := Lib.hid hkk
          have zE := Try.sizeOf34
          simp only [← hkk] at zE
          have aE := Try.isAgg34
          obtain ⟨cx, hcx⟩ : ∃ cx, encS v = cx := ⟨_, rfl⟩
          obtain ⟨cy, hcy⟩ : ∃ cy, encS y = cy := ⟨_, rfl⟩
          have na : cx.length = kk := by rw [← hcx, hkk]; rfl
          have nb : cy.length = kk := by rw [← hcy, hkk]; rfl
          have HCX := Lib.hid hcx
          have HCY := Lib.hid hcy
          have aX : (⟨g, 0, none⟩ : Addr).add (T * kk) = ⟨g, T * kk, none⟩ := add_at _ _
          have aY : (⟨g, 0, none⟩ : Addr).add (Y * kk) = ⟨g, Y * kk, none⟩ := add_at _ _
          have q : (T : Int) < (a : Int) + (i : Int) := by omega
          clear hjr hat hpa hbn hbb hmm hnn hy hyl hye hrow hPl hY htl hkk hcx hcy
          have hl1 := (List.getElem?_eq_some_iff.1 HGX.out).1
          have hl2 := (List.getElem?_eq_some_iff.1 HGY.out).1
          have HSe := HS.out.drew
          have HSx := HSe.put hl1 y
          have HSy := HSx.put (i := Y) (by rw [List.length_set]; exact hl2) v
          rw [HSW.out] at HSy
          have HSZ := Lib.hid HSy
          have la := HSe.ldk HGX.out HKK.out Try.prog
          have lb := HSe.ldk HGY.out HKK.out Try.prog
          have sa := HSe.st hl1 y Try.prog
          have sb := HSx.st (i := Y) (by rw [List.length_set]; exact hl2) v Try.prog
          rw [HCX.out] at la
          rw [HCY.out] at lb
          rw [HCY.out] at sa
          rw [HCX.out, HCY.out] at HSZ
          simp only [HCX.out, HCY.out] at sb
          rw [← HKK.out] at sa sb HSZ
          have e2 : ((T : Int)).toNat = T := by omega
          have p2 : (0 : Int) ≤ (T : Int) := by omega
          have r2 : IntKind.i64.wrap ((T : Int)) = (T : Int) := by rw [IntKind.wrap_i64]; have := HXN.out; have := HN.out; omega
          have e3 : ((Y : Int)).toNat = Y := by omega
          have p3 : (0 : Int) ≤ (Y : Int) := by omega
          have r3 : IntKind.i64.wrap ((Y : Int)) = (Y : Int) := by rw [IntKind.wrap_i64]; have := HYN.out; have := HN.out; omega
          have b2 : (T : Int) < (n : Int) := by have := HXN.out; omega
          have b3 : (Y : Int) < (n : Int) := by have := HYN.out; omega
          have hwj := HWJ.out
          have hwi := HWI.out
          clear hl1 hl2 HSe HSx HSy
          go_upto_region 11 with (fail)
          go_big_region_o
          clear la lb sa sb hwj e2 p2 r2 e3 p3 r3 b2 b3
          generalize (wr.drew.setCells g (T * kk) cy).setCells g (Y * kk) cx = w7 at HSZ ⊢
          clear q
          go_wp2
          go_roundw
          case rel => exact ⟨t + 1, Y, HTI2, by rw [HWJ.out], HTY, HSZ⟩
          case measure => rw [HWJ.out]; exact bub_m (by have := HTYe.out; omega) (by have h1 := HAT.out; have h2 := HTL.out; omega)
        · have hti : t = i := by have := HTI.out; omega
          subst hti
          have hat := HAT.out
          have q : decide ((T : Int) < (a : Int) + (t : Int)) = false := decide_eq_false (by omega)
          have q2 : ¬ (T : Int) < (a : Int) + (t : Int) := by omega
          have hwi := HWI.out
          have HE := Lib.hid (show Sr w0 wr base g n c (P ++ (R.take t ++ v :: R.drop t) ++ Q) by
            have h := HS.out
            have e : P ++ (R.take t ++ v :: R.drop t) ++ Q = P ++ R.take t ++ v :: (R.drop t ++ Q) := by simp only [List.append_assoc, List.cons_append]
            rw [e]; exact h)
          clear htl hat
          go_wp2
          refine bodyPost_ret (results_none rfl _ _ _) rfl ?_
          exact ⟨rfl, _, HT.out, by have h := HE.out; simpa only [List.append_assoc, List.cons_append] using h⟩

set_option maxHeartbeats 8000000 in
set_option maxRecDepth 1000000 in
theorem symR_calls (w0 : World) (base g n c bq : Nat) (cf : Sp → Sp → Int) (hw : Swo (ltC cf)) (HC : Hid (Cmp w0 g bq cf)) (P L Q : List Sp) (v : Sp) (a m b : Nat) (w : World) (ha : P.length = a) (hm : a + L.length = m) (hb : m + 1 = b) (hL2 : 1 < L.length) (hL : Sd (ltC cf) L) (hn : n ≤ 1000000) (hS : Sr w0 w base g n c (P ++ L ++ v :: Q)) :
    Calls Try.prog 67 #[.slice (some ⟨g, 0, none⟩) n c, .int .i64 a, .int .i64 m, .int .i64 b, .func (.func 27) #[] #[.pointer (some ⟨bq, 0, none⟩)]] w fun e w' => e = .returned (.tuple #[]) ∧ ∃ S, Mg (ltC cf) L [v] S ∧ Sr w0 w' base g n c (P ++ S ++ Q) := by
  have HWO := Lib.hid hw
  have HN := Lib.hid hn
  have HPa := Lib.hid ha
  have hlen := hS.len
  simp only [List.length_append, List.length_cons] at hlen
  have HBN := Lib.hid (show b ≤ n by omega)
  have HS := Lib.hid hS
  have HSL := Lib.hid hL
  have HM := Lib.hid hm
  have HB := Lib.hid hb
  clear hw hn hlen hS hL
  have hnn := HN.out
  have hbn := HBN.out
  have HMA := Lib.hid (show wrap64 ((m : Int) - (a : Int)) = (L.length : Int) by rw [w64 _ (by omega) (by omega)]; omega)
  have HBM := Lib.hid (show wrap64 ((b : Int) - (m : Int)) = 1 by rw [w64 _ (by omega) (by omega)]; omega)
  have e0 : ((L.length : Int) == 1) = false := beq_eq_false_iff_ne.2 (by omega)
  clear ha hm hb hL2 hnn hbn
  have mixed : Try.prog.follows Departure.mixedOrders = true := by kernel_rfl
  go_enter Try.func67, Try.ntmps67
  have hma := HMA.out
  have hbm := HBM.out
  go_wp2
  clear hma hbm e0
  go_loopw [14, 15, 16] (fun s u _ wr => ∃ (i j I J : Nat), Hid (i ≤ j) ∧ Hid (j ≤ L.length) ∧ s = .int .i64 I ∧ u = .int .i64 J ∧ Hid (a + i = I) ∧ Hid (a + j = J) ∧ Hid (0 < i → ∀ x, L[i - 1]? = some x → ltC cf v x = false) ∧ Hid (∀ x, L[j]? = some x → ltC cf v x = true) ∧ Hid (Sr w0 wr base g n c (P ++ L ++ v :: Q))) (fun s u _ _ => (intOf u - intOf s).toNat)
  case atStart => exact ⟨0, L.length, a, m, Lib.hid (Nat.zero_le _), Lib.hid (Nat.le_refl _), rfl, rfl, Lib.hid (Nat.add_zero a), HM, Lib.hid (fun h => absurd h (Nat.lt_irrefl _)), Lib.hid (fun x hx => by simp at hx), HS⟩
  case round =>
    clear HS
    obtain ⟨i, j, I, J, HIJ, HJR, rfl, rfl, HMI, HMJ, HI, HJ, HS⟩ := hrel
    by_cases hlt : I < J
    · have q : (I : Int) < (J : Int) := by omega
      obtain ⟨H, hH⟩ : ∃ H, (I + J) / 2 = H := ⟨_, rfl⟩
      obtain ⟨h, hh⟩ : ∃ h, (i + j) / 2 = h := ⟨_, rfl⟩
      have hmi := HMI.out
      have hmj := HMJ.out
      have hmh : a + h = H := by omega
      have hih : i ≤ h := by omega
      have hhj : h < j := by omega
      have hjr := HJR.out
      obtain ⟨x, hx⟩ : ∃ x, L[h]? = some x := ⟨_, List.getElem?_eq_getElem (by omega)⟩
      have hpa := HPa.out
      have hma2 := HM.out
      have HGY := Lib.hid (show (P ++ L ++ v :: Q)[H]? = some x by rw [List.append_assoc, List.getElem?_append_right (by omega), show H - P.length = h by omega, List.getElem?_append_left (by omega)]; exact hx)
      have HGX := Lib.hid (show (P ++ L ++ v :: Q)[m]? = some v by rw [List.getElem?_append_right (by rw [List.length_append]; omega), List.length_append, show m - (P.length + L.length) = 0 by omega]; rfl)
      have HX := Lib.hid hx
      have HHL := Lib.hid (show I ≤ H by omega)
      have HHJ := Lib.hid (show H < J by omega)
      have HIH := Lib.hid hih
      have HHj := Lib.hid hhj
      have HMH := Lib.hid hmh
      have hbn := HBN.out
      have hnn := HN.out
      have hbb := HB.out
      have b1 : (H : Int) < (n : Int) := by omega
      have b2 : (m : Int) < (n : Int) := by omega
      have HHALF := Lib.hid (half_eq (by omega) (by omega) hH)
      have HWH := Lib.hid (show wrap64 ((H : Int) + 1) = ((H + 1 : Nat) : Int) by rw [w64 _ (by omega) (by omega)]; omega)
      clear hlt hH hh hmi hmj hmh hih hhj hjr hx hpa hma2 hbn hnn hbb
      obtain ⟨kk, hkk⟩ : ∃ kk : Nat, kk = 11 := ⟨_, rfl⟩
      have HKK := Lib.hid hkk
      have zE := Try.sizeOf34
      simp only [← hkk] at zE
      have aE := Try.isAgg34
      have la := HS.out.drew.ldk HGX.out hkk Try.prog
      have lb := HS.out.drew.ldk HGY.out hkk Try.prog
      obtain ⟨cx, hcx⟩ : ∃ cx, encS v = cx := ⟨_, rfl⟩
      obtain ⟨cy, hcy⟩ : ∃ cy, encS x = cy := ⟨_, rfl⟩
      have na : cx.length = kk := by rw [← hcx, hkk]; rfl
      have nb : cy.length = kk := by rw [← hcy, hkk]; rfl
      rw [hcx] at la
      rw [hcy] at lb
      have HCX := Lib.hid hcx
      have HCY := Lib.hid hcy
      have aX : (⟨g, 0, none⟩ : Addr).add (m * kk) = ⟨g, m * kk, none⟩ := add_at _ _
      have aY : (⟨g, 0, none⟩ : Addr).add (H * kk) = ⟨g, H * kk, none⟩ := add_at _ _
      have HSd := Lib.hid HS.out.drew
      clear hkk hcx hcy
      have hhalf := HHALF.out
      go_upto_region 17 with (fail)
      refine start_ (n := 12) (S := fun w' => Sem.run Try.prog (loadCellsFrom ⟨g, m * kk, none⟩ 0 kk #[]) w' = .ok cx.toArray w' ∧ Sem.run Try.prog (loadCellsFrom ⟨g, H * kk, none⟩ 0 kk #[]) w' = .ok cy.toArray w') (ds := []) #[false, false, false, false, false, false, false, false, false, false, false, false] (by kernel_rfl) rfl rfl ⟨la, lb⟩ (fun hHeld => ?_)
      generalize hwe : wr.drew = w5 at la lb HSd hHeld ⊢
      clear hwe la lb
      refine pure_ (i := 0) (N := some 92) (v := ?_) (a' := ?_) #[true, false, false, false, false, false, false, false, false, false, false, false] rfl rfl (by kernel_rfl) (fun _ _ _ h => h) (Or.inl ⟨by rfl, ?_⟩) ?_ ?_
      rotate_left
      · intro w'
        go_simp
        with_reducible rfl
      rotate_left
      · simp only [Act.put, List.setIfInBounds_toArray, List.set_cons_zero, List.set_cons_succ, i64_w, i32_w]
        rfl
      refine pure_ (i := 1) (N := some 93) (v := ?_) (a' := ?_) #[true, true, false, false, false, false, false, false, false, false, false, false] rfl rfl (by kernel_rfl) (fun _ _ _ h => h) (Or.inl ⟨by rfl, ?_⟩) ?_ ?_
      rotate_left
      · intro w'
        go_simp
        with_reducible rfl
      rotate_left
      · simp only [Act.put, List.setIfInBounds_toArray, List.set_cons_zero, List.set_cons_succ, i64_w, i32_w]
        rfl
      refine pure_ (i := 2) (N := some 94) (v := ?_) (a' := ?_) #[true, true, true, false, false, false, false, false, false, false, false, false] rfl rfl (by kernel_rfl) (fun _ _ _ h => h) (Or.inl ⟨by rfl, ?_⟩) ?_ ?_
      rotate_left
      · intro w'
        go_simp
        with_reducible rfl
      rotate_left
      · simp only [Act.put, List.setIfInBounds_toArray, List.set_cons_zero, List.set_cons_succ, i64_w, i32_w]
        rfl
      refine pure_ (i := 3) (N := some 95) (v := ?_) (a' := ?_) #[true, true, true, true, false, false, false, false, false, false, false, false] rfl rfl (by kernel_rfl) (fun _ _ _ h => h) (Or.inl ⟨by rfl, ?_⟩) ?_ ?_
      rotate_left
      · intro w'
        go_simp
        with_reducible rfl
      rotate_left
      · simp only [Act.put, List.setIfInBounds_toArray, List.set_cons_zero, List.set_cons_succ, i64_w, i32_w]
        rfl
      refine pure_ (i := 5) (N := some 97) (v := ?_) (a' := ?_) #[true, true, true, true, false, true, false, false, false, false, false, false] rfl rfl (by kernel_rfl) (fun _ _ _ h => h) (Or.inl ⟨by rfl, ?_⟩) ?_ ?_
      rotate_left
      · intro w'
        go_simp
        with_reducible rfl
      rotate_left
      · simp only [Act.put, List.setIfInBounds_toArray, List.set_cons_zero, List.set_cons_succ, i64_w, i32_w]
        rfl
      refine pure_ (i := 6) (N := some 98) (v := ?_) (a' := ?_) #[true, true, true, true, false, true, true, false, false, false, false, false] rfl rfl (by kernel_rfl) (fun _ _ _ h => h) (Or.inl ⟨by rfl, ?_⟩) ?_ ?_
      rotate_left
      · intro w'
        go_simp
        with_reducible rfl
      rotate_left
      · simp only [Act.put, List.setIfInBounds_toArray, List.set_cons_zero, List.set_cons_succ, i64_w, i32_w]
        rfl
      refine pure_ (i := 7) (N := some 99) (v := ?_) (a' := ?_) #[true, true, true, true, false, true, true, true, false, false, false, false] rfl rfl (by kernel_rfl) (fun _ _ _ h => h) (Or.inl ⟨by rfl, ?_⟩) ?_ ?_
      rotate_left
      · intro w'
        go_simp
        with_reducible rfl
      rotate_left
      · simp only [Act.put, List.setIfInBounds_toArray, List.set_cons_zero, List.set_cons_succ, i64_w, i32_w]
        rfl
      refine take_ (i := 4) (N := some 96) (v := ?_) (a' := ?_) #[true, true, true, true, true, true, true, true, false, false, false, false] rfl rfl (by kernel_rfl) (fun _ _ _ h => h) (Or.inl ⟨by rfl, ?_⟩) hHeld ?_ ?_
      rotate_left
      · rintro w' ⟨s0, s1⟩
        go_simp
        with_reducible rfl
      rotate_left
      · simp only [Act.put, List.setIfInBounds_toArray, List.set_cons_zero, List.set_cons_succ, i64_w, i32_w]
        rfl
      refine take_ (i := 8) (N := some 100) (v := ?_) (a' := ?_) #[true, true, true, true, true, true, true, true, true, false, false, false] rfl rfl (by kernel_rfl) (fun _ _ _ h => h) (Or.inl ⟨by rfl, ?_⟩) hHeld ?_ ?_
      rotate_left
      · rintro w' ⟨s0, s1⟩
        go_simp
        with_reducible rfl
      rotate_left
      · simp only [Act.put, List.setIfInBounds_toArray, List.set_cons_zero, List.set_cons_succ, i64_w, i32_w]
        rfl
      refine one_ (i := 9) (N := some 101) #[true, true, true, true, true, true, true, true, true, true, false, false] rfl rfl (by kernel_rfl) (by decide) (fun K hK => ?_)
      have hcm := HC.out v x w5 HSd.out.gr
      rw [HCX.out, HCY.out] at hcm
      refine goesv_ Try.func27 (by kernel_rfl) rfl #[.agg cx.toArray, .agg cy.toArray, .pointer (some ⟨bq, 0, none⟩)] (by rfl) rfl rfl (by rfl) (by simp only [List.map_toArray, List.map_cons, List.map_nil]; rfl) ?_
      with_reducible refine (hcm).mono ?_
      rintro ee w6 ⟨rfl, hb⟩
      refine ⟨_, rfl, ?_⟩
      have HS6 := Lib.hid (HSd.out.next hb)
      clear hb hcm
      have la := HS6.out.ldk HGX.out HKK.out Try.prog
      have lb := HS6.out.ldk HGY.out HKK.out Try.prog
      rw [HCX.out] at la
      rw [HCY.out] at lb
      refine hK.out _ _ ⟨la, lb⟩ (fun hHeld => ?_)
      clear hK K
      refine norm_ (a' := ?_) ?_ ?_
      rotate_left
      · show Act.put _ (some 101) _ = _
        simp only [Act.put, List.setIfInBounds_toArray, List.set_cons_zero, List.set_cons_succ, i64_w, i32_w]
        rfl
      refine pure_ (i := 10) (N := some 102) (v := ?_) (a' := ?_) #[true, true, true, true, true, true, true, true, true, true, true, false] rfl rfl (by kernel_rfl) (fun _ _ _ h => h) (Or.inl ⟨by rfl, ?_⟩) ?_ ?_
      rotate_left
      · intro w'
        go_simp
        with_reducible rfl
      rotate_left
      · simp only [Act.put, List.setIfInBounds_toArray, List.set_cons_zero, List.set_cons_succ, i64_w, i32_w]
        rfl
      refine pure_ (i := 11) (N := some 103) (v := ?_) (a' := ?_) #[true, true, true, true, true, true, true, true, true, true, true, true] rfl rfl (by kernel_rfl) (fun _ _ _ h => h) (Or.inl ⟨by rfl, ?_⟩) ?_ ?_
      rotate_left
      · intro w'
        go_simp
        with_reducible rfl
      rotate_left
      · simp only [Act.put, List.setIfInBounds_toArray, List.set_cons_zero, List.set_cons_succ, i64_w, i32_w]
        rfl
      refine done_ (by kernel_rfl) ?_
      clear la lb
      clear hhalf b1 b2
      obtain ⟨rb, hrb⟩ : ∃ rb, decide (cf v x < 0) = rb := ⟨_, rfl⟩
      rw [hrb]
      cases rb with
      | true =>
        have HLV := Lib.hid (show ltC cf v x = true from hrb)
        clear hrb
        go_wp2
        go_roundw
        case rel => exact ⟨i, h, I, H, HIH, Lib.hid (by have h1 := HHj.out; have h2 := HJR.out; omega), rfl, by rw [HHALF.out], HMI, HMH, HI, Lib.hid (fun y hy => by rw [HX.out] at hy; injection hy with hy; rw [← hy]; exact HLV.out), HS6⟩
        case measure => rw [HHALF.out]; exact bs_m2 HHL.out HHJ.out
      | false =>
        have HLV := Lib.hid (show ltC cf v x = false from hrb)
        clear hrb
        go_wp2
        go_roundw
        case rel => exact ⟨h + 1, j, H + 1, J, Lib.hid (by have := HHj.out; omega), HJR, by rw [HHALF.out, HWH.out], rfl, Lib.hid (by have := HMH.out; omega), HMJ, Lib.hid (fun _ y hy => by rw [Nat.add_sub_cancel, HX.out] at hy; injection hy with hy; rw [← hy]; exact HLV.out), HJ, HS6⟩
        case measure => rw [HHALF.out, HWH.out]; exact bs_m1 HHL.out HHJ.out
    · have hij : i = j := by have h1 := HMI.out; have h2 := HMJ.out; have h3 := HIJ.out; omega
      subst hij
      have q : decide ((I : Int) < (J : Int)) = false := decide_eq_false (by omega)
      have qn : decide (I < J) = false := decide_eq_false hlt
      have HT := Lib.hid (show Mg (ltC cf) L [v] (L.take i ++ v :: L.drop i) by
        have h1 := border_le (R := [v]) (k1 := i) (k2 := 0) HWO.out HSL.out (List.pairwise_singleton _ _) HJR.out (fun h x y hx hy => by injection hy with hy; rw [← hy]; exact HI.out h x hx)
        have h2 := border_lt (R := [v]) (k1 := i) (k2 := 1) HWO.out HSL.out (List.pairwise_singleton _ _) (Nat.le_refl _) (fun h x y hx hy => by injection hy with hy; rw [← hy]; exact HJ.out x hx)
        have h3 := Mg.oneR (v := v) (L1 := L.take i) (L2 := L.drop i) HWO.out (by rw [List.take_append_drop]; exact HSL.out) (fun r hr => h1 r hr v (by simp)) (fun r hr => h2 r hr v (by simp))
        rw [List.take_append_drop] at h3
        exact h3)
      have HS0 := Lib.hid (show Sr w0 wr base g n c (P ++ L.take L.length ++ v :: (L.drop L.length ++ Q)) by
        have h := HS.out
        rw [List.take_length, List.drop_length, List.nil_append]
        exact h)
      clear hlt HS HI HJ HMJ HIJ
      go_wp2
      clear q qn
      go_loopw [17] (fun s wr => ∃ (t T : Nat), Hid (i ≤ t) ∧ Hid (t ≤ L.length) ∧ s = .int .i64 T ∧ Hid (a + t = T) ∧ Hid (Sr w0 wr base g n c (P ++ L.take t ++ v :: (L.drop t ++ Q)))) (fun s _ => (intOf s).toNat)
      case atStart => exact ⟨L.length, m, HJR, Lib.hid (Nat.le_refl _), rfl, HM, HS0⟩
      case round =>
        clear HS0
        obtain ⟨t, T, HTI, HTL, rfl, HAT, HS⟩ := hrel
        by_cases htl : i < t
        · have hjr := HTL.out
          have hat := HAT.out
          have hpa := HPa.out
          have hbn := HBN.out
          have hbb := HB.out
          have hmm := HM.out
          have hnn := HN.out
          have hmi := HMI.out
          obtain ⟨t, rfl⟩ : ∃ t', t = t' + 1 := ⟨t - 1, by omega⟩
          obtain ⟨y, hy⟩ : ∃ y, L[t]? = some y := ⟨_, List.getElem?_eq_getElem (by omega)⟩
          obtain ⟨hyl, hye⟩ := List.getElem?_eq_some_iff.1 hy
          have hrow : P ++ L.take (t + 1) ++ v :: (L.drop (t + 1) ++ Q) = (P ++ L.take t) ++ y :: v :: (L.drop (t + 1) ++ Q) := by rw [List.take_succ_eq_append_getElem hyl, hye]; simp only [List.append_assoc, List.cons_append, List.nil_append]
          rw [hrow] at HS
          obtain ⟨Y, hY⟩ : ∃ Y, a + t = Y := ⟨_, rfl⟩
          have hYT : T = Y + 1 := by omega
          have hPl : (P ++ L.take t).length = Y := by rw [List.length_append, List.length_take]; omega
          have HGY := Lib.hid (show ((P ++ L.take t) ++ y :: v :: (L.drop (t + 1) ++ Q))[Y]? = some y by rw [← hPl, List.getElem?_append_right (Nat.le_refl _), Nat.sub_self]; rfl)
          have HGX := Lib.hid (show ((P ++ L.take t) ++ y :: v :: (L.drop (t + 1) ++ Q))[T]? = some v by rw [hYT, ← hPl, List.getElem?_append_right (by omega), show (P ++ L.take t).length + 1 - (P ++ L.take t).length = 1 by omega]; rfl)
          have HSW := Lib.hid (show (((P ++ L.take t) ++ y :: v :: (L.drop (t + 1) ++ Q)).set T y).set Y v = P ++ L.take t ++ v :: (L.drop t ++ Q) by
            have h := set_set' (P := P ++ L.take t) (Q := L.drop (t + 1) ++ Q) (x := y) (y := v)
            rw [hPl, ← hYT] at h
            rw [h, List.drop_eq_getElem_cons hyl, hye]
            simp only [List.append_assoc, List.cons_append, List.nil_append])
          have HXN := Lib.hid (show T < n by omega)
          have HYN := Lib.hid (show Y < n by omega)
          have HWJ := Lib.hid (show wrap64 ((T : Int) - 1) = (Y : Int) by rw [w64 _ (by omega) (by omega)]; omega)
          have HAY := Lib.hid hY
          have HTI2 := Lib.hid (show i ≤ t by omega)
          have HTL2 := Lib.hid (show t ≤ L.length by omega)
          have HYT := Lib.hid hYT
          obtain ⟨kk, hkk⟩ : ∃ kk : Nat, kk = 11 := ⟨_, rfl⟩
          have HKK := Lib.hid hkk
          have zE := Try.sizeOf34
          simp only [← hkk] at zE
          have aE := Try.isAgg34
          obtain ⟨cx, hcx⟩ : ∃ cx, encS v = cx := ⟨_, rfl⟩
          obtain ⟨cy, hcy⟩ : ∃ cy, encS y = cy := ⟨_, rfl⟩
          have na : cx.length = kk := by rw [← hcx, hkk]; rfl
          have nb : cy.length = kk := by rw [← hcy, hkk]; rfl
          have HCX := Lib.hid hcx
          have HCY := Lib.hid hcy
          have aX : (⟨g, 0, none⟩ : Addr).add (T * kk) = ⟨g, T * kk, none⟩ := add_at _ _
          have aY : (⟨g, 0, none⟩ : Addr).add (Y * kk) = ⟨g, Y * kk, none⟩ := add_at _ _
          have q : (I : Int) < (T : Int) := by omega
          clear hjr hat hpa hbn hbb hmm hnn hmi hy hyl hye hrow hPl hY hYT htl hkk hcx hcy
          have hl1 := (List.getElem?_eq_some_iff.1 HGX.out).1
          have hl2 := (List.getElem?_eq_some_iff.1 HGY.out).1
          have HSe := HS.out.drew
          have HSx := HSe.put hl1 y
          have HSy := HSx.put (i := Y) (by rw [List.length_set]; exact hl2) v
          rw [HSW.out] at HSy
          have HSZ := Lib.hid HSy
          have la := HSe.ldk HGX.out HKK.out Try.prog
          have lb := HSe.ldk HGY.out HKK.out Try.prog
          have sa := HSe.st hl1 y Try.prog
          have sb := HSx.st (i := Y) (by rw [List.length_set]; exact hl2) v Try.prog
          rw [HCX.out] at la
          rw [HCY.out] at lb
          rw [HCY.out] at sa
          rw [HCX.out, HCY.out] at HSZ
          simp only [HCX.out, HCY.out] at sb
          rw [← HKK.out] at sa sb HSZ
          have e2 : ((T : Int)).toNat = T := by omega
          have p2 : (0 : Int) ≤ (T : Int) := by omega
          have r2 : IntKind.i64.wrap ((T : Int)) = (T : Int) := by rw [IntKind.wrap_i64]; have := HXN.out; have := HN.out; omega
          have e3 : ((Y : Int)).toNat = Y := by omega
          have p3 : (0 : Int) ≤ (Y : Int) := by omega
          have r3 : IntKind.i64.wrap ((Y : Int)) = (Y : Int) := by rw [IntKind.wrap_i64]; have := HYN.out; have := HN.out; omega
          have b2 : (T : Int) < (n : Int) := by have := HXN.out; omega
          have b3 : (Y : Int) < (n : Int) := by have := HYN.out; omega
          have hwj := HWJ.out
          skip
          clear hl1 hl2 HSe HSx HSy
          go_upto_region 23 with (fail)
          go_big_region_o
          clear la lb sa sb hwj e2 p2 r2 e3 p3 r3 b2 b3
          generalize (wr.drew.setCells g (T * kk) cy).setCells g (Y * kk) cx = w7 at HSZ ⊢
          clear q
          go_wp2
          go_roundw
          case rel => exact ⟨t, Y, HTI2, HTL2, by rw [HWJ.out], HAY, HSZ⟩
          case measure => rw [HWJ.out, HYT.out]; exact ins_down Y
        · have hti : t = i := by have := HTI.out; omega
          subst hti
          have hTI : T = I := by have h1 := HAT.out; have h2 := HMI.out; omega
          subst hTI
          have q : decide ((T : Int) < (T : Int)) = false := decide_eq_false (by omega)
          have HE := Lib.hid (show Sr w0 wr base g n c (P ++ (L.take t ++ v :: L.drop t) ++ Q) by
            have h := HS.out
            have e : P ++ (L.take t ++ v :: L.drop t) ++ Q = P ++ L.take t ++ v :: (L.drop t ++ Q) := by simp only [List.append_assoc, List.cons_append]
            rw [e]; exact h)
          clear htl
          go_wp2
          refine bodyPost_ret (results_none rfl _ _ _) rfl ?_
          exact ⟨rfl, _, HT.out, by have h := HE.out; simpa only [List.append_assoc, List.cons_append] using h⟩
end Go.Proofs.Ytffggkhahambhaa.Tr

namespace Go.Proofs.Ytffggkhahambhaa.Glob
open Go.RowKit Go.Proofs.YtffggkhahambhaaW.PrintWords Go.Proofs.YtffggkhahambhaaW.PrintLast Go.Proofs.YtffggkhahambhaaW.PrintMore Go.Proofs.Ytffggkhahambhaa.Math
open Go.Proofs.Ytffggkhahambhaa.PAll Go.Proofs.Ytffggkhahambhaa.Runes Go.Proofs.Ytffggkhahambhaa.Text
set_option linter.unusedVariables false
set_option linter.unusedSimpArgs false
def lit (x : S94) (c : Int) : Prop := x.f1 = true ∨ x.f0 = c
/-- A row of signs stands for a row of runes. -/
def gm : List S94 → List Int → Prop
  | [], t => t = []
  | x :: ps, t => if x.f2 = true then ∃ j, j ≤ t.length ∧ gm ps (t.drop j) else ∃ c t', t = c :: t' ∧ lit x c ∧ gm ps t'
theorem gm_many {x : S94} (h : x.f2 = true) (ps : List S94) (t : List Int) : gm (x :: ps) t ↔ ∃ j, j ≤ t.length ∧ gm ps (t.drop j) := by
  rw [gm, if_pos h]
theorem gm_lit {x : S94} (h : x.f2 = false) (ps : List S94) (t : List Int) : gm (x :: ps) t ↔ ∃ c t', t = c :: t' ∧ lit x c ∧ gm ps t' := by
  rw [gm, if_neg (by rw [h]; exact Bool.false_ne_true)]
theorem drop_g {p : List S94} {i : Nat} (h : i < p.length) : p.drop i = p.getD i z94 :: p.drop (i + 1) := by
  rw [List.drop_eq_getElem_cons h, List.getD_eq_getElem?_getD, List.getElem?_eq_getElem h]
  rfl
theorem drop_t {t : List Int} {k : Nat} (h : k < t.length) : t.drop k = t.getD k 0 :: t.drop (k + 1) := by
  rw [List.drop_eq_getElem_cons h, List.getD_eq_getElem?_getD, List.getElem?_eq_getElem h]
  rfl
/-- A row of signs none of which is a star takes one rune each. -/
theorem seg (p : List S94) (a : Nat) : ∀ (m : Nat), a + m ≤ p.length → (∀ x, a ≤ x → x < a + m → (p.getD x z94).f2 = false) → ∀ u, gm (p.drop a) u → m ≤ u.length ∧ gm (p.drop (a + m)) (u.drop m) := by
  intro m
  induction m with
  | zero => intro _ _ u h; exact ⟨Nat.zero_le _, h⟩
  | succ m ih =>
    intro h hn u hu
    obtain ⟨h1, h2⟩ := ih (by omega) (fun x hx hx2 => hn x hx (by omega)) u hu
    rw [drop_g (by omega : a + m < p.length), gm_lit (hn (a + m) (by omega) (by omega))] at h2
    obtain ⟨c, t', e, _, h3⟩ := h2
    have hl := congrArg List.length e
    rw [List.length_drop, List.length_cons] at hl
    have hlt : m < u.length := by omega
    rw [drop_t hlt, List.cons.injEq] at e
    refine ⟨by omega, ?_⟩
    rw [e.2]
    exact h3
def Inv (p : List S94) (t : List Int) (G : Prop) (i k a b : Nat) : Prop :=
  i ≤ p.length ∧ k ≤ t.length ∧ a ≤ i ∧ k = b + (i - a) ∧ (∀ x, a ≤ x → x < i → (p.getD x z94).f2 = false) ∧
  (G ↔ gm (p.drop i) (t.drop k) ∨ (1 ≤ a ∧ ∃ j, b < j ∧ j ≤ t.length ∧ gm (p.drop a) (t.drop j)))
theorem inv_star {p : List S94} {t : List Int} {G : Prop} {i k a b : Nat} (h : Inv p t G i k a b) (hi : i < p.length) (hs : (p.getD i z94).f2 = true) : Inv p t G (i + 1) k (i + 1) k := by
  obtain ⟨h1, h2, h3, h4, h5, h6⟩ := h
  have ea : a + (i - a) = i := Nat.add_sub_cancel' h3
  refine ⟨by omega, h2, Nat.le_refl _, by omega, fun x _ _ => by omega, ?_⟩
  have key : gm (p.drop i) (t.drop k) ↔ ∃ j, k ≤ j ∧ j ≤ t.length ∧ gm (p.drop (i + 1)) (t.drop j) := by
    rw [drop_g hi, gm_many hs]
    constructor
    · rintro ⟨j, hj, hg⟩
      rw [List.length_drop] at hj
      rw [List.drop_drop] at hg
      exact ⟨k + j, by omega, by omega, hg⟩
    · rintro ⟨j, hj, hj2, hg⟩
      refine ⟨j - k, by rw [List.length_drop]; omega, ?_⟩
      rw [List.drop_drop, show k + (j - k) = j by omega]
      exact hg
  have new : (gm (p.drop (i + 1)) (t.drop k) ∨ (1 ≤ i + 1 ∧ ∃ j, k < j ∧ j ≤ t.length ∧ gm (p.drop (i + 1)) (t.drop j))) ↔ ∃ j, k ≤ j ∧ j ≤ t.length ∧ gm (p.drop (i + 1)) (t.drop j) := by
    constructor
    · rintro (hg | ⟨_, j, hj, hj2, hg⟩)
      · exact ⟨k, Nat.le_refl _, h2, hg⟩
      · exact ⟨j, by omega, hj2, hg⟩
    · rintro ⟨j, hj, hj2, hg⟩
      by_cases e : j = k
      · subst e; exact .inl hg
      · exact .inr ⟨by omega, j, by omega, hj2, hg⟩
  rw [h6, new]
  constructor
  · rintro (hg | ⟨ha, j, hj, hj2, hg⟩)
    · exact key.mp hg
    · obtain ⟨s1, s2⟩ := seg p a (i - a) (ea.symm ▸ h1) (fun x hx hx2 => h5 x hx (ea ▸ hx2)) _ hg
      rw [List.length_drop] at s1
      rw [ea, List.drop_drop, drop_g hi, gm_many hs] at s2
      obtain ⟨j2, hj3, hg2⟩ := s2
      rw [List.length_drop] at hj3
      rw [List.drop_drop] at hg2
      exact ⟨j + (i - a) + j2, by omega, by omega, hg2⟩
  · intro hg
    exact .inl (key.mpr hg)
theorem inv_lit {p : List S94} {t : List Int} {G : Prop} {i k a b : Nat} (h : Inv p t G i k a b) (hi : i < p.length) (hk : k < t.length) (hs : (p.getD i z94).f2 = false) (hl : lit (p.getD i z94) (t.getD k 0)) :
    Inv p t G (i + 1) (k + 1) a b := by
  obtain ⟨h1, h2, h3, h4, h5, h6⟩ := h
  refine ⟨by omega, by omega, by omega, by omega, ?_, ?_⟩
  · intro x hx hx2
    by_cases e : x = i
    · subst e; exact hs
    · exact h5 x hx (by omega)
  · have key : gm (p.drop i) (t.drop k) ↔ gm (p.drop (i + 1)) (t.drop (k + 1)) := by
      rw [drop_g hi, gm_lit hs, drop_t hk]
      constructor
      · rintro ⟨c, t', e, _, hg⟩
        rw [List.cons.injEq] at e
        rw [e.2]; exact hg
      · intro hg
        exact ⟨_, _, rfl, hl, hg⟩
    rw [h6, key]
theorem no_here {p : List S94} {t : List Int} {i k : Nat} (hk : k < t.length) (hn : i = p.length ∨ (i < p.length ∧ (p.getD i z94).f2 = false ∧ ¬ lit (p.getD i z94) (t.getD k 0))) : ¬ gm (p.drop i) (t.drop k) := by
  rcases hn with rfl | ⟨hi, hs, hl⟩
  · rw [List.drop_length, drop_t hk]
    intro h
    rw [gm] at h
    cases h
  · rw [drop_g hi, gm_lit hs, drop_t hk]
    rintro ⟨c, t', e, hl2, _⟩
    rw [List.cons.injEq] at e
    exact hl (e.1 ▸ hl2)
theorem inv_back {p : List S94} {t : List Int} {G : Prop} {i k a b : Nat} (h : Inv p t G i k a b) (hk : k < t.length) (ha : 1 ≤ a)
    (hn : i = p.length ∨ (i < p.length ∧ (p.getD i z94).f2 = false ∧ ¬ lit (p.getD i z94) (t.getD k 0))) : Inv p t G a (b + 1) a (b + 1) := by
  obtain ⟨h1, h2, h3, h4, h5, h6⟩ := h
  refine ⟨by omega, by omega, Nat.le_refl _, by omega, fun x _ _ => by omega, ?_⟩
  rw [h6]
  constructor
  · rintro (hg | ⟨_, j, hj, hj2, hg⟩)
    · exact absurd hg (no_here hk hn)
    · by_cases e : j = b + 1
      · subst e; exact .inl hg
      · exact .inr ⟨ha, j, by omega, hj2, hg⟩
  · rintro (hg | ⟨_, j, hj, hj2, hg⟩)
    · exact .inr ⟨ha, b + 1, by omega, by omega, hg⟩
    · exact .inr ⟨ha, j, by omega, hj2, hg⟩
theorem inv_fail {p : List S94} {t : List Int} {G : Prop} {i k b : Nat} (h : Inv p t G i k 0 b) (hk : k < t.length)
    (hn : i = p.length ∨ (i < p.length ∧ (p.getD i z94).f2 = false ∧ ¬ lit (p.getD i z94) (t.getD k 0))) : ¬ G := by
  obtain ⟨h1, h2, h3, h4, h5, h6⟩ := h
  rw [h6]
  rintro (hg | ⟨h0, _⟩)
  · exact no_here hk hn hg
  · omega
theorem inv_end {p : List S94} {t : List Int} {G : Prop} {i a b : Nat} (h : Inv p t G i t.length a b) : G ↔ gm (p.drop i) [] := by
  obtain ⟨h1, h2, h3, h4, h5, h6⟩ := h
  rw [h6, List.drop_length]
  constructor
  · rintro (hg | ⟨_, j, hj, hj2, hg⟩)
    · exact hg
    · obtain ⟨s1, s2⟩ := seg p a (i - a) (by omega) (fun x hx hx2 => h5 x hx (by omega)) _ hg
      rw [List.length_drop] at s1
      omega
  · exact .inl
theorem inv_start (p : List S94) (t : List Int) : Inv p t (gm p t) 0 0 0 0 := by
  refine ⟨Nat.zero_le _, Nat.zero_le _, Nat.le_refl _, rfl, fun x _ hx => by omega, ?_⟩
  rw [List.drop_zero, List.drop_zero]
  constructor
  · exact .inl
  · rintro (h | ⟨h, _⟩)
    · exact h
    · omega
theorem rdT_nat (p : List S94) (i : Nat) : rd_T94 p (i : Int) = p.getD i z94 := rfl
theorem rd_nat (t : List Int) (i : Nat) : rd t (i : Int) = t.getD i 0 := rfl
theorem wsucc (i : Nat) (h : i ≤ 1000000) : wrap64 ((i : Int) + 1) = ((i + 1 : Nat) : Int) := by unfold wrap64; omega
theorem ends_l1 (p : List S94) (hp : p.length ≤ 1000000) (d : Nat) : ∀ (f i : Nat), p.length - i ≤ d → i ≤ p.length → d < f → ∃ r, text_Match.l1 f p (i : Int) = some r ∧ (r = true ↔ gm (p.drop i) []) := by
  have hend : ∀ (f i : Nat), i = p.length → ∃ r, text_Match.l1 (f + 1) p (i : Int) = some r ∧ (r = true ↔ gm (p.drop i) []) := by
    intro f i h
    refine ⟨true, ?_, ?_⟩
    · rw [text_Match.l1, if_neg (by omega), h, beq_self_eq_true]
    · rw [h, List.drop_length, gm]
      exact ⟨fun _ => rfl, fun _ => rfl⟩
  induction d with
  | zero =>
    intro f i h hi hf
    obtain ⟨f, rfl⟩ : ∃ j, f = j + 1 := ⟨f - 1, by omega⟩
    exact hend f i (by omega)
  | succ d ih =>
    intro f i h hi hf
    obtain ⟨f, rfl⟩ : ∃ j, f = j + 1 := ⟨f - 1, by omega⟩
    by_cases hlt : i < p.length
    · rw [text_Match.l1, if_pos (by omega), if_pos (by omega), rdT_nat]
      cases hs : (p.getD i z94).f2 with
      | true =>
        rw [if_pos rfl, wsucc i (by omega)]
        obtain ⟨r, e1, e2⟩ := ih f (i + 1) (by omega) (by omega) (by omega)
        refine ⟨r, e1, e2.trans ?_⟩
        rw [drop_g hlt, gm_many hs]
        constructor
        · intro hg; exact ⟨0, Nat.le_refl _, hg⟩
        · rintro ⟨j, _, hg⟩
          rw [List.drop_nil] at hg
          exact hg
      | false =>
        rw [if_neg Bool.false_ne_true]
        refine ⟨_, rfl, ?_⟩
        rw [drop_g hlt, gm_lit hs, beq_iff_eq]
        constructor
        · intro hg; omega
        · rintro ⟨c, t', e, _⟩
          cases e
    · exact hend f i (by omega)
theorem mu_back (n m b : Nat) (h : b < m) : (m - b) * (m + n + 2) = (m - (b + 1)) * (m + n + 2) + (m + n + 2) := by
  rw [show m - b = m - (b + 1) + 1 by omega, Nat.succ_mul]
theorem match_l0 (p : List S94) (t : List Int) (G : Prop) (hp : p.length ≤ 1000000) (ht : t.length ≤ 1000000) (d : Nat) : ∀ (f i k a b : Nat), Inv p t G i k a b →
    (t.length - b) * (t.length + p.length + 2) + (p.length - i) + (t.length - k) ≤ d → 3 * d + p.length + 10 < f →
    ∃ r, text_Match.l0 f p t (i : Int) (k : Int) ((a : Int) - 1) (b : Int) = some r ∧ (r = true ↔ G) := by
  have hend : ∀ (f i k a b : Nat), Inv p t G i k a b → ¬ k < t.length → p.length + 10 < f + 1 → ∃ r, text_Match.l0 (f + 1) p t (i : Int) (k : Int) ((a : Int) - 1) (b : Int) = some r ∧ (r = true ↔ G) := by
    intro f i k a b hI hk hf
    have hke : k = t.length := by have := hI.2.1; omega
    obtain ⟨r, e1, e2⟩ := ends_l1 p hp p.length f i (by omega) hI.1 (by omega)
    refine ⟨r, ?_, ?_⟩
    · rw [text_Match.l0, if_neg (by omega)]
      exact e1
    · rw [hke] at hI
      rw [inv_end hI]
      exact e2
  induction d with
  | zero =>
    intro f i k a b hI hd hf
    obtain ⟨f, rfl⟩ : ∃ j, f = j + 1 := ⟨f - 1, by omega⟩
    exact hend f i k a b hI (by have := hI.2.1; omega) (by omega)
  | succ d ih =>
    intro f i k a b hI hd hf
    by_cases hk : k < t.length
    · obtain ⟨f, rfl⟩ : ∃ j, f = j + 1 + 1 + 1 := ⟨f - 3, by omega⟩
      have h1 := hI.1
      have h3 := hI.2.2.1
      have h4 := hI.2.2.2.1
      -- the third step: a sign that stands for the rune, or none
      have hj2t : i < p.length → (p.getD i z94).f2 = false → lit (p.getD i z94) (t.getD k 0) → ∃ r, text_Match.j2 (f + 1) p t (i : Int) (k : Int) ((a : Int) - 1) (b : Int) true = some r ∧ (r = true ↔ G) := by
        intro hi hs hl
        rw [text_Match.j2, if_pos rfl, wsucc i (by omega), wsucc k (by omega)]
        exact ih f (i + 1) (k + 1) a b (inv_lit hI hi hk hs hl) (by omega) (by omega)
      have hj2f : (i = p.length ∨ (i < p.length ∧ (p.getD i z94).f2 = false ∧ ¬ lit (p.getD i z94) (t.getD k 0))) → ∃ r, text_Match.j2 (f + 1) p t (i : Int) (k : Int) ((a : Int) - 1) (b : Int) false = some r ∧ (r = true ↔ G) := by
        intro hn
        rw [text_Match.j2, if_neg Bool.false_ne_true]
        by_cases ha : 1 ≤ a
        · have e : wrap64 ((a : Int) - 1 + 1) = (a : Int) := by rw [Int.sub_add_cancel]; unfold wrap64; omega
          rw [if_pos (by omega), e, wsucc b (by omega)]
          have hm := mu_back p.length t.length b (by omega)
          refine ih f a (b + 1) a (b + 1) (inv_back hI hk ha hn) ?_ (by omega)
          generalize (t.length - b) * (t.length + p.length + 2) = X at *
          generalize (t.length - (b + 1)) * (t.length + p.length + 2) = Y at *
          omega
        · rw [if_neg (by omega)]
          have ha0 : a = 0 := by omega
          subst ha0
          exact ⟨false, rfl, ⟨fun h => (by cases h), fun h => absurd h (inv_fail hI hk hn)⟩⟩
      rw [text_Match.l0, if_pos (by omega)]
      by_cases hi : i < p.length
      · rw [if_pos (by omega), if_pos (by omega), rdT_nat]
        cases hs : (p.getD i z94).f2 with
        | true =>
          rw [text_Match.j1, if_pos rfl, wsucc i (by omega)]
          have hI2 := inv_star hI hi hs
          have hle : (t.length - k) * (t.length + p.length + 2) ≤ (t.length - b) * (t.length + p.length + 2) := Nat.mul_le_mul_right _ (by omega)
          have := ih (f + 1) (i + 1) k (i + 1) k hI2 (by
            generalize (t.length - b) * (t.length + p.length + 2) = X at *
            generalize (t.length - k) * (t.length + p.length + 2) = Y at *
            omega) (by omega)
          rw [show (((i + 1 : Nat) : Int) - 1) = (i : Int) by omega] at this
          exact this
        | false =>
          rw [text_Match.j1, if_neg Bool.false_ne_true, if_pos (by omega), if_pos (by omega), rdT_nat]
          by_cases hany : (p.getD i z94).f1 = true
          · rw [if_pos hany]
            exact hj2t hi hs (.inl hany)
          · rw [if_neg hany, if_pos (by omega), if_pos (by omega), rd_nat]
            by_cases he : (p.getD i z94).f0 = t.getD k 0
            · rw [beq_iff_eq.mpr he]
              exact hj2t hi hs (.inr he)
            · rw [beq_eq_false_iff_ne.mpr he]
              exact hj2f (.inr ⟨hi, hs, fun hl => hl.elim hany he⟩)
      · rw [if_neg (by omega), text_Match.j1, if_neg Bool.false_ne_true, if_neg (by omega)]
        exact hj2f (.inl (by omega))
    · obtain ⟨f, rfl⟩ : ∃ j, f = j + 1 := ⟨f - 1, by omega⟩
      exact hend f i k a b hI hk (by omega)
/-- What text.Match tells. -/
theorem match_is (f : Nat) (a0 a1 : ByteArray) (h0 : a0.size ≤ 700) (h1 : a1.size ≤ 700) (hp : (signsL false (runesI a0)).length ≤ 701) (ht : (runesI a1).length ≤ 700) (hf : 3000000 ≤ f) :
    ∃ r, text_Match.f f a0 a1 = some r ∧ (r = true ↔ gm (signsL false (runesI a0)) (runesI a1)) := by
  have e0 : text_signs.f a0 = some (signsL false (runesI a0)) := by unfold text_signs.f; rw [if_pos (by omega)]
  have e1 : text_runes.f a1 = some (runesI a1) := by unfold text_runes.f; rw [if_pos (by omega)]
  unfold text_Match.f
  rw [e0, Option.bind_some, e1, Option.bind_some]
  have hm : (runesI a1).length * ((runesI a1).length + (signsL false (runesI a0)).length + 2) ≤ 700 * 1403 := Nat.mul_le_mul ht (by omega)
  have := match_l0 _ _ _ (by omega) (by omega) 985000 f 0 0 0 0 (inv_start (signsL false (runesI a0)) (runesI a1)) (by simp only [Nat.sub_zero]; omega) (by omega)
  exact this
end Go.Proofs.Ytffggkhahambhaa.Glob
