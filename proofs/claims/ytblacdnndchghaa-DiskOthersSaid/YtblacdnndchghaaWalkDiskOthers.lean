/- The walk of DiskOthers, at any number, byte and script. -/
import Derived.Test.YtblacdnndchghaaDiskOth3
import Derived.Deep.DeepCutAuto
import Derived.Deep.CutBlock
import Derived.Deep.LoopGhost
namespace Go.Proofs.Ytblacdnndchghaa.Walk
open Go.RowKit Go.Proofs.YtblacdnndchghaaW.PrintWords Go.Proofs.YtblacdnndchghaaW.PrintLast Go.Proofs.YtblacdnndchghaaW.PrintMore Go.Proofs.Ytblacdnndchghaa.Math Go.Proofs.Ytblacdnndchghaa.PAll Go.Proofs.Ytblacdnndchghaa.D Go.Proofs.Ytblacdnndchghaa.Open
set_option linter.unusedVariables false
set_option linter.unusedSimpArgs false
set_option maxHeartbeats 40000000 in
set_option maxRecDepth 40000 in
theorem DiskOthers (W : World) (no0 : Int) (hnw : (Lit.int .u8 no0).wf = true) (x : Int) (hxw : (Lit.int .u8 x).wf = true) (A0 : Option Addr) (c0 : Nat) (l0 : List S31) (hl0 : l0.length ≤ c0) (hc0 : Kd.C k31 W A0 l0.length l0) (hg0 : (∀ x ∈ l0, G31 x) ∧ l0.length * 56 ≤ 140737488351232) :
    Calls Try.prog 3 #[.int .u8 no0, .int .u8 x, .slice A0 l0.length c0] W fun e w' => e = .returned (.bool true) ∧ Below W.heap.size W w' := by
  have hn0 : 0 ≤ no0 ∧ no0 < 256 := by
    have h0 : IntKind.u8.min ≤ no0 ∧ no0 ≤ IntKind.u8.max := by simpa [Lit.wf] using hnw
    have h1 : (0 : Int) ≤ no0 ∧ no0 ≤ 255 := h0
    omega
  have hx0 : 0 ≤ x ∧ x < 256 := by
    have h0 : IntKind.u8.min ≤ x ∧ x ≤ IntKind.u8.max := by simpa [Lit.wf] using hxw
    have h1 : (0 : Int) ≤ x ∧ x ≤ 255 := h0
    omega
  have HX := Lib.hid hx0
  clear hx0 hxw
  obtain ⟨nn, rfl⟩ := Int.eq_ofNat_of_zero_le hn0.1
  have HN0 := Lib.hid hn0
  have HA0 := Lib.hid hc0
  have HGA0 := Lib.hid hg0.1
  obtain ⟨r0, hs0⟩ := small_calls hl0 hc0 (by omega)
  have HS0 := Lib.hid hs0
  clear hc0 hg0 hs0 hl0 hnw hn0
  go_enter Try.func3, Try.ntmps3
  go_wp2_with fail
  refine (awake_calls W).mono ?_
  rintro e w1 ⟨rfl, hb⟩
  have HB1 := Lib.hid hb
  clear hb
  go_wp2_with fail
  refine (HS0.out w1 HB1.out).mono ?_
  rintro e w2 ⟨rfl, hb⟩
  have HB2 := Lib.hid (below_step HB1.out hb)
  clear hb HB1 HS0
  cases r0 with
  | false =>
    go_wp2
    go_ret
    exact ⟨rfl, HB2.out⟩
  | true =>
    go_wp2_with fail
    refine (LD.new2 W w2 HB2.out 12).mono ?_
    rintro e w3 ⟨p, rfl, gm, vS, hd, hb⟩
    have hd' : LD W w3 p gm vS nilS (fresh 12) := hd
    have HNR := Lib.hid (hd'.new2R 12)
    clear hd hd' hb HB2
    go_wp2_with fail
    refine HNR.out.mono ?_
    rintro e w4 ⟨q, rfl, uS, hl⟩
    have HL4 := Lib.hid (show L2 W w4 p gm q vS nilS uS nilS (fresh 12) (fresh 12) from hl)
    clear hl HNR
    go_wp2
    go_loopw [9] (fun i wr => ∃ (k : Nat) (vW uW : Value) (s : St), k ≤ l0.length ∧ k ≤ 60 ∧ i = .int .i64 k ∧ Hid (s.W.length ≤ k ∧ PS (fresh 12).S s) ∧ Hid (L2 W wr p gm q vS vW uS uW s s)) (fun i _ => 60 - (intOf i).toNat)
    case atStart => exact ⟨0, _, _, _, Nat.zero_le _, Nat.zero_le _, rfl, Lib.hid ⟨Nat.zero_le _, ⟨rfl, rfl, rfl⟩⟩, HL4⟩
    case round =>
      clear HL4
      obtain ⟨k, vW, uW, s, hk, hk60, rfl, HS, HL⟩ := hrel
      obtain ⟨q1, q2, d1, d2, d3, d4⟩ : ∃ q1 q2 : Bool, decide ((k : Int) < (l0.length : Int)) = q1 ∧ decide ((k : Int) < 60) = q2 ∧ decide (k < l0.length) = q1 ∧ decide (k < 60) = q2 := ⟨_, _, rfl, rfl, by simp, by rw [Bool.eq_iff_iff]; simp; omega⟩
      go_upto_region 8 with fail
      go_cut [33] from 26 to 67 (fun v wc => v = .bool (q1 && q2) ∧ wr = wc)
      case first => cases q1 <;> (go_wp2; go_meet; case rel => exact ⟨rfl, rfl⟩)
      case rest =>
        obtain ⟨rfl, rfl⟩ := hcut
        cases hqq : (q1 && q2) with
        | true =>
          obtain ⟨rfl, rfl⟩ : q1 = true ∧ q2 = true := by simpa using hqq
          have hlt : k < l0.length := by have := of_decide_eq_true d1; omega
          have h60 : k < 60 := by have := of_decide_eq_true d2; omega
          clear hqq
          obtain ⟨ad, A3, c3, rfl, hcells, _, _⟩ := do_at HA0.out hlt
          have hbyte := do_byte HGA0.out hlt
          have hq : (k : Int) < (l0.length : Int) := by omega
          obtain ⟨z0, z1, z2, _, _⟩ := hcells wr HL.out.below
          have HC := Lib.hid hcells
          have HBY := Lib.hid hbyte
          clear hcells hbyte
          generalize (rd_T31 l0 k).f1 = no at z1 HC
          generalize (rd_T31 l0 k).f2 = xb at z2 HC HBY
          by_cases hz : (rd_T31 l0 k).f0 = 0
          · have hbe : ((rd_T31 l0 k).f0 == 0) = true := beq_iff_eq.2 hz
            clear hz
            have hps := (HS.out.2.write no (fpage xb))
            have HPS := Lib.hid hps
            clear hps
            go_wp2
            clear z0 z1 z2
            have hdd := HL.out.next (Below.refl _ _).drew
            refine start_ (n := 13) (S := fun w' => w'.cell? ⟨(ad.add (k * 5)).block, (ad.add (k * 5)).off + 1, none⟩ = some (.int .i64 no) ∧ w'.cell? ⟨(ad.add (k * 5)).block, (ad.add (k * 5)).off + 2, none⟩ = some (.int .u8 xb)) (ds := []) #[false, false, false, false, false, false, false, false, false, false, false, false, false] (by kernel_rfl) rfl rfl ⟨(HC.out _ hdd.below).2.1, (HC.out _ hdd.below).2.2.1⟩ (fun hHeld => ?_)
            generalize wr.drew = w5 at hdd hHeld ⊢
            have HD5 := Lib.hid hdd
            clear hdd
            refine pure_ (i := 0) (N := some 42) (v := ?_) (a' := ?_) #[true, false, false, false, false, false, false, false, false, false, false, false, false] rfl rfl (by kernel_rfl) (fun _ _ _ h => h) (Or.inl ⟨by rfl, ?_⟩) ?_ ?_
            rotate_left
            · intro w'
              go_simp
              with_reducible rfl
            rotate_left
            · simp only [Act.put, List.setIfInBounds_toArray, List.set_cons_zero, List.set_cons_succ, i64_w, i32_w]
              rfl
            refine pure_ (i := 1) (N := some 43) (v := ?_) (a' := ?_) #[true, true, false, false, false, false, false, false, false, false, false, false, false] rfl rfl (by kernel_rfl) (fun _ _ _ h => h) (Or.inl ⟨by rfl, ?_⟩) ?_ ?_
            rotate_left
            · intro w'
              go_simp
              with_reducible rfl
            rotate_left
            · simp only [Act.put, List.setIfInBounds_toArray, List.set_cons_zero, List.set_cons_succ, i64_w, i32_w]
              rfl
            refine pure_ (i := 2) (N := some 44) (v := ?_) (a' := ?_) #[true, true, true, false, false, false, false, false, false, false, false, false, false] rfl rfl (by kernel_rfl) (fun _ _ _ h => h) (Or.inl ⟨by rfl, ?_⟩) ?_ ?_
            rotate_left
            · intro w'
              go_simp
              with_reducible rfl
            rotate_left
            · simp only [Act.put, List.setIfInBounds_toArray, List.set_cons_zero, List.set_cons_succ, i64_w, i32_w]
              rfl
            refine pure_ (i := 3) (N := some 45) (v := ?_) (a' := ?_) #[true, true, true, true, false, false, false, false, false, false, false, false, false] rfl rfl (by kernel_rfl) (fun _ _ _ h => h) (Or.inl ⟨by rfl, ?_⟩) ?_ ?_
            rotate_left
            · intro w'
              go_simp
              with_reducible rfl
            rotate_left
            · simp only [Act.put, List.setIfInBounds_toArray, List.set_cons_zero, List.set_cons_succ, i64_w, i32_w]
              rfl
            refine pure_ (i := 4) (N := some 46) (v := ?_) (a' := ?_) #[true, true, true, true, true, false, false, false, false, false, false, false, false] rfl rfl (by kernel_rfl) (fun _ _ _ h => h) (Or.inl ⟨by rfl, ?_⟩) ?_ ?_
            rotate_left
            · intro w'
              go_simp
              with_reducible rfl
            rotate_left
            · simp only [Act.put, List.setIfInBounds_toArray, List.set_cons_zero, List.set_cons_succ, i64_w, i32_w]
              rfl
            refine pure_ (i := 6) (N := some 48) (v := ?_) (a' := ?_) #[true, true, true, true, true, false, true, false, false, false, false, false, false] rfl rfl (by kernel_rfl) (fun _ _ _ h => h) (Or.inl ⟨by rfl, ?_⟩) ?_ ?_
            rotate_left
            · intro w'
              go_simp
              with_reducible rfl
            rotate_left
            · simp only [Act.put, List.setIfInBounds_toArray, List.set_cons_zero, List.set_cons_succ, i64_w, i32_w]
              rfl
            refine pure_ (i := 7) (N := some 49) (v := ?_) (a' := ?_) #[true, true, true, true, true, false, true, true, false, false, false, false, false] rfl rfl (by kernel_rfl) (fun _ _ _ h => h) (Or.inl ⟨by rfl, ?_⟩) ?_ ?_
            rotate_left
            · intro w'
              go_simp
              with_reducible rfl
            rotate_left
            · simp only [Act.put, List.setIfInBounds_toArray, List.set_cons_zero, List.set_cons_succ, i64_w, i32_w]
              rfl
            refine pure_ (i := 8) (N := some 50) (v := ?_) (a' := ?_) #[true, true, true, true, true, false, true, true, true, false, false, false, false] rfl rfl (by kernel_rfl) (fun _ _ _ h => h) (Or.inl ⟨by rfl, ?_⟩) ?_ ?_
            rotate_left
            · intro w'
              go_simp
              with_reducible rfl
            rotate_left
            · simp only [Act.put, List.setIfInBounds_toArray, List.set_cons_zero, List.set_cons_succ, i64_w, i32_w]
              rfl
            refine pure_ (i := 9) (N := some 51) (v := ?_) (a' := ?_) #[true, true, true, true, true, false, true, true, true, true, false, false, false] rfl rfl (by kernel_rfl) (fun _ _ _ h => h) (Or.inl ⟨by rfl, ?_⟩) ?_ ?_
            rotate_left
            · intro w'
              go_simp
              with_reducible rfl
            rotate_left
            · simp only [Act.put, List.setIfInBounds_toArray, List.set_cons_zero, List.set_cons_succ, i64_w, i32_w]
              rfl
            refine take_ (i := 5) (N := some 47) (v := ?_) (a' := ?_) #[true, true, true, true, true, true, true, true, true, true, false, false, false] rfl rfl (by kernel_rfl) (fun _ _ _ h => h) (Or.inl ⟨by rfl, ?_⟩) hHeld ?_ ?_
            rotate_left
            · rintro w' ⟨s0, s1⟩
              go_simp
              with_reducible rfl
            rotate_left
            · simp only [Act.put, List.setIfInBounds_toArray, List.set_cons_zero, List.set_cons_succ, i64_w, i32_w]
              rfl
            refine take_ (i := 10) (N := some 52) (v := ?_) (a' := ?_) #[true, true, true, true, true, true, true, true, true, true, true, false, false] rfl rfl (by kernel_rfl) (fun _ _ _ h => h) (Or.inl ⟨by rfl, ?_⟩) hHeld ?_ ?_
            rotate_left
            · rintro w' ⟨s0, s1⟩
              go_simp
              with_reducible rfl
            rotate_left
            · simp only [Act.put, List.setIfInBounds_toArray, List.set_cons_zero, List.set_cons_succ, i64_w, i32_w]
              rfl
            refine one_ (i := 11) (N := some 53) #[true, true, true, true, true, true, true, true, true, true, true, true, false] rfl rfl (by kernel_rfl) (by decide) (fun K hK => ?_)
            refine goes_ Try.func13 (by kernel_rfl) rfl #[.int .u8 xb] (by rfl) rfl rfl (by simp only [List.map_toArray, List.map_cons, List.map_nil]; rfl) ?_
            with_reducible refine (filled_calls xb w5).mono ?_
            rintro e w6 ⟨v6, rfl, hv, hb⟩
            refine ⟨_, rfl, ?_⟩
            have HV := Lib.hid hv
            have HD6 := Lib.hid (HD5.out.next hb)
            clear hv hb
            refine hK.out _ _ ⟨(HC.out _ HD6.out.below).2.1, (HC.out _ HD6.out.below).2.2.1⟩ (fun hHeld => ?_)
            clear hK K
            refine norm_ (a' := ?_) ?_ ?_
            rotate_left
            · show Act.put _ (some 53) _ = _
              simp only [Act.put, List.setIfInBounds_toArray, List.set_cons_zero, List.set_cons_succ, i64_w, i32_w]
              rfl
            refine one_ (i := 12) (N := some 54) #[true, true, true, true, true, true, true, true, true, true, true, true, true] rfl rfl (by kernel_rfl) (by decide) (fun K hK => ?_)
            refine goes_ Try.func12 (by kernel_rfl) rfl #[.pointer (some ⟨p, 0, none⟩), .int .i64 no, v6] (by rfl) rfl rfl (by simp only [List.map_toArray, List.map_cons, List.map_nil]; rfl) ?_
            with_reducible refine (HD6.out.writeD no HV.out (by rw [fpage_len]; decide) (fpage_isB HBY.out.1 HBY.out.2) (by have := HS.out.1; omega)).mono ?_
            rintro e w7 ⟨rfl, ⟨v7, hd⟩, hkp⟩
            refine ⟨_, rfl, ?_⟩
            have HL7 := Lib.hid hd
            clear hd hkp
            refine hK.out _ _ ⟨(HC.out _ HL7.out.below).2.1, (HC.out _ HL7.out.below).2.2.1⟩ (fun hHeld => ?_)
            clear hK K
            refine norm_ (a' := ?_) ?_ ?_
            rotate_left
            · show Act.put _ (some 54) _ = _
              simp only [Act.put, List.setIfInBounds_toArray, List.set_cons_zero, List.set_cons_succ, i64_w, i32_w]
              rfl
            refine done_ (by kernel_rfl) ?_
            clear HD5 HD6 HV
            generalize hw7_ : w7 = w7_ at HL7 ⊢
            clear hw7_
            go_wp2
            have hdd := HL7.out.next (Below.refl _ _).drew
            refine start_ (n := 13) (S := fun w' => w'.cell? ⟨(ad.add (k * 5)).block, (ad.add (k * 5)).off + 1, none⟩ = some (.int .i64 no) ∧ w'.cell? ⟨(ad.add (k * 5)).block, (ad.add (k * 5)).off + 2, none⟩ = some (.int .u8 xb)) (ds := []) #[false, false, false, false, false, false, false, false, false, false, false, false, false] (by kernel_rfl) rfl rfl ⟨(HC.out _ hdd.below).2.1, (HC.out _ hdd.below).2.2.1⟩ (fun hHeld => ?_)
            generalize w7_.drew = w5 at hdd hHeld ⊢
            have HD5 := Lib.hid hdd
            clear hdd
            refine pure_ (i := 0) (N := some 55) (v := ?_) (a' := ?_) #[true, false, false, false, false, false, false, false, false, false, false, false, false] rfl rfl (by kernel_rfl) (fun _ _ _ h => h) (Or.inl ⟨by rfl, ?_⟩) ?_ ?_
            rotate_left
            · intro w'
              go_simp
              with_reducible rfl
            rotate_left
            · simp only [Act.put, List.setIfInBounds_toArray, List.set_cons_zero, List.set_cons_succ, i64_w, i32_w]
              rfl
            refine pure_ (i := 1) (N := some 56) (v := ?_) (a' := ?_) #[true, true, false, false, false, false, false, false, false, false, false, false, false] rfl rfl (by kernel_rfl) (fun _ _ _ h => h) (Or.inl ⟨by rfl, ?_⟩) ?_ ?_
            rotate_left
            · intro w'
              go_simp
              with_reducible rfl
            rotate_left
            · simp only [Act.put, List.setIfInBounds_toArray, List.set_cons_zero, List.set_cons_succ, i64_w, i32_w]
              rfl
            refine pure_ (i := 2) (N := some 57) (v := ?_) (a' := ?_) #[true, true, true, false, false, false, false, false, false, false, false, false, false] rfl rfl (by kernel_rfl) (fun _ _ _ h => h) (Or.inl ⟨by rfl, ?_⟩) ?_ ?_
            rotate_left
            · intro w'
              go_simp
              with_reducible rfl
            rotate_left
            · simp only [Act.put, List.setIfInBounds_toArray, List.set_cons_zero, List.set_cons_succ, i64_w, i32_w]
              rfl
            refine pure_ (i := 3) (N := some 58) (v := ?_) (a' := ?_) #[true, true, true, true, false, false, false, false, false, false, false, false, false] rfl rfl (by kernel_rfl) (fun _ _ _ h => h) (Or.inl ⟨by rfl, ?_⟩) ?_ ?_
            rotate_left
            · intro w'
              go_simp
              with_reducible rfl
            rotate_left
            · simp only [Act.put, List.setIfInBounds_toArray, List.set_cons_zero, List.set_cons_succ, i64_w, i32_w]
              rfl
            refine pure_ (i := 4) (N := some 59) (v := ?_) (a' := ?_) #[true, true, true, true, true, false, false, false, false, false, false, false, false] rfl rfl (by kernel_rfl) (fun _ _ _ h => h) (Or.inl ⟨by rfl, ?_⟩) ?_ ?_
            rotate_left
            · intro w'
              go_simp
              with_reducible rfl
            rotate_left
            · simp only [Act.put, List.setIfInBounds_toArray, List.set_cons_zero, List.set_cons_succ, i64_w, i32_w]
              rfl
            refine pure_ (i := 6) (N := some 61) (v := ?_) (a' := ?_) #[true, true, true, true, true, false, true, false, false, false, false, false, false] rfl rfl (by kernel_rfl) (fun _ _ _ h => h) (Or.inl ⟨by rfl, ?_⟩) ?_ ?_
            rotate_left
            · intro w'
              go_simp
              with_reducible rfl
            rotate_left
            · simp only [Act.put, List.setIfInBounds_toArray, List.set_cons_zero, List.set_cons_succ, i64_w, i32_w]
              rfl
            refine pure_ (i := 7) (N := some 62) (v := ?_) (a' := ?_) #[true, true, true, true, true, false, true, true, false, false, false, false, false] rfl rfl (by kernel_rfl) (fun _ _ _ h => h) (Or.inl ⟨by rfl, ?_⟩) ?_ ?_
            rotate_left
            · intro w'
              go_simp
              with_reducible rfl
            rotate_left
            · simp only [Act.put, List.setIfInBounds_toArray, List.set_cons_zero, List.set_cons_succ, i64_w, i32_w]
              rfl
            refine pure_ (i := 8) (N := some 63) (v := ?_) (a' := ?_) #[true, true, true, true, true, false, true, true, true, false, false, false, false] rfl rfl (by kernel_rfl) (fun _ _ _ h => h) (Or.inl ⟨by rfl, ?_⟩) ?_ ?_
            rotate_left
            · intro w'
              go_simp
              with_reducible rfl
            rotate_left
            · simp only [Act.put, List.setIfInBounds_toArray, List.set_cons_zero, List.set_cons_succ, i64_w, i32_w]
              rfl
            refine pure_ (i := 9) (N := some 64) (v := ?_) (a' := ?_) #[true, true, true, true, true, false, true, true, true, true, false, false, false] rfl rfl (by kernel_rfl) (fun _ _ _ h => h) (Or.inl ⟨by rfl, ?_⟩) ?_ ?_
            rotate_left
            · intro w'
              go_simp
              with_reducible rfl
            rotate_left
            · simp only [Act.put, List.setIfInBounds_toArray, List.set_cons_zero, List.set_cons_succ, i64_w, i32_w]
              rfl
            refine take_ (i := 5) (N := some 60) (v := ?_) (a' := ?_) #[true, true, true, true, true, true, true, true, true, true, false, false, false] rfl rfl (by kernel_rfl) (fun _ _ _ h => h) (Or.inl ⟨by rfl, ?_⟩) hHeld ?_ ?_
            rotate_left
            · rintro w' ⟨s0, s1⟩
              go_simp
              with_reducible rfl
            rotate_left
            · simp only [Act.put, List.setIfInBounds_toArray, List.set_cons_zero, List.set_cons_succ, i64_w, i32_w]
              rfl
            refine take_ (i := 10) (N := some 65) (v := ?_) (a' := ?_) #[true, true, true, true, true, true, true, true, true, true, true, false, false] rfl rfl (by kernel_rfl) (fun _ _ _ h => h) (Or.inl ⟨by rfl, ?_⟩) hHeld ?_ ?_
            rotate_left
            · rintro w' ⟨s0, s1⟩
              go_simp
              with_reducible rfl
            rotate_left
            · simp only [Act.put, List.setIfInBounds_toArray, List.set_cons_zero, List.set_cons_succ, i64_w, i32_w]
              rfl
            refine one_ (i := 11) (N := some 66) #[true, true, true, true, true, true, true, true, true, true, true, true, false] rfl rfl (by kernel_rfl) (by decide) (fun K hK => ?_)
            refine goes_ Try.func13 (by kernel_rfl) rfl #[.int .u8 xb] (by rfl) rfl rfl (by simp only [List.map_toArray, List.map_cons, List.map_nil]; rfl) ?_
            with_reducible refine (filled_calls xb w5).mono ?_
            rintro e w6 ⟨v6, rfl, hv, hb⟩
            refine ⟨_, rfl, ?_⟩
            have HV := Lib.hid hv
            have HD6 := Lib.hid (HD5.out.next hb)
            clear hv hb
            refine hK.out _ _ ⟨(HC.out _ HD6.out.below).2.1, (HC.out _ HD6.out.below).2.2.1⟩ (fun hHeld => ?_)
            clear hK K
            refine norm_ (a' := ?_) ?_ ?_
            rotate_left
            · show Act.put _ (some 66) _ = _
              simp only [Act.put, List.setIfInBounds_toArray, List.set_cons_zero, List.set_cons_succ, i64_w, i32_w]
              rfl
            refine one_ (i := 12) (N := some 67) #[true, true, true, true, true, true, true, true, true, true, true, true, true] rfl rfl (by kernel_rfl) (by decide) (fun K hK => ?_)
            refine goes_ Try.func14 (by kernel_rfl) rfl #[.pointer (some ⟨q, 0, none⟩), .int .i64 no, v6] (by rfl) rfl rfl (by simp only [List.map_toArray, List.map_cons, List.map_nil]; rfl) ?_
            with_reducible refine (HD6.out.writeR no HV.out (by rw [fpage_len]; decide) (fpage_isB HBY.out.1 HBY.out.2) (by have := HS.out.1; omega)).mono ?_
            rintro e w7 ⟨rfl, ⟨v7, hd⟩, hkp⟩
            refine ⟨_, rfl, ?_⟩
            have HL8 := Lib.hid hd
            clear hd hkp
            refine hK.out _ _ ⟨(HC.out _ HL8.out.below).2.1, (HC.out _ HL8.out.below).2.2.1⟩ (fun hHeld => ?_)
            clear hK K
            refine norm_ (a' := ?_) ?_ ?_
            rotate_left
            · show Act.put _ (some 67) _ = _
              simp only [Act.put, List.setIfInBounds_toArray, List.set_cons_zero, List.set_cons_succ, i64_w, i32_w]
              rfl
            refine done_ (by kernel_rfl) ?_
            clear HD5 HD6 HV
            generalize hw8_ : w7 = w8_ at HL8 ⊢
            clear hw8_
            go_wp2
            go_roundw
            case rel => exact ⟨k + 1, _, _, _, by omega, by omega, by go_num, Lib.hid ⟨by have h1 := HPS.out.2; have h2 := HS.out.1; omega, HPS.out.1⟩, HL8⟩
            case measure => simp [intOf]; omega
          · have hbe : ((rd_T31 l0 k).f0 == 0) = false := beq_eq_false_iff_ne.2 hz
            clear hz
            go_wp2
            go_roundw
            case rel => exact ⟨k + 1, vW, uW, s, by omega, by omega, by go_num, Lib.hid ⟨by have h2 := HS.out.1; omega, HS.out.2⟩, HL⟩
            case measure => simp [intOf]; omega
        | false =>
          clear d1 d2 d3 d4 hqq
          go_upto_region 13 with fail
          go_cut [10] (fun v wc => v = .int .i64 ((nn % 12 : Nat) : Int) ∧ wr = wc)
          case first =>
            have hn0 := HN0.out
            go_wp2
            go_meet
            case rel => exact ⟨by first | rfl | (congr 1), rfl⟩
          case rest =>
            obtain ⟨rfl, rfl⟩ := hcut
            have hk12 : nn % 12 < 12 := by omega
            generalize nn % 12 = kk at hk12 ⊢
            have HK12 := Lib.hid hk12
            have HWL := Lib.hid (show s.W.length ≤ 1000000 by have := HS.out.1; omega)
            have HPS := Lib.hid HS.out.2
            have HSL := Lib.hid (show s.S.length = 12 by rw [HS.out.2.1]; rfl)
            have HIN := Lib.hid (show inside s (kk : Int) from ⟨by omega, by have := HSL.out; omega⟩)
            clear hk12 hk hk60 HS HN0 HA0 HGA0
            go_wp2_with fail
            refine (filled_new x wr).mono ?_
            rintro e w5 ⟨g, cg, rfl, hgn, hv, hb⟩
            have HG0 := Lib.hid (show W.heap.size ≤ g from Nat.le_trans HL.out.below.size hgn)
            have HL5 := Lib.hid ((L2A.of HL.out hgn).next hb)
            have HV5 := Lib.hid hv
            have HGW5 := Lib.hid (show g < w5.heap.size by obtain ⟨cs, hcs⟩ := hv.blk; exact blk_lt hcs)
            clear hgn hv hb HL
            go_wp2_with fail
            refine (HL5.out.writeD (kk : Int) HV5.out HGW5.out (fpage_len x) (fpage_isB HX.out.1 HX.out.2) HWL.out HIN.out HPS.out.2.2 HPS.out.2.1).mono ?_
            rintro e w6 ⟨rfl, ⟨vW6, hd⟩, hkp⟩
            have HL6 := Lib.hid hd
            have HV6 := Lib.hid (hkp _ _ HV5.out)
            clear hd hkp HL5 HV5 HGW5
            go_wp2_with fail
            refine (filled_new x w6).mono ?_
            rintro e w7 ⟨g2, cg2, rfl, _, hv, hb⟩
            have HL7 := Lib.hid (HL6.out.next hb)
            have HV7 := Lib.hid (HV6.out.below hb)
            have HU7 := Lib.hid hv
            have HGW7 := Lib.hid (show g < w7.heap.size by obtain ⟨cs, hcs⟩ := HV7.out.blk; exact blk_lt hcs)
            clear hv hb HL6 HV6
            go_wp2_with fail
            refine (HL7.out.writeR (kk : Int) HU7.out HGW7.out (fpage_len x) (fpage_isB HX.out.1 HX.out.2) HWL.out HIN.out HPS.out.2.2 HPS.out.2.1).mono ?_
            rintro e w8 ⟨rfl, ⟨uW8, hd⟩, hkp⟩
            have hrw := hkp _ _ HV7.out
            obtain ⟨cs, hcs⟩ := hrw.blk
            have fz := blk_frozen hcs 0
            have k0 : w8.cell? ⟨g, 0, none⟩ = some (.int .u8 (rd (fpage x) 0)) := by
              obtain ⟨g', c', hv', _, hcell⟩ := hrw.at_ (by rw [fpage_len]; decide)
              injection hv' with h1 _ _
              injection h1 with h1
              injection h1 with h1 _ _
              subst h1
              exact hcell 0 (by rw [fpage_len]; decide)
            have HL8 := Lib.hid (fun u => hd.store hcs HG0.out 0 u)
            clear hd hkp hrw hcs HL7 HV7 HU7 HGW7
            obtain ⟨s1, hs1⟩ : ∃ s1, s1 = Go.Proofs.Ytblacdnndchghaa.D.wr s (kk : Int) (fpage x) := ⟨_, rfl⟩
            have HS1 := Lib.hid (show s1.S = (fresh 12).S by rw [hs1]; exact HPS.out.1)
            have HL8' := Lib.hid (fun u => (by rw [hs1]; exact HL8.out u : L2 W (w8.setCell ⟨g, 0, none⟩ u) p gm q vS vW6 uS uW8 s1 s1))
            clear hs1 HL8 HWL HPS HSL HIN
            go_wp2
            go_loopw [12] (fun i wr => ∃ j : Nat, j ≤ 12 ∧ i = .int .i64 j ∧ Hid (L2 W wr p gm q vS vW6 uS uW8 s1 s1)) (fun i _ => 12 - (intOf i).toNat)
            case atStart => exact ⟨0, Nat.zero_le _, rfl, Lib.hid (HL8'.out _)⟩
            case round =>
              clear HL8' fz k0
              obtain ⟨j, hj, rfl, HL⟩ := hrel
              by_cases hlt : j < 12
              · have d : decide ((j : Int) < 12) = true := decide_eq_true (by omega)
                have hsl : s1.S.length = 12 := by rw [HS1.out]; rfl
                have hin : inside s1 (j : Int) := ⟨by omega, by omega⟩
                have hri := HL.out.d.read_in hin
                have HPL := Lib.hid hri.1
                have HRC := Lib.hid hri.2
                have HSP := Lib.hid (show safeP s1 (j : Int) = zpage by
                  rw [safe_in s1 (by omega), HS1.out]
                  show (List.replicate 12 zpage).getD j [] = zpage
                  rw [List.getD_eq_getElem?_getD, List.getElem?_replicate, if_pos hlt]
                  rfl)
                have hrd := read_calls HL.out.d (j : Int)
                rw [HRC.out] at hrd
                have HRD := Lib.hid hrd
                clear hrd hri hin hsl
                obtain ⟨pg, hpg⟩ : ∃ pg, pg = readP s1 (j : Int) := ⟨_, rfl⟩
                rw [← hpg] at HPL HRD
                have HPG := Lib.hid hpg
                clear hpg
                go_wp2_with fail
                refine HRD.out.mono ?_
                rintro e w11 ⟨v11, rfl, hm, hb⟩
                obtain ⟨g5, c5, cs5, rfl, hg5, hcs5, hc5⟩ := R_at hm HPL.out
                have HL11 := Lib.hid (HL.out.next hb)
                have HV11 := Lib.hid (Rw.of_R hm)
                have HG5 := Lib.hid hg5
                have HCS5 := Lib.hid hcs5
                have HC5 := Lib.hid hc5
                have HBB := Lib.hid hb
                have hrd := readR_calls HL11.out.r (j : Int)
                rw [HRC.out, ← HPG.out] at hrd
                have HRE := Lib.hid hrd
                clear hrd hm hb hg5 hcs5 hc5 HRD
                go_wp2_with fail
                refine HRE.out.mono ?_
                rintro e w12 ⟨v12, rfl, hm, hb⟩
                obtain ⟨A12, c12, rfl⟩ := Kd.R_slice hm
                have HM12 := Lib.hid hm
                have HU12 := Lib.hid (Rw.of_R hm)
                have HV12 := Lib.hid (HV11.out.below hb)
                have HL12 := Lib.hid (HL11.out.next hb)
                have HCS12 := Lib.hid (blk_turn (O := fun _ => False) (Turn.of_below hb) HCS5.out id)
                have HC12 := Lib.hid ((hb.cell (World.block_lt_of_cell? w11 _ HC5.out)).trans HC5.out)
                have HGL := Lib.hid (blk_lt HCS5.out)
                have HBB12 := Lib.hid (below_step HBB.out hb)
                clear hm hb HRE HL11 HV11 HCS5 HBB HL12 HC5
                go_wp2_with fail
                refine (same_rw HV12.out HU12.out (by have := HPL.out; omega) w12 (Below.refl _ _)).mono ?_
                rintro e w13 ⟨rfl, hb⟩
                rw [decide_eq_true (rfl : pg = pg)]
                have hc13 : w13.cell? ⟨g5, 5, none⟩ = some (.int .u8 (rd pg 5)) := (hb.cell (World.block_lt_of_cell? w12 _ HC12.out)).trans HC12.out
                have hcs13 := blk_turn (O := fun _ => False) (Turn.of_below hb) HCS12.out id
                have f5 := blk_frozen hcs13 5
                have HL14 := Lib.hid (fun u => HL.out.stored (below_step HBB12.out hb) HG5.out 5 u)
                have hm13 : Kd.R (Kd.int .u8) 5 w13 w11.heap.size (fun _ => True) (.slice A12 pg.length c12) pg := Kd.R_lower (Kd.R_of_own (own_turn (O := fun _ => False) (Turn.of_below hb) (Kd.own_of_R HM12.out) (fun _ _ h => h)) (fun _ _ => trivial)) (Nat.le_refl _)
                have HU14 := Lib.hid (fun u => Rw.stored (i := 5) (u := u) hm13 HGL.out)
                clear hb hcs13 hm13 HV12 HCS12 HC12 HBB12 HL HG5 HM12 HGL HU12
                go_upto_region 26 with fail
                generalize hu5 : World.setCell w13 ⟨g5, 5, none⟩ _ = w14
                have HL5 : Hid (L2 W w14 p gm q vS vW6 uS uW8 s1 s1) := Lib.hid (by rw [← hu5]; exact HL14.out _)
                have HU5 : Hid (Rw w14 (.slice A12 pg.length c12) pg) := Lib.hid (by rw [← hu5]; exact HU14.out _)
                clear hu5 HL14 HU14 hc13 f5
                have hrd := read_calls HL5.out.d (j : Int)
                rw [HRC.out, ← HPG.out] at hrd
                have HRD := Lib.hid hrd
                clear hrd
                go_wp2_with fail
                refine HRD.out.mono ?_
                rintro e w15 ⟨v15, rfl, hm, hb⟩
                have HV15 := Lib.hid (Rw.of_R hm)
                have HU15 := Lib.hid (HU5.out.below hb)
                have HL15 := Lib.hid (HL5.out.next hb)
                clear hm hb HRD HL5 HU5
                go_upto_region 27 with fail
                have hdd := HL15.out.next (Below.refl _ _).drew
                have hvd := HV15.out.below (Below.refl _ _).drew
                have hud := HU15.out.below (Below.refl _ _).drew
                clear HL15 HV15 HU15
                as_aux_lemma =>
                refine start_ (n := 12) (S := fun w' => True) (ds := []) #[false, false, false, false, false, false, false, false, false, false, false, false] (by kernel_rfl) rfl rfl trivial (fun hHeld => ?_)
                generalize w15.drew = w5 at hdd hvd hud hHeld ⊢
                have HD5 := Lib.hid hdd
                have HV5 := Lib.hid hvd
                have HU5 := Lib.hid hud
                clear hdd hvd hud
                refine pure_ (i := 0) (N := some 127) (v := ?_) (a' := ?_) #[true, false, false, false, false, false, false, false, false, false, false, false] rfl rfl (by kernel_rfl) (fun _ _ _ h => h) (Or.inl ⟨by rfl, ?_⟩) ?_ ?_
                rotate_left
                · intro w'
                  go_simp
                  with_reducible rfl
                rotate_left
                · simp only [Act.put, List.setIfInBounds_toArray, List.set_cons_zero, List.set_cons_succ, i64_w, i32_w]
                  rfl
                refine pure_ (i := 1) (N := some 128) (v := ?_) (a' := ?_) #[true, true, false, false, false, false, false, false, false, false, false, false] rfl rfl (by kernel_rfl) (fun _ _ _ h => h) (Or.inl ⟨by rfl, ?_⟩) ?_ ?_
                rotate_left
                · intro w'
                  go_simp
                  with_reducible rfl
                rotate_left
                · simp only [Act.put, List.setIfInBounds_toArray, List.set_cons_zero, List.set_cons_succ, i64_w, i32_w]
                  rfl
                refine one_ (i := 2) (N := some 129) #[true, true, true, false, false, false, false, false, false, false, false, false] rfl rfl (by kernel_rfl) (by decide) (fun K hK => ?_)
                refine goes_ Try.func17 (by kernel_rfl) rfl #[v15, .slice A12 pg.length c12] (by rfl) rfl rfl (by simp only [List.map_toArray, List.map_cons, List.map_nil]; rfl) ?_
                with_reducible refine (same_rw HV5.out HU5.out (by have := HPL.out; omega) w5 (Below.refl _ _)).mono ?_
                rintro e w6 ⟨rfl, hb⟩
                refine ⟨_, rfl, ?_⟩
                rw [decide_eq_true (rfl : pg = pg)]
                have HD12 := Lib.hid (HD5.out.next hb)
                clear hb
                refine hK.out _ _ trivial (fun hHeld => ?_)
                clear hK K
                refine norm_ (a' := ?_) ?_ ?_
                rotate_left
                · show Act.put _ (some 129) _ = _
                  simp only [Act.put, List.setIfInBounds_toArray, List.set_cons_zero, List.set_cons_succ, i64_w, i32_w]
                  rfl
                refine pure_ (i := 3) (N := some 130) (v := ?_) (a' := ?_) #[true, true, true, true, false, false, false, false, false, false, false, false] rfl rfl (by kernel_rfl) (fun _ _ _ h => h) (Or.inl ⟨by rfl, ?_⟩) ?_ ?_
                rotate_left
                · intro w'
                  go_simp
                  with_reducible rfl
                rotate_left
                · simp only [Act.put, List.setIfInBounds_toArray, List.set_cons_zero, List.set_cons_succ, i64_w, i32_w]
                  rfl
                refine pure_ (i := 4) (N := some 131) (v := ?_) (a' := ?_) #[true, true, true, true, true, false, false, false, false, false, false, false] rfl rfl (by kernel_rfl) (fun _ _ _ h => h) (Or.inl ⟨by rfl, ?_⟩) ?_ ?_
                rotate_left
                · intro w'
                  go_simp
                  with_reducible rfl
                rotate_left
                · simp only [Act.put, List.setIfInBounds_toArray, List.set_cons_zero, List.set_cons_succ, i64_w, i32_w]
                  rfl
                refine pure_ (i := 5) (N := some 132) (v := ?_) (a' := ?_) #[true, true, true, true, true, true, false, false, false, false, false, false] rfl rfl (by kernel_rfl) (fun _ _ _ h => h) (Or.inl ⟨by rfl, ?_⟩) ?_ ?_
                rotate_left
                · intro w'
                  go_simp
                  with_reducible rfl
                rotate_left
                · simp only [Act.put, List.setIfInBounds_toArray, List.set_cons_zero, List.set_cons_succ, i64_w, i32_w]
                  rfl
                refine pure_ (i := 6) (N := some 133) (v := ?_) (a' := ?_) #[true, true, true, true, true, true, true, false, false, false, false, false] rfl rfl (by kernel_rfl) (fun _ _ _ h => h) (Or.inl ⟨by rfl, ?_⟩) ?_ ?_
                rotate_left
                · intro w'
                  go_simp
                  with_reducible rfl
                rotate_left
                · simp only [Act.put, List.setIfInBounds_toArray, List.set_cons_zero, List.set_cons_succ, i64_w, i32_w]
                  rfl
                refine join_ (σ := Value × Value) 3 #[true, true, true, true, true, true, true, true, true, false, false, false] (fun s => [(134, s.1), (135, s.2)]) (fun s w' => (Rw w' s.1 zpage ∧ Rw w' s.2 zpage) ∧ L2 W w' p gm q vS vW6 uS uW8 s1 s1) ?_ ?_
                rotate_left
                · intro hCont
                  refine two_ (i := 7) (j := 8) (Ni := some 134) (Nj := some 135) #[true, true, true, true, true, true, true, true, false, false, false, false] #[true, true, true, true, true, true, true, false, true, false, false, false] rfl rfl rfl rfl (by kernel_rfl) (by decide) (by decide) (fun K hK => ?_) (fun K hK => ?_)
                  · skip
                    refine goes_ Try.func18 (by kernel_rfl) rfl #[.pointer (some ⟨p, 0, none⟩), .int .i64 (j : Int)] (by rfl) rfl rfl (by simp only [List.map_toArray, List.map_cons, List.map_nil]; rfl) ?_
                    with_reducible refine (safe_calls HD12.out.d (j : Int)).mono ?_
                    rintro e w13 ⟨v13, rfl, hm13, hb13⟩
                    refine ⟨_, rfl, ?_⟩
                    have HRS := Lib.hid (show Rw w13 v13 zpage by have h1 := Rw.of_R hm13; rw [HSP.out] at h1; exact h1)
                    have HB13 := Lib.hid hb13
                    clear hm13 hb13
                    refine hK.out _ _ trivial (fun hHeld => ?_)
                    clear hK K
                    refine norm_ (a' := ?_) ?_ ?_
                    rotate_left
                    · show Act.put _ (some 134) _ = _
                      simp only [Act.put, List.setIfInBounds_toArray, List.set_cons_zero, List.set_cons_succ, i64_w, i32_w]
                      rfl
                    refine one_ (i := 8) (N := some 135) #[true, true, true, true, true, true, true, true, true, false, false, false] rfl rfl (by kernel_rfl) (by decide) (fun K hK => ?_)
                    refine Kd.R_make_step (Kd.int .u8) (w0 := w13) w13.heap.size 5 (by rfl) (N := 135) (by rfl) 34 _ _ (by rfl) 1024 (by rfl) (by rfl) Try.underlying34 (.int .u8 0) 1 info5 rfl (by decide) (by decide) (0 : Int) (ok := fun _ => True) (okp := fun _ => True) rfl (fun _ h => h) trivial (by decide) (by decide) (Below.refl _ _) (Nat.le_refl _) ?_
                    intro v14 w14 ho14 hb14 hg14 hn14
                    have HRM := Lib.hid (show Rw w14 v14 zpage from Rw.of_R ho14)
                    obtain ⟨A14, c14, rfl⟩ := Kd.R_slice ho14
                    have HB14 := Lib.hid hb14
                    clear ho14 hb14 hg14 hn14
                    refine hK.out _ _ trivial (fun hHeld => ?_)
                    clear hK K
                    refine norm_ (a' := ?_) ?_ ?_
                    rotate_left
                    · show Act.put _ (some 135) _ = _
                      simp only [Act.put, List.setIfInBounds_toArray, List.set_cons_zero, List.set_cons_succ, i64_w, i32_w]
                      rfl
                    exact norm_ (by simp only [putAll, Act.put, List.setIfInBounds_toArray, List.set_cons_zero, List.set_cons_succ]) (hCont (v13, _) _ ⟨⟨HRS.out.below HB14.out, HRM.out⟩, (HD12.out.next HB13.out).next HB14.out⟩)
                  · skip
                    refine Kd.R_make_step (Kd.int .u8) (w0 := w6) w6.heap.size 5 (by rfl) (N := 135) (by rfl) 34 _ _ (by rfl) 1024 (by rfl) (by rfl) Try.underlying34 (.int .u8 0) 1 info5 rfl (by decide) (by decide) (0 : Int) (ok := fun _ => True) (okp := fun _ => True) rfl (fun _ h => h) trivial (by decide) (by decide) (Below.refl _ _) (Nat.le_refl _) ?_
                    intro v14 w14 ho14 hb14 hg14 hn14
                    have HRM := Lib.hid (show Rw w14 v14 zpage from Rw.of_R ho14)
                    obtain ⟨A14, c14, rfl⟩ := Kd.R_slice ho14
                    have HB14 := Lib.hid hb14
                    clear ho14 hb14 hg14 hn14
                    refine hK.out _ _ trivial (fun hHeld => ?_)
                    clear hK K
                    refine norm_ (a' := ?_) ?_ ?_
                    rotate_left
                    · show Act.put _ (some 135) _ = _
                      simp only [Act.put, List.setIfInBounds_toArray, List.set_cons_zero, List.set_cons_succ, i64_w, i32_w]
                      rfl
                    refine one_ (i := 7) (N := some 134) #[true, true, true, true, true, true, true, true, true, false, false, false] rfl rfl (by kernel_rfl) (by decide) (fun K hK => ?_)
                    refine goes_ Try.func18 (by kernel_rfl) rfl #[.pointer (some ⟨p, 0, none⟩), .int .i64 (j : Int)] (by rfl) rfl rfl (by simp only [List.map_toArray, List.map_cons, List.map_nil]; rfl) ?_
                    with_reducible refine (safe_calls (Lib.hid (HD12.out.next HB14.out)).out.d (j : Int)).mono ?_
                    rintro e w13 ⟨v13, rfl, hm13, hb13⟩
                    refine ⟨_, rfl, ?_⟩
                    have HRS := Lib.hid (show Rw w13 v13 zpage by have h1 := Rw.of_R hm13; rw [HSP.out] at h1; exact h1)
                    have HB13 := Lib.hid hb13
                    clear hm13 hb13
                    refine hK.out _ _ trivial (fun hHeld => ?_)
                    clear hK K
                    refine norm_ (a' := ?_) ?_ ?_
                    rotate_left
                    · show Act.put _ (some 134) _ = _
                      simp only [Act.put, List.setIfInBounds_toArray, List.set_cons_zero, List.set_cons_succ, i64_w, i32_w]
                      rfl
                    exact norm_ (by simp only [putAll, Act.put, List.setIfInBounds_toArray, List.set_cons_zero, List.set_cons_succ]) (hCont (v13, _) _ ⟨⟨HRS.out, HRM.out.below HB13.out⟩, (HD12.out.next HB14.out).next HB13.out⟩)
                rintro ⟨v13, v14⟩ w14 ⟨⟨hr13, hr14⟩, hb14⟩
                have HR13 := Lib.hid hr13
                have HR14 := Lib.hid hr14
                have HD14 := Lib.hid hb14
                clear hr13 hr14 hb14
                have hHeld : True := trivial
                refine norm_ (a' := ?_) ?_ ?_
                rotate_left
                · simp only [putAll, Act.put, List.setIfInBounds_toArray, List.set_cons_zero, List.set_cons_succ]
                  rfl
                refine one_ (i := 9) (N := some 136) #[true, true, true, true, true, true, true, true, true, true, false, false] rfl rfl (by kernel_rfl) (by decide) (fun K hK => ?_)
                refine goes_ Try.func17 (by kernel_rfl) rfl #[v13, v14] (by rfl) rfl rfl (by simp only [List.map_toArray, List.map_cons, List.map_nil]; rfl) ?_
                with_reducible refine (same_rw HR13.out HR14.out (by rw [zpage_len]; decide) w14 (Below.refl _ _)).mono ?_
                rintro e w15 ⟨rfl, hb⟩
                refine ⟨_, rfl, ?_⟩
                rw [decide_eq_true (rfl : zpage = zpage)]
                have HD15 := Lib.hid (HD14.out.next hb)
                clear hb
                refine hK.out _ _ trivial (fun hHeld => ?_)
                clear hK K
                refine norm_ (a' := ?_) ?_ ?_
                rotate_left
                · show Act.put _ (some 136) _ = _
                  simp only [Act.put, List.setIfInBounds_toArray, List.set_cons_zero, List.set_cons_succ, i64_w, i32_w]
                  rfl
                refine pure_ (i := 10) (N := some 137) (v := ?_) (a' := ?_) #[true, true, true, true, true, true, true, true, true, true, true, false] rfl rfl (by kernel_rfl) (fun _ _ _ h => h) (Or.inl ⟨by rfl, ?_⟩) ?_ ?_
                rotate_left
                · intro w'
                  go_simp
                  with_reducible rfl
                rotate_left
                · simp only [Act.put, List.setIfInBounds_toArray, List.set_cons_zero, List.set_cons_succ, i64_w, i32_w]
                  rfl
                refine pure_ (i := 11) (N := some 138) (v := ?_) (a' := ?_) #[true, true, true, true, true, true, true, true, true, true, true, true] rfl rfl (by kernel_rfl) (fun _ _ _ h => h) (Or.inl ⟨by rfl, ?_⟩) ?_ ?_
                rotate_left
                · intro w'
                  go_simp
                  with_reducible rfl
                rotate_left
                · simp only [Act.put, List.setIfInBounds_toArray, List.set_cons_zero, List.set_cons_succ, i64_w, i32_w]
                  rfl
                refine done_ (by kernel_rfl) ?_
                go_wp2
                go_roundw
                case rel => exact ⟨j + 1, by omega, by go_num, HD15⟩
                case measure => simp [intOf]; omega
              · have hj12 : j = 12 := by omega
                subst hj12
                have d : decide (((12 : Nat) : Int) < 12) = false := rfl
                go_wp2
                go_ret
                exact ⟨rfl, HL.out.below⟩
end Go.Proofs.Ytblacdnndchghaa.Walk
