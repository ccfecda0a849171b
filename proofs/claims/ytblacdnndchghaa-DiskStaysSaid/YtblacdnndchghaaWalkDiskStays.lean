/- The walk of DiskStays, at any two scripts. -/
import Derived.Test.YtblacdnndchghaaDiskLaw3
import Derived.Deep.DeepCutAuto
import Derived.Deep.LoopGhost
namespace Go.Proofs.Ytblacdnndchghaa.Walk
open Go.RowKit Go.Proofs.YtblacdnndchghaaW.PrintWords Go.Proofs.YtblacdnndchghaaW.PrintLast Go.Proofs.YtblacdnndchghaaW.PrintMore Go.Proofs.Ytblacdnndchghaa.Math Go.Proofs.Ytblacdnndchghaa.PAll Go.Proofs.Ytblacdnndchghaa.D Go.Proofs.Ytblacdnndchghaa.Open
set_option linter.unusedVariables false
set_option linter.unusedSimpArgs false
theorem b_write (W : List (Int × List Int)) : True := trivial
set_option maxHeartbeats 16000000 in
set_option maxRecDepth 20000 in
theorem DiskStays (W : World) (A0 : Option Addr) (c0 : Nat) (l0 : List S31) (hl0 : l0.length ≤ c0) (hc0 : Kd.C k31 W A0 l0.length l0) (hg0 : (∀ x ∈ l0, G31 x) ∧ l0.length * 56 ≤ 140737488351232)
    (A1 : Option Addr) (c1 : Nat) (l1 : List S31) (hl1 : l1.length ≤ c1) (hc1 : Kd.C k31 W A1 l1.length l1) (hg1 : (∀ x ∈ l1, G31 x) ∧ l1.length * 56 ≤ 140737488351232) :
    Calls Try.prog 6 #[.slice A0 l0.length c0, .slice A1 l1.length c1] W fun e w' => e = .returned (.bool true) ∧ Below W.heap.size W w' := by
  have HA0 := Lib.hid hc0
  have HA1 := Lib.hid hc1
  have HGA0 := Lib.hid hg0.1
  have HGA1 := Lib.hid hg1.1
  obtain ⟨r0, hs0⟩ := small_calls hl0 hc0 (by omega)
  obtain ⟨r1, hs1⟩ := small_calls hl1 hc1 (by omega)
  have HS0 := Lib.hid hs0
  have HS1 := Lib.hid hs1
  clear hc0 hc1 hg0 hg1 hs0 hs1 hl0 hl1
  go_enter Try.func6, Try.ntmps6
  go_wp2_with fail
  refine (awake_calls W).mono ?_
  rintro e w1 ⟨rfl, hb⟩
  have HB1 := Lib.hid hb
  clear hb
  go_wp2_with fail
  refine (HS0.out w1 HB1.out).mono ?_
  rintro e w2 ⟨rfl, hb⟩
  have HB2 := Lib.hid (below_step HB1.out hb)
  clear hb HB1 HS0
  cases r0 with
  | false =>
    go_wp2
    go_ret
    exact ⟨rfl, HB2.out⟩
  | true =>
    go_wp2_with fail
    refine (HS1.out w2 HB2.out).mono ?_
    rintro e w3 ⟨rfl, hb⟩
    have HB3 := Lib.hid (below_step HB2.out hb)
    clear hb HB2 HS1
    cases r1 with
    | false =>
      go_wp2
      go_ret
      exact ⟨rfl, HB3.out⟩
    | true =>
      go_wp2_with fail
      refine (LD.new2 W w3 HB3.out 12).mono ?_
      rintro e w4 ⟨p, rfl, gm, vS, hd, hb⟩
      have HD4 := Lib.hid (show LD W w4 p gm vS nilS (fresh 12) from hd)
      clear hd hb HB3
      go_wp2
      go_loopw [6] (fun i wr => ∃ (k : Nat) (vW : Value) (s : St), k ≤ l0.length ∧ k ≤ 60 ∧ i = .int .i64 k ∧ Hid (s.W.length ≤ k ∧ PS (fresh 12).S s) ∧ Hid (LD W wr p gm vS vW s)) (fun i _ => 60 - (intOf i).toNat)
      case atStart => exact ⟨0, _, _, Nat.zero_le _, Nat.zero_le _, rfl, Lib.hid ⟨Nat.zero_le _, ⟨rfl, rfl, rfl⟩⟩, HD4⟩
      case round =>
        clear HD4
        obtain ⟨k, vW, s, hk, hk60, rfl, HS, HD⟩ := hrel
        obtain ⟨q1, q2, d1, d2, d3, d4⟩ : ∃ q1 q2 : Bool, decide ((k : Int) < (l0.length : Int)) = q1 ∧ decide ((k : Int) < 60) = q2 ∧ decide (k < l0.length) = q1 ∧ decide (k < 60) = q2 := ⟨_, _, rfl, rfl, by simp, by rw [Bool.eq_iff_iff]; simp; omega⟩
        go_upto_region 7 with fail
        go_cut [33] from 26 to 54 (fun v wc => v = .bool (q1 && q2) ∧ wr = wc)
        case first => cases q1 <;> (go_wp2; go_meet; case rel => exact ⟨rfl, rfl⟩)
        case rest =>
          obtain ⟨rfl, rfl⟩ := hcut
          cases hqq : (q1 && q2) with
          | true =>
            obtain ⟨rfl, rfl⟩ : q1 = true ∧ q2 = true := by simpa using hqq
            have hlt : k < l0.length := by have := of_decide_eq_true d1; omega
            have h60 : k < 60 := by have := of_decide_eq_true d2; omega
            clear hqq
            obtain ⟨ad, A3, c3, rfl, hcells, _, _⟩ := do_at HA0.out hlt
            have hbyte := do_byte HGA0.out hlt
            have hq : (k : Int) < (l0.length : Int) := by omega
            have hwr : wrap64 ((k : Int) + 1) = ((k + 1 : Nat) : Int) := by unfold wrap64; omega
            obtain ⟨z0, z1, z2, _, _⟩ := hcells wr HD.out.below
            have HC := Lib.hid hcells
            have HBY := Lib.hid hbyte
            clear hcells hbyte
            generalize (rd_T31 l0 k).f1 = no at z1 HC
            generalize (rd_T31 l0 k).f2 = x at z2 HC HBY
            by_cases hz : (rd_T31 l0 k).f0 = 0
            · have hbe : ((rd_T31 l0 k).f0 == 0) = true := beq_iff_eq.2 hz
              clear hz
              have hps := (HS.out.2.write no (fpage x))
              have HPS := Lib.hid hps
              clear hps
              go_wp2
              have hdd := HD.out.next (Below.refl _ _).drew
              skip
              clear z0 z1 z2
              refine start_ (n := 13) (S := fun w' => w'.cell? ⟨(ad.add (k * 5)).block, (ad.add (k * 5)).off + 1, none⟩ = some (.int .i64 no) ∧ w'.cell? ⟨(ad.add (k * 5)).block, (ad.add (k * 5)).off + 2, none⟩ = some (.int .u8 x)) (ds := []) #[false, false, false, false, false, false, false, false, false, false, false, false, false] (by kernel_rfl) rfl rfl ⟨(HC.out _ hdd.below).2.1, (HC.out _ hdd.below).2.2.1⟩ (fun hHeld => ?_)
              generalize wr.drew = w5 at hdd hHeld ⊢
              have HD5 := Lib.hid hdd
              skip
              clear hdd
              refine pure_ (i := 0) (N := some 42) (v := ?_) (a' := ?_) #[true, false, false, false, false, false, false, false, false, false, false, false, false] rfl rfl (by kernel_rfl) (fun _ _ _ h => h) (Or.inl ⟨by rfl, ?_⟩) ?_ ?_
              rotate_left
              · intro w'
                go_simp
                with_reducible rfl
              rotate_left
              · simp only [Act.put, List.setIfInBounds_toArray, List.set_cons_zero, List.set_cons_succ, i64_w, i32_w]
                rfl
              refine pure_ (i := 1) (N := some 43) (v := ?_) (a' := ?_) #[true, true, false, false, false, false, false, false, false, false, false, false, false] rfl rfl (by kernel_rfl) (fun _ _ _ h => h) (Or.inl ⟨by rfl, ?_⟩) ?_ ?_
              rotate_left
              · intro w'
                go_simp
                with_reducible rfl
              rotate_left
              · simp only [Act.put, List.setIfInBounds_toArray, List.set_cons_zero, List.set_cons_succ, i64_w, i32_w]
                rfl
              refine pure_ (i := 2) (N := some 44) (v := ?_) (a' := ?_) #[true, true, true, false, false, false, false, false, false, false, false, false, false] rfl rfl (by kernel_rfl) (fun _ _ _ h => h) (Or.inl ⟨by rfl, ?_⟩) ?_ ?_
              rotate_left
              · intro w'
                go_simp
                with_reducible rfl
              rotate_left
              · simp only [Act.put, List.setIfInBounds_toArray, List.set_cons_zero, List.set_cons_succ, i64_w, i32_w]
                rfl
              refine pure_ (i := 3) (N := some 45) (v := ?_) (a' := ?_) #[true, true, true, true, false, false, false, false, false, false, false, false, false] rfl rfl (by kernel_rfl) (fun _ _ _ h => h) (Or.inl ⟨by rfl, ?_⟩) ?_ ?_
              rotate_left
              · intro w'
                go_simp
                with_reducible rfl
              rotate_left
              · simp only [Act.put, List.setIfInBounds_toArray, List.set_cons_zero, List.set_cons_succ, i64_w, i32_w]
                rfl
              refine pure_ (i := 4) (N := some 46) (v := ?_) (a' := ?_) #[true, true, true, true, true, false, false, false, false, false, false, false, false] rfl rfl (by kernel_rfl) (fun _ _ _ h => h) (Or.inl ⟨by rfl, ?_⟩) ?_ ?_
              rotate_left
              · intro w'
                go_simp
                with_reducible rfl
              rotate_left
              · simp only [Act.put, List.setIfInBounds_toArray, List.set_cons_zero, List.set_cons_succ, i64_w, i32_w]
                rfl
              refine pure_ (i := 6) (N := some 48) (v := ?_) (a' := ?_) #[true, true, true, true, true, false, true, false, false, false, false, false, false] rfl rfl (by kernel_rfl) (fun _ _ _ h => h) (Or.inl ⟨by rfl, ?_⟩) ?_ ?_
              rotate_left
              · intro w'
                go_simp
                with_reducible rfl
              rotate_left
              · simp only [Act.put, List.setIfInBounds_toArray, List.set_cons_zero, List.set_cons_succ, i64_w, i32_w]
                rfl
              refine pure_ (i := 7) (N := some 49) (v := ?_) (a' := ?_) #[true, true, true, true, true, false, true, true, false, false, false, false, false] rfl rfl (by kernel_rfl) (fun _ _ _ h => h) (Or.inl ⟨by rfl, ?_⟩) ?_ ?_
              rotate_left
              · intro w'
                go_simp
                with_reducible rfl
              rotate_left
              · simp only [Act.put, List.setIfInBounds_toArray, List.set_cons_zero, List.set_cons_succ, i64_w, i32_w]
                rfl
              refine pure_ (i := 8) (N := some 50) (v := ?_) (a' := ?_) #[true, true, true, true, true, false, true, true, true, false, false, false, false] rfl rfl (by kernel_rfl) (fun _ _ _ h => h) (Or.inl ⟨by rfl, ?_⟩) ?_ ?_
              rotate_left
              · intro w'
                go_simp
                with_reducible rfl
              rotate_left
              · simp only [Act.put, List.setIfInBounds_toArray, List.set_cons_zero, List.set_cons_succ, i64_w, i32_w]
                rfl
              refine pure_ (i := 9) (N := some 51) (v := ?_) (a' := ?_) #[true, true, true, true, true, false, true, true, true, true, false, false, false] rfl rfl (by kernel_rfl) (fun _ _ _ h => h) (Or.inl ⟨by rfl, ?_⟩) ?_ ?_
              rotate_left
              · intro w'
                go_simp
                with_reducible rfl
              rotate_left
              · simp only [Act.put, List.setIfInBounds_toArray, List.set_cons_zero, List.set_cons_succ, i64_w, i32_w]
                rfl
              refine take_ (i := 5) (N := some 47) (v := ?_) (a' := ?_) #[true, true, true, true, true, true, true, true, true, true, false, false, false] rfl rfl (by kernel_rfl) (fun _ _ _ h => h) (Or.inl ⟨by rfl, ?_⟩) hHeld ?_ ?_
              rotate_left
              · rintro w' ⟨s0, s1⟩
                go_simp
                with_reducible rfl
              rotate_left
              · simp only [Act.put, List.setIfInBounds_toArray, List.set_cons_zero, List.set_cons_succ, i64_w, i32_w]
                rfl
              refine take_ (i := 10) (N := some 52) (v := ?_) (a' := ?_) #[true, true, true, true, true, true, true, true, true, true, true, false, false] rfl rfl (by kernel_rfl) (fun _ _ _ h => h) (Or.inl ⟨by rfl, ?_⟩) hHeld ?_ ?_
              rotate_left
              · rintro w' ⟨s0, s1⟩
                go_simp
                with_reducible rfl
              rotate_left
              · simp only [Act.put, List.setIfInBounds_toArray, List.set_cons_zero, List.set_cons_succ, i64_w, i32_w]
                rfl
              refine one_ (i := 11) (N := some 53) #[true, true, true, true, true, true, true, true, true, true, true, true, false] rfl rfl (by kernel_rfl) (by decide) (fun K hK => ?_)
              refine goes_ Try.func13 (by kernel_rfl) rfl #[.int .u8 x] (by rfl) rfl rfl (by simp only [List.map_toArray, List.map_cons, List.map_nil]; rfl) ?_
              with_reducible refine (filled_calls x w5).mono ?_
              rintro e w6 ⟨v6, rfl, hv, hb⟩
              refine ⟨_, rfl, ?_⟩
              have HV := Lib.hid hv
              have HD6 := Lib.hid (HD5.out.next hb)
              skip
              clear hv hb
              refine hK.out _ _ ⟨(HC.out _ HD6.out.below).2.1, (HC.out _ HD6.out.below).2.2.1⟩ (fun hHeld => ?_)
              clear hK K
              refine norm_ (a' := ?_) ?_ ?_
              rotate_left
              · show Act.put _ (some 53) _ = _
                simp only [Act.put, List.setIfInBounds_toArray, List.set_cons_zero, List.set_cons_succ, i64_w, i32_w]
                rfl
              refine one_ (i := 12) (N := some 54) #[true, true, true, true, true, true, true, true, true, true, true, true, true] rfl rfl (by kernel_rfl) (by decide) (fun K hK => ?_)
              refine goes_ Try.func12 (by kernel_rfl) rfl #[.pointer (some ⟨p, 0, none⟩), .int .i64 no, v6] (by rfl) rfl rfl (by simp only [List.map_toArray, List.map_cons, List.map_nil]; rfl) ?_
              with_reducible refine (HD6.out.write no HV.out (by rw [fpage_len]; decide) (fpage_isB HBY.out.1 HBY.out.2) (by have := HS.out.1; omega)).mono ?_
              rintro e w7 ⟨rfl, vW7, hd, ht⟩
              refine ⟨_, rfl, ?_⟩
              have HD7 := Lib.hid hd
              skip
              clear hd ht
              refine hK.out _ _ ⟨(HC.out _ HD7.out.below).2.1, (HC.out _ HD7.out.below).2.2.1⟩ (fun hHeld => ?_)
              clear hK K
              refine norm_ (a' := ?_) ?_ ?_
              rotate_left
              · show Act.put _ (some 54) _ = _
                simp only [Act.put, List.setIfInBounds_toArray, List.set_cons_zero, List.set_cons_succ, i64_w, i32_w]
                rfl
              refine done_ (by kernel_rfl) ?_
              go_wp2
              go_roundw
              case rel => exact ⟨k + 1, vW7, _, by omega, by omega, by go_num, Lib.hid ⟨by have h1 := HPS.out.2; have h2 := HS.out.1; omega, HPS.out.1⟩, HD7⟩
              case measure => simp [intOf]; omega
            · have hbe : ((rd_T31 l0 k).f0 == 0) = false := beq_eq_false_iff_ne.2 hz
              clear hz
              go_wp2
              go_roundw
              case rel => exact ⟨k + 1, vW, s, by omega, by omega, by go_num, Lib.hid ⟨by have h2 := HS.out.1; omega, HS.out.2⟩, HD⟩
              case measure => simp [intOf]; omega
          | false =>
            clear hqq d1 d2 d3 d4
            obtain ⟨sA, rfl⟩ : ∃ sA, sA = s := ⟨_, rfl⟩
            obtain ⟨N0, hN0⟩ : ∃ N0, N0 = wr.heap.size := ⟨_, rfl⟩
            skip
            have hvs : ∀ i, vS.ownBlock = some i → i < N0 := by
              intro i hi
              obtain ⟨Sl, Wl, es, clk, e1, e2, hr, hm, hok⟩ := HD.out.d.body
              obtain ⟨_, c2, h2⟩ := own_block hr.s hi
              rw [hN0]; exact blk_lt h2
            have HN := Lib.hid hvs
            have HQ0 := Lib.hid (show Kept wr N0 nilS [] from ⟨own_nil _ _ _ _, fun x hx => (by cases hx)⟩)
            have HN0 := Lib.hid (show N0 ≤ wr.heap.size by omega)
            have HWN := Lib.hid (show W.heap.size ≤ N0 by have := HD.out.below.size; omega)
            have hps := HS.out.2
            have hsl : sA.S.length = 12 := by rw [hps.1]; rfl
            have HPS := Lib.hid hps
            have HSL := Lib.hid hsl
            have HWL := Lib.hid (show sA.W.length ≤ 60 by have := HS.out.1; omega)
            clear hvs hN0 hps hsl HS hk hk60
            obtain ⟨i0, hi0, hz0, hz1, hz2⟩ := info_parts info_row
            go_wp2
            go_loopw [7, 8] (fun vq i wx => ∃ (j : Nat) (Ql : List (Value × List Int)) (Aq : Option Addr) (cq : Nat), j ≤ 12 ∧ i = .int .i64 j ∧ vq = .slice Aq j cq ∧ Hid (Kept wx N0 (.slice Aq j cq) Ql) ∧ Hid (Ql.map Prod.snd = (List.range j).map fun t : Nat => seenP sA (t : Int)) ∧ Hid (N0 ≤ wx.heap.size) ∧ Hid (LD W wx p gm vS vW sA)) (fun _ i _ => 12 - (intOf i).toNat)
            case atStart => exact ⟨0, [], none, 0, Nat.zero_le _, rfl, rfl, HQ0, Lib.hid rfl, HN0, HD⟩
            case round =>
              clear HQ0 HD HN0
              obtain ⟨j, Ql, Aq, cq, hj, rfl, rfl, HQ, HE, HN0, HD⟩ := hrel
              by_cases hlt : j < 12
              · have d : decide ((j : Int) < 12) = true := decide_eq_true (by omega)
                have hwr : wrap64 ((j : Int) + 1) = ((j + 1 : Nat) : Int) := by unfold wrap64; omega
                have hin : inside sA (j : Int) := ⟨by omega, by have := HSL.out; omega⟩
                have hr1 : readP sA (j : Int) = seenP sA (j : Int) := by unfold readP; rw [if_pos hin]
                have hr2 : readC sA (j : Int) = 0 := by unfold readC; rw [if_pos hin]
                have hrd := read_calls HD.out.d (j : Int)
                rw [hr1, hr2] at hrd
                have HRD := Lib.hid hrd
                clear hin hr1 hr2 hrd
                go_wp2_with fail
                refine HRD.out.mono ?_
                rintro e w8 ⟨v8, rfl, hm, hb⟩
                have hrw := Rw.of_R hm
                obtain ⟨A8, c8, rfl, _, _⟩ := hrw.reads
                have HRW := Lib.hid hrw
                have HQ8 := Lib.hid (HQ.out.below hb)
                have HD8 := Lib.hid (HD.out.next hb)
                have HSZ := Lib.hid (show N0 ≤ w8.heap.size from Nat.le_trans HN0.out hb.size)
                have hql : Ql.length = j := by have h1 := congrArg List.length HE.out; simpa using h1
                clear hm hb hrw HRD HQ HD
                go_wp2_with (first
                  | (at_builtin
                     refine wpList_append_own_at _ rfl _ _ 50 rfl N0 34 i0 nilS 1 24 Try.underlying50 hi0 hz0 hz1 hz2 rfl (by decide) _ Ql.length (Ql.map Prod.fst) rfl (HQ8.out.own.alloc _) ⟨w8.heap.size, 0, none⟩ 1 1 [.slice A8 (seenP sA (j : Int)).length c8] rfl rfl (cell_one_new _ _ _) (fun x hx => by simp at hx; rcases hx with rfl; rfl) (by unfold maxLen; omega) (by omega) (by have := HSZ.out; simp; omega) ?_
                     intro v9 w9 ho9 hg9 hn9 hf9
                     obtain ⟨A9, c9, rfl, _⟩ := own_sl ho9
                     have hta : Turn (fun _ => False) w8 (w8.alloc (.cells #[.slice A8 (seenP sA (j : Int)).length c8] 34)) := Turn.of_below (below_alloc (Below.refl _ _) _)
                     have hnq : ∀ {k c}, (w8.alloc (.cells #[.slice A8 (seenP sA (j : Int)).length c8] 34)).heap[k]? = some (.cells c 5 (0, 0)) → ¬ Value.ownBlock _ = some k := (fun {k c} hk e => by obtain ⟨_, c2, h2⟩ := own_block (HQ8.out.own.alloc (.cells #[.slice A8 (seenP sA (j : Int)).length c8] 34)) e; exact sep hk h2 (by decide) rfl)
                     have htg : Turn (fun k => Value.ownBlock _ = some k) (w8.alloc (.cells #[.slice A8 (seenP sA (j : Int)).length c8] 34)) w9 := Turn.of_grown hg9 (fun k hk => hk)
                     have hK9 : Kept w9 N0 (.slice A9 (Ql.length + 1) c9) (Ql ++ [(.slice A8 (seenP sA (j : Int)).length c8, seenP sA (j : Int))]) := ⟨by rw [List.length_append, List.map_append]; exact ho9, fun x hx => by
                       rcases List.mem_append.1 hx with hx | hx
                       · exact ((HQ8.out.rw_ x hx).turn hta (fun _ _ _ h => h)).turn htg (fun k c hk => hnq hk)
                       · rw [List.mem_singleton.1 hx]; exact (HRW.out.turn hta (fun _ _ _ h => h)).turn htg (fun k c hk => hnq hk)⟩
                     have hD9 : LD W w9 p gm vS vW sA := by
                       have h1 := HD8.out.next (below_alloc (Below.refl _ _) (.cells #[.slice A8 (seenP sA (j : Int)).length c8] 34))
                       obtain ⟨Sl, Wl, es, clk, e1, e2, hr, hm, hok⟩ := h1.d.body
                       refine ⟨h1.d.turn htg (fun k c hk => hnq hk) ?_, below_turn h1.below htg (fun k hk => by have h3 := (own_block (HQ8.out.own.alloc (.cells #[.slice A8 (seenP sA (j : Int)).length c8] 34)) hk).1; have h4 := HWN.out; omega)⟩
                       rintro k (rfl | rfl | hS | hW) hq
                       · obtain ⟨_, c2, h2⟩ := own_block (HQ8.out.own.alloc (.cells #[.slice A8 (seenP sA (j : Int)).length c8] 34)) hq; exact sep h2 h1.d.blk (by decide) rfl
                       · obtain ⟨_, c2, h2⟩ := own_block (HQ8.out.own.alloc (.cells #[.slice A8 (seenP sA (j : Int)).length c8] 34)) hq; exact sepm h2 hm rfl
                       · have h3 := (own_block (HQ8.out.own.alloc (.cells #[.slice A8 (seenP sA (j : Int)).length c8] 34)) hq).1; have := HN.out k hS; omega
                       · obtain ⟨_, c2, h2⟩ := own_block (HQ8.out.own.alloc (.cells #[.slice A8 (seenP sA (j : Int)).length c8] 34)) hq; obtain ⟨_, c3, h3⟩ := own_block hr.w_ hW; exact sep h2 h3 (by decide) rfl
                     have HK9 := Lib.hid hK9
                     have HD9 := Lib.hid hD9
                     have HL9 := Lib.hid hql
                     have HSZ9 := Lib.hid (show N0 ≤ w9.heap.size by have h1 := hg9.size; have h2 := HSZ.out; simp at h1; omega)
                     clear ho9 hg9 hn9 hf9 hta hnq htg hK9 hD9 hql)
                  | fail)
                go_roundw
                case rel => exact ⟨j + 1, _, A9, c9, by omega, by go_num, by rw [HL9.out], Lib.hid (by rw [← HL9.out]; exact HK9.out), Lib.hid (by rw [List.map_append, HE.out, List.range_succ, List.map_append]; rfl), HSZ9, HD9⟩
                case measure => simp [intOf]; omega
              · have hj12 : j = 12 := by omega
                subst hj12
                have d : decide (((12 : Nat) : Int) < 12) = false := rfl
                have hql : Ql.length = 12 := by have h1 := congrArg List.length HE.out; simpa using h1
                have HQL := Lib.hid hql
                have hsy := HD.out.sync
                have hps := PS.sync HPS.out
                rw [hps] at hsy
                have HSY := Lib.hid hsy
                obtain ⟨S1, hS1⟩ : ∃ S1, S1 = syncS (fresh 12).S sA.W := ⟨_, rfl⟩
                have hpage : ∀ t : Nat, t < 12 → S1.getD t [] = seenP sA (t : Int) := by
                  intro t ht
                  obtain ⟨Sl, Wl, es, clk, e1, e2, hr, hm, hok⟩ := HD.out.d.body
                  have hw : ∀ x ∈ sA.W, 0 ≤ x.1 := by
                    intro x hx
                    rw [e2] at hx
                    obtain ⟨y, hy, rfl⟩ := List.mem_map.1 hx
                    exact (hr.wr y hy).1
                  rw [hS1, List.getD_eq_getElem?_getD, syncS_get _ _ hw, ← HPS.out.1]
                  unfold seenP
                  rw [Int.toNat_natCast, List.getD_eq_getElem?_getD, List.getElem?_eq_getElem (by have := HSL.out; omega)]
                  rfl
                have hslen : S1.length = 12 := by rw [hS1, syncS_len]; rfl
                rw [← hS1] at HSY
                have HPG := Lib.hid hpage
                have HSN := Lib.hid hslen
                have HQN := Lib.hid (fun (w' : World) (ht : Turn (DO p gm vS vW) wr w') => HQ.out.turn HD.out.d ht HN.out)
                clear hql hsy hps hS1 hpage hslen HD HQ HPS
                go_wp2_with fail
                refine HSY.out.mono ?_
                rintro e wS ⟨rfl, vWS, hd, ht⟩
                have HQS := Lib.hid (HQN.out wS ht)
                have HDS := Lib.hid hd
                clear hd ht HSY HQN
                go_wp2_with fail
                refine (waiting_calls HDS.out.d (Nat.zero_le _)).mono ?_
                rintro e wT ⟨vT, rfl, hr, hb⟩
                obtain ⟨AT, cT, rfl⟩ := Kd.R_slice hr
                have HQT := Lib.hid (HQS.out.below hb)
                have HDT := Lib.hid (show LD W wT p gm vS vWS ⟨S1, [], 0, false⟩ from HDS.out.next hb)
                clear hr hb HQS HDS HWL HSL
                go_wp2
                go_loopw [11] (fun i wr => ∃ (k : Nat) (vW : Value) (s : St), k ≤ l1.length ∧ k ≤ 60 ∧ i = .int .i64 k ∧ Hid (s.W.length ≤ k ∧ PS S1 s) ∧ Hid (LD W wr p gm vS vW s) ∧ Hid (Kept wr N0 (.slice Aq 12 cq) Ql)) (fun i _ => 60 - (intOf i).toNat)
                case atStart => exact ⟨0, _, _, Nat.zero_le _, Nat.zero_le _, rfl, Lib.hid ⟨Nat.zero_le _, ⟨rfl, rfl, rfl⟩⟩, HDT, HQT⟩
                case round =>
                  clear HDT HQT
                  obtain ⟨k, vW, s, hk, hk60, rfl, HS, HD, HQ⟩ := hrel
                  obtain ⟨q1, q2, d1, d2, d3, d4⟩ : ∃ q1 q2 : Bool, decide ((k : Int) < (l1.length : Int)) = q1 ∧ decide ((k : Int) < 60) = q2 ∧ decide (k < l1.length) = q1 ∧ decide (k < 60) = q2 := ⟨_, _, rfl, rfl, by simp, by rw [Bool.eq_iff_iff]; simp; omega⟩
                  go_upto_region 20 with fail
                  go_cut [85] from 78 to 106 (fun v wc => v = .bool (q1 && q2) ∧ wr = wc)
                  case first => cases q1 <;> (go_wp2; go_meet; case rel => exact ⟨rfl, rfl⟩)
                  case rest =>
                    obtain ⟨rfl, rfl⟩ := hcut
                    cases hqq : (q1 && q2) with
                    | true =>
                      obtain ⟨rfl, rfl⟩ : q1 = true ∧ q2 = true := by simpa using hqq
                      have hlt : k < l1.length := by have := of_decide_eq_true d1; omega
                      have h60 : k < 60 := by have := of_decide_eq_true d2; omega
                      clear hqq
                      obtain ⟨ad, A3, c3, rfl, hcells, _, _⟩ := do_at HA1.out hlt
                      have hbyte := do_byte HGA1.out hlt
                      have hq : (k : Int) < (l1.length : Int) := by omega
                      have hwr : wrap64 ((k : Int) + 1) = ((k + 1 : Nat) : Int) := by unfold wrap64; omega
                      obtain ⟨z0, z1, z2, _, _⟩ := hcells wr HD.out.below
                      have HC := Lib.hid hcells
                      have HBY := Lib.hid hbyte
                      clear hcells hbyte
                      generalize (rd_T31 l1 k).f1 = no at z1 HC
                      generalize (rd_T31 l1 k).f2 = x at z2 HC HBY
                      by_cases hz : (rd_T31 l1 k).f0 = 0
                      · have hbe : ((rd_T31 l1 k).f0 == 0) = true := beq_iff_eq.2 hz
                        clear hz
                        have hps := (HS.out.2.write no (fpage x))
                        have HPS := Lib.hid hps
                        clear hps
                        go_wp2
                        have hdd := HD.out.next (Below.refl _ _).drew
                        have hqd := HQ.out.below (Below.refl _ _).drew
                        clear z0 z1 z2
                        refine start_ (n := 13) (S := fun w' => w'.cell? ⟨(ad.add (k * 5)).block, (ad.add (k * 5)).off + 1, none⟩ = some (.int .i64 no) ∧ w'.cell? ⟨(ad.add (k * 5)).block, (ad.add (k * 5)).off + 2, none⟩ = some (.int .u8 x)) (ds := []) #[false, false, false, false, false, false, false, false, false, false, false, false, false] (by kernel_rfl) rfl rfl ⟨(HC.out _ hdd.below).2.1, (HC.out _ hdd.below).2.2.1⟩ (fun hHeld => ?_)
                        generalize wr.drew = w5 at hdd hqd hHeld ⊢
                        have HD5 := Lib.hid hdd
                        have HQ5 := Lib.hid hqd
                        clear hdd hqd
                        refine pure_ (i := 0) (N := some 94) (v := ?_) (a' := ?_) #[true, false, false, false, false, false, false, false, false, false, false, false, false] rfl rfl (by kernel_rfl) (fun _ _ _ h => h) (Or.inl ⟨by rfl, ?_⟩) ?_ ?_
                        rotate_left
                        · intro w'
                          go_simp
                          with_reducible rfl
                        rotate_left
                        · simp only [Act.put, List.setIfInBounds_toArray, List.set_cons_zero, List.set_cons_succ, i64_w, i32_w]
                          rfl
                        refine pure_ (i := 1) (N := some 95) (v := ?_) (a' := ?_) #[true, true, false, false, false, false, false, false, false, false, false, false, false] rfl rfl (by kernel_rfl) (fun _ _ _ h => h) (Or.inl ⟨by rfl, ?_⟩) ?_ ?_
                        rotate_left
                        · intro w'
                          go_simp
                          with_reducible rfl
                        rotate_left
                        · simp only [Act.put, List.setIfInBounds_toArray, List.set_cons_zero, List.set_cons_succ, i64_w, i32_w]
                          rfl
                        refine pure_ (i := 2) (N := some 96) (v := ?_) (a' := ?_) #[true, true, true, false, false, false, false, false, false, false, false, false, false] rfl rfl (by kernel_rfl) (fun _ _ _ h => h) (Or.inl ⟨by rfl, ?_⟩) ?_ ?_
                        rotate_left
                        · intro w'
                          go_simp
                          with_reducible rfl
                        rotate_left
                        · simp only [Act.put, List.setIfInBounds_toArray, List.set_cons_zero, List.set_cons_succ, i64_w, i32_w]
                          rfl
                        refine pure_ (i := 3) (N := some 97) (v := ?_) (a' := ?_) #[true, true, true, true, false, false, false, false, false, false, false, false, false] rfl rfl (by kernel_rfl) (fun _ _ _ h => h) (Or.inl ⟨by rfl, ?_⟩) ?_ ?_
                        rotate_left
                        · intro w'
                          go_simp
                          with_reducible rfl
                        rotate_left
                        · simp only [Act.put, List.setIfInBounds_toArray, List.set_cons_zero, List.set_cons_succ, i64_w, i32_w]
                          rfl
                        refine pure_ (i := 4) (N := some 98) (v := ?_) (a' := ?_) #[true, true, true, true, true, false, false, false, false, false, false, false, false] rfl rfl (by kernel_rfl) (fun _ _ _ h => h) (Or.inl ⟨by rfl, ?_⟩) ?_ ?_
                        rotate_left
                        · intro w'
                          go_simp
                          with_reducible rfl
                        rotate_left
                        · simp only [Act.put, List.setIfInBounds_toArray, List.set_cons_zero, List.set_cons_succ, i64_w, i32_w]
                          rfl
                        refine pure_ (i := 6) (N := some 100) (v := ?_) (a' := ?_) #[true, true, true, true, true, false, true, false, false, false, false, false, false] rfl rfl (by kernel_rfl) (fun _ _ _ h => h) (Or.inl ⟨by rfl, ?_⟩) ?_ ?_
                        rotate_left
                        · intro w'
                          go_simp
                          with_reducible rfl
                        rotate_left
                        · simp only [Act.put, List.setIfInBounds_toArray, List.set_cons_zero, List.set_cons_succ, i64_w, i32_w]
                          rfl
                        refine pure_ (i := 7) (N := some 101) (v := ?_) (a' := ?_) #[true, true, true, true, true, false, true, true, false, false, false, false, false] rfl rfl (by kernel_rfl) (fun _ _ _ h => h) (Or.inl ⟨by rfl, ?_⟩) ?_ ?_
                        rotate_left
                        · intro w'
                          go_simp
                          with_reducible rfl
                        rotate_left
                        · simp only [Act.put, List.setIfInBounds_toArray, List.set_cons_zero, List.set_cons_succ, i64_w, i32_w]
                          rfl
                        refine pure_ (i := 8) (N := some 102) (v := ?_) (a' := ?_) #[true, true, true, true, true, false, true, true, true, false, false, false, false] rfl rfl (by kernel_rfl) (fun _ _ _ h => h) (Or.inl ⟨by rfl, ?_⟩) ?_ ?_
                        rotate_left
                        · intro w'
                          go_simp
                          with_reducible rfl
                        rotate_left
                        · simp only [Act.put, List.setIfInBounds_toArray, List.set_cons_zero, List.set_cons_succ, i64_w, i32_w]
                          rfl
                        refine pure_ (i := 9) (N := some 103) (v := ?_) (a' := ?_) #[true, true, true, true, true, false, true, true, true, true, false, false, false] rfl rfl (by kernel_rfl) (fun _ _ _ h => h) (Or.inl ⟨by rfl, ?_⟩) ?_ ?_
                        rotate_left
                        · intro w'
                          go_simp
                          with_reducible rfl
                        rotate_left
                        · simp only [Act.put, List.setIfInBounds_toArray, List.set_cons_zero, List.set_cons_succ, i64_w, i32_w]
                          rfl
                        refine take_ (i := 5) (N := some 99) (v := ?_) (a' := ?_) #[true, true, true, true, true, true, true, true, true, true, false, false, false] rfl rfl (by kernel_rfl) (fun _ _ _ h => h) (Or.inl ⟨by rfl, ?_⟩) hHeld ?_ ?_
                        rotate_left
                        · rintro w' ⟨s0, s1⟩
                          go_simp
                          with_reducible rfl
                        rotate_left
                        · simp only [Act.put, List.setIfInBounds_toArray, List.set_cons_zero, List.set_cons_succ, i64_w, i32_w]
                          rfl
                        refine take_ (i := 10) (N := some 104) (v := ?_) (a' := ?_) #[true, true, true, true, true, true, true, true, true, true, true, false, false] rfl rfl (by kernel_rfl) (fun _ _ _ h => h) (Or.inl ⟨by rfl, ?_⟩) hHeld ?_ ?_
                        rotate_left
                        · rintro w' ⟨s0, s1⟩
                          go_simp
                          with_reducible rfl
                        rotate_left
                        · simp only [Act.put, List.setIfInBounds_toArray, List.set_cons_zero, List.set_cons_succ, i64_w, i32_w]
                          rfl
                        refine one_ (i := 11) (N := some 105) #[true, true, true, true, true, true, true, true, true, true, true, true, false] rfl rfl (by kernel_rfl) (by decide) (fun K hK => ?_)
                        refine goes_ Try.func13 (by kernel_rfl) rfl #[.int .u8 x] (by rfl) rfl rfl (by simp only [List.map_toArray, List.map_cons, List.map_nil]; rfl) ?_
                        with_reducible refine (filled_calls x w5).mono ?_
                        rintro e w6 ⟨v6, rfl, hv, hb⟩
                        refine ⟨_, rfl, ?_⟩
                        have HV := Lib.hid hv
                        have HD6 := Lib.hid (HD5.out.next hb)
                        have HQ6 := Lib.hid (HQ5.out.below hb)
                        clear hv hb
                        refine hK.out _ _ ⟨(HC.out _ HD6.out.below).2.1, (HC.out _ HD6.out.below).2.2.1⟩ (fun hHeld => ?_)
                        clear hK K
                        refine norm_ (a' := ?_) ?_ ?_
                        rotate_left
                        · show Act.put _ (some 105) _ = _
                          simp only [Act.put, List.setIfInBounds_toArray, List.set_cons_zero, List.set_cons_succ, i64_w, i32_w]
                          rfl
                        refine one_ (i := 12) (N := some 106) #[true, true, true, true, true, true, true, true, true, true, true, true, true] rfl rfl (by kernel_rfl) (by decide) (fun K hK => ?_)
                        refine goes_ Try.func12 (by kernel_rfl) rfl #[.pointer (some ⟨p, 0, none⟩), .int .i64 no, v6] (by rfl) rfl rfl (by simp only [List.map_toArray, List.map_cons, List.map_nil]; rfl) ?_
                        with_reducible refine (HD6.out.write no HV.out (by rw [fpage_len]; decide) (fpage_isB HBY.out.1 HBY.out.2) (by have := HS.out.1; omega)).mono ?_
                        rintro e w7 ⟨rfl, vW7, hd, ht⟩
                        refine ⟨_, rfl, ?_⟩
                        have HD7 := Lib.hid hd
                        have HQ7 := Lib.hid (HQ6.out.turn HD6.out.d ht HN.out)
                        clear hd ht
                        refine hK.out _ _ ⟨(HC.out _ HD7.out.below).2.1, (HC.out _ HD7.out.below).2.2.1⟩ (fun hHeld => ?_)
                        clear hK K
                        refine norm_ (a' := ?_) ?_ ?_
                        rotate_left
                        · show Act.put _ (some 106) _ = _
                          simp only [Act.put, List.setIfInBounds_toArray, List.set_cons_zero, List.set_cons_succ, i64_w, i32_w]
                          rfl
                        refine done_ (by kernel_rfl) ?_
                        go_wp2
                        go_roundw
                        case rel => exact ⟨k + 1, vW7, _, by omega, by omega, by go_num, Lib.hid ⟨by have h1 := HPS.out.2; have h2 := HS.out.1; omega, HPS.out.1⟩, HD7, HQ7⟩
                        case measure => simp [intOf]; omega
                      · have hbe : ((rd_T31 l1 k).f0 == 0) = false := beq_eq_false_iff_ne.2 hz
                        clear hz
                        go_wp2
                        go_roundw
                        case rel => exact ⟨k + 1, vW, s, by omega, by omega, by go_num, Lib.hid ⟨by have h2 := HS.out.1; omega, HS.out.2⟩, HD, HQ⟩
                        case measure => simp [intOf]; omega
                    | false =>
                      clear hqq d1 d2 d3 d4
                      have hcr := HD.out.crash none 0 [] (Nat.zero_le _) ⟨rfl, by simp, fun h => absurd h (by decide)⟩ (fun ad h => by cases h) 0 (by have := HS.out.1; omega)
                      have hcs : crash s [] 0 = ⟨S1, [], 0, false⟩ := by
                        have h1 := HS.out.2.1
                        cases s with
                        | mk S Wt L dn =>
                          rw [crash_nil]
                          have h2 : S = S1 := h1
                          rw [h2]
                      rw [hcs] at hcr
                      have HCR := Lib.hid hcr
                      have HQN := Lib.hid (fun (w' : World) (ht : Turn (DO p gm vS vW) wr w') => HQ.out.turn HD.out.d ht HN.out)
                      clear hcr hcs HD HQ HS
                      go_wp2_with fail
                      refine HCR.out.mono ?_
                      rintro e wU ⟨rfl, hd, ht⟩
                      have HQU := Lib.hid (HQN.out wU ht)
                      have HDU := Lib.hid hd
                      clear hd ht HCR HQN
                      go_wp2
                      go_loopw [12] (fun i wr => ∃ j : Nat, j ≤ 12 ∧ i = .int .i64 j ∧ Hid (LD W wr p gm vS nilS ⟨S1, [], 0, false⟩) ∧ Hid (Kept wr N0 (.slice Aq 12 cq) Ql)) (fun i _ => 12 - (intOf i).toNat)
                      case atStart => exact ⟨0, Nat.zero_le _, rfl, HDU, HQU⟩
                      case round =>
                        clear HDU HQU
                        obtain ⟨j, hj, rfl, HD, HQ⟩ := hrel
                        by_cases hlt : j < 12
                        · have d : decide ((j : Int) < 12) = true := decide_eq_true (by omega)
                          have hwr : wrap64 ((j : Int) + 1) = ((j + 1 : Nat) : Int) := by unfold wrap64; omega
                          have hin : inside ⟨S1, [], 0, false⟩ (j : Int) := ⟨by omega, by show (j : Int) < (S1.length : Int); have := HSN.out; omega⟩
                          have hr1 : readP ⟨S1, [], 0, false⟩ (j : Int) = S1.getD j [] := by unfold readP; rw [if_pos hin]; rfl
                          have hr2 : readC ⟨S1, [], 0, false⟩ (j : Int) = 0 := by unfold readC; rw [if_pos hin]
                          have hr3 : safeP ⟨S1, [], 0, false⟩ (j : Int) = S1.getD j [] := by unfold safeP; rw [if_pos (show 0 ≤ (j : Int) ∧ (j : Int) < (S1.length : Int) from hin)]; rfl
                          have hrd := read_calls HD.out.d (j : Int)
                          rw [hr1, hr2] at hrd
                          have hpl : (S1.getD j []).length = 1024 := by
                            obtain ⟨_, _, _, _, _, hp⟩ := HD.out.d.page j (show j < S1.length by have := HSN.out; omega)
                            exact hp.1
                          have HRD := Lib.hid hrd
                          have HR3 := Lib.hid hr3
                          have HPL := Lib.hid hpl
                          clear hin hr1 hr2 hr3 hrd hpl
                          go_wp2_with fail
                          refine HRD.out.mono ?_
                          rintro e w8 ⟨v8, rfl, hm, hb⟩
                          have HRW := Lib.hid (Rw.of_R hm)
                          have HQ8 := Lib.hid (HQ.out.below hb)
                          have HD8 := Lib.hid (HD.out.next hb)
                          clear hm hb HRD HQ HD
                          go_wp2
                          have hdd := HD8.out.next (Below.refl _ _).drew
                          have hqd := HQ8.out.below (Below.refl _ _).drew
                          have hwd := HRW.out.below (Below.refl _ _).drew
                          obtain ⟨gq, cq', hvq, hcellq⟩ := Kept.at_ hqd (j := j) (by have := HQL.out; omega)
                          obtain ⟨vj, hcj, hrj⟩ := hcellq
                          have hej : (Ql.map Prod.snd)[j]? = some (seenP sA (j : Int)) := by rw [HE.out, List.getElem?_map, List.getElem?_range (by omega)]; rfl
                          have hpj : (Ql.getD j (nilS, [])).2 = S1.getD j [] := by
                            rw [List.getElem?_map] at hej
                            rw [List.getD_eq_getElem?_getD, HPG.out j hlt]
                            cases hq : Ql[j]? with
                            | none => rw [hq] at hej; cases hej
                            | some x => rw [hq] at hej; injection hej
                          rw [hpj] at hrj
                          rw [HQL.out] at hvq
                          injection hvq with hAq _ _
                          subst hAq
                          clear hej hpj HRW HQ8 HD8
                          have hq0 : (0 : Int) ≤ (j : Int) := by omega
                          have hq1 : (j : Int) < 12 := by omega
                          refine start_ (n := 22) (S := fun w' => w'.cell? ⟨gq, j, none⟩ = some vj) (ds := []) #[false, false, false, false, false, false, false, false, false, false, false, false, false, false, false, false, false, false, false, false, false, false] (by kernel_rfl) rfl rfl (hcj) (fun hHeld => ?_)
                          generalize w8.drew = w5 at hdd hqd hwd hcj hrj hHeld ⊢
                          have HD5 := Lib.hid hdd
                          have HQ5 := Lib.hid hqd
                          have HW5 := Lib.hid hwd
                          have HJ5 := Lib.hid hcj
                          have HR5 := Lib.hid hrj
                          clear hdd hqd hwd hcj hrj
                          refine pure_ (i := 0) (N := some 119) (v := ?_) (a' := ?_) #[true, false, false, false, false, false, false, false, false, false, false, false, false, false, false, false, false, false, false, false, false, false] rfl rfl (by kernel_rfl) (fun _ _ _ h => h) (Or.inl ⟨by rfl, ?_⟩) ?_ ?_
                          rotate_left
                          · intro w'
                            go_simp
                            with_reducible rfl
                          rotate_left
                          · simp only [Act.put, List.setIfInBounds_toArray, List.set_cons_zero, List.set_cons_succ, i64_w, i32_w]
                            rfl
                          refine pure_ (i := 1) (N := some 120) (v := ?_) (a' := ?_) #[true, true, false, false, false, false, false, false, false, false, false, false, false, false, false, false, false, false, false, false, false, false] rfl rfl (by kernel_rfl) (fun _ _ _ h => h) (Or.inl ⟨by rfl, ?_⟩) ?_ ?_
                          rotate_left
                          · intro w'
                            go_simp
                            with_reducible rfl
                          rotate_left
                          · simp only [Act.put, List.setIfInBounds_toArray, List.set_cons_zero, List.set_cons_succ, i64_w, i32_w]
                            rfl
                          refine pure_ (i := 2) (N := some 121) (v := ?_) (a' := ?_) #[true, true, true, false, false, false, false, false, false, false, false, false, false, false, false, false, false, false, false, false, false, false] rfl rfl (by kernel_rfl) (fun _ _ _ h => h) (Or.inl ⟨by rfl, ?_⟩) ?_ ?_
                          rotate_left
                          · intro w'
                            go_simp
                            with_reducible rfl
                          rotate_left
                          · simp only [Act.put, List.setIfInBounds_toArray, List.set_cons_zero, List.set_cons_succ, i64_w, i32_w]
                            rfl
                          refine pure_ (i := 3) (N := some 122) (v := ?_) (a' := ?_) #[true, true, true, true, false, false, false, false, false, false, false, false, false, false, false, false, false, false, false, false, false, false] rfl rfl (by kernel_rfl) (fun _ _ _ h => h) (Or.inl ⟨by rfl, ?_⟩) ?_ ?_
                          rotate_left
                          · intro w'
                            go_simp
                            with_reducible rfl
                          rotate_left
                          · simp only [Act.put, List.setIfInBounds_toArray, List.set_cons_zero, List.set_cons_succ, i64_w, i32_w]
                            rfl
                          refine pure_ (i := 4) (N := some 123) (v := ?_) (a' := ?_) #[true, true, true, true, true, false, false, false, false, false, false, false, false, false, false, false, false, false, false, false, false, false] rfl rfl (by kernel_rfl) (fun _ _ _ h => h) (Or.inl ⟨by rfl, ?_⟩) ?_ ?_
                          rotate_left
                          · intro w'
                            go_simp
                            with_reducible rfl
                          rotate_left
                          · simp only [Act.put, List.setIfInBounds_toArray, List.set_cons_zero, List.set_cons_succ, i64_w, i32_w]
                            rfl
                          refine pure_ (i := 5) (N := some 124) (v := ?_) (a' := ?_) #[true, true, true, true, true, true, false, false, false, false, false, false, false, false, false, false, false, false, false, false, false, false] rfl rfl (by kernel_rfl) (fun _ _ _ h => h) (Or.inl ⟨by rfl, ?_⟩) ?_ ?_
                          rotate_left
                          · intro w'
                            go_simp
                            with_reducible rfl
                          rotate_left
                          · simp only [Act.put, List.setIfInBounds_toArray, List.set_cons_zero, List.set_cons_succ, i64_w, i32_w]
                            rfl
                          refine pure_ (i := 6) (N := some 125) (v := ?_) (a' := ?_) #[true, true, true, true, true, true, true, false, false, false, false, false, false, false, false, false, false, false, false, false, false, false] rfl rfl (by kernel_rfl) (fun _ _ _ h => h) (Or.inl ⟨by rfl, ?_⟩) ?_ ?_
                          rotate_left
                          · intro w'
                            go_simp
                            with_reducible rfl
                          rotate_left
                          · simp only [Act.put, List.setIfInBounds_toArray, List.set_cons_zero, List.set_cons_succ, i64_w, i32_w]
                            rfl
                          refine take_ (i := 7) (N := some 126) (v := ?_) (a' := ?_) #[true, true, true, true, true, true, true, true, false, false, false, false, false, false, false, false, false, false, false, false, false, false] rfl rfl (by kernel_rfl) (fun _ _ _ h => h) (Or.inl ⟨by rfl, ?_⟩) hHeld ?_ ?_
                          rotate_left
                          · intro w' s0
                            go_simp
                            with_reducible rfl
                          rotate_left
                          · simp only [Act.put, List.setIfInBounds_toArray, List.set_cons_zero, List.set_cons_succ, i64_w, i32_w]
                            rfl
                          refine one_ (i := 8) (N := some 127) #[true, true, true, true, true, true, true, true, true, false, false, false, false, false, false, false, false, false, false, false, false, false] rfl rfl (by kernel_rfl) (by decide) (fun K hK => ?_)
                          refine goes_ Try.func17 (by kernel_rfl) rfl #[v8, vj] (by rfl) rfl rfl (by simp only [List.map_toArray, List.map_cons, List.map_nil]; rfl) ?_
                          with_reducible refine (same_rw HW5.out HR5.out (by rw [HPL.out]; decide) w5 (Below.refl _ _)).mono ?_
                          rintro e w6 ⟨rfl, hb⟩
                          refine ⟨_, rfl, ?_⟩
                          rw [decide_eq_true (rfl : S1.getD j [] = S1.getD j [])]
                          have HD6 := Lib.hid (HD5.out.next hb)
                          have HQ6 := Lib.hid (HQ5.out.below hb)
                          have HJ6 := Lib.hid ((hb.cell (World.block_lt_of_cell? w5 _ HJ5.out)).trans HJ5.out)
                          have HR6 := Lib.hid (HR5.out.below hb)
                          clear hb
                          refine hK.out _ _ (HJ6.out) (fun hHeld => ?_)
                          clear hK K
                          refine norm_ (a' := ?_) ?_ ?_
                          rotate_left
                          · show Act.put _ (some 127) _ = _
                            simp only [Act.put, List.setIfInBounds_toArray, List.set_cons_zero, List.set_cons_succ, i64_w, i32_w]
                            rfl
                          refine pure_ (i := 9) (N := some 128) (v := ?_) (a' := ?_) #[true, true, true, true, true, true, true, true, true, true, false, false, false, false, false, false, false, false, false, false, false, false] rfl rfl (by kernel_rfl) (fun _ _ _ h => h) (Or.inl ⟨by rfl, ?_⟩) ?_ ?_
                          rotate_left
                          · intro w'
                            go_simp
                            with_reducible rfl
                          rotate_left
                          · simp only [Act.put, List.setIfInBounds_toArray, List.set_cons_zero, List.set_cons_succ, i64_w, i32_w]
                            rfl
                          refine pure_ (i := 10) (N := some 129) (v := ?_) (a' := ?_) #[true, true, true, true, true, true, true, true, true, true, true, false, false, false, false, false, false, false, false, false, false, false] rfl rfl (by kernel_rfl) (fun _ _ _ h => h) (Or.inl ⟨by rfl, ?_⟩) ?_ ?_
                          rotate_left
                          · intro w'
                            go_simp
                            with_reducible rfl
                          rotate_left
                          · simp only [Act.put, List.setIfInBounds_toArray, List.set_cons_zero, List.set_cons_succ, i64_w, i32_w]
                            rfl
                          refine pure_ (i := 11) (N := some 130) (v := ?_) (a' := ?_) #[true, true, true, true, true, true, true, true, true, true, true, true, false, false, false, false, false, false, false, false, false, false] rfl rfl (by kernel_rfl) (fun _ _ _ h => h) (Or.inl ⟨by rfl, ?_⟩) ?_ ?_
                          rotate_left
                          · intro w'
                            go_simp
                            with_reducible rfl
                          rotate_left
                          · simp only [Act.put, List.setIfInBounds_toArray, List.set_cons_zero, List.set_cons_succ, i64_w, i32_w]
                            rfl
                          refine pure_ (i := 12) (N := some 131) (v := ?_) (a' := ?_) #[true, true, true, true, true, true, true, true, true, true, true, true, true, false, false, false, false, false, false, false, false, false] rfl rfl (by kernel_rfl) (fun _ _ _ h => h) (Or.inl ⟨by rfl, ?_⟩) ?_ ?_
                          rotate_left
                          · intro w'
                            go_simp
                            with_reducible rfl
                          rotate_left
                          · simp only [Act.put, List.setIfInBounds_toArray, List.set_cons_zero, List.set_cons_succ, i64_w, i32_w]
                            rfl
                          refine pure_ (i := 13) (N := some 132) (v := ?_) (a' := ?_) #[true, true, true, true, true, true, true, true, true, true, true, true, true, true, false, false, false, false, false, false, false, false] rfl rfl (by kernel_rfl) (fun _ _ _ h => h) (Or.inl ⟨by rfl, ?_⟩) ?_ ?_
                          rotate_left
                          · intro w'
                            go_simp
                            with_reducible rfl
                          rotate_left
                          · simp only [Act.put, List.setIfInBounds_toArray, List.set_cons_zero, List.set_cons_succ, i64_w, i32_w]
                            rfl
                          refine pure_ (i := 15) (N := some 134) (v := ?_) (a' := ?_) #[true, true, true, true, true, true, true, true, true, true, true, true, true, true, false, true, false, false, false, false, false, false] rfl rfl (by kernel_rfl) (fun _ _ _ h => h) (Or.inl ⟨by rfl, ?_⟩) ?_ ?_
                          rotate_left
                          · intro w'
                            go_simp
                            with_reducible rfl
                          rotate_left
                          · simp only [Act.put, List.setIfInBounds_toArray, List.set_cons_zero, List.set_cons_succ, i64_w, i32_w]
                            rfl
                          refine pure_ (i := 16) (N := some 135) (v := ?_) (a' := ?_) #[true, true, true, true, true, true, true, true, true, true, true, true, true, true, false, true, true, false, false, false, false, false] rfl rfl (by kernel_rfl) (fun _ _ _ h => h) (Or.inl ⟨by rfl, ?_⟩) ?_ ?_
                          rotate_left
                          · intro w'
                            go_simp
                            with_reducible rfl
                          rotate_left
                          · simp only [Act.put, List.setIfInBounds_toArray, List.set_cons_zero, List.set_cons_succ, i64_w, i32_w]
                            rfl
                          refine pure_ (i := 17) (N := some 136) (v := ?_) (a' := ?_) #[true, true, true, true, true, true, true, true, true, true, true, true, true, true, false, true, true, true, false, false, false, false] rfl rfl (by kernel_rfl) (fun _ _ _ h => h) (Or.inl ⟨by rfl, ?_⟩) ?_ ?_
                          rotate_left
                          · intro w'
                            go_simp
                            with_reducible rfl
                          rotate_left
                          · simp only [Act.put, List.setIfInBounds_toArray, List.set_cons_zero, List.set_cons_succ, i64_w, i32_w]
                            rfl
                          refine take_ (i := 18) (N := some 137) (v := ?_) (a' := ?_) #[true, true, true, true, true, true, true, true, true, true, true, true, true, true, false, true, true, true, true, false, false, false] rfl rfl (by kernel_rfl) (fun _ _ _ h => h) (Or.inl ⟨by rfl, ?_⟩) hHeld ?_ ?_
                          rotate_left
                          · intro w' s0
                            go_simp
                            with_reducible rfl
                          rotate_left
                          · simp only [Act.put, List.setIfInBounds_toArray, List.set_cons_zero, List.set_cons_succ, i64_w, i32_w]
                            rfl
                          refine one_ (i := 14) (N := some 133) #[true, true, true, true, true, true, true, true, true, true, true, true, true, true, true, true, true, true, true, false, false, false] rfl rfl (by kernel_rfl) (by decide) (fun K hK => ?_)
                          refine goes_ Try.func18 (by kernel_rfl) rfl #[.pointer (some ⟨p, 0, none⟩), .int .i64 (j : Int)] (by rfl) rfl rfl (by simp only [List.map_toArray, List.map_cons, List.map_nil]; rfl) ?_
                          with_reducible refine (safe_calls HD6.out.d (j : Int)).mono ?_
                          rintro e w7 ⟨v7, rfl, hm, hb⟩
                          refine ⟨_, rfl, ?_⟩
                          have hm2 := Rw.of_R hm
                          rw [HR3.out] at hm2
                          have HW7 := Lib.hid hm2
                          have HD7 := Lib.hid (HD6.out.next hb)
                          have HQ7 := Lib.hid (HQ6.out.below hb)
                          have HJ7 := Lib.hid ((hb.cell (World.block_lt_of_cell? w6 _ HJ6.out)).trans HJ6.out)
                          have HR7 := Lib.hid (HR6.out.below hb)
                          clear hm hm2 hb
                          refine hK.out _ _ (HJ7.out) (fun hHeld => ?_)
                          clear hK K
                          refine norm_ (a' := ?_) ?_ ?_
                          rotate_left
                          · show Act.put _ (some 133) _ = _
                            simp only [Act.put, List.setIfInBounds_toArray, List.set_cons_zero, List.set_cons_succ, i64_w, i32_w]
                            rfl
                          refine one_ (i := 19) (N := some 138) #[true, true, true, true, true, true, true, true, true, true, true, true, true, true, true, true, true, true, true, true, false, false] rfl rfl (by kernel_rfl) (by decide) (fun K hK => ?_)
                          refine goes_ Try.func17 (by kernel_rfl) rfl #[v7, vj] (by rfl) rfl rfl (by simp only [List.map_toArray, List.map_cons, List.map_nil]; rfl) ?_
                          with_reducible refine (same_rw HW7.out HR7.out (by rw [HPL.out]; decide) w7 (Below.refl _ _)).mono ?_
                          rintro e w9 ⟨rfl, hb⟩
                          refine ⟨_, rfl, ?_⟩
                          rw [decide_eq_true (rfl : S1.getD j [] = S1.getD j [])]
                          have HD9 := Lib.hid (HD7.out.next hb)
                          have HQ9 := Lib.hid (HQ7.out.below hb)
                          have HJ9 := Lib.hid ((hb.cell (World.block_lt_of_cell? w7 _ HJ7.out)).trans HJ7.out)
                          clear hb
                          refine hK.out _ _ (HJ9.out) (fun hHeld => ?_)
                          clear hK K
                          refine norm_ (a' := ?_) ?_ ?_
                          rotate_left
                          · show Act.put _ (some 138) _ = _
                            simp only [Act.put, List.setIfInBounds_toArray, List.set_cons_zero, List.set_cons_succ, i64_w, i32_w]
                            rfl
                          refine pure_ (i := 20) (N := some 139) (v := ?_) (a' := ?_) #[true, true, true, true, true, true, true, true, true, true, true, true, true, true, true, true, true, true, true, true, true, false] rfl rfl (by kernel_rfl) (fun _ _ _ h => h) (Or.inl ⟨by rfl, ?_⟩) ?_ ?_
                          rotate_left
                          · intro w'
                            go_simp
                            with_reducible rfl
                          rotate_left
                          · simp only [Act.put, List.setIfInBounds_toArray, List.set_cons_zero, List.set_cons_succ, i64_w, i32_w]
                            rfl
                          refine pure_ (i := 21) (N := some 140) (v := ?_) (a' := ?_) #[true, true, true, true, true, true, true, true, true, true, true, true, true, true, true, true, true, true, true, true, true, true] rfl rfl (by kernel_rfl) (fun _ _ _ h => h) (Or.inl ⟨by rfl, ?_⟩) ?_ ?_
                          rotate_left
                          · intro w'
                            go_simp
                            with_reducible rfl
                          rotate_left
                          · simp only [Act.put, List.setIfInBounds_toArray, List.set_cons_zero, List.set_cons_succ, i64_w, i32_w]
                            rfl
                          refine done_ (by kernel_rfl) ?_
                          go_wp2
                          go_roundw
                          case rel => exact ⟨j + 1, by omega, by go_num, HD9, HQ9⟩
                          case measure => simp [intOf]; omega
                        · have hj12 : j = 12 := by omega
                          subst hj12
                          have d : decide (((12 : Nat) : Int) < 12) = false := rfl
                          go_wp2
                          go_ret
                          exact ⟨rfl, HD.out.below⟩
end Go.Proofs.Ytblacdnndchghaa.Walk
