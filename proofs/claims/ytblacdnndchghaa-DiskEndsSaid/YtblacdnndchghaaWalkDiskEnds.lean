/- The walk of DiskEnds, at any two numbers. -/
import Derived.Test.YtblacdnndchghaaDiskLaw1
import Derived.Test.YtblacdnndchghaaReads
import Derived.Test.YtblacdnndchghaaPAllx1
import Derived.Test.YtblacdnndchghaaSame
namespace Go.Proofs.Ytblacdnndchghaa.Walk
open Go.RowKit Go.Proofs.YtblacdnndchghaaW.PrintWords Go.Proofs.YtblacdnndchghaaW.PrintLast Go.Proofs.YtblacdnndchghaaW.PrintMore Go.Proofs.Ytblacdnndchghaa.Math Go.Proofs.Ytblacdnndchghaa.PAll Go.Proofs.Ytblacdnndchghaa.D
set_option linter.unusedVariables false
set_option linter.unusedSimpArgs false

/-- Two rows that are the same, or not. -/
theorem same_rw {w : World} {v u : Value} {a b : List Int} (hv : Rw w v a) (hu : Rw w u b) (ha : a.length ≤ 100000) : ∀ w1, Below w.heap.size w w1 → Calls Try.prog 17 #[v, u] w1 fun e w' => e = .returned (.bool (decide (a = b))) ∧ Below w1.heap.size w1 w' := by
  intro w1 hb
  obtain ⟨A, c, rfl, hc, hC⟩ := hv.reads
  obtain ⟨A', c', rfl, hc', hC'⟩ := hu.reads
  refine (cambiumref01_Same.calls 200000 A c a A' c' b _ w1 (Kd.C_below hC hb) hc (Kd.C_below hC' hb) hc' (Same.same_eq 200000 a b (by omega) (by omega))).mono ?_
  rintro e w' ⟨e1, e2⟩
  exact ⟨e1, e2.below⟩
theorem write_step {m : Nat} {Wt : List (Int × List Int)} {L no : Int} {b : List Int} (h0 : 0 ≤ no) (h1 : no < m) (hb : b.length = 1024) (hL : 2 ≤ L) : write ⟨(fresh m).S, Wt, L, false⟩ no b = (0, ⟨(fresh m).S, Wt ++ [(no, b)], L - 1, false⟩) := by
  unfold write
  rw [if_neg (by rintro (h | h); exact h ⟨h0, by show no < ((List.replicate m zpage).length : Int); rw [List.length_replicate]; exact h1⟩; exact h hb), if_neg (by simp)]
  unfold goes wr
  have h2 : L ≠ 0 := by omega
  have h3 : ¬ (L - 1 = 0) := by omega
  simp [h2, h3]
theorem fresh_len (m : Nat) : (fresh m).S.length = m := by show (List.replicate m zpage).length = m; rw [List.length_replicate]
theorem sync_go (S : List (List Int)) (Wt : List (Int × List Int)) : sync ⟨S, Wt, 1, false⟩ = (3, ⟨S, Wt, 0, true⟩) := by
  unfold sync goes
  rfl
theorem sync_down (S : List (List Int)) (Wt : List (Int × List Int)) : sync ⟨S, Wt, 0, true⟩ = (3, ⟨S, Wt, 0, true⟩) := rfl
theorem sync_none (S : List (List Int)) : sync ⟨S, [], 0, false⟩ = (0, ⟨S, [], 0, false⟩) := rfl
theorem crash_nil (S : List (List Int)) (Wt : List (Int × List Int)) (L tn : Int) (dn : Bool) : crash ⟨S, Wt, L, dn⟩ [] tn = ⟨S, [], 0, false⟩ := by
  unfold crash
  have : ∀ n, crashN [] tn Wt S n = S := by
    intro n
    induction n with
    | zero => rfl
    | succ n ih =>
      show cstep [] tn Wt (crashN [] tn Wt S n) n = S
      unfold cstep
      rw [ih]
      split
      · rfl
      · rfl
  rw [this]
set_option maxHeartbeats 8000000 in
set_option maxRecDepth 20000 in
theorem DiskEnds (W : World) (pages : Int) (hpw : (Lit.int .i64 pages).wf = true) (n : Int) (hnw : (Lit.int .u8 n).wf = true) :
    Calls Try.prog 5 #[.int .i64 pages, .int .u8 n] W fun e w' => e = .returned (.bool true) ∧ Below W.heap.size W w' := by
  have hn0 : 0 ≤ n ∧ n < 256 := by
    have h0 : IntKind.u8.min ≤ n ∧ n ≤ IntKind.u8.max := by simpa [Lit.wf] using hnw
    have h1 : (0 : Int) ≤ n ∧ n ≤ 255 := h0
    omega
  obtain ⟨nn, rfl⟩ := Int.eq_ofNat_of_zero_le hn0.1
  clear hpw hnw
  go_enter Try.func5, Try.ntmps5
  go_wp2_with fail
  refine (awake_calls W).mono ?_
  rintro e w1 ⟨rfl, hb⟩
  have HB1 := Lib.hid hb
  clear hb
  by_cases hg : pages > 300 ∧ pages < 2000
  · have d0 : decide (pages > 300) = true := decide_eq_true hg.1
    have d1 : decide (pages < 2000) = true := decide_eq_true hg.2
    clear hg
    go_wp2
    go_ret
    exact ⟨rfl, HB1.out⟩
  · have HNW := Lib.hid (LD.new_ W w1 HB1.out pages)
    have hcut0 : ∃ q0 q1 : Bool, decide (pages > 300) = q0 ∧ decide (pages < 2000) = q1 ∧ (q0 && q1) = false := ⟨_, _, rfl, rfl, by by_cases h : pages > 300 <;> simp [h]; omega⟩
    obtain ⟨q0, q1, d0, d1, d2⟩ := hcut0
    go_upto_region 3 with fail
    go_cut [16] (fun v16 wc => v16 = .bool false ∧ w1 = wc)
    case first =>
      cases q0 with
      | false => go_wp2; go_meet; case rel => exact ⟨rfl, rfl⟩
      | true =>
        have hq1 : q1 = false := by simpa using d2
        subst hq1
        go_wp2; go_meet; case rel => exact ⟨rfl, rfl⟩
    case rest =>
      obtain ⟨rfl, rfl⟩ := hcut
      clear hg d0 d1 d2
      go_wp2_with fail
      refine HNW.out.mono ?_
      rintro e w2 ⟨p, rfl, gm, vS, hd⟩
      have HD := Lib.hid hd
      clear hd HNW HB1
      go_upto_region 6 with fail
      go_cut [6] (fun v6 wc => v6 = .int .i64 (npages pages) ∧ w2 = wc)
      case first =>
        go_wp2
        all_goals
          go_meet
          case rel => exact ⟨by congr 1; unfold npages; omega, rfl⟩
      case rest =>
        obtain ⟨rfl, rfl⟩ := hcut
        have hm := npages_le pages
        generalize npages pages = m at HD hm ⊢
        have HP := Lib.hid (pages_calls HD.out.d)
        rw [fresh_len] at HP
        go_wp2_with fail
        refine HP.out.mono ?_
        rintro e w3 ⟨rfl, rfl⟩
        have dd : ((m : Int) != (m : Int)) = false := bne_self_eq_false _
        rcases Nat.eq_zero_or_pos m with h0 | h0
        · subst h0
          have dz : (((0 : Nat) : Int) == 0) = true := rfl
          go_wp2_with fail
          refine (filled_calls 0 w2).mono ?_
          rintro e w4 ⟨v4, rfl, hv, hb⟩
          have HV := Lib.hid hv
          have HD4 := Lib.hid (HD.out.next hb)
          clear hv hb HD HP
          have hwz : write (fresh 0) 0 (fpage 0) = (1, fresh 0) := by unfold write; rw [if_pos (.inl (by unfold inside; decide))]
          go_wp2_with fail
          refine (HD4.out.write 0 HV.out (by rw [fpage_len]; decide) (fpage_isB (by decide) (by decide)) (by decide)).mono ?_
          rintro e w5 ⟨rfl, vW, hd, ht⟩
          rw [hwz] at hd ⊢
          have HD5 := Lib.hid hd
          clear hd ht hwz HV HD4
          have hs0 : sync (fresh 0) = (0, fresh 0) := rfl
          go_wp2_with fail
          refine HD5.out.sync.mono ?_
          rintro e w6 ⟨rfl, vW6, hd, ht⟩
          rw [hs0]
          have HB6 := Lib.hid hd.below
          clear hd ht HD5 hs0
          go_wp2
          go_ret
          exact ⟨rfl, HB6.out⟩
        · have dz : ((m : Int) == 0) = false := beq_eq_false_iff_ne.2 (by omega)
          go_upto_region 11 with fail
          go_cut [7] (fun v7 wc => v7 = .int .i64 ((1 + nn % 40 : Nat) : Int) ∧ w2 = wc)
          case first =>
            go_wp2
            go_meet
            case rel => exact ⟨by congr 1, rfl⟩
          case rest =>
            obtain ⟨rfl, rfl⟩ := hcut
            have hkk : 1 + nn % 40 ≤ 40 := by omega
            have hk1 : 1 ≤ 1 + nn % 40 := by omega
            generalize 1 + nn % 40 = kk at hkk hk1 ⊢
            go_wp2_with fail
            refine (HD.out.arm kk (by omega)).mono ?_
            rintro e w3 ⟨rfl, hd, ht⟩
            have ha : arm (fresh m) kk = ⟨(fresh m).S, [], (kk : Int), false⟩ := by unfold arm; rw [show max (kk : Int) 0 = kk by omega]; rfl
            rw [ha] at hd
            have HD3 := Lib.hid hd
            clear hd ht ha HP HD
            go_wp2
            go_loopw [8] (fun i wr => ∃ (j : Nat) (vW : Value) (Wt : List (Int × List Int)), 1 ≤ j ∧ j ≤ kk ∧ i = .int .i64 j ∧ Wt.length = j - 1 ∧ Hid (LD W wr p gm vS vW ⟨(fresh m).S, Wt, (kk : Int) - j + 1, false⟩)) (fun i _ => kk - (intOf i).toNat)
            case atStart => exact ⟨1, nilS, [], Nat.le_refl _, hk1, rfl, rfl, Lib.hid (by have := HD3.out; rw [show (kk : Int) - ((1 : Nat) : Int) + 1 = kk by omega]; exact this)⟩
            case round =>
              clear HD3
              obtain ⟨j, vW, Wt, hj1, hjk, rfl, hwl, HD⟩ := hrel
              by_cases hlt : j < kk
              · have d : decide ((j : Int) < (kk : Int)) = true := decide_eq_true (by omega)
                have hwr : wrap64 ((j : Int) + 1) = ((j + 1 : Nat) : Int) := by unfold wrap64; omega
                have hmz : ((m : Int) == 0) = false := dz
                have hm0 : ¬ (m = 0) := by omega
                have hmod : (j : Int).tmod (m : Int) = (j : Int) % (m : Int) := Int.tmod_eq_emod_of_nonneg (by omega)
                have hj0 : 0 ≤ (j : Int).tmod (m : Int) := by rw [hmod]; exact Int.emod_nonneg _ (by omega)
                have hj2 : (j : Int).tmod (m : Int) < m := by rw [hmod]; exact Int.emod_lt_of_pos _ (by omega)
                clear hmod
                have hst := write_step (m := m) (Wt := Wt) (L := (kk : Int) - j + 1) (b := fpage 1) hj0 hj2 (fpage_len 1) (by omega)
                have HST := Lib.hid hst
                have HJ := Lib.hid (show 0 ≤ (j : Int).tmod (m : Int) ∧ (j : Int).tmod (m : Int) < m from ⟨hj0, hj2⟩)
                clear hst hj0 hj2
                go_wp2
                have hdd := HD.out.next (Below.refl _ _).drew
                refine start_ (n := 11) (S := fun w' => True) (ds := []) #[false, false, false, false, false, false, false, false, false, false, false] (by kernel_rfl) rfl rfl trivial (fun hHeld => ?_)
                generalize wr.drew = w5 at hdd hHeld ⊢
                have HD5 := Lib.hid hdd
                clear hdd
                refine pure_ (i := 0) (N := some 53) (v := ?_) (a' := ?_) #[true, false, false, false, false, false, false, false, false, false, false] rfl rfl (by kernel_rfl) (fun _ _ _ h => h) (Or.inl ⟨by rfl, ?_⟩) ?_ ?_
                rotate_left
                · intro w'
                  go_simp
                  with_reducible rfl
                rotate_left
                · simp only [Act.put, List.setIfInBounds_toArray, List.set_cons_zero, List.set_cons_succ, i64_w, i32_w]
                  rfl
                refine pure_ (i := 1) (N := some 54) (v := ?_) (a' := ?_) #[true, true, false, false, false, false, false, false, false, false, false] rfl rfl (by kernel_rfl) (fun _ _ _ h => h) (Or.inl ⟨by rfl, ?_⟩) ?_ ?_
                rotate_left
                · intro w'
                  go_simp
                  with_reducible rfl
                rotate_left
                · simp only [Act.put, List.setIfInBounds_toArray, List.set_cons_zero, List.set_cons_succ, i64_w, i32_w]
                  rfl
                refine pure_ (i := 2) (N := some 55) (v := ?_) (a' := ?_) #[true, true, true, false, false, false, false, false, false, false, false] rfl rfl (by kernel_rfl) (fun _ _ _ h => h) (Or.inl ⟨by rfl, ?_⟩) ?_ ?_
                rotate_left
                · intro w'
                  go_simp
                  with_reducible rfl
                rotate_left
                · simp only [Act.put, List.setIfInBounds_toArray, List.set_cons_zero, List.set_cons_succ, i64_w, i32_w]
                  rfl
                refine pure_ (i := 3) (N := some 56) (v := ?_) (a' := ?_) #[true, true, true, true, false, false, false, false, false, false, false] rfl rfl (by kernel_rfl) (fun _ _ _ h => h) (Or.inl ⟨by rfl, ?_⟩) ?_ ?_
                rotate_left
                · intro w'
                  go_simp
                  with_reducible rfl
                rotate_left
                · simp only [Act.put, List.setIfInBounds_toArray, List.set_cons_zero, List.set_cons_succ, i64_w, i32_w]
                  rfl
                refine one_ (i := 4) (N := some 57) #[true, true, true, true, true, false, false, false, false, false, false] rfl rfl (by kernel_rfl) (by decide) (fun K hK => ?_)
                refine goes_ Try.func13 (by kernel_rfl) rfl #[.int .u8 1] (by rfl) rfl rfl (by simp only [List.map_toArray, List.map_cons, List.map_nil]; rfl) ?_
                with_reducible refine (filled_calls 1 w5).mono ?_
                rintro e w6 ⟨v6, rfl, hv, hb⟩
                refine ⟨_, rfl, ?_⟩
                have HV := Lib.hid hv
                have HD6 := Lib.hid (HD5.out.next hb)
                clear hv hb
                refine hK.out _ _ trivial (fun hHeld => ?_)
                clear hK K
                refine norm_ (a' := ?_) ?_ ?_
                rotate_left
                · show Act.put _ (some 57) _ = _
                  simp only [Act.put, List.setIfInBounds_toArray, List.set_cons_zero, List.set_cons_succ, i64_w, i32_w]
                  rfl
                refine one_ (i := 5) (N := some 58) #[true, true, true, true, true, true, false, false, false, false, false] rfl rfl (by kernel_rfl) (by decide) (fun K hK => ?_)
                refine goes_ Try.func12 (by kernel_rfl) rfl #[.pointer (some ⟨p, 0, none⟩), .int .i64 ((j : Int).tmod (m : Int)), v6] (by rfl) rfl rfl (by simp only [List.map_toArray, List.map_cons, List.map_nil]; rfl) ?_
                with_reducible refine (HD6.out.write ((j : Int).tmod (m : Int)) HV.out (by rw [fpage_len]; decide) (fpage_isB (by decide) (by decide)) (by show Wt.length ≤ 1000000; omega)).mono ?_
                rintro e w7 ⟨rfl, vW7, hd, ht⟩
                refine ⟨_, rfl, ?_⟩
                rw [HST.out] at hd ⊢
                have HD7 := Lib.hid hd
                clear hd ht
                refine hK.out _ _ trivial (fun hHeld => ?_)
                clear hK K
                refine norm_ (a' := ?_) ?_ ?_
                rotate_left
                · show Act.put _ (some 58) _ = _
                  simp only [Act.put, List.setIfInBounds_toArray, List.set_cons_zero, List.set_cons_succ, i64_w, i32_w]
                  rfl
                refine pure_ (i := 6) (N := some 59) (v := ?_) (a' := ?_) #[true, true, true, true, true, true, true, false, false, false, false] rfl rfl (by kernel_rfl) (fun _ _ _ h => h) (Or.inl ⟨by rfl, ?_⟩) ?_ ?_
                rotate_left
                · intro w'
                  go_simp
                  with_reducible rfl
                rotate_left
                · simp only [Act.put, List.setIfInBounds_toArray, List.set_cons_zero, List.set_cons_succ, i64_w, i32_w]
                  rfl
                refine pure_ (i := 7) (N := some 60) (v := ?_) (a' := ?_) #[true, true, true, true, true, true, true, true, false, false, false] rfl rfl (by kernel_rfl) (fun _ _ _ h => h) (Or.inl ⟨by rfl, ?_⟩) ?_ ?_
                rotate_left
                · intro w'
                  go_simp
                  with_reducible rfl
                rotate_left
                · simp only [Act.put, List.setIfInBounds_toArray, List.set_cons_zero, List.set_cons_succ, i64_w, i32_w]
                  rfl
                refine pure_ (i := 8) (N := some 61) (v := ?_) (a' := ?_) #[true, true, true, true, true, true, true, true, true, false, false] rfl rfl (by kernel_rfl) (fun _ _ _ h => h) (Or.inl ⟨by rfl, ?_⟩) ?_ ?_
                rotate_left
                · intro w'
                  go_simp
                  with_reducible rfl
                rotate_left
                · simp only [Act.put, List.setIfInBounds_toArray, List.set_cons_zero, List.set_cons_succ, i64_w, i32_w]
                  rfl
                refine one_ (i := 9) (N := some 62) #[true, true, true, true, true, true, true, true, true, true, false] rfl rfl (by kernel_rfl) (by decide) (fun K hK => ?_)
                refine goes_ Try.func23 (by kernel_rfl) rfl #[.pointer (some ⟨p, 0, none⟩)] (by rfl) rfl rfl (by simp only [List.map_toArray, List.map_cons, List.map_nil]; rfl) ?_
                with_reducible refine (down_calls HD7.out.d).mono ?_
                rintro e w8 ⟨rfl, rfl⟩
                refine ⟨_, rfl, ?_⟩
                refine hK.out _ _ trivial (fun hHeld => ?_)
                clear hK K
                refine norm_ (a' := ?_) ?_ ?_
                rotate_left
                · show Act.put _ (some 62) _ = _
                  simp only [Act.put, List.setIfInBounds_toArray, List.set_cons_zero, List.set_cons_succ, i64_w, i32_w]
                  rfl
                refine pure_ (i := 10) (N := some 63) (v := ?_) (a' := ?_) #[true, true, true, true, true, true, true, true, true, true, true] rfl rfl (by kernel_rfl) (fun _ _ _ h => h) (Or.inl ⟨by rfl, ?_⟩) ?_ ?_
                rotate_left
                · intro w'
                  go_simp
                  with_reducible rfl
                rotate_left
                · simp only [Act.put, List.setIfInBounds_toArray, List.set_cons_zero, List.set_cons_succ, i64_w, i32_w]
                  rfl
                refine done_ (by kernel_rfl) ?_
                go_wp2
                go_roundw
                case rel => exact ⟨j + 1, vW7, Wt ++ [((j : Int).tmod (m : Int), fpage 1)], by omega, by omega, by go_num, by rw [List.length_append, hwl]; simp; omega, Lib.hid (by have := HD7.out; rw [show (kk : Int) - ((j + 1 : Nat) : Int) + 1 = (kk : Int) - j + 1 - 1 by omega]; exact this)⟩
                case measure => simp [intOf]; omega
              · have hjk2 : j = kk := by omega
                subst hjk2
                have d : decide ((j : Int) < (j : Int)) = false := decide_eq_false (by omega)
                have hdd := HD.out
                rw [show (j : Int) - (j : Int) + 1 = 1 by omega] at hdd
                have HD1 := Lib.hid hdd
                clear HD hdd
                go_wp2_with fail
                refine HD1.out.sync.mono ?_
                rintro e w4 ⟨rfl, vW4, hd, ht⟩
                rw [sync_go] at hd ⊢
                have HD4 := Lib.hid hd
                clear hd ht HD1
                go_wp2_with fail
                refine (down_calls HD4.out.d).mono ?_
                rintro e w5 ⟨rfl, rfl⟩
                go_wp2_with fail
                refine (filled_calls 2 w4).mono ?_
                rintro e w6 ⟨v6, rfl, hv, hb⟩
                have HV := Lib.hid hv
                have HD6 := Lib.hid (HD4.out.next hb)
                clear hv hb HD4
                have hwd : write ⟨(fresh m).S, Wt, 0, true⟩ 0 (fpage 2) = (3, ⟨(fresh m).S, Wt, 0, true⟩) := by
                  unfold write
                  rw [if_neg (by rintro (h | h); exact h ⟨by omega, by show (0 : Int) < ((fresh m).S.length : Int); rw [fresh_len]; omega⟩; exact h (fpage_len 2)), if_pos rfl]
                go_wp2_with fail
                refine (HD6.out.write 0 HV.out (by rw [fpage_len]; decide) (fpage_isB (by decide) (by decide)) (by show Wt.length ≤ 1000000; omega)).mono ?_
                rintro e w7 ⟨rfl, vW7, hd, ht⟩
                rw [hwd] at hd ⊢
                have HD7 := Lib.hid hd
                clear hd ht HV HD6 hwd
                go_wp2_with fail
                refine HD7.out.sync.mono ?_
                rintro e w8 ⟨rfl, vW8, hd, ht⟩
                rw [sync_down] at hd ⊢
                have HD8 := Lib.hid hd
                clear hd ht HD7
                go_wp2_with fail
                refine (waiting_calls HD8.out.d (by show Wt.length ≤ 1000000; omega)).mono ?_
                rintro e w9 ⟨v9, rfl, hr, hb⟩
                obtain ⟨A9, c9, rfl⟩ := Kd.R_slice hr
                have HD9 := Lib.hid (HD8.out.next hb)
                have hl9 : (List.map (fun x : Int × List Int => x.1) Wt).length = j - 1 := by rw [List.length_map]; exact hwl
                clear hr hb HD8
                have hw9 : wrap64 ((j : Int) - 1) = ((j - 1 : Nat) : Int) := by unfold wrap64; omega
                have d9 : (((j - 1 : Nat) : Int) != ((j - 1 : Nat) : Int)) = false := bne_self_eq_false _
                have hv9 : (.slice A9 (List.map (fun x : Int × List Int => x.1) (St.W ⟨(fresh m).S, Wt, 0, true⟩)).length c9 : Value) = .slice A9 (j - 1) c9 := by rw [← hl9]
                rw [hv9]
                clear hv9 hl9
                go_wp2_with fail
                refine (HD9.out.crash none 0 [] (Nat.zero_le _) ⟨rfl, by simp, fun h => absurd h (by decide)⟩ (fun ad h => by cases h) 0 (by show Wt.length ≤ 1000000; omega)).mono ?_
                rintro e w10 ⟨rfl, hd, ht⟩
                rw [crash_nil] at hd
                have HD10 := Lib.hid hd
                clear hd ht HD9
                have hfr : (⟨(fresh m).S, [], 0, false⟩ : St) = fresh m := rfl
                have hw3 : write (fresh m) 0 (fpage 3) = (0, D.wr (fresh m) 0 (fpage 3)) := by
                  unfold write
                  rw [if_neg (by rintro (h | h); exact h ⟨by omega, by show (0 : Int) < ((fresh m).S.length : Int); rw [fresh_len]; omega⟩; exact h (fpage_len 3)), if_neg (by intro h; cases h)]
                  rfl
                have hsp : safeP (D.wr (fresh m) 0 (fpage 3)) (wrap64 ((m : Int) - 1)) = zpage := by
                  have hwm : wrap64 ((m : Int) - 1) = ((m - 1 : Nat) : Int) := by unfold wrap64; omega
                  unfold safeP
                  have hl : (D.wr (fresh m) 0 (fpage 3)).S.length = m := fresh_len m
                  rw [hwm, if_pos (by rw [hl]; omega), Int.toNat_natCast]
                  show (List.replicate m zpage).getD (m - 1) [] = zpage
                  rw [List.getD_eq_getElem?_getD, List.getElem?_replicate, if_pos (by omega)]
                  rfl
                have HW3 := Lib.hid hw3
                have HSP := Lib.hid hsp
                have HD11 := Lib.hid (show LD W w10 p gm vS nilS (fresh m) from HD10.out)
                clear hw3 hsp hfr HD10
                go_wp2
                have hdd := HD11.out.next (Below.refl _ _).drew
                refine start_ (n := 23) (S := fun w' => True) (ds := []) #[false, false, false, false, false, false, false, false, false, false, false, false, false, false, false, false, false, false, false, false, false, false, false] (by kernel_rfl) rfl rfl trivial (fun hHeld => ?_)
                generalize w10.drew = w5 at hdd hHeld ⊢
                have HD5 := Lib.hid hdd
                clear hdd
                refine pure_ (i := 0) (N := some 93) (v := ?_) (a' := ?_) #[true, false, false, false, false, false, false, false, false, false, false, false, false, false, false, false, false, false, false, false, false, false, false] rfl rfl (by kernel_rfl) (fun _ _ _ h => h) (Or.inl ⟨by rfl, ?_⟩) ?_ ?_
                rotate_left
                · intro w'
                  go_simp
                  with_reducible rfl
                rotate_left
                · simp only [Act.put, List.setIfInBounds_toArray, List.set_cons_zero, List.set_cons_succ, i64_w, i32_w]
                  rfl
                refine one_ (i := 1) (N := some 94) #[true, true, false, false, false, false, false, false, false, false, false, false, false, false, false, false, false, false, false, false, false, false, false] rfl rfl (by kernel_rfl) (by decide) (fun K hK => ?_)
                refine goes_ Try.func23 (by kernel_rfl) rfl #[.pointer (some ⟨p, 0, none⟩)] (by rfl) rfl rfl (by simp only [List.map_toArray, List.map_cons, List.map_nil]; rfl) ?_
                with_reducible refine (down_calls HD5.out.d).mono ?_
                rintro e w6 ⟨rfl, rfl⟩
                refine ⟨_, rfl, ?_⟩
                refine hK.out _ _ trivial (fun hHeld => ?_)
                clear hK K
                refine norm_ (a' := ?_) ?_ ?_
                rotate_left
                · show Act.put _ (some 94) _ = _
                  simp only [Act.put, List.setIfInBounds_toArray, List.set_cons_zero, List.set_cons_succ, i64_w, i32_w]
                  rfl
                refine pure_ (i := 2) (N := some 95) (v := ?_) (a' := ?_) #[true, true, true, false, false, false, false, false, false, false, false, false, false, false, false, false, false, false, false, false, false, false, false] rfl rfl (by kernel_rfl) (fun _ _ _ h => h) (Or.inl ⟨by rfl, ?_⟩) ?_ ?_
                rotate_left
                · intro w'
                  go_simp
                  with_reducible rfl
                rotate_left
                · simp only [Act.put, List.setIfInBounds_toArray, List.set_cons_zero, List.set_cons_succ, i64_w, i32_w]
                  rfl
                refine pure_ (i := 3) (N := some 96) (v := ?_) (a' := ?_) #[true, true, true, true, false, false, false, false, false, false, false, false, false, false, false, false, false, false, false, false, false, false, false] rfl rfl (by kernel_rfl) (fun _ _ _ h => h) (Or.inl ⟨by rfl, ?_⟩) ?_ ?_
                rotate_left
                · intro w'
                  go_simp
                  with_reducible rfl
                rotate_left
                · simp only [Act.put, List.setIfInBounds_toArray, List.set_cons_zero, List.set_cons_succ, i64_w, i32_w]
                  rfl
                refine pure_ (i := 4) (N := some 97) (v := ?_) (a' := ?_) #[true, true, true, true, true, false, false, false, false, false, false, false, false, false, false, false, false, false, false, false, false, false, false] rfl rfl (by kernel_rfl) (fun _ _ _ h => h) (Or.inl ⟨by rfl, ?_⟩) ?_ ?_
                rotate_left
                · intro w'
                  go_simp
                  with_reducible rfl
                rotate_left
                · simp only [Act.put, List.setIfInBounds_toArray, List.set_cons_zero, List.set_cons_succ, i64_w, i32_w]
                  rfl
                refine one_ (i := 5) (N := some 98) #[true, true, true, true, true, true, false, false, false, false, false, false, false, false, false, false, false, false, false, false, false, false, false] rfl rfl (by kernel_rfl) (by decide) (fun K hK => ?_)
                refine goes_ Try.func19 (by kernel_rfl) rfl #[.pointer (some ⟨p, 0, none⟩)] (by rfl) rfl rfl (by simp only [List.map_toArray, List.map_cons, List.map_nil]; rfl) ?_
                with_reducible refine (HD5.out.sync).mono ?_
                rintro e w7 ⟨rfl, vW7, hd, ht⟩
                refine ⟨_, rfl, ?_⟩
                rw [show sync (fresh m) = (0, fresh m) from sync_none _] at hd ⊢
                have HD7 := Lib.hid hd
                clear hd ht
                refine hK.out _ _ trivial (fun hHeld => ?_)
                clear hK K
                refine norm_ (a' := ?_) ?_ ?_
                rotate_left
                · show Act.put _ (some 98) _ = _
                  simp only [Act.put, List.setIfInBounds_toArray, List.set_cons_zero, List.set_cons_succ, i64_w, i32_w]
                  rfl
                refine pure_ (i := 6) (N := some 99) (v := ?_) (a' := ?_) #[true, true, true, true, true, true, true, false, false, false, false, false, false, false, false, false, false, false, false, false, false, false, false] rfl rfl (by kernel_rfl) (fun _ _ _ h => h) (Or.inl ⟨by rfl, ?_⟩) ?_ ?_
                rotate_left
                · intro w'
                  go_simp
                  with_reducible rfl
                rotate_left
                · simp only [Act.put, List.setIfInBounds_toArray, List.set_cons_zero, List.set_cons_succ, i64_w, i32_w]
                  rfl
                refine pure_ (i := 7) (N := some 100) (v := ?_) (a' := ?_) #[true, true, true, true, true, true, true, true, false, false, false, false, false, false, false, false, false, false, false, false, false, false, false] rfl rfl (by kernel_rfl) (fun _ _ _ h => h) (Or.inl ⟨by rfl, ?_⟩) ?_ ?_
                rotate_left
                · intro w'
                  go_simp
                  with_reducible rfl
                rotate_left
                · simp only [Act.put, List.setIfInBounds_toArray, List.set_cons_zero, List.set_cons_succ, i64_w, i32_w]
                  rfl
                refine pure_ (i := 8) (N := some 101) (v := ?_) (a' := ?_) #[true, true, true, true, true, true, true, true, true, false, false, false, false, false, false, false, false, false, false, false, false, false, false] rfl rfl (by kernel_rfl) (fun _ _ _ h => h) (Or.inl ⟨by rfl, ?_⟩) ?_ ?_
                rotate_left
                · intro w'
                  go_simp
                  with_reducible rfl
                rotate_left
                · simp only [Act.put, List.setIfInBounds_toArray, List.set_cons_zero, List.set_cons_succ, i64_w, i32_w]
                  rfl
                refine pure_ (i := 9) (N := some 102) (v := ?_) (a' := ?_) #[true, true, true, true, true, true, true, true, true, true, false, false, false, false, false, false, false, false, false, false, false, false, false] rfl rfl (by kernel_rfl) (fun _ _ _ h => h) (Or.inl ⟨by rfl, ?_⟩) ?_ ?_
                rotate_left
                · intro w'
                  go_simp
                  with_reducible rfl
                rotate_left
                · simp only [Act.put, List.setIfInBounds_toArray, List.set_cons_zero, List.set_cons_succ, i64_w, i32_w]
                  rfl
                refine one_ (i := 10) (N := some 103) #[true, true, true, true, true, true, true, true, true, true, true, false, false, false, false, false, false, false, false, false, false, false, false] rfl rfl (by kernel_rfl) (by decide) (fun K hK => ?_)
                refine goes_ Try.func13 (by kernel_rfl) rfl #[.int .u8 3] (by rfl) rfl rfl (by simp only [List.map_toArray, List.map_cons, List.map_nil]; rfl) ?_
                with_reducible refine (filled_calls 3 w7).mono ?_
                rintro e w8 ⟨v8, rfl, hv, hb⟩
                refine ⟨_, rfl, ?_⟩
                have HV := Lib.hid hv
                have HD8 := Lib.hid (HD7.out.next hb)
                clear hv hb
                refine hK.out _ _ trivial (fun hHeld => ?_)
                clear hK K
                refine norm_ (a' := ?_) ?_ ?_
                rotate_left
                · show Act.put _ (some 103) _ = _
                  simp only [Act.put, List.setIfInBounds_toArray, List.set_cons_zero, List.set_cons_succ, i64_w, i32_w]
                  rfl
                refine one_ (i := 11) (N := some 104) #[true, true, true, true, true, true, true, true, true, true, true, true, false, false, false, false, false, false, false, false, false, false, false] rfl rfl (by kernel_rfl) (by decide) (fun K hK => ?_)
                refine goes_ Try.func12 (by kernel_rfl) rfl #[.pointer (some ⟨p, 0, none⟩), .int .i64 0, v8] (by rfl) rfl rfl (by simp only [List.map_toArray, List.map_cons, List.map_nil]; rfl) ?_
                with_reducible refine (HD8.out.write 0 HV.out (by rw [fpage_len]; decide) (fpage_isB (by decide) (by decide)) (Nat.le_trans (Nat.le_of_eq (show (fresh m).W.length = 0 from rfl)) (Nat.zero_le _))).mono ?_
                rintro e w12 ⟨rfl, vW12, hd, ht⟩
                refine ⟨_, rfl, ?_⟩
                rw [HW3.out] at hd ⊢
                have HD12 := Lib.hid hd
                clear hd ht
                refine hK.out _ _ trivial (fun hHeld => ?_)
                clear hK K
                refine norm_ (a' := ?_) ?_ ?_
                rotate_left
                · show Act.put _ (some 104) _ = _
                  simp only [Act.put, List.setIfInBounds_toArray, List.set_cons_zero, List.set_cons_succ, i64_w, i32_w]
                  rfl
                refine pure_ (i := 12) (N := some 105) (v := ?_) (a' := ?_) #[true, true, true, true, true, true, true, true, true, true, true, true, true, false, false, false, false, false, false, false, false, false, false] rfl rfl (by kernel_rfl) (fun _ _ _ h => h) (Or.inl ⟨by rfl, ?_⟩) ?_ ?_
                rotate_left
                · intro w'
                  go_simp
                  with_reducible rfl
                rotate_left
                · simp only [Act.put, List.setIfInBounds_toArray, List.set_cons_zero, List.set_cons_succ, i64_w, i32_w]
                  rfl
                refine pure_ (i := 13) (N := some 106) (v := ?_) (a' := ?_) #[true, true, true, true, true, true, true, true, true, true, true, true, true, true, false, false, false, false, false, false, false, false, false] rfl rfl (by kernel_rfl) (fun _ _ _ h => h) (Or.inl ⟨by rfl, ?_⟩) ?_ ?_
                rotate_left
                · intro w'
                  go_simp
                  with_reducible rfl
                rotate_left
                · simp only [Act.put, List.setIfInBounds_toArray, List.set_cons_zero, List.set_cons_succ, i64_w, i32_w]
                  rfl
                refine pure_ (i := 14) (N := some 107) (v := ?_) (a' := ?_) #[true, true, true, true, true, true, true, true, true, true, true, true, true, true, true, false, false, false, false, false, false, false, false] rfl rfl (by kernel_rfl) (fun _ _ _ h => h) (Or.inl ⟨by rfl, ?_⟩) ?_ ?_
                rotate_left
                · intro w'
                  go_simp
                  with_reducible rfl
                rotate_left
                · simp only [Act.put, List.setIfInBounds_toArray, List.set_cons_zero, List.set_cons_succ, i64_w, i32_w]
                  rfl
                refine pure_ (i := 15) (N := some 108) (v := ?_) (a' := ?_) #[true, true, true, true, true, true, true, true, true, true, true, true, true, true, true, true, false, false, false, false, false, false, false] rfl rfl (by kernel_rfl) (fun _ _ _ h => h) (Or.inl ⟨by rfl, ?_⟩) ?_ ?_
                rotate_left
                · intro w'
                  go_simp
                  with_reducible rfl
                rotate_left
                · simp only [Act.put, List.setIfInBounds_toArray, List.set_cons_zero, List.set_cons_succ, i64_w, i32_w]
                  rfl
                refine pure_ (i := 16) (N := some 109) (v := ?_) (a' := ?_) #[true, true, true, true, true, true, true, true, true, true, true, true, true, true, true, true, true, false, false, false, false, false, false] rfl rfl (by kernel_rfl) (fun _ _ _ h => h) (Or.inl ⟨by rfl, ?_⟩) ?_ ?_
                rotate_left
                · intro w'
                  go_simp
                  with_reducible rfl
                rotate_left
                · simp only [Act.put, List.setIfInBounds_toArray, List.set_cons_zero, List.set_cons_succ, i64_w, i32_w]
                  rfl
                refine pure_ (i := 17) (N := some 110) (v := ?_) (a' := ?_) #[true, true, true, true, true, true, true, true, true, true, true, true, true, true, true, true, true, true, false, false, false, false, false] rfl rfl (by kernel_rfl) (fun _ _ _ h => h) (Or.inl ⟨by rfl, ?_⟩) ?_ ?_
                rotate_left
                · intro w'
                  go_simp
                  with_reducible rfl
                rotate_left
                · simp only [Act.put, List.setIfInBounds_toArray, List.set_cons_zero, List.set_cons_succ, i64_w, i32_w]
                  rfl
                refine join_ (σ := Value × Value) 3 #[true, true, true, true, true, true, true, true, true, true, true, true, true, true, true, true, true, true, true, true, false, false, false] (fun s => [(111, s.1), (112, s.2)]) (fun s w' => (Rw w' s.1 zpage ∧ Rw w' s.2 zpage) ∧ Below W.heap.size W w') ?_ ?_
                rotate_left
                · intro hCont
                  refine two_ (i := 18) (j := 19) (Ni := some 111) (Nj := some 112) #[true, true, true, true, true, true, true, true, true, true, true, true, true, true, true, true, true, true, true, false, false, false, false] #[true, true, true, true, true, true, true, true, true, true, true, true, true, true, true, true, true, true, false, true, false, false, false] rfl rfl rfl rfl (by kernel_rfl) (by decide) (by decide) (fun K hK => ?_) (fun K hK => ?_)
                  · skip
                    refine goes_ Try.func18 (by kernel_rfl) rfl #[.pointer (some ⟨p, 0, none⟩), .int .i64 (wrap64 ((m : Int) - 1))] (by rfl) rfl rfl (by simp only [List.map_toArray, List.map_cons, List.map_nil]; rfl) ?_
                    with_reducible refine (safe_calls HD12.out.d (wrap64 ((m : Int) - 1))).mono ?_
                    rintro e w13 ⟨v13, rfl, hm13, hb13⟩
                    refine ⟨_, rfl, ?_⟩
                    have HRS := Lib.hid (show Rw w13 v13 zpage by have h1 := Rw.of_R hm13; rw [HSP.out] at h1; exact h1)
                    have HB13 := Lib.hid hb13
                    clear hm13 hb13
                    refine hK.out _ _ trivial (fun hHeld => ?_)
                    clear hK K
                    refine norm_ (a' := ?_) ?_ ?_
                    rotate_left
                    · show Act.put _ (some 111) _ = _
                      simp only [Act.put, List.setIfInBounds_toArray, List.set_cons_zero, List.set_cons_succ, i64_w, i32_w]
                      rfl
                    refine one_ (i := 19) (N := some 112) #[true, true, true, true, true, true, true, true, true, true, true, true, true, true, true, true, true, true, true, true, false, false, false] rfl rfl (by kernel_rfl) (by decide) (fun K hK => ?_)
                    refine Kd.R_make_step (Kd.int .u8) (w0 := w13) w13.heap.size 5 (by rfl) (N := 112) (by rfl) 34 _ _ (by rfl) 1024 (by rfl) (by rfl) Try.underlying34 (.int .u8 0) 1 info5 rfl (by decide) (by decide) (0 : Int) (ok := fun _ => True) (okp := fun _ => True) rfl (fun _ h => h) trivial (by decide) (by decide) (Below.refl _ _) (Nat.le_refl _) ?_
                    intro v14 w14 ho14 hb14 hg14 hn14
                    have HRM := Lib.hid (show Rw w14 v14 zpage from Rw.of_R ho14)
                    obtain ⟨A14, c14, rfl⟩ := Kd.R_slice ho14
                    have HB14 := Lib.hid hb14
                    clear ho14 hb14 hg14 hn14
                    refine hK.out _ _ trivial (fun hHeld => ?_)
                    clear hK K
                    refine norm_ (a' := ?_) ?_ ?_
                    rotate_left
                    · show Act.put _ (some 112) _ = _
                      simp only [Act.put, List.setIfInBounds_toArray, List.set_cons_zero, List.set_cons_succ, i64_w, i32_w]
                      rfl
                    exact norm_ (by simp only [putAll, Act.put, List.setIfInBounds_toArray, List.set_cons_zero, List.set_cons_succ]) (hCont (v13, _) _ ⟨⟨HRS.out.below HB14.out, HRM.out⟩, below_step (below_step HD12.out.below HB13.out) HB14.out⟩)
                  · skip
                    refine Kd.R_make_step (Kd.int .u8) (w0 := w12) w12.heap.size 5 (by rfl) (N := 112) (by rfl) 34 _ _ (by rfl) 1024 (by rfl) (by rfl) Try.underlying34 (.int .u8 0) 1 info5 rfl (by decide) (by decide) (0 : Int) (ok := fun _ => True) (okp := fun _ => True) rfl (fun _ h => h) trivial (by decide) (by decide) (Below.refl _ _) (Nat.le_refl _) ?_
                    intro v14 w14 ho14 hb14 hg14 hn14
                    have HRM := Lib.hid (show Rw w14 v14 zpage from Rw.of_R ho14)
                    obtain ⟨A14, c14, rfl⟩ := Kd.R_slice ho14
                    have HB14 := Lib.hid hb14
                    clear ho14 hb14 hg14 hn14
                    refine hK.out _ _ trivial (fun hHeld => ?_)
                    clear hK K
                    refine norm_ (a' := ?_) ?_ ?_
                    rotate_left
                    · show Act.put _ (some 112) _ = _
                      simp only [Act.put, List.setIfInBounds_toArray, List.set_cons_zero, List.set_cons_succ, i64_w, i32_w]
                      rfl
                    refine one_ (i := 18) (N := some 111) #[true, true, true, true, true, true, true, true, true, true, true, true, true, true, true, true, true, true, true, true, false, false, false] rfl rfl (by kernel_rfl) (by decide) (fun K hK => ?_)
                    refine goes_ Try.func18 (by kernel_rfl) rfl #[.pointer (some ⟨p, 0, none⟩), .int .i64 (wrap64 ((m : Int) - 1))] (by rfl) rfl rfl (by simp only [List.map_toArray, List.map_cons, List.map_nil]; rfl) ?_
                    with_reducible refine (safe_calls (Lib.hid (HD12.out.next HB14.out)).out.d (wrap64 ((m : Int) - 1))).mono ?_
                    rintro e w13 ⟨v13, rfl, hm13, hb13⟩
                    refine ⟨_, rfl, ?_⟩
                    have HRS := Lib.hid (show Rw w13 v13 zpage by have h1 := Rw.of_R hm13; rw [HSP.out] at h1; exact h1)
                    have HB13 := Lib.hid hb13
                    clear hm13 hb13
                    refine hK.out _ _ trivial (fun hHeld => ?_)
                    clear hK K
                    refine norm_ (a' := ?_) ?_ ?_
                    rotate_left
                    · show Act.put _ (some 111) _ = _
                      simp only [Act.put, List.setIfInBounds_toArray, List.set_cons_zero, List.set_cons_succ, i64_w, i32_w]
                      rfl
                    exact norm_ (by simp only [putAll, Act.put, List.setIfInBounds_toArray, List.set_cons_zero, List.set_cons_succ]) (hCont (v13, _) _ ⟨⟨HRS.out, HRM.out.below HB13.out⟩, below_step (below_step HD12.out.below HB14.out) HB13.out⟩)
                rintro ⟨v13, v14⟩ w14 ⟨⟨hr13, hr14⟩, hb14⟩
                have HR13 := Lib.hid hr13
                have HR14 := Lib.hid hr14
                have HB14 := Lib.hid hb14
                clear hr13 hr14 hb14
                have hHeld : True := trivial
                refine norm_ (a' := ?_) ?_ ?_
                rotate_left
                · simp only [putAll, Act.put, List.setIfInBounds_toArray, List.set_cons_zero, List.set_cons_succ]
                  rfl
                refine one_ (i := 20) (N := some 113) #[true, true, true, true, true, true, true, true, true, true, true, true, true, true, true, true, true, true, true, true, true, false, false] rfl rfl (by kernel_rfl) (by decide) (fun K hK => ?_)
                refine goes_ Try.func17 (by kernel_rfl) rfl #[v13, v14] (by rfl) rfl rfl (by simp only [List.map_toArray, List.map_cons, List.map_nil]; rfl) ?_
                with_reducible refine (same_rw HR13.out HR14.out (by rw [zpage_len]; decide) w14 (Below.refl _ _)).mono ?_
                rintro e w15 ⟨rfl, hb⟩
                refine ⟨_, rfl, ?_⟩
                rw [decide_eq_true (rfl : zpage = zpage)]
                have HB15 := Lib.hid (below_step HB14.out hb)
                clear hb
                refine hK.out _ _ trivial (fun hHeld => ?_)
                clear hK K
                refine norm_ (a' := ?_) ?_ ?_
                rotate_left
                · show Act.put _ (some 113) _ = _
                  simp only [Act.put, List.setIfInBounds_toArray, List.set_cons_zero, List.set_cons_succ, i64_w, i32_w]
                  rfl
                refine pure_ (i := 21) (N := some 114) (v := ?_) (a' := ?_) #[true, true, true, true, true, true, true, true, true, true, true, true, true, true, true, true, true, true, true, true, true, true, false] rfl rfl (by kernel_rfl) (fun _ _ _ h => h) (Or.inl ⟨by rfl, ?_⟩) ?_ ?_
                rotate_left
                · intro w'
                  go_simp
                  with_reducible rfl
                rotate_left
                · simp only [Act.put, List.setIfInBounds_toArray, List.set_cons_zero, List.set_cons_succ, i64_w, i32_w]
                  rfl
                refine pure_ (i := 22) (N := some 4) (v := ?_) (a' := ?_) #[true, true, true, true, true, true, true, true, true, true, true, true, true, true, true, true, true, true, true, true, true, true, true] rfl rfl (by kernel_rfl) (fun _ _ _ h => h) (Or.inl ⟨by rfl, ?_⟩) ?_ ?_
                rotate_left
                · intro w'
                  go_simp
                  with_reducible rfl
                rotate_left
                · simp only [Act.put, List.setIfInBounds_toArray, List.set_cons_zero, List.set_cons_succ, i64_w, i32_w]
                  rfl
                refine done_ (by kernel_rfl) ?_
                go_wp2
                go_ret
                exact ⟨rfl, HB15.out⟩
end Go.Proofs.Ytblacdnndchghaa.Walk
