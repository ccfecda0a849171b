/- The reference's disk: Sync, Crash: contracts by hand. -/
import Derived.Test.YtblacdnndchghaaDiskRef2
import Derived.Test.YtblacdnndchghaaPAllx1
namespace Go.Proofs.Ytblacdnndchghaa.D
open Go.RowKit Go.Proofs.YtblacdnndchghaaW.PrintWords Go.Proofs.YtblacdnndchghaaW.PrintLast Go.Proofs.YtblacdnndchghaaW.PrintMore Go.Proofs.Ytblacdnndchghaa.Math Go.Proofs.Ytblacdnndchghaa.PAll
open Go.ChangeMaps (setBlock)
set_option linter.unusedVariables false
set_option linter.unusedSimpArgs false

theorem RSt.nilW {w : World} {B p : Nat} {vS vW : Value} {s : St} (h : RSt w B p vS vW s) : RSt (w.setCell ⟨p, 1, none⟩ nilS) B p vS nilS { s with W := [] } ∧ Turn (RO p vS vW) w (w.setCell ⟨p, 1, none⟩ nilS) := by
  obtain ⟨Sl, Wl, e1, e2, hr⟩ := h.body
  have t1 : Turn (fun k => k = p) w (w.setCell ⟨p, 1, none⟩ nilS) := Turn.set w p 1 _ rfl
  refine ⟨⟨blk_set h.blk 1 nilS, h.pb, h.left0, Sl, [], e1, rfl, (hr.turn t1 ?_ ?_ ?_).nilW⟩, t1.mono fun k hk _ => .inl hk⟩
  · exact fun k c hk e => h.pages k c hk (.inl e)
  · rintro k hk rfl
    obtain ⟨_, c2, h2⟩ := own_block hr.s hk
    exact sep h2 h.blk (by decide) rfl
  · rintro k hk rfl
    obtain ⟨_, c2, h2⟩ := own_block hr.w_ hk
    exact sep h2 h.blk (by decide) rfl
theorem RSt.vW {w : World} {B p : Nat} {vS vW : Value} {s : St} (h : RSt w B p vS vW s) : ∃ A c, vW = .slice A s.W.length c := by
  obtain ⟨Sl, Wl, e1, e2, hr⟩ := h.body
  obtain ⟨A, c, h1, h2⟩ := own_sl hr.w_
  rw [e2, List.length_map]
  exact ⟨A, c, h1⟩
theorem sync_take {S : List (List Int)} {W : List (Int × List Int)} {k j : Nat} {b : List Int} (h : W[k]? = some ((j : Int), b)) : syncS S (W.take (k + 1)) = (syncS S (W.take k)).set j b := by
  unfold syncS
  rw [List.take_add_one, h, List.foldl_append]
  rfl
theorem tornR_pg {w : World} {B : Nat} {v : Value} {b : List Int} (h : Pg w B v b) : ∀ w1, Below w.heap.size w w1 → Calls Try.prog 36 #[v] w1 fun e w' => ∃ v', e = .returned v' ∧ Made w1 w' v' (torn b) := by
  intro w1 hb
  obtain ⟨A, c, rfl, hc, hC⟩ := h.reads
  refine cambiumref04_Torn.calls A c b _ w1 (Kd.C_below hC hb) hc ?_
  have hl := h.1
  have hp : b.length - 1 < b.length := by omega
  have hx := h.2.1 _ (rd_mem (l := b) (k := b.length - 1) hp)
  have hw : wrap64 ((b.length : Int) - 1) = ((b.length - 1 : Nat) : Int) := by unfold wrap64; omega
  unfold cambiumref04_Torn.f torn
  rw [Option.bind_some, if_pos (by simp; omega), Option.bind_some, List.nil_append, if_pos (by omega), hw, if_pos (by omega), if_pos (by omega), Int.toNat_natCast, if_neg (by intro e; rw [e] at hl; cases hl)]
  rw [Int.emod_eq_of_lt (by omega) (by omega)]

set_option maxHeartbeats 8000000 in
set_option maxRecDepth 20000 in
theorem syncR_calls {w : World} {B p : Nat} {vS vW : Value} {s : St} (h : RSt w B p vS vW s) :
    Calls Try.prog 25 #[.pointer (some ⟨p, 0, none⟩)] w fun e w' => e = .returned (.int .i64 (sync s).1) ∧ ∃ vW', RSt w' B p vS vW' (sync s).2 ∧ Turn (RO p vS vW) w w' ∧ (vW'.ownBlock = vW.ownBlock ∨ vW'.ownBlock = none) := by
  have k4 : w.cell? ⟨p, 3, none⟩ = some (.bool s.down) := (blk_cell h.blk 3).trans rfl
  unfold sync
  cases hd : s.down with
  | true =>
    rw [hd] at k4
    rw [if_pos rfl]
    have HD := Lib.hid h
    clear h hd
    go_enter Try.func25, Try.ntmps25
    go_wp2
    go_ret
    exact ⟨rfl, vW, HD.out, Turn.refl _ _, .inl rfl⟩
  | false =>
    rw [hd] at k4
    rw [if_neg (by decide)]
    have HG := Lib.hid (goesR_calls h hd)
    clear h hd
    cases hgo : (goes s).1 with
    | true =>
      rw [if_pos rfl]
      rw [hgo] at HG
      clear hgo
      go_enter Try.func25, Try.ntmps25
      go_wp2_with fail
      refine HG.out.mono ?_
      rintro e w1 ⟨rfl, hd1, ht1⟩
      have HD := Lib.hid hd1
      have HT := Lib.hid ht1
      clear hd1 ht1
      go_wp2
      go_ret
      exact ⟨rfl, vW, HD.out, HT.out, .inl rfl⟩
    | false =>
      rw [if_neg (by decide)]
      rw [hgo] at HG
      have hS := (goes_S s).1
      have hW := (goes_S s).2
      rw [← hS, ← hW]
      generalize (goes s).2 = s at HG ⊢
      clear hgo hS hW
      go_enter Try.func25, Try.ntmps25
      go_wp2_with fail
      refine HG.out.mono ?_
      rintro e w0 ⟨rfl, hd1, ht1⟩
      obtain ⟨AW, cW, hvW⟩ := hd1.vW
      have HV := Lib.hid hvW
      have HD := Lib.hid hd1
      have HT0 := Lib.hid ht1
      have hwl : s.W.length ≤ 9223372036854775807 := by obtain ⟨Sl, Wl, e1, e2, hr⟩ := hd1.body; rw [e2, List.length_map]; exact own_len hr.w_
      clear hd1 ht1 HG hvW
      go_wp2
      go_loopw [3] (fun i wr => ∃ k : Nat, k ≤ s.W.length ∧ i = .int .i64 k ∧ Hid (RSt wr B p vS vW ⟨syncS s.S (s.W.take k), s.W, s.left, s.down⟩) ∧ Hid (Turn (fun i => vS.ownBlock = some i) w0 wr)) (fun i _ => s.W.length - (intOf i).toNat)
      case atStart => exact ⟨0, Nat.zero_le _, rfl, HD, Lib.hid (Turn.refl _ _)⟩
      case round =>
        obtain ⟨k, hk, rfl, HR, HT⟩ := hrel
        have kw : wr.cell? ⟨p, 1, none⟩ = some (.slice AW s.W.length cW) := by rw [← HV.out]; exact (blk_cell HR.out.blk 1).trans rfl
        by_cases hlt : k < s.W.length
        · have q : (k : Int) < (s.W.length : Int) := by omega
          have d : decide ((k : Int) < (s.W.length : Int)) = true := decide_eq_true q
          have hwr : wrap64 ((k : Int) + 1) = ((k + 1 : Nat) : Int) := by unfold wrap64; omega
          obtain ⟨_, _, j, _, _, b, _, _, _, _, hWk, hjs⟩ := HR.out.wait hlt
          have HWK := Lib.hid (show s.W[k]? = some ((j : Int), b) from hWk)
          have HJS := Lib.hid (show j < s.S.length by have h2 : j < (syncS s.S (s.W.take k)).length := hjs; rwa [syncS_len] at h2)
          have HST := Lib.hid (sync_take (S := s.S) hWk)
          clear hWk hjs
          go_wp2
          have hdd := HR.out.below (Below.refl _ _).drew
          have hta := HT.out.drew
          have hsl : (syncS s.S (s.W.take k)).length = s.S.length := syncS_len _ _
          obtain ⟨g2, c2, v0, hvS, hcell, _⟩ := hdd.page j (show j < (syncS s.S (s.W.take k)).length by have := HJS.out; omega)
          obtain ⟨gw, cw, j2, Av, cv, b2, hv2, z0, z1, hpg, hWk2, hjs2⟩ := hdd.wait (show k < s.W.length from hlt)
          rw [show (St.W ⟨syncS s.S (s.W.take k), s.W, s.left, s.down⟩)[k]? = some ((j : Int), b) from HWK.out] at hWk2
          injection hWk2 with hWk2
          injection hWk2 with hj2 hb2
          have hj2' : j = j2 := Int.ofNat.inj hj2
          subst hj2'
          subst hb2
          have hvS2 : vS = .slice (some ⟨g2, 0, none⟩) s.S.length c2 := by rw [← hsl]; exact hvS
          have hvW2 : vW = .slice (some ⟨gw, 0, none⟩) s.W.length cw := hv2
          have zp : wr.drew.cell? ⟨p, 0, none⟩ = some (.slice (some ⟨g2, 0, none⟩) s.S.length c2) := by rw [← hvS2]; exact (blk_cell hdd.blk 0).trans rfl
          have zw : wr.drew.cell? ⟨p, 1, none⟩ = some (.slice (some ⟨gw, 0, none⟩) s.W.length cw) := by rw [← hvW2]; exact (blk_cell hdd.blk 1).trans rfl
          have hq0 : (0 : Int) ≤ (j : Int) := by omega
          have hq1 : (j : Int) < (s.S.length : Int) := by have := HJS.out; omega
          obtain ⟨_, cg, hgb⟩ : B ≤ g2 ∧ ∃ c, wr.drew.heap[g2]? = some (.cells c 34 (0, 0)) := by obtain ⟨_, _, _, _, hr⟩ := hdd.body; exact own_block hr.s (by rw [hvS]; rfl)
          have fz := blk_frozen hgb j
          clear HR HT hj2 hv2 hjs2
          refine start_ (n := 22) (S := fun w' => w'.cell? ⟨p, 0, none⟩ = some (.slice (some ⟨g2, 0, none⟩) s.S.length c2) ∧ w'.cell? ⟨p, 1, none⟩ = some (.slice (some ⟨gw, 0, none⟩) s.W.length cw) ∧ w'.cell? ⟨gw, k * 2, none⟩ = some (.int .i64 (j : Int)) ∧ w'.cell? ⟨gw, k * 2 + 1, none⟩ = some (.slice Av 1024 cv)) (ds := [21]) #[false, false, false, false, false, false, false, false, false, false, false, false, false, false, false, false, false, false, false, false, false, false] (by kernel_rfl) rfl rfl ⟨zp, zw, z0, z1⟩ (fun hHeld => ?_)
          generalize wr.drew = w5 at hdd hta hpg hcell fz hgb zp zw z0 z1 hHeld ⊢
          have HDD := Lib.hid hdd
          have HTA := Lib.hid hta
          have HPA := Lib.hid hpg
          have HVS := Lib.hid hvS
          have HVS2 := Lib.hid hvS2
          have HVW2 := Lib.hid hvW2
          have HSL := Lib.hid hsl
          clear hdd hta hpg hvS hgb zp zw z0 z1 hvS2 hvW2 hsl
          refine pure_ (i := 0) (N := some 21) (v := ?_) (a' := ?_) #[true, false, false, false, false, false, false, false, false, false, false, false, false, false, false, false, false, false, false, false, false, false] rfl rfl (by kernel_rfl) (fun _ _ _ h => h) (Or.inl ⟨by rfl, ?_⟩) ?_ ?_
          rotate_left
          · intro w'
            go_simp
            with_reducible rfl
          rotate_left
          · simp only [Act.put, List.setIfInBounds_toArray, List.set_cons_zero, List.set_cons_succ, i64_w, i32_w]
            rfl
          refine pure_ (i := 1) (N := some 22) (v := ?_) (a' := ?_) #[true, true, false, false, false, false, false, false, false, false, false, false, false, false, false, false, false, false, false, false, false, false] rfl rfl (by kernel_rfl) (fun _ _ _ h => h) (Or.inl ⟨by rfl, ?_⟩) ?_ ?_
          rotate_left
          · intro w'
            go_simp
            with_reducible rfl
          rotate_left
          · simp only [Act.put, List.setIfInBounds_toArray, List.set_cons_zero, List.set_cons_succ, i64_w, i32_w]
            rfl
          refine pure_ (i := 2) (N := some 23) (v := ?_) (a' := ?_) #[true, true, true, false, false, false, false, false, false, false, false, false, false, false, false, false, false, false, false, false, false, false] rfl rfl (by kernel_rfl) (fun _ _ _ h => h) (Or.inl ⟨by rfl, ?_⟩) ?_ ?_
          rotate_left
          · intro w'
            go_simp
            with_reducible rfl
          rotate_left
          · simp only [Act.put, List.setIfInBounds_toArray, List.set_cons_zero, List.set_cons_succ, i64_w, i32_w]
            rfl
          refine pure_ (i := 4) (N := some 25) (v := ?_) (a' := ?_) #[true, true, true, false, true, false, false, false, false, false, false, false, false, false, false, false, false, false, false, false, false, false] rfl rfl (by kernel_rfl) (fun _ _ _ h => h) (Or.inl ⟨by rfl, ?_⟩) ?_ ?_
          rotate_left
          · intro w'
            go_simp
            with_reducible rfl
          rotate_left
          · simp only [Act.put, List.setIfInBounds_toArray, List.set_cons_zero, List.set_cons_succ, i64_w, i32_w]
            rfl
          refine pure_ (i := 5) (N := some 26) (v := ?_) (a' := ?_) #[true, true, true, false, true, true, false, false, false, false, false, false, false, false, false, false, false, false, false, false, false, false] rfl rfl (by kernel_rfl) (fun _ _ _ h => h) (Or.inl ⟨by rfl, ?_⟩) ?_ ?_
          rotate_left
          · intro w'
            go_simp
            with_reducible rfl
          rotate_left
          · simp only [Act.put, List.setIfInBounds_toArray, List.set_cons_zero, List.set_cons_succ, i64_w, i32_w]
            rfl
          refine pure_ (i := 6) (N := some 27) (v := ?_) (a' := ?_) #[true, true, true, false, true, true, true, false, false, false, false, false, false, false, false, false, false, false, false, false, false, false] rfl rfl (by kernel_rfl) (fun _ _ _ h => h) (Or.inl ⟨by rfl, ?_⟩) ?_ ?_
          rotate_left
          · intro w'
            go_simp
            with_reducible rfl
          rotate_left
          · simp only [Act.put, List.setIfInBounds_toArray, List.set_cons_zero, List.set_cons_succ, i64_w, i32_w]
            rfl
          refine pure_ (i := 8) (N := some 29) (v := ?_) (a' := ?_) #[true, true, true, false, true, true, true, false, true, false, false, false, false, false, false, false, false, false, false, false, false, false] rfl rfl (by kernel_rfl) (fun _ _ _ h => h) (Or.inl ⟨by rfl, ?_⟩) ?_ ?_
          rotate_left
          · intro w'
            go_simp
            with_reducible rfl
          rotate_left
          · simp only [Act.put, List.setIfInBounds_toArray, List.set_cons_zero, List.set_cons_succ, i64_w, i32_w]
            rfl
          refine pure_ (i := 12) (N := some 33) (v := ?_) (a' := ?_) #[true, true, true, false, true, true, true, false, true, false, false, false, true, false, false, false, false, false, false, false, false, false] rfl rfl (by kernel_rfl) (fun _ _ _ h => h) (Or.inl ⟨by rfl, ?_⟩) ?_ ?_
          rotate_left
          · intro w'
            go_simp
            with_reducible rfl
          rotate_left
          · simp only [Act.put, List.setIfInBounds_toArray, List.set_cons_zero, List.set_cons_succ, i64_w, i32_w]
            rfl
          refine pure_ (i := 13) (N := some 34) (v := ?_) (a' := ?_) #[true, true, true, false, true, true, true, false, true, false, false, false, true, true, false, false, false, false, false, false, false, false] rfl rfl (by kernel_rfl) (fun _ _ _ h => h) (Or.inl ⟨by rfl, ?_⟩) ?_ ?_
          rotate_left
          · intro w'
            go_simp
            with_reducible rfl
          rotate_left
          · simp only [Act.put, List.setIfInBounds_toArray, List.set_cons_zero, List.set_cons_succ, i64_w, i32_w]
            rfl
          refine pure_ (i := 14) (N := some 35) (v := ?_) (a' := ?_) #[true, true, true, false, true, true, true, false, true, false, false, false, true, true, true, false, false, false, false, false, false, false] rfl rfl (by kernel_rfl) (fun _ _ _ h => h) (Or.inl ⟨by rfl, ?_⟩) ?_ ?_
          rotate_left
          · intro w'
            go_simp
            with_reducible rfl
          rotate_left
          · simp only [Act.put, List.setIfInBounds_toArray, List.set_cons_zero, List.set_cons_succ, i64_w, i32_w]
            rfl
          refine pure_ (i := 16) (N := some 37) (v := ?_) (a' := ?_) #[true, true, true, false, true, true, true, false, true, false, false, false, true, true, true, false, true, false, false, false, false, false] rfl rfl (by kernel_rfl) (fun _ _ _ h => h) (Or.inl ⟨by rfl, ?_⟩) ?_ ?_
          rotate_left
          · intro w'
            go_simp
            with_reducible rfl
          rotate_left
          · simp only [Act.put, List.setIfInBounds_toArray, List.set_cons_zero, List.set_cons_succ, i64_w, i32_w]
            rfl
          refine take_ (i := 3) (N := some 24) (v := ?_) (a' := ?_) #[true, true, true, true, true, true, true, false, true, false, false, false, true, true, true, false, true, false, false, false, false, false] rfl rfl (by kernel_rfl) (fun _ _ _ h => h) (Or.inl ⟨by rfl, ?_⟩) hHeld ?_ ?_
          rotate_left
          · rintro w' ⟨s0, s1, s2, s3⟩
            go_simp
            with_reducible rfl
          rotate_left
          · simp only [Act.put, List.setIfInBounds_toArray, List.set_cons_zero, List.set_cons_succ, i64_w, i32_w]
            rfl
          refine take_ (i := 7) (N := some 28) (v := ?_) (a' := ?_) #[true, true, true, true, true, true, true, true, true, false, false, false, true, true, true, false, true, false, false, false, false, false] rfl rfl (by kernel_rfl) (fun _ _ _ h => h) (Or.inl ⟨by rfl, ?_⟩) hHeld ?_ ?_
          rotate_left
          · rintro w' ⟨s0, s1, s2, s3⟩
            go_simp
            with_reducible rfl
          rotate_left
          · simp only [Act.put, List.setIfInBounds_toArray, List.set_cons_zero, List.set_cons_succ, i64_w, i32_w]
            rfl
          refine pure_ (i := 9) (N := some 30) (v := ?_) (a' := ?_) #[true, true, true, true, true, true, true, true, true, true, false, false, true, true, true, false, true, false, false, false, false, false] rfl rfl (by kernel_rfl) (fun _ _ _ h => h) (Or.inl ⟨by rfl, ?_⟩) ?_ ?_
          rotate_left
          · intro w'
            go_simp
            with_reducible rfl
          rotate_left
          · simp only [Act.put, List.setIfInBounds_toArray, List.set_cons_zero, List.set_cons_succ, i64_w, i32_w]
            rfl
          refine pure_ (i := 10) (N := some 31) (v := ?_) (a' := ?_) #[true, true, true, true, true, true, true, true, true, true, true, false, true, true, true, false, true, false, false, false, false, false] rfl rfl (by kernel_rfl) (fun _ _ _ h => h) (Or.inl ⟨by rfl, ?_⟩) ?_ ?_
          rotate_left
          · intro w'
            go_simp
            with_reducible rfl
          rotate_left
          · simp only [Act.put, List.setIfInBounds_toArray, List.set_cons_zero, List.set_cons_succ, i64_w, i32_w]
            rfl
          refine take_ (i := 11) (N := some 32) (v := ?_) (a' := ?_) #[true, true, true, true, true, true, true, true, true, true, true, true, true, true, true, false, true, false, false, false, false, false] rfl rfl (by kernel_rfl) (fun _ _ _ h => h) (Or.inl ⟨by rfl, ?_⟩) hHeld ?_ ?_
          rotate_left
          · rintro w' ⟨s0, s1, s2, s3⟩
            go_simp
            with_reducible rfl
          rotate_left
          · simp only [Act.put, List.setIfInBounds_toArray, List.set_cons_zero, List.set_cons_succ, i64_w, i32_w]
            rfl
          refine take_ (i := 15) (N := some 36) (v := ?_) (a' := ?_) #[true, true, true, true, true, true, true, true, true, true, true, true, true, true, true, true, true, false, false, false, false, false] rfl rfl (by kernel_rfl) (fun _ _ _ h => h) (Or.inl ⟨by rfl, ?_⟩) hHeld ?_ ?_
          rotate_left
          · rintro w' ⟨s0, s1, s2, s3⟩
            go_simp
            with_reducible rfl
          rotate_left
          · simp only [Act.put, List.setIfInBounds_toArray, List.set_cons_zero, List.set_cons_succ, i64_w, i32_w]
            rfl
          refine pure_ (i := 17) (N := some 38) (v := ?_) (a' := ?_) #[true, true, true, true, true, true, true, true, true, true, true, true, true, true, true, true, true, true, false, false, false, false] rfl rfl (by kernel_rfl) (fun _ _ _ h => h) (Or.inl ⟨by rfl, ?_⟩) ?_ ?_
          rotate_left
          · intro w'
            go_simp
            with_reducible rfl
          rotate_left
          · simp only [Act.put, List.setIfInBounds_toArray, List.set_cons_zero, List.set_cons_succ, i64_w, i32_w]
            rfl
          refine pure_ (i := 18) (N := some 39) (v := ?_) (a' := ?_) #[true, true, true, true, true, true, true, true, true, true, true, true, true, true, true, true, true, true, true, false, false, false] rfl rfl (by kernel_rfl) (fun _ _ _ h => h) (Or.inl ⟨by rfl, ?_⟩) ?_ ?_
          rotate_left
          · intro w'
            go_simp
            with_reducible rfl
          rotate_left
          · simp only [Act.put, List.setIfInBounds_toArray, List.set_cons_zero, List.set_cons_succ, i64_w, i32_w]
            rfl
          refine take_ (i := 19) (N := some 40) (v := ?_) (a' := ?_) #[true, true, true, true, true, true, true, true, true, true, true, true, true, true, true, true, true, true, true, true, false, false] rfl rfl (by kernel_rfl) (fun _ _ _ h => h) (Or.inl ⟨by rfl, ?_⟩) hHeld ?_ ?_
          rotate_left
          · rintro w' ⟨s0, s1, s2, s3⟩
            go_simp
            with_reducible rfl
          rotate_left
          · simp only [Act.put, List.setIfInBounds_toArray, List.set_cons_zero, List.set_cons_succ, i64_w, i32_w]
            rfl
          refine pure_ (i := 20) (N := some 41) (v := ?_) (a' := ?_) #[true, true, true, true, true, true, true, true, true, true, true, true, true, true, true, true, true, true, true, true, true, false] rfl rfl (by kernel_rfl) (fun _ _ _ h => h) (Or.inl ⟨by rfl, ?_⟩) ?_ ?_
          rotate_left
          · intro w'
            go_simp
            with_reducible rfl
          rotate_left
          · simp only [Act.put, List.setIfInBounds_toArray, List.set_cons_zero, List.set_cons_succ, i64_w, i32_w]
            rfl
          refine last_ (i := 21) (N := none) #[true, true, true, true, true, true, true, true, true, true, true, true, true, true, true, true, true, true, true, true, true, true] rfl rfl (by kernel_rfl) (by decide) (fun K hK => ?_)
          refine skip_ (w1 := ?_) (by rfl) rfl ?_ ?_
          rotate_left
          · go_simp
            rfl
          refine hK.out _ _ ?_
          clear hK K
          refine done_ (by kernel_rfl) ?_
          have hd9 : RSt (w5.setCell ⟨g2, j, none⟩ (.slice Av 1024 cv)) B p vS vW ⟨(syncS s.S (s.W.take k)).set j b, s.W, s.left, s.down⟩ := by
            have h1 := HDD.out
            rw [HVS.out] at h1 ⊢
            exact RSt.store (s := ⟨syncS s.S (s.W.take k), s.W, s.left, s.down⟩) h1 (show j < (syncS s.S (s.W.take k)).length by have h2 := HJS.out; have h3 := HSL.out; omega) HPA.out
          have ht9 : Turn (fun i => vS.ownBlock = some i) w0 (w5.setCell ⟨g2, j, none⟩ (.slice Av 1024 cv)) := HTA.out.trans (Turn.set (O := fun i => vS.ownBlock = some i) _ _ _ _ (by show vS.ownBlock = some g2; rw [HVS.out]; rfl)) (fun i hi => .inl hi)
          have HR1 := Lib.hid hd9
          have HT1 := Lib.hid ht9
          clear hd9 ht9 HDD HTA HPA HVS HVS2 HVW2 HSL hHeld fz hcell
          generalize w5.setCell ⟨g2, j, none⟩ (.slice Av 1024 cv) = w91 at HR1 HT1 ⊢
          go_wp2
          go_roundw
          case rel => exact ⟨k + 1, by omega, by go_num, Lib.hid (by rw [HST.out]; exact HR1.out), HT1⟩
          case measure => simp [intOf]; omega
        · have hk2 : k = s.W.length := by omega
          subst hk2
          have d : decide ((s.W.length : Int) < (s.W.length : Int)) = false := decide_eq_false (by omega)
          have hn := HR.out.nilW
          have fz := blk_frozen HR.out.blk 1
          have HN := Lib.hid (show RSt (wr.setCell ⟨p, 1, none⟩ nilS) B p vS nilS ⟨syncS s.S s.W, [], s.left, s.down⟩ by have h1 := hn.1; rw [List.take_length] at h1; exact h1)
          have HNT := Lib.hid ((HT0.out.trans HT.out (fun i hi => .inl (.inr (.inl hi)))).trans hn.2 (fun i hi => .inl hi))
          clear hn
          go_wp2
          go_ret
          exact ⟨rfl, nilS, HN.out, HNT.out, .inr rfl⟩

set_option maxHeartbeats 8000000 in
set_option maxRecDepth 20000 in
theorem crashR_calls {w0 : World} {B p : Nat} {vS vW : Value} {s : St} (h : RSt w0 B p vS vW s) (hB : B ≤ w0.heap.size) (A : Option Addr) (c : Nat) (l : List Bool) (hl : l.length ≤ c) (hC : Kd.C Kd.bool w0 A l.length l) (hO : 0 < l.length → ∀ ad, A = some ad → ad.block < w0.heap.size ∧ ¬ RO p vS vW ad.block) (tn : Int) :
    Calls Try.prog 27 #[.pointer (some ⟨p, 0, none⟩), .slice A l.length c, .int .i64 tn] w0 fun e w' => e = .returned (.tuple #[]) ∧ RSt w' B p vS nilS (crash s l tn) ∧ Turn (RO p vS vW) w0 w' := by
  have hkeep : ∀ w1, Turn (fun j => vS.ownBlock = some j) w0 w1 → ∀ k, k < l.length → ∃ ad, A = some ad ∧ w1.cell? (ad.add k) = some (.bool (l.getD k false)) := by
    intro w1 ht k hk
    obtain ⟨ad, hA, hc⟩ := C_bool hC hk
    have hb : (ad.add k).block = ad.block := by unfold Addr.add; split <;> rfl
    refine ⟨ad, hA, ?_⟩
    rw [← hc]
    exact World.cell?_of_block (by rw [hb]; exact ht.block _ (hO (by omega) ad hA).1 (fun e => (hO (by omega) ad hA).2 (.inr (.inl e))))
  obtain ⟨AW, cW, hvW⟩ := h.vW
  have HV := Lib.hid hvW
  have HK := Lib.hid hkeep
  have HD := Lib.hid h
  have HBB := Lib.hid hB
  have hll : l.length ≤ 9223372036854775807 := hC.2.1
  have hwl : s.W.length ≤ 9223372036854775807 := by obtain ⟨Sl, Wl, e1, e2, hr⟩ := h.body; rw [e2, List.length_map]; exact own_len hr.w_
  clear h hC hO hkeep hB hvW
  go_enter Try.func27, Try.ntmps27
  go_wp2
  go_loopw [6] (fun i wr => ∃ k : Nat, k ≤ s.W.length ∧ i = .int .i64 k ∧ Hid (RSt wr B p vS vW ⟨crashN l tn s.W s.S k, s.W, s.left, s.down⟩) ∧ Hid (Turn (fun j => vS.ownBlock = some j) w0 wr)) (fun i _ => s.W.length - (intOf i).toNat)
  case atStart => exact ⟨0, Nat.zero_le _, rfl, HD, Lib.hid (Turn.refl _ _)⟩
  case round =>
    obtain ⟨k, hk, rfl, HR, HT⟩ := hrel
    have kw : wr.cell? ⟨p, 1, none⟩ = some (.slice AW s.W.length cW) := by rw [← HV.out]; exact (blk_cell HR.out.blk 1).trans rfl
    by_cases hlt : k < s.W.length
    · have d : decide ((k : Int) < (s.W.length : Int)) = true := decide_eq_true (by omega)
      have q : (k : Int) < (s.W.length : Int) := by omega
      have hwr : wrap64 ((k : Int) + 1) = ((k + 1 : Nat) : Int) := by unfold wrap64; omega
      obtain ⟨_, _, j, _, _, b, _, _, _, _, hWk, hjs⟩ := HR.out.wait hlt
      have hWk' : s.W[k]? = some ((j : Int), b) := hWk
      have hstep : crashN l tn s.W s.S (k + 1) = if l.getD k false then (crashN l tn s.W s.S k).set j (if (k : Int) = tn then torn b else b) else crashN l tn s.W s.S k := by
        show cstep l tn s.W (crashN l tn s.W s.S k) k = _
        unfold cstep
        rw [hWk']
        rfl
      have HST := Lib.hid hstep
      have HWK := Lib.hid hWk'
      have HJS := Lib.hid (show j < s.S.length by have h2 : j < (crashN l tn s.W s.S k).length := hjs; rwa [crashN_len] at h2)
      clear hstep hWk hWk' hjs
      by_cases hkl : k < l.length
      · have d2 : decide ((k : Int) < (l.length : Int)) = true := decide_eq_true (by omega)
        have q2 : (k : Int) < (l.length : Int) := by omega
        obtain ⟨ad, rfl, hb0⟩ := HK.out wr HT.out k hkl
        cases hkb : l.getD k false with
        | false =>
          rw [hkb] at hb0 HST
          rw [if_neg (by decide)] at HST
          go_wp2
          go_roundw
          case rel => exact ⟨k + 1, by omega, by go_num, Lib.hid (by rw [HST.out]; exact HR.out), HT⟩
          case measure => simp [intOf]; omega
        | true =>
          rw [hkb] at hb0 HST
          rw [if_pos rfl] at HST
          go_wp2
          have hdd := HR.out.below (Below.refl _ _).drew
          have hta := HT.out.drew
          have hsl : (crashN l tn s.W s.S k).length = s.S.length := crashN_len ..
          obtain ⟨g2, c2, v0, hvS, hcell, _⟩ := hdd.page j (show j < (crashN l tn s.W s.S k).length by have := HJS.out; omega)
          obtain ⟨gw, cw, j2, Av, cv, b2, hv2, z0, z1, hpg, hWk2, hjs2⟩ := hdd.wait (show k < s.W.length from hlt)
          rw [show (St.W ⟨crashN l tn s.W s.S k, s.W, s.left, s.down⟩)[k]? = some ((j : Int), b) from HWK.out] at hWk2
          injection hWk2 with hWk2
          injection hWk2 with hj2 hb2
          have hj2' : j = j2 := Int.ofNat.inj hj2
          subst hj2'
          subst hb2
          have hvS2 : vS = .slice (some ⟨g2, 0, none⟩) s.S.length c2 := by rw [← hsl]; exact hvS
          have hvW2 : vW = .slice (some ⟨gw, 0, none⟩) s.W.length cw := hv2
          have zp : wr.drew.cell? ⟨p, 0, none⟩ = some (.slice (some ⟨g2, 0, none⟩) s.S.length c2) := by rw [← hvS2]; exact (blk_cell hdd.blk 0).trans rfl
          have zw : wr.drew.cell? ⟨p, 1, none⟩ = some (.slice (some ⟨gw, 0, none⟩) s.W.length cw) := by rw [← hvW2]; exact (blk_cell hdd.blk 1).trans rfl
          have hq0 : (0 : Int) ≤ (j : Int) := by omega
          have hq1 : (j : Int) < (s.S.length : Int) := by have := HJS.out; omega
          obtain ⟨_, cg, hgb⟩ : B ≤ g2 ∧ ∃ c, wr.drew.heap[g2]? = some (.cells c 34 (0, 0)) := by obtain ⟨_, _, _, _, hr⟩ := hdd.body; exact own_block hr.s (by rw [hvS]; rfl)
          have fz := blk_frozen hgb j
          clear HR HT hj2 hv2 hjs2
          refine start_ (n := 22) (S := fun w' => w'.cell? ⟨p, 0, none⟩ = some (.slice (some ⟨g2, 0, none⟩) s.S.length c2) ∧ w'.cell? ⟨p, 1, none⟩ = some (.slice (some ⟨gw, 0, none⟩) s.W.length cw) ∧ w'.cell? ⟨gw, k * 2, none⟩ = some (.int .i64 (j : Int)) ∧ w'.cell? ⟨gw, k * 2 + 1, none⟩ = some (.slice Av 1024 cv)) (ds := [21]) #[false, false, false, false, false, false, false, false, false, false, false, false, false, false, false, false, false, false, false, false, false, false] (by kernel_rfl) rfl rfl ⟨zp, zw, z0, z1⟩ (fun hHeld => ?_)
          generalize wr.drew = w5 at hdd hta hpg hcell fz hgb zp zw z0 z1 hHeld ⊢
          have HDD := Lib.hid hdd
          have HTA := Lib.hid hta
          have HPA := Lib.hid hpg
          have HVS := Lib.hid hvS
          have HVS2 := Lib.hid hvS2
          have HVW2 := Lib.hid hvW2
          have HSL := Lib.hid hsl
          clear hdd hta hpg hvS hgb zp zw z0 z1 hvS2 hvW2 hsl
          refine pure_ (i := 0) (N := some 26) (v := ?_) (a' := ?_) #[true, false, false, false, false, false, false, false, false, false, false, false, false, false, false, false, false, false, false, false, false, false] rfl rfl (by kernel_rfl) (fun _ _ _ h => h) (Or.inl ⟨by rfl, ?_⟩) ?_ ?_
          rotate_left
          · intro w'
            go_simp
            with_reducible rfl
          rotate_left
          · simp only [Act.put, List.setIfInBounds_toArray, List.set_cons_zero, List.set_cons_succ, i64_w, i32_w]
            rfl
          refine pure_ (i := 1) (N := some 27) (v := ?_) (a' := ?_) #[true, true, false, false, false, false, false, false, false, false, false, false, false, false, false, false, false, false, false, false, false, false] rfl rfl (by kernel_rfl) (fun _ _ _ h => h) (Or.inl ⟨by rfl, ?_⟩) ?_ ?_
          rotate_left
          · intro w'
            go_simp
            with_reducible rfl
          rotate_left
          · simp only [Act.put, List.setIfInBounds_toArray, List.set_cons_zero, List.set_cons_succ, i64_w, i32_w]
            rfl
          refine pure_ (i := 2) (N := some 28) (v := ?_) (a' := ?_) #[true, true, true, false, false, false, false, false, false, false, false, false, false, false, false, false, false, false, false, false, false, false] rfl rfl (by kernel_rfl) (fun _ _ _ h => h) (Or.inl ⟨by rfl, ?_⟩) ?_ ?_
          rotate_left
          · intro w'
            go_simp
            with_reducible rfl
          rotate_left
          · simp only [Act.put, List.setIfInBounds_toArray, List.set_cons_zero, List.set_cons_succ, i64_w, i32_w]
            rfl
          refine pure_ (i := 4) (N := some 30) (v := ?_) (a' := ?_) #[true, true, true, false, true, false, false, false, false, false, false, false, false, false, false, false, false, false, false, false, false, false] rfl rfl (by kernel_rfl) (fun _ _ _ h => h) (Or.inl ⟨by rfl, ?_⟩) ?_ ?_
          rotate_left
          · intro w'
            go_simp
            with_reducible rfl
          rotate_left
          · simp only [Act.put, List.setIfInBounds_toArray, List.set_cons_zero, List.set_cons_succ, i64_w, i32_w]
            rfl
          refine pure_ (i := 5) (N := some 31) (v := ?_) (a' := ?_) #[true, true, true, false, true, true, false, false, false, false, false, false, false, false, false, false, false, false, false, false, false, false] rfl rfl (by kernel_rfl) (fun _ _ _ h => h) (Or.inl ⟨by rfl, ?_⟩) ?_ ?_
          rotate_left
          · intro w'
            go_simp
            with_reducible rfl
          rotate_left
          · simp only [Act.put, List.setIfInBounds_toArray, List.set_cons_zero, List.set_cons_succ, i64_w, i32_w]
            rfl
          refine pure_ (i := 6) (N := some 32) (v := ?_) (a' := ?_) #[true, true, true, false, true, true, true, false, false, false, false, false, false, false, false, false, false, false, false, false, false, false] rfl rfl (by kernel_rfl) (fun _ _ _ h => h) (Or.inl ⟨by rfl, ?_⟩) ?_ ?_
          rotate_left
          · intro w'
            go_simp
            with_reducible rfl
          rotate_left
          · simp only [Act.put, List.setIfInBounds_toArray, List.set_cons_zero, List.set_cons_succ, i64_w, i32_w]
            rfl
          refine pure_ (i := 8) (N := some 34) (v := ?_) (a' := ?_) #[true, true, true, false, true, true, true, false, true, false, false, false, false, false, false, false, false, false, false, false, false, false] rfl rfl (by kernel_rfl) (fun _ _ _ h => h) (Or.inl ⟨by rfl, ?_⟩) ?_ ?_
          rotate_left
          · intro w'
            go_simp
            with_reducible rfl
          rotate_left
          · simp only [Act.put, List.setIfInBounds_toArray, List.set_cons_zero, List.set_cons_succ, i64_w, i32_w]
            rfl
          refine pure_ (i := 12) (N := some 38) (v := ?_) (a' := ?_) #[true, true, true, false, true, true, true, false, true, false, false, false, true, false, false, false, false, false, false, false, false, false] rfl rfl (by kernel_rfl) (fun _ _ _ h => h) (Or.inl ⟨by rfl, ?_⟩) ?_ ?_
          rotate_left
          · intro w'
            go_simp
            with_reducible rfl
          rotate_left
          · simp only [Act.put, List.setIfInBounds_toArray, List.set_cons_zero, List.set_cons_succ, i64_w, i32_w]
            rfl
          refine pure_ (i := 13) (N := some 39) (v := ?_) (a' := ?_) #[true, true, true, false, true, true, true, false, true, false, false, false, true, true, false, false, false, false, false, false, false, false] rfl rfl (by kernel_rfl) (fun _ _ _ h => h) (Or.inl ⟨by rfl, ?_⟩) ?_ ?_
          rotate_left
          · intro w'
            go_simp
            with_reducible rfl
          rotate_left
          · simp only [Act.put, List.setIfInBounds_toArray, List.set_cons_zero, List.set_cons_succ, i64_w, i32_w]
            rfl
          refine pure_ (i := 14) (N := some 40) (v := ?_) (a' := ?_) #[true, true, true, false, true, true, true, false, true, false, false, false, true, true, true, false, false, false, false, false, false, false] rfl rfl (by kernel_rfl) (fun _ _ _ h => h) (Or.inl ⟨by rfl, ?_⟩) ?_ ?_
          rotate_left
          · intro w'
            go_simp
            with_reducible rfl
          rotate_left
          · simp only [Act.put, List.setIfInBounds_toArray, List.set_cons_zero, List.set_cons_succ, i64_w, i32_w]
            rfl
          refine pure_ (i := 16) (N := some 42) (v := ?_) (a' := ?_) #[true, true, true, false, true, true, true, false, true, false, false, false, true, true, true, false, true, false, false, false, false, false] rfl rfl (by kernel_rfl) (fun _ _ _ h => h) (Or.inl ⟨by rfl, ?_⟩) ?_ ?_
          rotate_left
          · intro w'
            go_simp
            with_reducible rfl
          rotate_left
          · simp only [Act.put, List.setIfInBounds_toArray, List.set_cons_zero, List.set_cons_succ, i64_w, i32_w]
            rfl
          refine take_ (i := 3) (N := some 29) (v := ?_) (a' := ?_) #[true, true, true, true, true, true, true, false, true, false, false, false, true, true, true, false, true, false, false, false, false, false] rfl rfl (by kernel_rfl) (fun _ _ _ h => h) (Or.inl ⟨by rfl, ?_⟩) hHeld ?_ ?_
          rotate_left
          · rintro w' ⟨s0, s1, s2, s3⟩
            go_simp
            with_reducible rfl
          rotate_left
          · simp only [Act.put, List.setIfInBounds_toArray, List.set_cons_zero, List.set_cons_succ, i64_w, i32_w]
            rfl
          refine take_ (i := 7) (N := some 33) (v := ?_) (a' := ?_) #[true, true, true, true, true, true, true, true, true, false, false, false, true, true, true, false, true, false, false, false, false, false] rfl rfl (by kernel_rfl) (fun _ _ _ h => h) (Or.inl ⟨by rfl, ?_⟩) hHeld ?_ ?_
          rotate_left
          · rintro w' ⟨s0, s1, s2, s3⟩
            go_simp
            with_reducible rfl
          rotate_left
          · simp only [Act.put, List.setIfInBounds_toArray, List.set_cons_zero, List.set_cons_succ, i64_w, i32_w]
            rfl
          refine pure_ (i := 9) (N := some 35) (v := ?_) (a' := ?_) #[true, true, true, true, true, true, true, true, true, true, false, false, true, true, true, false, true, false, false, false, false, false] rfl rfl (by kernel_rfl) (fun _ _ _ h => h) (Or.inl ⟨by rfl, ?_⟩) ?_ ?_
          rotate_left
          · intro w'
            go_simp
            with_reducible rfl
          rotate_left
          · simp only [Act.put, List.setIfInBounds_toArray, List.set_cons_zero, List.set_cons_succ, i64_w, i32_w]
            rfl
          refine pure_ (i := 10) (N := some 36) (v := ?_) (a' := ?_) #[true, true, true, true, true, true, true, true, true, true, true, false, true, true, true, false, true, false, false, false, false, false] rfl rfl (by kernel_rfl) (fun _ _ _ h => h) (Or.inl ⟨by rfl, ?_⟩) ?_ ?_
          rotate_left
          · intro w'
            go_simp
            with_reducible rfl
          rotate_left
          · simp only [Act.put, List.setIfInBounds_toArray, List.set_cons_zero, List.set_cons_succ, i64_w, i32_w]
            rfl
          refine take_ (i := 11) (N := some 37) (v := ?_) (a' := ?_) #[true, true, true, true, true, true, true, true, true, true, true, true, true, true, true, false, true, false, false, false, false, false] rfl rfl (by kernel_rfl) (fun _ _ _ h => h) (Or.inl ⟨by rfl, ?_⟩) hHeld ?_ ?_
          rotate_left
          · rintro w' ⟨s0, s1, s2, s3⟩
            go_simp
            with_reducible rfl
          rotate_left
          · simp only [Act.put, List.setIfInBounds_toArray, List.set_cons_zero, List.set_cons_succ, i64_w, i32_w]
            rfl
          refine take_ (i := 15) (N := some 41) (v := ?_) (a' := ?_) #[true, true, true, true, true, true, true, true, true, true, true, true, true, true, true, true, true, false, false, false, false, false] rfl rfl (by kernel_rfl) (fun _ _ _ h => h) (Or.inl ⟨by rfl, ?_⟩) hHeld ?_ ?_
          rotate_left
          · rintro w' ⟨s0, s1, s2, s3⟩
            go_simp
            with_reducible rfl
          rotate_left
          · simp only [Act.put, List.setIfInBounds_toArray, List.set_cons_zero, List.set_cons_succ, i64_w, i32_w]
            rfl
          refine pure_ (i := 17) (N := some 43) (v := ?_) (a' := ?_) #[true, true, true, true, true, true, true, true, true, true, true, true, true, true, true, true, true, true, false, false, false, false] rfl rfl (by kernel_rfl) (fun _ _ _ h => h) (Or.inl ⟨by rfl, ?_⟩) ?_ ?_
          rotate_left
          · intro w'
            go_simp
            with_reducible rfl
          rotate_left
          · simp only [Act.put, List.setIfInBounds_toArray, List.set_cons_zero, List.set_cons_succ, i64_w, i32_w]
            rfl
          refine pure_ (i := 18) (N := some 44) (v := ?_) (a' := ?_) #[true, true, true, true, true, true, true, true, true, true, true, true, true, true, true, true, true, true, true, false, false, false] rfl rfl (by kernel_rfl) (fun _ _ _ h => h) (Or.inl ⟨by rfl, ?_⟩) ?_ ?_
          rotate_left
          · intro w'
            go_simp
            with_reducible rfl
          rotate_left
          · simp only [Act.put, List.setIfInBounds_toArray, List.set_cons_zero, List.set_cons_succ, i64_w, i32_w]
            rfl
          refine take_ (i := 19) (N := some 45) (v := ?_) (a' := ?_) #[true, true, true, true, true, true, true, true, true, true, true, true, true, true, true, true, true, true, true, true, false, false] rfl rfl (by kernel_rfl) (fun _ _ _ h => h) (Or.inl ⟨by rfl, ?_⟩) hHeld ?_ ?_
          rotate_left
          · rintro w' ⟨s0, s1, s2, s3⟩
            go_simp
            with_reducible rfl
          rotate_left
          · simp only [Act.put, List.setIfInBounds_toArray, List.set_cons_zero, List.set_cons_succ, i64_w, i32_w]
            rfl
          refine pure_ (i := 20) (N := some 46) (v := ?_) (a' := ?_) #[true, true, true, true, true, true, true, true, true, true, true, true, true, true, true, true, true, true, true, true, true, false] rfl rfl (by kernel_rfl) (fun _ _ _ h => h) (Or.inl ⟨by rfl, ?_⟩) ?_ ?_
          rotate_left
          · intro w'
            go_simp
            with_reducible rfl
          rotate_left
          · simp only [Act.put, List.setIfInBounds_toArray, List.set_cons_zero, List.set_cons_succ, i64_w, i32_w]
            rfl
          refine last_ (i := 21) (N := none) #[true, true, true, true, true, true, true, true, true, true, true, true, true, true, true, true, true, true, true, true, true, true] rfl rfl (by kernel_rfl) (by decide) (fun K hK => ?_)
          refine skip_ (w1 := ?_) (by rfl) rfl ?_ ?_
          rotate_left
          · go_simp
            rfl
          refine hK.out _ _ ?_
          clear hK K
          refine done_ (by kernel_rfl) ?_
          have hd9 : RSt (w5.setCell ⟨g2, j, none⟩ (.slice Av 1024 cv)) B p vS vW ⟨(crashN l tn s.W s.S k).set j b, s.W, s.left, s.down⟩ := by
            have h1 := HDD.out
            rw [HVS.out] at h1 ⊢
            exact RSt.store (s := ⟨crashN l tn s.W s.S k, s.W, s.left, s.down⟩) h1 (show j < (crashN l tn s.W s.S k).length by have h2 := HJS.out; have h3 := HSL.out; omega) HPA.out
          have ht9 : Turn (fun i => vS.ownBlock = some i) w0 (w5.setCell ⟨g2, j, none⟩ (.slice Av 1024 cv)) := HTA.out.trans (Turn.set (O := fun i => vS.ownBlock = some i) _ _ _ _ (by show vS.ownBlock = some g2; rw [HVS.out]; rfl)) (fun i hi => .inl hi)
          have HR1 := Lib.hid hd9
          have HT1 := Lib.hid ht9
          clear hd9 ht9 HDD HTA HPA HVS HVS2 HVW2 HSL hHeld fz hcell
          generalize w5.setCell ⟨g2, j, none⟩ (.slice Av 1024 cv) = w91 at HR1 HT1 ⊢
          by_cases hkt : (k : Int) = tn
          · rw [if_pos hkt] at HST
            have hbe : ((k : Int) == tn) = true := beq_iff_eq.2 hkt
            clear hkt
            go_wp2
            have hdd := HR1.out.below (Below.refl _ _).drew
            have hta := HT1.out.drew
            have hsl : ((crashN l tn s.W s.S k).set j b).length = s.S.length := by rw [List.length_set]; exact crashN_len ..
            obtain ⟨g2, c2, v0, hvS, hcell, _⟩ := hdd.page j (show j < ((crashN l tn s.W s.S k).set j b).length by have := HJS.out; omega)
            obtain ⟨gw, cw, j2, Av, cv, b2, hv2, z0, z1, hpg, hWk2, hjs2⟩ := hdd.wait (show k < s.W.length from hlt)
            rw [show (St.W ⟨(crashN l tn s.W s.S k).set j b, s.W, s.left, s.down⟩)[k]? = some ((j : Int), b) from HWK.out] at hWk2
            injection hWk2 with hWk2
            injection hWk2 with hj2 hb2
            have hj2' : j = j2 := Int.ofNat.inj hj2
            subst hj2'
            subst hb2
            have hvS2 : vS = .slice (some ⟨g2, 0, none⟩) s.S.length c2 := by rw [← hsl]; exact hvS
            have hvW2 : vW = .slice (some ⟨gw, 0, none⟩) s.W.length cw := hv2
            have zp : w91.drew.cell? ⟨p, 0, none⟩ = some (.slice (some ⟨g2, 0, none⟩) s.S.length c2) := by rw [← hvS2]; exact (blk_cell hdd.blk 0).trans rfl
            have zw : w91.drew.cell? ⟨p, 1, none⟩ = some (.slice (some ⟨gw, 0, none⟩) s.W.length cw) := by rw [← hvW2]; exact (blk_cell hdd.blk 1).trans rfl
            have hq0 : (0 : Int) ≤ (j : Int) := by omega
            have hq1 : (j : Int) < (s.S.length : Int) := by have := HJS.out; omega
            obtain ⟨_, cg, hgb⟩ : B ≤ g2 ∧ ∃ c, w91.drew.heap[g2]? = some (.cells c 34 (0, 0)) := by obtain ⟨_, _, _, _, hr⟩ := hdd.body; exact own_block hr.s (by rw [hvS]; rfl)
            have fz := blk_frozen hgb j
            clear HR1 HT1 hj2 hv2 hjs2
            refine start_ (n := 23) (S := fun w' => w'.cell? ⟨p, 0, none⟩ = some (.slice (some ⟨g2, 0, none⟩) s.S.length c2) ∧ w'.cell? ⟨p, 1, none⟩ = some (.slice (some ⟨gw, 0, none⟩) s.W.length cw) ∧ w'.cell? ⟨gw, k * 2, none⟩ = some (.int .i64 (j : Int)) ∧ w'.cell? ⟨gw, k * 2 + 1, none⟩ = some (.slice Av 1024 cv)) (ds := [22]) #[false, false, false, false, false, false, false, false, false, false, false, false, false, false, false, false, false, false, false, false, false, false, false] (by kernel_rfl) rfl rfl ⟨zp, zw, z0, z1⟩ (fun hHeld => ?_)
            generalize w91.drew = w5 at hdd hta hpg hcell fz hgb zp zw z0 z1 hHeld ⊢
            have HDD := Lib.hid hdd
            have HTA := Lib.hid hta
            have HPA := Lib.hid hpg
            have HVS := Lib.hid hvS
            have HVS2 := Lib.hid hvS2
            have HVW2 := Lib.hid hvW2
            have HSL := Lib.hid hsl
            clear hdd hta hpg hvS hgb zp zw z0 z1 hvS2 hvW2 hsl
            clear hcell fz
            refine pure_ (i := 0) (N := some 50) (v := ?_) (a' := ?_) #[true, false, false, false, false, false, false, false, false, false, false, false, false, false, false, false, false, false, false, false, false, false, false] rfl rfl (by kernel_rfl) (fun _ _ _ h => h) (Or.inl ⟨by rfl, ?_⟩) ?_ ?_
            rotate_left
            · intro w'
              go_simp
              with_reducible rfl
            rotate_left
            · simp only [Act.put, List.setIfInBounds_toArray, List.set_cons_zero, List.set_cons_succ, i64_w, i32_w]
              rfl
            refine pure_ (i := 1) (N := some 51) (v := ?_) (a' := ?_) #[true, true, false, false, false, false, false, false, false, false, false, false, false, false, false, false, false, false, false, false, false, false, false] rfl rfl (by kernel_rfl) (fun _ _ _ h => h) (Or.inl ⟨by rfl, ?_⟩) ?_ ?_
            rotate_left
            · intro w'
              go_simp
              with_reducible rfl
            rotate_left
            · simp only [Act.put, List.setIfInBounds_toArray, List.set_cons_zero, List.set_cons_succ, i64_w, i32_w]
              rfl
            refine pure_ (i := 2) (N := some 52) (v := ?_) (a' := ?_) #[true, true, true, false, false, false, false, false, false, false, false, false, false, false, false, false, false, false, false, false, false, false, false] rfl rfl (by kernel_rfl) (fun _ _ _ h => h) (Or.inl ⟨by rfl, ?_⟩) ?_ ?_
            rotate_left
            · intro w'
              go_simp
              with_reducible rfl
            rotate_left
            · simp only [Act.put, List.setIfInBounds_toArray, List.set_cons_zero, List.set_cons_succ, i64_w, i32_w]
              rfl
            refine pure_ (i := 4) (N := some 54) (v := ?_) (a' := ?_) #[true, true, true, false, true, false, false, false, false, false, false, false, false, false, false, false, false, false, false, false, false, false, false] rfl rfl (by kernel_rfl) (fun _ _ _ h => h) (Or.inl ⟨by rfl, ?_⟩) ?_ ?_
            rotate_left
            · intro w'
              go_simp
              with_reducible rfl
            rotate_left
            · simp only [Act.put, List.setIfInBounds_toArray, List.set_cons_zero, List.set_cons_succ, i64_w, i32_w]
              rfl
            refine pure_ (i := 5) (N := some 55) (v := ?_) (a' := ?_) #[true, true, true, false, true, true, false, false, false, false, false, false, false, false, false, false, false, false, false, false, false, false, false] rfl rfl (by kernel_rfl) (fun _ _ _ h => h) (Or.inl ⟨by rfl, ?_⟩) ?_ ?_
            rotate_left
            · intro w'
              go_simp
              with_reducible rfl
            rotate_left
            · simp only [Act.put, List.setIfInBounds_toArray, List.set_cons_zero, List.set_cons_succ, i64_w, i32_w]
              rfl
            refine pure_ (i := 6) (N := some 56) (v := ?_) (a' := ?_) #[true, true, true, false, true, true, true, false, false, false, false, false, false, false, false, false, false, false, false, false, false, false, false] rfl rfl (by kernel_rfl) (fun _ _ _ h => h) (Or.inl ⟨by rfl, ?_⟩) ?_ ?_
            rotate_left
            · intro w'
              go_simp
              with_reducible rfl
            rotate_left
            · simp only [Act.put, List.setIfInBounds_toArray, List.set_cons_zero, List.set_cons_succ, i64_w, i32_w]
              rfl
            refine pure_ (i := 8) (N := some 58) (v := ?_) (a' := ?_) #[true, true, true, false, true, true, true, false, true, false, false, false, false, false, false, false, false, false, false, false, false, false, false] rfl rfl (by kernel_rfl) (fun _ _ _ h => h) (Or.inl ⟨by rfl, ?_⟩) ?_ ?_
            rotate_left
            · intro w'
              go_simp
              with_reducible rfl
            rotate_left
            · simp only [Act.put, List.setIfInBounds_toArray, List.set_cons_zero, List.set_cons_succ, i64_w, i32_w]
              rfl
            refine pure_ (i := 12) (N := some 62) (v := ?_) (a' := ?_) #[true, true, true, false, true, true, true, false, true, false, false, false, true, false, false, false, false, false, false, false, false, false, false] rfl rfl (by kernel_rfl) (fun _ _ _ h => h) (Or.inl ⟨by rfl, ?_⟩) ?_ ?_
            rotate_left
            · intro w'
              go_simp
              with_reducible rfl
            rotate_left
            · simp only [Act.put, List.setIfInBounds_toArray, List.set_cons_zero, List.set_cons_succ, i64_w, i32_w]
              rfl
            refine pure_ (i := 13) (N := some 63) (v := ?_) (a' := ?_) #[true, true, true, false, true, true, true, false, true, false, false, false, true, true, false, false, false, false, false, false, false, false, false] rfl rfl (by kernel_rfl) (fun _ _ _ h => h) (Or.inl ⟨by rfl, ?_⟩) ?_ ?_
            rotate_left
            · intro w'
              go_simp
              with_reducible rfl
            rotate_left
            · simp only [Act.put, List.setIfInBounds_toArray, List.set_cons_zero, List.set_cons_succ, i64_w, i32_w]
              rfl
            refine pure_ (i := 14) (N := some 64) (v := ?_) (a' := ?_) #[true, true, true, false, true, true, true, false, true, false, false, false, true, true, true, false, false, false, false, false, false, false, false] rfl rfl (by kernel_rfl) (fun _ _ _ h => h) (Or.inl ⟨by rfl, ?_⟩) ?_ ?_
            rotate_left
            · intro w'
              go_simp
              with_reducible rfl
            rotate_left
            · simp only [Act.put, List.setIfInBounds_toArray, List.set_cons_zero, List.set_cons_succ, i64_w, i32_w]
              rfl
            refine pure_ (i := 16) (N := some 66) (v := ?_) (a' := ?_) #[true, true, true, false, true, true, true, false, true, false, false, false, true, true, true, false, true, false, false, false, false, false, false] rfl rfl (by kernel_rfl) (fun _ _ _ h => h) (Or.inl ⟨by rfl, ?_⟩) ?_ ?_
            rotate_left
            · intro w'
              go_simp
              with_reducible rfl
            rotate_left
            · simp only [Act.put, List.setIfInBounds_toArray, List.set_cons_zero, List.set_cons_succ, i64_w, i32_w]
              rfl
            refine take_ (i := 3) (N := some 53) (v := ?_) (a' := ?_) #[true, true, true, true, true, true, true, false, true, false, false, false, true, true, true, false, true, false, false, false, false, false, false] rfl rfl (by kernel_rfl) (fun _ _ _ h => h) (Or.inl ⟨by rfl, ?_⟩) hHeld ?_ ?_
            rotate_left
            · rintro w' ⟨s0, s1, s2, s3⟩
              go_simp
              with_reducible rfl
            rotate_left
            · simp only [Act.put, List.setIfInBounds_toArray, List.set_cons_zero, List.set_cons_succ, i64_w, i32_w]
              rfl
            refine take_ (i := 7) (N := some 57) (v := ?_) (a' := ?_) #[true, true, true, true, true, true, true, true, true, false, false, false, true, true, true, false, true, false, false, false, false, false, false] rfl rfl (by kernel_rfl) (fun _ _ _ h => h) (Or.inl ⟨by rfl, ?_⟩) hHeld ?_ ?_
            rotate_left
            · rintro w' ⟨s0, s1, s2, s3⟩
              go_simp
              with_reducible rfl
            rotate_left
            · simp only [Act.put, List.setIfInBounds_toArray, List.set_cons_zero, List.set_cons_succ, i64_w, i32_w]
              rfl
            refine pure_ (i := 9) (N := some 59) (v := ?_) (a' := ?_) #[true, true, true, true, true, true, true, true, true, true, false, false, true, true, true, false, true, false, false, false, false, false, false] rfl rfl (by kernel_rfl) (fun _ _ _ h => h) (Or.inl ⟨by rfl, ?_⟩) ?_ ?_
            rotate_left
            · intro w'
              go_simp
              with_reducible rfl
            rotate_left
            · simp only [Act.put, List.setIfInBounds_toArray, List.set_cons_zero, List.set_cons_succ, i64_w, i32_w]
              rfl
            refine pure_ (i := 10) (N := some 60) (v := ?_) (a' := ?_) #[true, true, true, true, true, true, true, true, true, true, true, false, true, true, true, false, true, false, false, false, false, false, false] rfl rfl (by kernel_rfl) (fun _ _ _ h => h) (Or.inl ⟨by rfl, ?_⟩) ?_ ?_
            rotate_left
            · intro w'
              go_simp
              with_reducible rfl
            rotate_left
            · simp only [Act.put, List.setIfInBounds_toArray, List.set_cons_zero, List.set_cons_succ, i64_w, i32_w]
              rfl
            refine take_ (i := 11) (N := some 61) (v := ?_) (a' := ?_) #[true, true, true, true, true, true, true, true, true, true, true, true, true, true, true, false, true, false, false, false, false, false, false] rfl rfl (by kernel_rfl) (fun _ _ _ h => h) (Or.inl ⟨by rfl, ?_⟩) hHeld ?_ ?_
            rotate_left
            · rintro w' ⟨s0, s1, s2, s3⟩
              go_simp
              with_reducible rfl
            rotate_left
            · simp only [Act.put, List.setIfInBounds_toArray, List.set_cons_zero, List.set_cons_succ, i64_w, i32_w]
              rfl
            refine take_ (i := 15) (N := some 65) (v := ?_) (a' := ?_) #[true, true, true, true, true, true, true, true, true, true, true, true, true, true, true, true, true, false, false, false, false, false, false] rfl rfl (by kernel_rfl) (fun _ _ _ h => h) (Or.inl ⟨by rfl, ?_⟩) hHeld ?_ ?_
            rotate_left
            · rintro w' ⟨s0, s1, s2, s3⟩
              go_simp
              with_reducible rfl
            rotate_left
            · simp only [Act.put, List.setIfInBounds_toArray, List.set_cons_zero, List.set_cons_succ, i64_w, i32_w]
              rfl
            refine pure_ (i := 17) (N := some 67) (v := ?_) (a' := ?_) #[true, true, true, true, true, true, true, true, true, true, true, true, true, true, true, true, true, true, false, false, false, false, false] rfl rfl (by kernel_rfl) (fun _ _ _ h => h) (Or.inl ⟨by rfl, ?_⟩) ?_ ?_
            rotate_left
            · intro w'
              go_simp
              with_reducible rfl
            rotate_left
            · simp only [Act.put, List.setIfInBounds_toArray, List.set_cons_zero, List.set_cons_succ, i64_w, i32_w]
              rfl
            refine pure_ (i := 18) (N := some 68) (v := ?_) (a' := ?_) #[true, true, true, true, true, true, true, true, true, true, true, true, true, true, true, true, true, true, true, false, false, false, false] rfl rfl (by kernel_rfl) (fun _ _ _ h => h) (Or.inl ⟨by rfl, ?_⟩) ?_ ?_
            rotate_left
            · intro w'
              go_simp
              with_reducible rfl
            rotate_left
            · simp only [Act.put, List.setIfInBounds_toArray, List.set_cons_zero, List.set_cons_succ, i64_w, i32_w]
              rfl
            refine take_ (i := 19) (N := some 69) (v := ?_) (a' := ?_) #[true, true, true, true, true, true, true, true, true, true, true, true, true, true, true, true, true, true, true, true, false, false, false] rfl rfl (by kernel_rfl) (fun _ _ _ h => h) (Or.inl ⟨by rfl, ?_⟩) hHeld ?_ ?_
            rotate_left
            · rintro w' ⟨s0, s1, s2, s3⟩
              go_simp
              with_reducible rfl
            rotate_left
            · simp only [Act.put, List.setIfInBounds_toArray, List.set_cons_zero, List.set_cons_succ, i64_w, i32_w]
              rfl
            refine one_ (i := 20) (N := some 70) #[true, true, true, true, true, true, true, true, true, true, true, true, true, true, true, true, true, true, true, true, true, false, false] rfl rfl (by kernel_rfl) (by decide) (fun K hK => ?_)
            refine goes_ Try.func36 (by kernel_rfl) rfl #[.slice Av 1024 cv] (by rfl) rfl rfl (by simp only [List.map_toArray, List.map_cons, List.map_nil]; rfl) ?_
            with_reducible refine (tornR_pg HPA.out _ (Below.refl _ _)).mono ?_
            rintro e w7 ⟨v7, rfl, hm7, hb7⟩
            refine ⟨_, rfl, ?_⟩
            have hp7 := Pg.of_R (B := B) hm7 (by rw [torn_len]; exact HPA.out.1) (torn_isB HPA.out.2.1) (by have h1 := HTA.out.size; have h2 := HBB.out; omega)
            obtain ⟨A7, c7, rfl⟩ := Kd.R_slice hm7
            rw [torn_len, HPA.out.1] at hp7
            have HP7 := Lib.hid hp7
            have hd7 := HDD.out.below hb7
            have HD7 := Lib.hid hd7
            have HT7 := Lib.hid (HTA.out.then_below hb7)
            have zp7 : w7.cell? ⟨p, 0, none⟩ = some (.slice (some ⟨g2, 0, none⟩) s.S.length c2) := by rw [← HVS2.out]; exact (blk_cell hd7.blk 0).trans rfl
            have zw7 : w7.cell? ⟨p, 1, none⟩ = some (.slice (some ⟨gw, 0, none⟩) s.W.length cw) := by rw [← HVW2.out]; exact (blk_cell hd7.blk 1).trans rfl
            obtain ⟨_, cg7, hgb7⟩ : B ≤ g2 ∧ ∃ c, w7.heap[g2]? = some (.cells c 34 (0, 0)) := by obtain ⟨_, _, _, _, hr⟩ := hd7.body; exact own_block hr.s (by rw [HVS.out]; rfl)
            have fz7 := blk_frozen hgb7 j
            obtain ⟨g4, c4, v4, hvS4, hcell7, _⟩ := hd7.page j (show j < ((crashN l tn s.W s.S k).set j b).length by have h1 := HJS.out; have h2 := HSL.out; omega)
            rw [HVS.out] at hvS4
            injection hvS4 with hg4 _ _
            injection hg4 with hg4
            injection hg4 with hg4 _ _
            subst hg4
            obtain ⟨gw3, cw3, j3, A3, cv3, b3, hv3, z30, z31, _, hWk3, _⟩ := hd7.wait (show k < s.W.length from hlt)
            rw [show (St.W ⟨(crashN l tn s.W s.S k).set j b, s.W, s.left, s.down⟩)[k]? = some ((j : Int), b) from HWK.out] at hWk3
            injection hWk3 with hWk3
            injection hWk3 with hj3 hb3
            have hv3' : vW = .slice (some ⟨gw3, 0, none⟩) s.W.length cw3 := hv3
            rw [HVW2.out] at hv3'
            injection hv3' with hg3 _ _
            injection hg3 with hg3
            injection hg3 with hg3 _ _
            subst hg3
            rw [← hj3] at z30
            have z70 := z30
            have z71 : w7.cell? ⟨gw, k * 2 + 1, none⟩ = some (.slice Av 1024 cv) := (hb7.cell (World.block_lt_of_cell? w5 _ (by have := hHeld; exact hHeld.2.2.2))).trans hHeld.2.2.2
            clear hm7 hb7 hp7 hd7 hgb7 z31 hj3 hb3 hv3 z30
            refine hK.out _ _ ⟨zp7, zw7, z70, z71⟩ (fun hHeld => ?_)
            clear hK K
            refine norm_ (a' := ?_) ?_ ?_
            rotate_left
            · show Act.put _ (some 70) _ = _
              simp only [Act.put, List.setIfInBounds_toArray, List.set_cons_zero, List.set_cons_succ, i64_w, i32_w]
              rfl
            refine pure_ (i := 21) (N := some 71) (v := ?_) (a' := ?_) #[true, true, true, true, true, true, true, true, true, true, true, true, true, true, true, true, true, true, true, true, true, true, false] rfl rfl (by kernel_rfl) (fun _ _ _ h => h) (Or.inl ⟨by rfl, ?_⟩) ?_ ?_
            rotate_left
            · intro w'
              go_simp
              with_reducible rfl
            rotate_left
            · simp only [Act.put, List.setIfInBounds_toArray, List.set_cons_zero, List.set_cons_succ, i64_w, i32_w]
              rfl
            refine last_ (i := 22) (N := none) #[true, true, true, true, true, true, true, true, true, true, true, true, true, true, true, true, true, true, true, true, true, true, true] rfl rfl (by kernel_rfl) (by decide) (fun K hK => ?_)
            refine skip_ (w1 := ?_) (by rfl) rfl ?_ ?_
            rotate_left
            · go_simp
              rfl
            refine hK.out _ _ ?_
            clear hK K
            refine done_ (by kernel_rfl) ?_
            rw [torn_len, HPA.out.1]
            have hd9 : RSt (w7.setCell ⟨g2, j, none⟩ (.slice A7 1024 c7)) B p vS vW ⟨((crashN l tn s.W s.S k).set j b).set j (torn b), s.W, s.left, s.down⟩ := by
              have h1 := HD7.out
              rw [HVS.out] at h1 ⊢
              exact RSt.store (s := ⟨(crashN l tn s.W s.S k).set j b, s.W, s.left, s.down⟩) h1 (show j < ((crashN l tn s.W s.S k).set j b).length by have h2 := HJS.out; have h3 := HSL.out; omega) HP7.out
            have ht9 : Turn (fun i => vS.ownBlock = some i) w0 (w7.setCell ⟨g2, j, none⟩ (.slice A7 1024 c7)) := HT7.out.trans (Turn.set (O := fun i => vS.ownBlock = some i) _ _ _ _ (by show vS.ownBlock = some g2; rw [HVS.out]; rfl)) (fun i hi => .inl hi)
            have HR2 := Lib.hid hd9
            have HT2 := Lib.hid ht9
            clear hd9 ht9 HDD HTA HPA HVS HVS2 HVW2 HSL hHeld HD7 HT7 HP7 fz7 hcell7 zp7 zw7 z70 z71
            generalize w7.setCell ⟨g2, j, none⟩ (.slice A7 1024 c7) = w92 at HR2 HT2 ⊢
            go_wp2
            go_roundw
            case rel => exact ⟨k + 1, by omega, by go_num, Lib.hid (by rw [HST.out]; have h1 := HR2.out; rw [List.set_set] at h1; exact h1), HT2⟩
            case measure => simp [intOf]; omega
          · rw [if_neg hkt] at HST
            have hbe : ((k : Int) == tn) = false := beq_eq_false_iff_ne.2 hkt
            go_wp2
            go_roundw
            case rel => exact ⟨k + 1, by omega, by go_num, Lib.hid (by rw [HST.out]; exact HR1.out), HT1⟩
            case measure => simp [intOf]; omega
      · have d2 : decide ((k : Int) < (l.length : Int)) = false := decide_eq_false (by omega)
        have hkb : l.getD k false = false := by rw [List.getD_eq_getElem?_getD, List.getElem?_eq_none (by omega)]; rfl
        rw [hkb, if_neg (by decide)] at HST
        go_wp2
        go_roundw
        case rel => exact ⟨k + 1, by omega, by go_num, Lib.hid (by rw [HST.out]; exact HR.out), HT⟩
        case measure => simp [intOf]; omega
    · have hk2 : k = s.W.length := by omega
      subst hk2
      have d : decide ((s.W.length : Int) < (s.W.length : Int)) = false := decide_eq_false (by omega)
      have hn := HR.out.nilW
      have f1 := blk_frozen HR.out.blk 1
      have hb2 := hn.1.blk
      have z2 : (wr.setCell ⟨p, 1, none⟩ nilS).cell? ⟨p, 2, none⟩ = some (.int .i64 s.left) := (blk_cell hb2 2).trans rfl
      have f2 := blk_frozen hb2 2
      have h2 := hn.1.set2 0 (by omega)
      have z3 : ((wr.setCell ⟨p, 1, none⟩ nilS).setCell ⟨p, 2, none⟩ (.int .i64 0)).cell? ⟨p, 3, none⟩ = some (.bool s.down) := (blk_cell h2.blk 3).trans rfl
      have f3 := blk_frozen h2.blk 3
      have h3 := h2.set3 false
      have HN := Lib.hid h3
      have HNT := Lib.hid (((HT.out.mono (O' := RO p vS vW) (fun i hi _ => .inr (.inl hi))).trans hn.2 (fun i hi => .inl hi)).trans ((Turn.set (O := RO p vS vW) _ p 2 (.int .i64 0) (.inl rfl)).trans (Turn.set (O := RO p vS vW) _ p 3 (.bool false) (.inl rfl)) (fun i hi => .inl hi)) (fun i hi => .inl hi))
      clear hn hb2 h2 h3 HR HT
      go_wp2
      go_end0
      exact ⟨rfl, HN.out, HNT.out⟩
end Go.Proofs.Ytblacdnndchghaa.D
