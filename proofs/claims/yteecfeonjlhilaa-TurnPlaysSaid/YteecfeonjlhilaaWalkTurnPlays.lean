/- TurnPlays: whoever wants and leaves: each answer, the first, and all who wait, are what the document says. The law's guard: 200 steps are gone through. -/
import Derived.Test.YteecfeonjlhilaaTurnAwake
import Derived.Test.YteecfeonjlhilaaPDox0
import Derived.Test.YteecfeonjlhilaaPAllx1
import Derived.Test.YteecfeonjlhilaaReads
namespace Go.Proofs.Yteecfeonjlhilaa.Walk
open Go.RowKit Go.Proofs.YteecfeonjlhilaaW.PrintWords Go.Proofs.YteecfeonjlhilaaW.PrintLast Go.Proofs.YteecfeonjlhilaaW.PrintMore Go.Proofs.Yteecfeonjlhilaa.Math Go.Proofs.Yteecfeonjlhilaa.Q Go.Proofs.Yteecfeonjlhilaa.PDo Go.Proofs.Yteecfeonjlhilaa.PAll
set_option linter.unusedVariables false
set_option linter.unusedSimpArgs false

theorem ints_same (xs : List Int) (hx : xs.length ≤ 1000) : ∀ (d i k : Nat), i + d = xs.length → d < k → cambiumref05_Ints.l0 k xs xs (i : Int) = some true := by
  intro d
  induction d with
  | zero =>
    intro i k hi hk
    obtain ⟨k, rfl⟩ : ∃ m, k = m + 1 := ⟨k - 1, by omega⟩
    rw [cambiumref05_Ints.l0, if_neg (by omega)]
  | succ d ih =>
    intro i k hi hk
    obtain ⟨k, rfl⟩ : ∃ m, k = m + 1 := ⟨k - 1, by omega⟩
    rw [cambiumref05_Ints.l0, if_pos (by omega), if_pos (by omega), if_pos (by omega), if_pos rfl, wrap_id (by omega) (by omega)]
    have := ih (i + 1) k (by omega) (by omega)
    simpa using this
theorem ints_true (xs : List Int) (hx : xs.length ≤ 1000) : cambiumref05_Ints.f 2000 xs xs = some true := by
  unfold cambiumref05_Ints.f
  rw [if_pos rfl]
  exact ints_same xs hx xs.length 0 2000 (by omega) (by omega)

/-- Both queues hold the same numbers. -/
structure PSt (W w : World) (p : Nat) (xs : List Int) : Prop where
  q : QSt 41 W w (fun k => p + 1 < k) p xs
  r : QSt 29 W w (fun k => p + 1 < k) (p + 1) xs

theorem PSt.next {W w w1 : World} {p : Nat} {xs : List Int} (h : PSt W w p xs) (hb : Below w.heap.size w w1) : PSt W w1 p xs := ⟨h.q.next hb, h.r.next hb⟩

set_option maxHeartbeats 8000000 in
set_option maxRecDepth 20000 in
theorem TurnPlays (W : World) (A : Option Addr) (c : Nat) (l : List S31) (hl : l.length ≤ c) (hc : Kd.C k31 W A l.length l)
    (hg : (∀ x ∈ l, Go.Proofs.Yteecfeonjlhilaa.Open.G31 x) ∧ l.length * 16 ≤ 140737488351232) :
    Calls Try.prog 3 #[.slice A l.length c] W fun e w' => e = .returned (.bool true) ∧ Below W.heap.size W w' := by
  have hn := hc.2.1
  have HC := Lib.hid hc
  clear hg hl hc
  go_enter Try.func3, Try.ntmps3
  go_wp2_with fail
  refine (awake_calls _).mono ?_
  rintro e w1 ⟨rfl, hb⟩
  go_wp2_with fail
  refine (new_calls w1).mono ?_
  rintro e w2 ⟨rfl, hq1, hq2, hq3⟩
  have hs : PSt W (w2.alloc (.cells #[.slice none 0 0] 29)) w1.heap.size [] := by
    have hb2 := below_alloc (below_step hb hq3) (.cells #[.slice none 0 0] 29)
    have hn1 := heap_alloc_new w2 (.cells #[.slice none 0 0] 29)
    rw [hq2] at hn1
    exact ⟨⟨At_new (blk_alloc hq1 _), hb2, fun k hk => by simp [hq2] at hk; omega, by omega, hb.size⟩, ⟨At_new hn1, hb2, fun k hk => by simp [hq2] at hk; omega, by omega, by have := hb.size; omega⟩⟩
  have HS0 := Lib.hid hs
  have HQ2 := Lib.hid hq2
  clear hs hb hq1 hq2 hq3
  go_wp2
  rw [HQ2.out]
  generalize hp : w1.heap.size = p at HS0 HQ2 ⊢
  clear HQ2 hp
  go_loopw [5] (fun i wr => ∃ (k : Nat) (xs : List Int), k ≤ l.length ∧ k ≤ 200 ∧ i = .int .i64 k ∧ xs.length ≤ k ∧ Hid (PSt W wr p xs)) (fun i _ => 200 - (intOf i).toNat)
  case atStart => exact ⟨0, [], by omega, by omega, rfl, by simp, HS0⟩
  case round =>
    clear HS0
    obtain ⟨k, xs, hk, hk200, rfl, hlen, HS⟩ := hrel
    by_cases hlt : k < l.length ∧ k < 200
    · obtain ⟨hlt, hlt200⟩ := hlt
      obtain ⟨ad, rfl, hc0, hc1⟩ := at_T31 (Kd.C_below HC.out HS.out.q.below) (k : Int) (by omega) (by omega)
      rw [Int.toNat_natCast] at hc0 hc1
      have q : (k : Int) < (l.length : Int) := by omega
      have hdk : decide ((k : Int) < 200) = true := decide_eq_true (by omega)
      generalize (rd_T31 l (k : Int)).f0 = lv at hc0
      generalize (rd_T31 l (k : Int)).f1 = no at hc1
      have hmul : (ad.add (k * 2)) = (ad.add (k * 2)) := rfl
      cases lv with
      | true =>
        have hcells : ∀ w', Below (wr.alloc (.cells #[.bool true, .int .i64 no] 31)).heap.size (wr.alloc (.cells #[.bool true, .int .i64 no] 31)) w' → w'.heap[wr.heap.size]? = some (.cells #[.bool true, .int .i64 no] 31 (0, 0)) := fun w' hb => block_below (heap_alloc_new _ _) hb
        have hpn : p + 1 < wr.heap.size := by obtain ⟨_, _, hblk, _⟩ := HS.out.r.at_; exact blk_lt hblk
        have hpw : PSt W (wr.alloc (.cells #[.bool true, .int .i64 no] 31)).drew p xs := HS.out.next ((below_alloc (Below.refl _ _) _).drew)
        have hnb : (wr.alloc (.cells #[.bool true, .int .i64 no] 31)).drew.heap[wr.heap.size]? = some (.cells #[.bool true, .int .i64 no] 31 (0, 0)) := heap_alloc_new _ _
        have HPN := Lib.hid hpn
        have HPW := Lib.hid hpw
        have HNBw := Lib.hid hnb
        clear hpn hpw hnb hcells
        go_wp2
        have hpn := HPN.out
        have hpw := HPW.out
        have hnb := HNBw.out
        clear HPN HPW HNBw
        generalize wr.heap.size = N at hpn hnb ⊢
        refine start_ (n := 9) (S := fun w' => w'.cell? ⟨N, 1, none⟩ = some (.int .i64 no)) (ds := []) #[false, false, false, false, false, false, false, false, false] (by kernel_rfl) rfl rfl ((blk_cell hnb 1).trans rfl) (fun hHeld => ?_)
        generalize (wr.alloc (.cells #[.bool true, .int .i64 no] 31)).drew = w5 at hnb hpw hHeld ⊢
        have HNB := Lib.hid hnb
        have HP5 := Lib.hid hpw
        clear hnb hpw
        refine pure_ (i := 0) (N := some 32) (v := ?_) (a' := ?_) #[true, false, false, false, false, false, false, false, false] rfl rfl (by kernel_rfl) (fun _ _ _ h => h) (Or.inl ⟨by rfl, ?_⟩) ?_ ?_
        rotate_left
        · intro w'
          go_simp
          with_reducible rfl
        rotate_left
        · simp only [Act.put, List.setIfInBounds_toArray, List.set_cons_zero, List.set_cons_succ, i64_w, i32_w]
          rfl
        refine pure_ (i := 1) (N := some 33) (v := ?_) (a' := ?_) #[true, true, false, false, false, false, false, false, false] rfl rfl (by kernel_rfl) (fun _ _ _ h => h) (Or.inl ⟨by rfl, ?_⟩) ?_ ?_
        rotate_left
        · intro w'
          go_simp
          with_reducible rfl
        rotate_left
        · simp only [Act.put, List.setIfInBounds_toArray, List.set_cons_zero, List.set_cons_succ, i64_w, i32_w]
          rfl
        refine pure_ (i := 4) (N := some 36) (v := ?_) (a' := ?_) #[true, true, false, false, true, false, false, false, false] rfl rfl (by kernel_rfl) (fun _ _ _ h => h) (Or.inl ⟨by rfl, ?_⟩) ?_ ?_
        rotate_left
        · intro w'
          go_simp
          with_reducible rfl
        rotate_left
        · simp only [Act.put, List.setIfInBounds_toArray, List.set_cons_zero, List.set_cons_succ, i64_w, i32_w]
          rfl
        refine pure_ (i := 5) (N := some 37) (v := ?_) (a' := ?_) #[true, true, false, false, true, true, false, false, false] rfl rfl (by kernel_rfl) (fun _ _ _ h => h) (Or.inl ⟨by rfl, ?_⟩) ?_ ?_
        rotate_left
        · intro w'
          go_simp
          with_reducible rfl
        rotate_left
        · simp only [Act.put, List.setIfInBounds_toArray, List.set_cons_zero, List.set_cons_succ, i64_w, i32_w]
          rfl
        refine take_ (i := 2) (N := some 34) (v := ?_) (a' := ?_) #[true, true, true, false, true, true, false, false, false] rfl rfl (by kernel_rfl) (fun _ _ _ h => h) (Or.inl ⟨by rfl, ?_⟩) hHeld ?_ ?_
        rotate_left
        · intro w' s0
          go_simp
          with_reducible rfl
        rotate_left
        · simp only [Act.put, List.setIfInBounds_toArray, List.set_cons_zero, List.set_cons_succ, i64_w, i32_w]
          rfl
        refine take_ (i := 6) (N := some 38) (v := ?_) (a' := ?_) #[true, true, true, false, true, true, true, false, false] rfl rfl (by kernel_rfl) (fun _ _ _ h => h) (Or.inl ⟨by rfl, ?_⟩) hHeld ?_ ?_
        rotate_left
        · intro w' s0
          go_simp
          with_reducible rfl
        rotate_left
        · simp only [Act.put, List.setIfInBounds_toArray, List.set_cons_zero, List.set_cons_succ, i64_w, i32_w]
          rfl
        refine one_ (i := 3) (N := some 35) #[true, true, true, true, true, true, true, false, false] rfl rfl (by kernel_rfl) (by decide) (fun K hK => ?_)
        refine goes_ Try.func8 (by kernel_rfl) rfl #[.pointer (some ⟨p, 0, none⟩), .int .i64 no] (by rfl) rfl rfl (by simp only [List.map_toArray, List.map_cons, List.map_nil]; rfl) ?_
        with_reducible refine (leave_q no HP5.out.q (by omega)).mono ?_
        rintro e w6 ⟨rfl, hq6, hg6⟩
        refine ⟨_, rfl, ?_⟩
        have HNB6 := Lib.hid (blk_grown HNB.out hg6 (by intro he; injection he with he; omega))
        have HQ6 := Lib.hid hq6
        have HR6 := Lib.hid (HP5.out.r.other hg6 (by intro he; injection he with he; omega) (fun k hk he => by injection he with he; omega) (fun k hk => by injection hk with hk; have := HP5.out.q.p0; omega))
        clear hq6 hg6
        refine hK.out _ _ ((blk_cell HNB6.out 1).trans rfl) (fun hHeld => ?_)
        clear hK K
        refine norm_ (a' := ?_) ?_ ?_
        rotate_left
        · show Act.put _ (some 35) _ = _
          simp only [Act.put, List.setIfInBounds_toArray, List.set_cons_zero, List.set_cons_succ, i64_w, i32_w]
          rfl
        refine one_ (i := 7) (N := some 39) #[true, true, true, true, true, true, true, true, false] rfl rfl (by kernel_rfl) (by decide) (fun K hK => ?_)
        refine goes_ Try.func9 (by kernel_rfl) rfl #[.pointer (some ⟨p + 1, 0, none⟩), .int .i64 no] (by rfl) rfl rfl (by simp only [List.map_toArray, List.map_cons, List.map_nil]; rfl) ?_
        with_reducible refine (leaveR_q no HR6.out (by omega)).mono ?_
        rintro e w7 ⟨rfl, hq7, hg7⟩
        refine ⟨_, rfl, ?_⟩
        have HNB7 := Lib.hid (blk_grown HNB6.out hg7 (by intro he; injection he with he; omega))
        have HS7 := Lib.hid (show PSt W w7 p (leave xs no) from ⟨HQ6.out.other hg7 (by intro he; injection he with he; omega) (fun k hk he => by injection he with he; omega) (fun k hk => by injection hk with hk; have := HP5.out.q.p0; omega), hq7⟩)
        clear hq7 hg7
        generalize decide (no ∈ xs) = bres at *
        refine hK.out _ _ ((blk_cell HNB7.out 1).trans rfl) (fun hHeld => ?_)
        clear hK K
        refine norm_ (a' := ?_) ?_ ?_
        rotate_left
        · show Act.put _ (some 39) _ = _
          simp only [Act.put, List.setIfInBounds_toArray, List.set_cons_zero, List.set_cons_succ, i64_w, i32_w]
          rfl
        refine pure_ (i := 8) (N := some 40) (v := ?_) (a' := ?_) #[true, true, true, true, true, true, true, true, true] rfl rfl (by kernel_rfl) (fun _ _ _ h => h) (Or.inl ⟨by rfl, ?_⟩) ?_ ?_
        rotate_left
        · intro w'
          go_simp
          with_reducible rfl
        rotate_left
        · simp only [Act.put, List.setIfInBounds_toArray, List.set_cons_zero, List.set_cons_succ, i64_w, i32_w]
          rfl
        refine done_ (by kernel_rfl) ?_
        have hyl : (leave xs no).length ≤ k + 1 := by have := leave_len xs no; omega
        clear HNB HNB6 HNB7 HP5 HQ6 HR6 HS
        generalize leave xs no = ys at HS7 hyl
        go_wp2_with fail
        refine (first_calls _ _ _ _ HS7.out.q.at_).mono ?_
        rintro e w8 ⟨rfl, rfl⟩
        go_wp2_with fail
        refine (firstR_calls _ _ _ _ HS7.out.r.at_).mono ?_
        rintro e w9 ⟨rfl, rfl⟩
        generalize rd ys 0 = y0
        generalize (!ys.isEmpty) = bo
        obtain ⟨A2, c2, hb2, hle2, hC2, hA2⟩ := HS7.out.r.at_
        have hb2d := blk_drew hb2
        have hsd : PSt W w7.drew p ys := HS7.out.next (Below.refl _ _).drew
        have hCd : Kd.C (Kd.int .i64) w7.drew A2 ys.length ys := Kd.C_below hC2 (Below.refl _ _).drew
        clear hb2 hC2 hA2
        go_wp2
        refine start_ (n := 18) (S := fun w' => w'.cell? ⟨p + 1, 0, none⟩ = some (.slice A2 ys.length c2)) (ds := []) #[false, false, false, false, false, false, false, false, false, false, false, false, false, false, false, false, false, false] (by kernel_rfl) rfl rfl ((blk_cell hb2d 0).trans rfl) (fun hHeld => ?_)
        generalize w7.drew = w10 at hb2d hsd hCd hHeld ⊢
        have HB10 := Lib.hid hb2d
        have HS10 := Lib.hid hsd
        have HC10 := Lib.hid hCd
        clear hb2d hsd hCd
        refine pure_ (i := 0) (N := some 60) (v := ?_) (a' := ?_) #[true, false, false, false, false, false, false, false, false, false, false, false, false, false, false, false, false, false] rfl rfl (by kernel_rfl) (fun _ _ _ h => h) (Or.inl ⟨by rfl, ?_⟩) ?_ ?_
        rotate_left
        · intro w'
          go_simp
          with_reducible rfl
        rotate_left
        · simp only [Act.put, List.setIfInBounds_toArray, List.set_cons_zero, List.set_cons_succ, i64_w, i32_w]
          rfl
        refine pure_ (i := 1) (N := some 61) (v := ?_) (a' := ?_) #[true, true, false, false, false, false, false, false, false, false, false, false, false, false, false, false, false, false] rfl rfl (by kernel_rfl) (fun _ _ _ h => h) (Or.inl ⟨by rfl, ?_⟩) ?_ ?_
        rotate_left
        · intro w'
          go_simp
          with_reducible rfl
        rotate_left
        · simp only [Act.put, List.setIfInBounds_toArray, List.set_cons_zero, List.set_cons_succ, i64_w, i32_w]
          rfl
        refine pure_ (i := 2) (N := some 62) (v := ?_) (a' := ?_) #[true, true, true, false, false, false, false, false, false, false, false, false, false, false, false, false, false, false] rfl rfl (by kernel_rfl) (fun _ _ _ h => h) (Or.inl ⟨by rfl, ?_⟩) ?_ ?_
        rotate_left
        · intro w'
          go_simp
          with_reducible rfl
        rotate_left
        · simp only [Act.put, List.setIfInBounds_toArray, List.set_cons_zero, List.set_cons_succ, i64_w, i32_w]
          rfl
        refine pure_ (i := 3) (N := some 63) (v := ?_) (a' := ?_) #[true, true, true, true, false, false, false, false, false, false, false, false, false, false, false, false, false, false] rfl rfl (by kernel_rfl) (fun _ _ _ h => h) (Or.inl ⟨by rfl, ?_⟩) ?_ ?_
        rotate_left
        · intro w'
          go_simp
          with_reducible rfl
        rotate_left
        · simp only [Act.put, List.setIfInBounds_toArray, List.set_cons_zero, List.set_cons_succ, i64_w, i32_w]
          rfl
        refine pure_ (i := 4) (N := some 64) (v := ?_) (a' := ?_) #[true, true, true, true, true, false, false, false, false, false, false, false, false, false, false, false, false, false] rfl rfl (by kernel_rfl) (fun _ _ _ h => h) (Or.inl ⟨by rfl, ?_⟩) ?_ ?_
        rotate_left
        · intro w'
          go_simp
          with_reducible rfl
        rotate_left
        · simp only [Act.put, List.setIfInBounds_toArray, List.set_cons_zero, List.set_cons_succ, i64_w, i32_w]
          rfl
        refine pure_ (i := 5) (N := some 65) (v := ?_) (a' := ?_) #[true, true, true, true, true, true, false, false, false, false, false, false, false, false, false, false, false, false] rfl rfl (by kernel_rfl) (fun _ _ _ h => h) (Or.inl ⟨by rfl, ?_⟩) ?_ ?_
        rotate_left
        · intro w'
          go_simp
          with_reducible rfl
        rotate_left
        · simp only [Act.put, List.setIfInBounds_toArray, List.set_cons_zero, List.set_cons_succ, i64_w, i32_w]
          rfl
        refine pure_ (i := 6) (N := some 66) (v := ?_) (a' := ?_) #[true, true, true, true, true, true, true, false, false, false, false, false, false, false, false, false, false, false] rfl rfl (by kernel_rfl) (fun _ _ _ h => h) (Or.inl ⟨by rfl, ?_⟩) ?_ ?_
        rotate_left
        · intro w'
          go_simp
          with_reducible rfl
        rotate_left
        · simp only [Act.put, List.setIfInBounds_toArray, List.set_cons_zero, List.set_cons_succ, i64_w, i32_w]
          rfl
        refine pure_ (i := 7) (N := some 67) (v := ?_) (a' := ?_) #[true, true, true, true, true, true, true, true, false, false, false, false, false, false, false, false, false, false] rfl rfl (by kernel_rfl) (fun _ _ _ h => h) (Or.inl ⟨by rfl, ?_⟩) ?_ ?_
        rotate_left
        · intro w'
          go_simp
          with_reducible rfl
        rotate_left
        · simp only [Act.put, List.setIfInBounds_toArray, List.set_cons_zero, List.set_cons_succ, i64_w, i32_w]
          rfl
        refine pure_ (i := 8) (N := some 68) (v := ?_) (a' := ?_) #[true, true, true, true, true, true, true, true, true, false, false, false, false, false, false, false, false, false] rfl rfl (by kernel_rfl) (fun _ _ _ h => h) (Or.inl ⟨by rfl, ?_⟩) ?_ ?_
        rotate_left
        · intro w'
          go_simp
          with_reducible rfl
        rotate_left
        · simp only [Act.put, List.setIfInBounds_toArray, List.set_cons_zero, List.set_cons_succ, i64_w, i32_w]
          rfl
        refine pure_ (i := 9) (N := some 69) (v := ?_) (a' := ?_) #[true, true, true, true, true, true, true, true, true, true, false, false, false, false, false, false, false, false] rfl rfl (by kernel_rfl) (fun _ _ _ h => h) (Or.inl ⟨by rfl, ?_⟩) ?_ ?_
        rotate_left
        · intro w'
          go_simp
          with_reducible rfl
        rotate_left
        · simp only [Act.put, List.setIfInBounds_toArray, List.set_cons_zero, List.set_cons_succ, i64_w, i32_w]
          rfl
        refine pure_ (i := 11) (N := some 71) (v := ?_) (a' := ?_) #[true, true, true, true, true, true, true, true, true, true, false, true, false, false, false, false, false, false] rfl rfl (by kernel_rfl) (fun _ _ _ h => h) (Or.inl ⟨by rfl, ?_⟩) ?_ ?_
        rotate_left
        · intro w'
          go_simp
          with_reducible rfl
        rotate_left
        · simp only [Act.put, List.setIfInBounds_toArray, List.set_cons_zero, List.set_cons_succ, i64_w, i32_w]
          rfl
        refine pure_ (i := 12) (N := some 72) (v := ?_) (a' := ?_) #[true, true, true, true, true, true, true, true, true, true, false, true, true, false, false, false, false, false] rfl rfl (by kernel_rfl) (fun _ _ _ h => h) (Or.inl ⟨by rfl, ?_⟩) ?_ ?_
        rotate_left
        · intro w'
          go_simp
          with_reducible rfl
        rotate_left
        · simp only [Act.put, List.setIfInBounds_toArray, List.set_cons_zero, List.set_cons_succ, i64_w, i32_w]
          rfl
        refine pure_ (i := 13) (N := some 73) (v := ?_) (a' := ?_) #[true, true, true, true, true, true, true, true, true, true, false, true, true, true, false, false, false, false] rfl rfl (by kernel_rfl) (fun _ _ _ h => h) (Or.inl ⟨by rfl, ?_⟩) ?_ ?_
        rotate_left
        · intro w'
          go_simp
          with_reducible rfl
        rotate_left
        · simp only [Act.put, List.setIfInBounds_toArray, List.set_cons_zero, List.set_cons_succ, i64_w, i32_w]
          rfl
        refine take_ (i := 14) (N := some 74) (v := ?_) (a' := ?_) #[true, true, true, true, true, true, true, true, true, true, false, true, true, true, true, false, false, false] rfl rfl (by kernel_rfl) (fun _ _ _ h => h) (Or.inl ⟨by rfl, ?_⟩) hHeld ?_ ?_
        rotate_left
        · intro w' s0
          go_simp
          with_reducible rfl
        rotate_left
        · simp only [Act.put, List.setIfInBounds_toArray, List.set_cons_zero, List.set_cons_succ, i64_w, i32_w]
          rfl
        refine one_ (i := 10) (N := some 70) #[true, true, true, true, true, true, true, true, true, true, true, true, true, true, true, false, false, false] rfl rfl (by kernel_rfl) (by decide) (fun K hK => ?_)
        refine goes_ Try.func15 (by kernel_rfl) rfl #[.pointer (some ⟨p, 0, none⟩)] (by rfl) rfl rfl (by simp only [List.map_toArray, List.map_cons, List.map_nil]; rfl) ?_
        with_reducible refine (waiting_calls _ _ ys _ HS10.out.q.at_ (by omega)).mono ?_
        rintro e w11 ⟨v11, rfl, hr11, hb11⟩
        refine ⟨_, rfl, ?_⟩
        have HS11 := Lib.hid (HS10.out.next hb11)
        have HB11 := Lib.hid (block_below HB10.out hb11)
        have HC11 := Lib.hid (Kd.C_below HC10.out hb11)
        obtain ⟨A11, c11, rfl, hl11, hC11⟩ := Kd.R_reads hr11
        have HCw := Lib.hid hC11
        clear hr11 hb11 hC11
        refine hK.out _ _ ((blk_cell HB11.out 0).trans rfl) (fun hHeld => ?_)
        clear hK K
        refine norm_ (a' := ?_) ?_ ?_
        rotate_left
        · show Act.put _ (some 70) _ = _
          simp only [Act.put, List.setIfInBounds_toArray, List.set_cons_zero, List.set_cons_succ, i64_w, i32_w]
          rfl
        refine one_ (i := 15) (N := some 75) #[true, true, true, true, true, true, true, true, true, true, true, true, true, true, true, true, false, false] rfl rfl (by kernel_rfl) (by decide) (fun K hK => ?_)
        refine goes_ Try.func14 (by kernel_rfl) rfl #[.slice A11 ys.length c11, .slice A2 ys.length c2] (by rfl) rfl rfl (by simp only [List.map_toArray, List.map_cons, List.map_nil]; rfl) ?_
        with_reducible refine (cambiumref05_Ints.calls 2000 A11 c11 ys A2 c2 ys true _ HCw.out hl11 HC11.out hle2 (ints_true ys (by omega))).mono ?_
        rintro e w12 ⟨rfl, hb12⟩
        refine ⟨_, rfl, ?_⟩
        have HS12 := Lib.hid (HS11.out.next hb12.below)
        have HB12 := Lib.hid (block_below HB11.out hb12.below)
        clear hb12
        refine hK.out _ _ ((blk_cell HB12.out 0).trans rfl) (fun hHeld => ?_)
        clear hK K
        refine norm_ (a' := ?_) ?_ ?_
        rotate_left
        · show Act.put _ (some 75) _ = _
          simp only [Act.put, List.setIfInBounds_toArray, List.set_cons_zero, List.set_cons_succ, i64_w, i32_w]
          rfl
        refine pure_ (i := 16) (N := some 76) (v := ?_) (a' := ?_) #[true, true, true, true, true, true, true, true, true, true, true, true, true, true, true, true, true, false] rfl rfl (by kernel_rfl) (fun _ _ _ h => h) (Or.inl ⟨by rfl, ?_⟩) ?_ ?_
        rotate_left
        · intro w'
          go_simp
          with_reducible rfl
        rotate_left
        · simp only [Act.put, List.setIfInBounds_toArray, List.set_cons_zero, List.set_cons_succ, i64_w, i32_w]
          rfl
        refine pure_ (i := 17) (N := some 77) (v := ?_) (a' := ?_) #[true, true, true, true, true, true, true, true, true, true, true, true, true, true, true, true, true, true] rfl rfl (by kernel_rfl) (fun _ _ _ h => h) (Or.inl ⟨by rfl, ?_⟩) ?_ ?_
        rotate_left
        · intro w'
          go_simp
          with_reducible rfl
        rotate_left
        · simp only [Act.put, List.setIfInBounds_toArray, List.set_cons_zero, List.set_cons_succ, i64_w, i32_w]
          rfl
        refine done_ (by kernel_rfl) ?_
        go_wp2
        go_roundw
        case rel => exact ⟨k + 1, ys, by omega, by omega, by go_num, hyl, HS12⟩
        case measure => simp [intOf]; omega
      | false =>
        have hcells : ∀ w', Below (wr.alloc (.cells #[.bool false, .int .i64 no] 31)).heap.size (wr.alloc (.cells #[.bool false, .int .i64 no] 31)) w' → w'.heap[wr.heap.size]? = some (.cells #[.bool false, .int .i64 no] 31 (0, 0)) := fun w' hb => block_below (heap_alloc_new _ _) hb
        have hpn : p + 1 < wr.heap.size := by obtain ⟨_, _, hblk, _⟩ := HS.out.r.at_; exact blk_lt hblk
        have hpw : PSt W (wr.alloc (.cells #[.bool false, .int .i64 no] 31)).drew p xs := HS.out.next ((below_alloc (Below.refl _ _) _).drew)
        have hnb : (wr.alloc (.cells #[.bool false, .int .i64 no] 31)).drew.heap[wr.heap.size]? = some (.cells #[.bool false, .int .i64 no] 31 (0, 0)) := heap_alloc_new _ _
        have HPN := Lib.hid hpn
        have HPW := Lib.hid hpw
        have HNBw := Lib.hid hnb
        clear hpn hpw hnb hcells
        go_wp2
        have hpn := HPN.out
        have hpw := HPW.out
        have hnb := HNBw.out
        clear HPN HPW HNBw
        generalize wr.heap.size = N at hpn hnb ⊢
        refine start_ (n := 9) (S := fun w' => w'.cell? ⟨N, 1, none⟩ = some (.int .i64 no)) (ds := []) #[false, false, false, false, false, false, false, false, false] (by kernel_rfl) rfl rfl ((blk_cell hnb 1).trans rfl) (fun hHeld => ?_)
        generalize (wr.alloc (.cells #[.bool false, .int .i64 no] 31)).drew = w5 at hnb hpw hHeld ⊢
        have HNB := Lib.hid hnb
        have HP5 := Lib.hid hpw
        clear hnb hpw
        refine pure_ (i := 0) (N := some 41) (v := ?_) (a' := ?_) #[true, false, false, false, false, false, false, false, false] rfl rfl (by kernel_rfl) (fun _ _ _ h => h) (Or.inl ⟨by rfl, ?_⟩) ?_ ?_
        rotate_left
        · intro w'
          go_simp
          with_reducible rfl
        rotate_left
        · simp only [Act.put, List.setIfInBounds_toArray, List.set_cons_zero, List.set_cons_succ, i64_w, i32_w]
          rfl
        refine pure_ (i := 1) (N := some 42) (v := ?_) (a' := ?_) #[true, true, false, false, false, false, false, false, false] rfl rfl (by kernel_rfl) (fun _ _ _ h => h) (Or.inl ⟨by rfl, ?_⟩) ?_ ?_
        rotate_left
        · intro w'
          go_simp
          with_reducible rfl
        rotate_left
        · simp only [Act.put, List.setIfInBounds_toArray, List.set_cons_zero, List.set_cons_succ, i64_w, i32_w]
          rfl
        refine pure_ (i := 4) (N := some 45) (v := ?_) (a' := ?_) #[true, true, false, false, true, false, false, false, false] rfl rfl (by kernel_rfl) (fun _ _ _ h => h) (Or.inl ⟨by rfl, ?_⟩) ?_ ?_
        rotate_left
        · intro w'
          go_simp
          with_reducible rfl
        rotate_left
        · simp only [Act.put, List.setIfInBounds_toArray, List.set_cons_zero, List.set_cons_succ, i64_w, i32_w]
          rfl
        refine pure_ (i := 5) (N := some 46) (v := ?_) (a' := ?_) #[true, true, false, false, true, true, false, false, false] rfl rfl (by kernel_rfl) (fun _ _ _ h => h) (Or.inl ⟨by rfl, ?_⟩) ?_ ?_
        rotate_left
        · intro w'
          go_simp
          with_reducible rfl
        rotate_left
        · simp only [Act.put, List.setIfInBounds_toArray, List.set_cons_zero, List.set_cons_succ, i64_w, i32_w]
          rfl
        refine take_ (i := 2) (N := some 43) (v := ?_) (a' := ?_) #[true, true, true, false, true, true, false, false, false] rfl rfl (by kernel_rfl) (fun _ _ _ h => h) (Or.inl ⟨by rfl, ?_⟩) hHeld ?_ ?_
        rotate_left
        · intro w' s0
          go_simp
          with_reducible rfl
        rotate_left
        · simp only [Act.put, List.setIfInBounds_toArray, List.set_cons_zero, List.set_cons_succ, i64_w, i32_w]
          rfl
        refine take_ (i := 6) (N := some 47) (v := ?_) (a' := ?_) #[true, true, true, false, true, true, true, false, false] rfl rfl (by kernel_rfl) (fun _ _ _ h => h) (Or.inl ⟨by rfl, ?_⟩) hHeld ?_ ?_
        rotate_left
        · intro w' s0
          go_simp
          with_reducible rfl
        rotate_left
        · simp only [Act.put, List.setIfInBounds_toArray, List.set_cons_zero, List.set_cons_succ, i64_w, i32_w]
          rfl
        refine one_ (i := 3) (N := some 44) #[true, true, true, true, true, true, true, false, false] rfl rfl (by kernel_rfl) (by decide) (fun K hK => ?_)
        refine goes_ Try.func10 (by kernel_rfl) rfl #[.pointer (some ⟨p, 0, none⟩), .int .i64 no] (by rfl) rfl rfl (by simp only [List.map_toArray, List.map_cons, List.map_nil]; rfl) ?_
        with_reducible refine (want_q no HP5.out.q (by omega)).mono ?_
        rintro e w6 ⟨rfl, hq6, hg6⟩
        refine ⟨_, rfl, ?_⟩
        have HNB6 := Lib.hid (blk_grown HNB.out hg6 (by intro he; injection he with he; omega))
        have HQ6 := Lib.hid hq6
        have HR6 := Lib.hid (HP5.out.r.other hg6 (by intro he; injection he with he; omega) (fun k hk he => by injection he with he; omega) (fun k hk => by injection hk with hk; have := HP5.out.q.p0; omega))
        clear hq6 hg6
        refine hK.out _ _ ((blk_cell HNB6.out 1).trans rfl) (fun hHeld => ?_)
        clear hK K
        refine norm_ (a' := ?_) ?_ ?_
        rotate_left
        · show Act.put _ (some 44) _ = _
          simp only [Act.put, List.setIfInBounds_toArray, List.set_cons_zero, List.set_cons_succ, i64_w, i32_w]
          rfl
        refine one_ (i := 7) (N := some 48) #[true, true, true, true, true, true, true, true, false] rfl rfl (by kernel_rfl) (by decide) (fun K hK => ?_)
        refine goes_ Try.func11 (by kernel_rfl) rfl #[.pointer (some ⟨p + 1, 0, none⟩), .int .i64 no] (by rfl) rfl rfl (by simp only [List.map_toArray, List.map_cons, List.map_nil]; rfl) ?_
        with_reducible refine (wantR_q no HR6.out (by omega)).mono ?_
        rintro e w7 ⟨rfl, hq7, hg7⟩
        refine ⟨_, rfl, ?_⟩
        have HNB7 := Lib.hid (blk_grown HNB6.out hg7 (by intro he; injection he with he; omega))
        have HS7 := Lib.hid (show PSt W w7 p (want xs no) from ⟨HQ6.out.other hg7 (by intro he; injection he with he; omega) (fun k hk he => by injection he with he; omega) (fun k hk => by injection hk with hk; have := HP5.out.q.p0; omega), hq7⟩)
        clear hq7 hg7
        generalize (rd (want xs no) 0 == no) = bres at *
        refine hK.out _ _ ((blk_cell HNB7.out 1).trans rfl) (fun hHeld => ?_)
        clear hK K
        refine norm_ (a' := ?_) ?_ ?_
        rotate_left
        · show Act.put _ (some 48) _ = _
          simp only [Act.put, List.setIfInBounds_toArray, List.set_cons_zero, List.set_cons_succ, i64_w, i32_w]
          rfl
        refine pure_ (i := 8) (N := some 49) (v := ?_) (a' := ?_) #[true, true, true, true, true, true, true, true, true] rfl rfl (by kernel_rfl) (fun _ _ _ h => h) (Or.inl ⟨by rfl, ?_⟩) ?_ ?_
        rotate_left
        · intro w'
          go_simp
          with_reducible rfl
        rotate_left
        · simp only [Act.put, List.setIfInBounds_toArray, List.set_cons_zero, List.set_cons_succ, i64_w, i32_w]
          rfl
        refine done_ (by kernel_rfl) ?_
        have hyl : (want xs no).length ≤ k + 1 := by have := want_len xs no; omega
        clear HNB HNB6 HNB7 HP5 HQ6 HR6 HS
        generalize want xs no = ys at HS7 hyl
        go_wp2_with fail
        refine (first_calls _ _ _ _ HS7.out.q.at_).mono ?_
        rintro e w8 ⟨rfl, rfl⟩
        go_wp2_with fail
        refine (firstR_calls _ _ _ _ HS7.out.r.at_).mono ?_
        rintro e w9 ⟨rfl, rfl⟩
        generalize rd ys 0 = y0
        generalize (!ys.isEmpty) = bo
        obtain ⟨A2, c2, hb2, hle2, hC2, hA2⟩ := HS7.out.r.at_
        have hb2d := blk_drew hb2
        have hsd : PSt W w7.drew p ys := HS7.out.next (Below.refl _ _).drew
        have hCd : Kd.C (Kd.int .i64) w7.drew A2 ys.length ys := Kd.C_below hC2 (Below.refl _ _).drew
        clear hb2 hC2 hA2
        go_wp2
        refine start_ (n := 18) (S := fun w' => w'.cell? ⟨p + 1, 0, none⟩ = some (.slice A2 ys.length c2)) (ds := []) #[false, false, false, false, false, false, false, false, false, false, false, false, false, false, false, false, false, false] (by kernel_rfl) rfl rfl ((blk_cell hb2d 0).trans rfl) (fun hHeld => ?_)
        generalize w7.drew = w10 at hb2d hsd hCd hHeld ⊢
        have HB10 := Lib.hid hb2d
        have HS10 := Lib.hid hsd
        have HC10 := Lib.hid hCd
        clear hb2d hsd hCd
        refine pure_ (i := 0) (N := some 60) (v := ?_) (a' := ?_) #[true, false, false, false, false, false, false, false, false, false, false, false, false, false, false, false, false, false] rfl rfl (by kernel_rfl) (fun _ _ _ h => h) (Or.inl ⟨by rfl, ?_⟩) ?_ ?_
        rotate_left
        · intro w'
          go_simp
          with_reducible rfl
        rotate_left
        · simp only [Act.put, List.setIfInBounds_toArray, List.set_cons_zero, List.set_cons_succ, i64_w, i32_w]
          rfl
        refine pure_ (i := 1) (N := some 61) (v := ?_) (a' := ?_) #[true, true, false, false, false, false, false, false, false, false, false, false, false, false, false, false, false, false] rfl rfl (by kernel_rfl) (fun _ _ _ h => h) (Or.inl ⟨by rfl, ?_⟩) ?_ ?_
        rotate_left
        · intro w'
          go_simp
          with_reducible rfl
        rotate_left
        · simp only [Act.put, List.setIfInBounds_toArray, List.set_cons_zero, List.set_cons_succ, i64_w, i32_w]
          rfl
        refine pure_ (i := 2) (N := some 62) (v := ?_) (a' := ?_) #[true, true, true, false, false, false, false, false, false, false, false, false, false, false, false, false, false, false] rfl rfl (by kernel_rfl) (fun _ _ _ h => h) (Or.inl ⟨by rfl, ?_⟩) ?_ ?_
        rotate_left
        · intro w'
          go_simp
          with_reducible rfl
        rotate_left
        · simp only [Act.put, List.setIfInBounds_toArray, List.set_cons_zero, List.set_cons_succ, i64_w, i32_w]
          rfl
        refine pure_ (i := 3) (N := some 63) (v := ?_) (a' := ?_) #[true, true, true, true, false, false, false, false, false, false, false, false, false, false, false, false, false, false] rfl rfl (by kernel_rfl) (fun _ _ _ h => h) (Or.inl ⟨by rfl, ?_⟩) ?_ ?_
        rotate_left
        · intro w'
          go_simp
          with_reducible rfl
        rotate_left
        · simp only [Act.put, List.setIfInBounds_toArray, List.set_cons_zero, List.set_cons_succ, i64_w, i32_w]
          rfl
        refine pure_ (i := 4) (N := some 64) (v := ?_) (a' := ?_) #[true, true, true, true, true, false, false, false, false, false, false, false, false, false, false, false, false, false] rfl rfl (by kernel_rfl) (fun _ _ _ h => h) (Or.inl ⟨by rfl, ?_⟩) ?_ ?_
        rotate_left
        · intro w'
          go_simp
          with_reducible rfl
        rotate_left
        · simp only [Act.put, List.setIfInBounds_toArray, List.set_cons_zero, List.set_cons_succ, i64_w, i32_w]
          rfl
        refine pure_ (i := 5) (N := some 65) (v := ?_) (a' := ?_) #[true, true, true, true, true, true, false, false, false, false, false, false, false, false, false, false, false, false] rfl rfl (by kernel_rfl) (fun _ _ _ h => h) (Or.inl ⟨by rfl, ?_⟩) ?_ ?_
        rotate_left
        · intro w'
          go_simp
          with_reducible rfl
        rotate_left
        · simp only [Act.put, List.setIfInBounds_toArray, List.set_cons_zero, List.set_cons_succ, i64_w, i32_w]
          rfl
        refine pure_ (i := 6) (N := some 66) (v := ?_) (a' := ?_) #[true, true, true, true, true, true, true, false, false, false, false, false, false, false, false, false, false, false] rfl rfl (by kernel_rfl) (fun _ _ _ h => h) (Or.inl ⟨by rfl, ?_⟩) ?_ ?_
        rotate_left
        · intro w'
          go_simp
          with_reducible rfl
        rotate_left
        · simp only [Act.put, List.setIfInBounds_toArray, List.set_cons_zero, List.set_cons_succ, i64_w, i32_w]
          rfl
        refine pure_ (i := 7) (N := some 67) (v := ?_) (a' := ?_) #[true, true, true, true, true, true, true, true, false, false, false, false, false, false, false, false, false, false] rfl rfl (by kernel_rfl) (fun _ _ _ h => h) (Or.inl ⟨by rfl, ?_⟩) ?_ ?_
        rotate_left
        · intro w'
          go_simp
          with_reducible rfl
        rotate_left
        · simp only [Act.put, List.setIfInBounds_toArray, List.set_cons_zero, List.set_cons_succ, i64_w, i32_w]
          rfl
        refine pure_ (i := 8) (N := some 68) (v := ?_) (a' := ?_) #[true, true, true, true, true, true, true, true, true, false, false, false, false, false, false, false, false, false] rfl rfl (by kernel_rfl) (fun _ _ _ h => h) (Or.inl ⟨by rfl, ?_⟩) ?_ ?_
        rotate_left
        · intro w'
          go_simp
          with_reducible rfl
        rotate_left
        · simp only [Act.put, List.setIfInBounds_toArray, List.set_cons_zero, List.set_cons_succ, i64_w, i32_w]
          rfl
        refine pure_ (i := 9) (N := some 69) (v := ?_) (a' := ?_) #[true, true, true, true, true, true, true, true, true, true, false, false, false, false, false, false, false, false] rfl rfl (by kernel_rfl) (fun _ _ _ h => h) (Or.inl ⟨by rfl, ?_⟩) ?_ ?_
        rotate_left
        · intro w'
          go_simp
          with_reducible rfl
        rotate_left
        · simp only [Act.put, List.setIfInBounds_toArray, List.set_cons_zero, List.set_cons_succ, i64_w, i32_w]
          rfl
        refine pure_ (i := 11) (N := some 71) (v := ?_) (a' := ?_) #[true, true, true, true, true, true, true, true, true, true, false, true, false, false, false, false, false, false] rfl rfl (by kernel_rfl) (fun _ _ _ h => h) (Or.inl ⟨by rfl, ?_⟩) ?_ ?_
        rotate_left
        · intro w'
          go_simp
          with_reducible rfl
        rotate_left
        · simp only [Act.put, List.setIfInBounds_toArray, List.set_cons_zero, List.set_cons_succ, i64_w, i32_w]
          rfl
        refine pure_ (i := 12) (N := some 72) (v := ?_) (a' := ?_) #[true, true, true, true, true, true, true, true, true, true, false, true, true, false, false, false, false, false] rfl rfl (by kernel_rfl) (fun _ _ _ h => h) (Or.inl ⟨by rfl, ?_⟩) ?_ ?_
        rotate_left
        · intro w'
          go_simp
          with_reducible rfl
        rotate_left
        · simp only [Act.put, List.setIfInBounds_toArray, List.set_cons_zero, List.set_cons_succ, i64_w, i32_w]
          rfl
        refine pure_ (i := 13) (N := some 73) (v := ?_) (a' := ?_) #[true, true, true, true, true, true, true, true, true, true, false, true, true, true, false, false, false, false] rfl rfl (by kernel_rfl) (fun _ _ _ h => h) (Or.inl ⟨by rfl, ?_⟩) ?_ ?_
        rotate_left
        · intro w'
          go_simp
          with_reducible rfl
        rotate_left
        · simp only [Act.put, List.setIfInBounds_toArray, List.set_cons_zero, List.set_cons_succ, i64_w, i32_w]
          rfl
        refine take_ (i := 14) (N := some 74) (v := ?_) (a' := ?_) #[true, true, true, true, true, true, true, true, true, true, false, true, true, true, true, false, false, false] rfl rfl (by kernel_rfl) (fun _ _ _ h => h) (Or.inl ⟨by rfl, ?_⟩) hHeld ?_ ?_
        rotate_left
        · intro w' s0
          go_simp
          with_reducible rfl
        rotate_left
        · simp only [Act.put, List.setIfInBounds_toArray, List.set_cons_zero, List.set_cons_succ, i64_w, i32_w]
          rfl
        refine one_ (i := 10) (N := some 70) #[true, true, true, true, true, true, true, true, true, true, true, true, true, true, true, false, false, false] rfl rfl (by kernel_rfl) (by decide) (fun K hK => ?_)
        refine goes_ Try.func15 (by kernel_rfl) rfl #[.pointer (some ⟨p, 0, none⟩)] (by rfl) rfl rfl (by simp only [List.map_toArray, List.map_cons, List.map_nil]; rfl) ?_
        with_reducible refine (waiting_calls _ _ ys _ HS10.out.q.at_ (by omega)).mono ?_
        rintro e w11 ⟨v11, rfl, hr11, hb11⟩
        refine ⟨_, rfl, ?_⟩
        have HS11 := Lib.hid (HS10.out.next hb11)
        have HB11 := Lib.hid (block_below HB10.out hb11)
        have HC11 := Lib.hid (Kd.C_below HC10.out hb11)
        obtain ⟨A11, c11, rfl, hl11, hC11⟩ := Kd.R_reads hr11
        have HCw := Lib.hid hC11
        clear hr11 hb11 hC11
        refine hK.out _ _ ((blk_cell HB11.out 0).trans rfl) (fun hHeld => ?_)
        clear hK K
        refine norm_ (a' := ?_) ?_ ?_
        rotate_left
        · show Act.put _ (some 70) _ = _
          simp only [Act.put, List.setIfInBounds_toArray, List.set_cons_zero, List.set_cons_succ, i64_w, i32_w]
          rfl
        refine one_ (i := 15) (N := some 75) #[true, true, true, true, true, true, true, true, true, true, true, true, true, true, true, true, false, false] rfl rfl (by kernel_rfl) (by decide) (fun K hK => ?_)
        refine goes_ Try.func14 (by kernel_rfl) rfl #[.slice A11 ys.length c11, .slice A2 ys.length c2] (by rfl) rfl rfl (by simp only [List.map_toArray, List.map_cons, List.map_nil]; rfl) ?_
        with_reducible refine (cambiumref05_Ints.calls 2000 A11 c11 ys A2 c2 ys true _ HCw.out hl11 HC11.out hle2 (ints_true ys (by omega))).mono ?_
        rintro e w12 ⟨rfl, hb12⟩
        refine ⟨_, rfl, ?_⟩
        have HS12 := Lib.hid (HS11.out.next hb12.below)
        have HB12 := Lib.hid (block_below HB11.out hb12.below)
        clear hb12
        refine hK.out _ _ ((blk_cell HB12.out 0).trans rfl) (fun hHeld => ?_)
        clear hK K
        refine norm_ (a' := ?_) ?_ ?_
        rotate_left
        · show Act.put _ (some 75) _ = _
          simp only [Act.put, List.setIfInBounds_toArray, List.set_cons_zero, List.set_cons_succ, i64_w, i32_w]
          rfl
        refine pure_ (i := 16) (N := some 76) (v := ?_) (a' := ?_) #[true, true, true, true, true, true, true, true, true, true, true, true, true, true, true, true, true, false] rfl rfl (by kernel_rfl) (fun _ _ _ h => h) (Or.inl ⟨by rfl, ?_⟩) ?_ ?_
        rotate_left
        · intro w'
          go_simp
          with_reducible rfl
        rotate_left
        · simp only [Act.put, List.setIfInBounds_toArray, List.set_cons_zero, List.set_cons_succ, i64_w, i32_w]
          rfl
        refine pure_ (i := 17) (N := some 77) (v := ?_) (a' := ?_) #[true, true, true, true, true, true, true, true, true, true, true, true, true, true, true, true, true, true] rfl rfl (by kernel_rfl) (fun _ _ _ h => h) (Or.inl ⟨by rfl, ?_⟩) ?_ ?_
        rotate_left
        · intro w'
          go_simp
          with_reducible rfl
        rotate_left
        · simp only [Act.put, List.setIfInBounds_toArray, List.set_cons_zero, List.set_cons_succ, i64_w, i32_w]
          rfl
        refine done_ (by kernel_rfl) ?_
        go_wp2
        go_roundw
        case rel => exact ⟨k + 1, ys, by omega, by omega, by go_num, hyl, HS12⟩
        case measure => simp [intOf]; omega
    · have hstop : k < l.length → ¬ k < 200 := by omega
      by_cases hkl : k < l.length
      all_goals
        have hkl' : k < l.length → ¬ k < 200 := hstop
        clear hstop hlt
        go_wp2
        go_ret
        exact ⟨rfl, HS.out.q.below⟩

end Go.Proofs.Yteecfeonjlhilaa.Walk
