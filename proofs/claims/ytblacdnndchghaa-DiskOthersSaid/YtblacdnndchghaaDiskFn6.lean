/- The disk's Crash: its contract by hand. -/
import Derived.Test.YtblacdnndchghaaDiskFn5
import Derived.Test.YtblacdnndchghaaExtTorn05
namespace Go.Proofs.Ytblacdnndchghaa.D
open Go.RowKit Go.Proofs.YtblacdnndchghaaW.PrintWords Go.Proofs.YtblacdnndchghaaW.PrintLast Go.Proofs.YtblacdnndchghaaW.PrintMore Go.Proofs.Ytblacdnndchghaa.Math Go.Proofs.Ytblacdnndchghaa.PAll
open Go.ChangeMaps (setBlock)
set_option linter.unusedVariables false
set_option linter.unusedSimpArgs false

theorem C_bool {w : World} {A : Option Addr} {l : List Bool} (h : Kd.C Kd.bool w A l.length l) {k : Nat} (hk : k < l.length) : ∃ ad, A = some ad ∧ w.cell? (ad.add k) = some (.bool (l.getD k false)) := by
  obtain ⟨ad, hA, hc⟩ := h.2.2 (by omega)
  obtain ⟨cs, hl, hK, hcell⟩ := hc k _ (List.getElem?_eq_getElem hk)
  refine ⟨ad, hA, ?_⟩
  have hcs : cs = [.bool l[k]] := hK
  have := hcell 0 (.bool l[k]) (by rw [hcs]; rfl)
  have hsz : Kd.bool.sz = 1 := rfl
  rw [hsz] at this
  rw [List.getD_eq_getElem?_getD, List.getElem?_eq_getElem hk]
  simpa using this
theorem DSt.store {w : World} {B p gm g c k : Nat} {vW v : Value} {b : List Int} {s : St} (h : DSt w B p gm (.slice (some ⟨g, 0, none⟩) s.S.length c) vW s) (hk : k < s.S.length) (hpg : Pg w B v b) :
    DSt (w.setCell ⟨g, k, none⟩ v) B p gm (.slice (some ⟨g, 0, none⟩) s.S.length c) vW { s with S := s.S.set k b } := by
  obtain ⟨Sl, Wl, es, clk, e1, e2, hr, hm, hok⟩ := h.body
  have hl : s.S.length = Sl.length := by rw [e1, List.length_map]
  obtain ⟨_, cg, hg⟩ := own_block hr.s (k := g) rfl
  have ht : Turn (fun j => j = g) w (w.setCell ⟨g, k, none⟩ v) := Turn.set w g k v rfl
  rw [hl] at hr hk ⊢
  refine ⟨blk_turn ht (by rw [← hl]; exact h.blk) (fun e => sep h.blk hg (by decide) e), h.pb, h.left0, Sl.set k (v, b), Wl, es, clk, ?_, e2, hr.store (by decide) (by decide) hk hpg, blk_turn ht hm (fun e => sepm hg hm e.symm), hok⟩
  show s.S.set k b = _
  rw [e1, List.map_set]
theorem RSt.store {w : World} {B p g c k : Nat} {vW v : Value} {b : List Int} {s : St} (h : RSt w B p (.slice (some ⟨g, 0, none⟩) s.S.length c) vW s) (hk : k < s.S.length) (hpg : Pg w B v b) :
    RSt (w.setCell ⟨g, k, none⟩ v) B p (.slice (some ⟨g, 0, none⟩) s.S.length c) vW { s with S := s.S.set k b } := by
  obtain ⟨Sl, Wl, e1, e2, hr⟩ := h.body
  have hl : s.S.length = Sl.length := by rw [e1, List.length_map]
  obtain ⟨_, cg, hg⟩ := own_block hr.s (k := g) rfl
  have ht : Turn (fun j => j = g) w (w.setCell ⟨g, k, none⟩ v) := Turn.set w g k v rfl
  rw [hl] at hr hk ⊢
  refine ⟨blk_turn ht (by rw [← hl]; exact h.blk) (fun e => sep h.blk hg (by decide) e), h.pb, h.left0, Sl.set k (v, b), Wl, ?_, e2, hr.store (by decide) (by decide) hk hpg⟩
  show s.S.set k b = _
  rw [e1, List.map_set]
/-- What a crash keeps. -/
def cstep (keep : List Bool) (tn : Int) (W : List (Int × List Int)) (S : List (List Int)) (k : Nat) : List (List Int) :=
  match W[k]? with
  | some x => if keep.getD k false then S.set x.1.toNat (if (k : Int) = tn then torn x.2 else x.2) else S
  | none => S
def crashN (keep : List Bool) (tn : Int) (W : List (Int × List Int)) (S : List (List Int)) : Nat → List (List Int)
  | 0 => S
  | k + 1 => cstep keep tn W (crashN keep tn W S k) k
def crash (s : St) (keep : List Bool) (tn : Int) : St := ⟨crashN keep tn s.W s.S s.W.length, [], 0, false⟩
theorem crashN_len (keep : List Bool) (tn : Int) (W : List (Int × List Int)) (S : List (List Int)) (k : Nat) : (crashN keep tn W S k).length = S.length := by
  induction k with
  | zero => rfl
  | succ k ih =>
    show (cstep keep tn W (crashN keep tn W S k) k).length = _
    unfold cstep
    split
    · split
      · rw [List.length_set]; exact ih
      · exact ih
    · exact ih
/-- The k-th of what waits. -/
theorem DSt.wait {w : World} {B p gm : Nat} {vS vW : Value} {s : St} (h : DSt w B p gm vS vW s) {k : Nat} (hk : k < s.W.length) :
    ∃ g c j Av cv b, vW = .slice (some ⟨g, 0, none⟩) s.W.length c ∧ w.cell? ⟨g, k * 2, none⟩ = some (.int .i64 ((j : Nat) : Int)) ∧ w.cell? ⟨g, k * 2 + 1, none⟩ = some (.slice Av 1024 cv) ∧ Pg w B (.slice Av 1024 cv) b ∧ s.W[k]? = some ((j : Int), b) ∧ j < s.S.length := by
  obtain ⟨Sl, Wl, es, clk, e1, e2, hr, hm, hok⟩ := h.body
  have hl : s.W.length = Wl.length := by rw [e2, List.length_map]
  have hls : s.S.length = Sl.length := by rw [e1, List.length_map]
  obtain ⟨g, c, hv, h0, h1⟩ := hr.at_w k (by omega)
  have hmem := List.getElem_mem (l := Wl) (n := k) (by omega)
  have hpg := hr.wp _ hmem
  obtain ⟨hr0, hr1⟩ := hr.wr _ hmem
  obtain ⟨j, hj⟩ := Int.eq_ofNat_of_zero_le hr0
  obtain ⟨Av, cv, hvp, _, _⟩ := hpg.reads
  rw [hpg.1] at hvp
  rw [hvp] at h1 hpg
  rw [hj] at h0
  refine ⟨g, c, j, Av, cv, (Wl[k]'(by omega)).2.2, by rw [hl]; exact hv, h0, h1, hpg, ?_, by omega⟩
  rw [e2, List.getElem?_map, List.getElem?_eq_getElem (by omega)]
  show some (unv _) = _
  unfold unv
  rw [hj]
theorem RSt.wait {w : World} {B p : Nat} {vS vW : Value} {s : St} (h : RSt w B p vS vW s) {k : Nat} (hk : k < s.W.length) :
    ∃ g c j Av cv b, vW = .slice (some ⟨g, 0, none⟩) s.W.length c ∧ w.cell? ⟨g, k * 2, none⟩ = some (.int .i64 ((j : Nat) : Int)) ∧ w.cell? ⟨g, k * 2 + 1, none⟩ = some (.slice Av 1024 cv) ∧ Pg w B (.slice Av 1024 cv) b ∧ s.W[k]? = some ((j : Int), b) ∧ j < s.S.length := by
  obtain ⟨Sl, Wl, e1, e2, hr⟩ := h.body
  have hl : s.W.length = Wl.length := by rw [e2, List.length_map]
  have hls : s.S.length = Sl.length := by rw [e1, List.length_map]
  obtain ⟨g, c, hv, h0, h1⟩ := hr.at_w k (by omega)
  have hmem := List.getElem_mem (l := Wl) (n := k) (by omega)
  have hpg := hr.wp _ hmem
  obtain ⟨hr0, hr1⟩ := hr.wr _ hmem
  obtain ⟨j, hj⟩ := Int.eq_ofNat_of_zero_le hr0
  obtain ⟨Av, cv, hvp, _, _⟩ := hpg.reads
  rw [hpg.1] at hvp
  rw [hvp] at h1 hpg
  rw [hj] at h0
  refine ⟨g, c, j, Av, cv, (Wl[k]'(by omega)).2.2, by rw [hl]; exact hv, h0, h1, hpg, ?_, by omega⟩
  rw [e2, List.getElem?_map, List.getElem?_eq_getElem (by omega)]
  show some (unv _) = _
  unfold unv
  rw [hj]
theorem torn_pg {w : World} {B : Nat} {v : Value} {b : List Int} (h : Pg w B v b) : ∀ w1, Below w.heap.size w w1 → Calls Try.prog 35 #[v] w1 fun e w' => ∃ v', e = .returned v' ∧ Made w1 w' v' (torn b) := by
  intro w1 hb
  obtain ⟨A, c, rfl, hc, hC⟩ := h.reads
  exact page_Torn.calls A c b _ w1 (Kd.C_below hC hb) hc (by unfold page_Torn.f; rw [if_pos ⟨by have := h.1; omega, h.2.1⟩])
theorem torn_len (b : List Int) : (torn b).length = b.length := by
  unfold torn
  split
  · rename_i h; rw [h]
  · rw [List.length_set]
theorem torn_isB {b : List Int} (h : IsB b) : IsB (torn b) := by
  unfold torn
  split
  · intro x hx; cases hx
  · rename_i hne
    intro x hx
    rcases List.mem_or_eq_of_mem_set hx with hx | rfl
    · exact h x hx
    · have hp : b.length - 1 < b.length := by have := List.length_pos_iff.2 hne; omega
      have := h _ (rd_mem (l := b) (k := b.length - 1) hp)
      omega

set_option maxHeartbeats 8000000 in
set_option maxRecDepth 20000 in
theorem crash_calls {w : World} {B p gm : Nat} {vS vW : Value} {s : St} (h : DSt w B p gm vS vW s) (hB : B ≤ w.heap.size) (A : Option Addr) (c : Nat) (l : List Bool) (hl : l.length ≤ c) (hC : Kd.C Kd.bool w A l.length l) (hO : 0 < l.length → ∀ ad, A = some ad → ad.block < w.heap.size ∧ ¬ DO p gm vS vW ad.block) (tn : Int) (hlen : s.W.length ≤ 1000000) :
    Calls Try.prog 20 #[.pointer (some ⟨p, 0, none⟩), .slice A l.length c, .int .i64 tn] w fun e w' => e = .returned (.tuple #[]) ∧ DSt w' B p gm vS nilS (crash s l tn) ∧ Turn (DO p gm vS vW) w w' := by
  have hkeep : ∀ w1, Turn (fun j => vS.ownBlock = some j) w w1 → ∀ k, k < l.length → ∃ ad, A = some ad ∧ w1.cell? (ad.add k) = some (.bool (l.getD k false)) := by
    intro w1 ht k hk
    obtain ⟨ad, hA, hc⟩ := C_bool hC hk
    have hb : (ad.add k).block = ad.block := by unfold Addr.add; split <;> rfl
    refine ⟨ad, hA, ?_⟩
    rw [← hc]
    exact World.cell?_of_block (by rw [hb]; exact ht.block _ (hO (by omega) ad hA).1 (fun e => (hO (by omega) ad hA).2 (.inr (.inr (.inl e)))))
  obtain ⟨Sl, Wl, es, clk, e1, e2, hr, hm, hok⟩ := h.body
  have hwl : s.W.length = Wl.length := by rw [e2, List.length_map]
  obtain ⟨AW, cW, hvW, _⟩ := own_sl hr.w_
  rw [← hwl] at hvW
  have k1 : w.cell? ⟨p, 1, none⟩ = some (.slice AW s.W.length cW) := by rw [← hvW]; exact (blk_cell h.blk 1).trans rfl
  have HK := Lib.hid hkeep
  have HD := Lib.hid h
  have HBB := Lib.hid hB
  have hll : l.length ≤ 9223372036854775807 := hC.2.1
  clear h hC hO hkeep hr hm hok e1 e2 hwl hB
  go_enter Try.func20, Try.ntmps20
  go_wp2
  go_loopw [13] (fun i wr => ∃ k : Nat, k ≤ s.W.length ∧ i = .int .i64 k ∧ Hid (DSt wr B p gm vS vW ⟨crashN l tn s.W s.S k, s.W, s.left, s.down⟩) ∧ Hid (Turn (fun j => vS.ownBlock = some j) w wr)) (fun i _ => s.W.length - (intOf i).toNat)
  case atStart => exact ⟨0, Nat.zero_le _, rfl, HD, Lib.hid (Turn.refl _ _)⟩
  case round =>
    obtain ⟨k, hk, rfl, HR, HT⟩ := hrel
    by_cases hlt : k < s.W.length
    · have d : decide ((k : Int) < (s.W.length : Int)) = true := decide_eq_true (by omega)
      have hwr : wrap64 ((k : Int) + 1) = ((k + 1 : Nat) : Int) := by unfold wrap64; omega
      obtain ⟨g, c', j, Av, cv, b, hv2, z0, z1, hpg, hWk, hjs⟩ := HR.out.wait hlt
      have hvv := hvW
      rw [hv2] at hvv
      injection hvv with hA _ hcc
      subst hA
      have hstep : crashN l tn s.W s.S (k + 1) = if l.getD k false then (crashN l tn s.W s.S k).set j (if (k : Int) = tn then torn b else b) else crashN l tn s.W s.S k := by
        show cstep l tn s.W (crashN l tn s.W s.S k) k = _
        unfold cstep
        rw [hWk]
        rfl
      have HST := Lib.hid hstep
      have HPG := Lib.hid hpg
      have HJS := Lib.hid hjs
      have q : (k : Int) < (s.W.length : Int) := by omega
      clear hv2 hcc hstep hpg hWk hjs
      by_cases hkl : k < l.length
      · have d2 : decide ((k : Int) ≥ (l.length : Int)) = false := decide_eq_false (by omega)
        have q2 : (k : Int) < (l.length : Int) := by omega
        obtain ⟨ad, rfl, hb0⟩ := HK.out (wr.alloc (.cells #[.int .i64 j, .slice Av 1024 cv] 64)) (HT.out.alloc _) k hkl
        cases hkb : l.getD k false with
        | false =>
          rw [hkb] at hb0 HST
          rw [if_neg (by decide)] at HST
          go_wp2
          go_roundw
          case rel => exact ⟨k + 1, by omega, by go_num, Lib.hid (by rw [HST.out]; exact HR.out.below (below_alloc (Below.refl _ _) _)), Lib.hid (HT.out.alloc _)⟩
          case measure => simp [intOf]; omega
        | true =>
          rw [hkb] at hb0 HST
          rw [if_pos rfl] at HST
          go_wp2
          have hba := below_alloc (Below.refl wr.heap.size wr) (.cells #[.int .i64 (j : Int), .slice Av 1024 cv] 64)
          have hdd := (HR.out.below hba).below (Below.refl _ _).drew
          have hta : Turn (fun i => vS.ownBlock = some i) w (wr.alloc (.cells #[.int .i64 (j : Int), .slice Av 1024 cv] 64)).drew := (HT.out.alloc _).drew
          have hna : (wr.alloc (.cells #[.int .i64 (j : Int), .slice Av 1024 cv] 64)).drew.heap[wr.heap.size]? = some (.cells #[.int .i64 (j : Int), .slice Av 1024 cv] 64 (0, 0)) := blk_drew (heap_alloc_new wr _)
          have hpga : Pg (wr.alloc (.cells #[.int .i64 (j : Int), .slice Av 1024 cv] 64)).drew B (.slice Av 1024 cv) b := (HPG.out.turn (O := fun _ => False) (Turn.of_below hba) (fun _ _ _ h => h)).turn (O := fun _ => False) (Turn.refl _ _).drew (fun _ _ _ h => h)
          obtain ⟨g2, c2, v0, hvS, hcell, _⟩ := hdd.page j HJS.out
          have hsl : (crashN l tn s.W s.S k).length = s.S.length := crashN_len ..
          have hq0 : (0 : Int) ≤ (j : Int) := by omega
          have hq1 : (j : Int) < (s.S.length : Int) := by have h1 := HJS.out; have h2 : j < (crashN l tn s.W s.S k).length := h1; omega
          have zp : (wr.alloc (.cells #[.int .i64 (j : Int), .slice Av 1024 cv] 64)).drew.cell? ⟨p, 0, none⟩ = some (.slice (some ⟨g2, 0, none⟩) s.S.length c2) := by rw [← hsl]; have h1 := hvS; have h2 : vS = .slice (some ⟨g2, 0, none⟩) (crashN l tn s.W s.S k).length c2 := h1; rw [← h2]; exact (blk_cell hdd.blk 0).trans rfl
          obtain ⟨_, cg, hgb⟩ : B ≤ g2 ∧ ∃ c, (wr.alloc (.cells #[.int .i64 (j : Int), .slice Av 1024 cv] 64)).drew.heap[g2]? = some (.cells c 34 (0, 0)) := by obtain ⟨_, _, _, _, _, _, hr, _, _⟩ := hdd.body; exact own_block hr.s (by rw [hvS]; rfl)
          have fz := blk_frozen hgb j
          have hgn : g2 ≠ wr.heap.size := sep hgb hna (by decide)
          have HSL := Lib.hid hsl
          clear HR HT z0 z1 hba hsl
          refine start_ (n := 10) (S := fun w' => w'.cell? ⟨p, 0, none⟩ = some (.slice (some ⟨g2, 0, none⟩) s.S.length c2) ∧ w'.cell? ⟨wr.heap.size, 0, none⟩ = some (.int .i64 (j : Int)) ∧ w'.cell? ⟨wr.heap.size, 1, none⟩ = some (.slice Av 1024 cv)) (ds := [9]) #[false, false, false, false, false, false, false, false, false, false] (by kernel_rfl) rfl rfl ⟨zp, (blk_cell hna 0).trans rfl, (blk_cell hna 1).trans rfl⟩ (fun hHeld => ?_)
          generalize (wr.alloc (.cells #[.int .i64 (j : Int), .slice Av 1024 cv] 64)).drew = w5 at hdd hta hna hpga hcell fz hgb zp hHeld ⊢
          have HDD := Lib.hid hdd
          have HTA := Lib.hid hta
          have HNA := Lib.hid hna
          have HPA := Lib.hid hpga
          have HVS := Lib.hid hvS
          clear hdd hta hna hpga hvS hgb zp
          refine pure_ (i := 0) (N := some 29) (v := ?_) (a' := ?_) #[true, false, false, false, false, false, false, false, false, false] rfl rfl (by kernel_rfl) (fun _ _ _ h => h) (Or.inl ⟨by rfl, ?_⟩) ?_ ?_
          rotate_left
          · intro w'
            go_simp
            with_reducible rfl
          rotate_left
          · simp only [Act.put, List.setIfInBounds_toArray, List.set_cons_zero, List.set_cons_succ, i64_w, i32_w]
            rfl
          refine pure_ (i := 1) (N := some 30) (v := ?_) (a' := ?_) #[true, true, false, false, false, false, false, false, false, false] rfl rfl (by kernel_rfl) (fun _ _ _ h => h) (Or.inl ⟨by rfl, ?_⟩) ?_ ?_
          rotate_left
          · intro w'
            go_simp
            with_reducible rfl
          rotate_left
          · simp only [Act.put, List.setIfInBounds_toArray, List.set_cons_zero, List.set_cons_succ, i64_w, i32_w]
            rfl
          refine pure_ (i := 2) (N := some 31) (v := ?_) (a' := ?_) #[true, true, true, false, false, false, false, false, false, false] rfl rfl (by kernel_rfl) (fun _ _ _ h => h) (Or.inl ⟨by rfl, ?_⟩) ?_ ?_
          rotate_left
          · intro w'
            go_simp
            with_reducible rfl
          rotate_left
          · simp only [Act.put, List.setIfInBounds_toArray, List.set_cons_zero, List.set_cons_succ, i64_w, i32_w]
            rfl
          refine pure_ (i := 4) (N := some 33) (v := ?_) (a' := ?_) #[true, true, true, false, true, false, false, false, false, false] rfl rfl (by kernel_rfl) (fun _ _ _ h => h) (Or.inl ⟨by rfl, ?_⟩) ?_ ?_
          rotate_left
          · intro w'
            go_simp
            with_reducible rfl
          rotate_left
          · simp only [Act.put, List.setIfInBounds_toArray, List.set_cons_zero, List.set_cons_succ, i64_w, i32_w]
            rfl
          refine pure_ (i := 6) (N := some 35) (v := ?_) (a' := ?_) #[true, true, true, false, true, false, true, false, false, false] rfl rfl (by kernel_rfl) (fun _ _ _ h => h) (Or.inl ⟨by rfl, ?_⟩) ?_ ?_
          rotate_left
          · intro w'
            go_simp
            with_reducible rfl
          rotate_left
          · simp only [Act.put, List.setIfInBounds_toArray, List.set_cons_zero, List.set_cons_succ, i64_w, i32_w]
            rfl
          refine take_ (i := 3) (N := some 32) (v := ?_) (a' := ?_) #[true, true, true, true, true, false, true, false, false, false] rfl rfl (by kernel_rfl) (fun _ _ _ h => h) (Or.inl ⟨by rfl, ?_⟩) hHeld ?_ ?_
          rotate_left
          · rintro w' ⟨s0, s1, s2⟩
            go_simp
            with_reducible rfl
          rotate_left
          · simp only [Act.put, List.setIfInBounds_toArray, List.set_cons_zero, List.set_cons_succ, i64_w, i32_w]
            rfl
          refine take_ (i := 5) (N := some 34) (v := ?_) (a' := ?_) #[true, true, true, true, true, true, true, false, false, false] rfl rfl (by kernel_rfl) (fun _ _ _ h => h) (Or.inl ⟨by rfl, ?_⟩) hHeld ?_ ?_
          rotate_left
          · rintro w' ⟨s0, s1, s2⟩
            go_simp
            with_reducible rfl
          rotate_left
          · simp only [Act.put, List.setIfInBounds_toArray, List.set_cons_zero, List.set_cons_succ, i64_w, i32_w]
            rfl
          refine take_ (i := 7) (N := some 36) (v := ?_) (a' := ?_) #[true, true, true, true, true, true, true, true, false, false] rfl rfl (by kernel_rfl) (fun _ _ _ h => h) (Or.inl ⟨by rfl, ?_⟩) hHeld ?_ ?_
          rotate_left
          · rintro w' ⟨s0, s1, s2⟩
            go_simp
            with_reducible rfl
          rotate_left
          · simp only [Act.put, List.setIfInBounds_toArray, List.set_cons_zero, List.set_cons_succ, i64_w, i32_w]
            rfl
          refine pure_ (i := 8) (N := some 37) (v := ?_) (a' := ?_) #[true, true, true, true, true, true, true, true, true, false] rfl rfl (by kernel_rfl) (fun _ _ _ h => h) (Or.inl ⟨by rfl, ?_⟩) ?_ ?_
          rotate_left
          · intro w'
            go_simp
            with_reducible rfl
          rotate_left
          · simp only [Act.put, List.setIfInBounds_toArray, List.set_cons_zero, List.set_cons_succ, i64_w, i32_w]
            rfl
          refine last_ (i := 9) (N := none) #[true, true, true, true, true, true, true, true, true, true] rfl rfl (by kernel_rfl) (by decide) (fun K hK => ?_)
          refine skip_ (w1 := ?_) (by rfl) rfl ?_ ?_
          rotate_left
          · go_simp
            rfl
          refine hK.out _ _ ?_
          clear hK K
          refine done_ (by kernel_rfl) ?_
          have hd6 : DSt (w5.setCell ⟨g2, j, none⟩ (.slice Av 1024 cv)) B p gm vS vW ⟨(crashN l tn s.W s.S k).set j b, s.W, s.left, s.down⟩ := by
            have h1 := HDD.out
            rw [HVS.out] at h1 ⊢
            exact DSt.store (s := ⟨crashN l tn s.W s.S k, s.W, s.left, s.down⟩) h1 HJS.out HPA.out
          have ht6 : Turn (fun i => vS.ownBlock = some i) w (w5.setCell ⟨g2, j, none⟩ (.slice Av 1024 cv)) := HTA.out.trans (Turn.set (O := fun i => vS.ownBlock = some i) _ _ _ _ (by show vS.ownBlock = some g2; rw [HVS.out]; rfl)) (fun i hi => .inl hi)
          have hn6 : (w5.setCell ⟨g2, j, none⟩ (.slice Av 1024 cv)).heap[wr.heap.size]? = some (.cells #[.int .i64 (j : Int), .slice Av 1024 cv] 64 (0, 0)) := blk_turn (Turn.set (O := fun i => i = g2) _ _ _ _ rfl) HNA.out (fun e => hgn e.symm)
          have hp6 : Pg (w5.setCell ⟨g2, j, none⟩ (.slice Av 1024 cv)) B (.slice Av 1024 cv) b := HPA.out.turn (Turn.set (O := fun i => i = g2) _ _ _ _ rfl) (fun i cc hi e => by
            obtain ⟨_, cg, hgb⟩ : B ≤ g2 ∧ ∃ c, w5.heap[g2]? = some (.cells c 34 (0, 0)) := by obtain ⟨_, _, _, _, _, _, hr, _, _⟩ := HDD.out.body; exact own_block hr.s (by rw [HVS.out]; rfl)
            exact sep hi hgb (by decide) e)
          have HD6 := Lib.hid hd6
          have HT6 := Lib.hid ht6
          have HN6 := Lib.hid hn6
          have HP6 := Lib.hid hp6
          clear hd6 ht6 hn6 hp6 HDD HTA HNA HPA HVS hHeld fz hcell hgn
          generalize w5.setCell ⟨g2, j, none⟩ (.slice Av 1024 cv) = w6 at HD6 HT6 HN6 HP6 ⊢
          by_cases hkt : (k : Int) = tn
          · rw [if_pos hkt] at HST
            have hbe : ((k : Int) == tn) = true := beq_iff_eq.2 hkt
            go_wp2
            have hdd := HD6.out.below (Below.refl _ _).drew
            have hta : Turn (fun i => vS.ownBlock = some i) w w6.drew := HT6.out.drew
            have hna : w6.drew.heap[wr.heap.size]? = some (.cells #[.int .i64 (j : Int), .slice Av 1024 cv] 64 (0, 0)) := blk_drew HN6.out
            have hpga : Pg w6.drew B (.slice Av 1024 cv) b := HP6.out.turn (O := fun _ => False) (Turn.refl _ _).drew (fun _ _ _ h => h)
            obtain ⟨g3, c3, v3, hvS, hcell, _⟩ := hdd.page j (by show j < ((crashN l tn s.W s.S k).set j b).length; rw [List.length_set]; exact HJS.out)
            have hs2 : ((crashN l tn s.W s.S k).set j b).length = s.S.length := by rw [List.length_set]; exact HSL.out
            have zp : w6.drew.cell? ⟨p, 0, none⟩ = some (.slice (some ⟨g3, 0, none⟩) s.S.length c3) := by rw [← hs2]; have h2 : vS = .slice (some ⟨g3, 0, none⟩) ((crashN l tn s.W s.S k).set j b).length c3 := hvS; rw [← h2]; exact (blk_cell hdd.blk 0).trans rfl
            have HQ := Lib.hid hs2
            clear HD6 HT6 HN6 HP6 hs2
            refine start_ (n := 11) (S := fun w' => w'.cell? ⟨p, 0, none⟩ = some (.slice (some ⟨g3, 0, none⟩) s.S.length c3) ∧ w'.cell? ⟨wr.heap.size, 0, none⟩ = some (.int .i64 (j : Int)) ∧ w'.cell? ⟨wr.heap.size, 1, none⟩ = some (.slice Av 1024 cv)) (ds := [10]) #[false, false, false, false, false, false, false, false, false, false, false] (by kernel_rfl) rfl rfl ⟨zp, (blk_cell hna 0).trans rfl, (blk_cell hna 1).trans rfl⟩ (fun hHeld => ?_)
            generalize w6.drew = w5 at hdd hta hna hpga hcell zp hHeld ⊢
            have HDD := Lib.hid hdd
            have HTA := Lib.hid hta
            have HNA := Lib.hid hna
            have HPA := Lib.hid hpga
            have HVS := Lib.hid hvS
            clear hdd hta hna hpga hvS zp hcell
            refine pure_ (i := 0) (N := some 41) (v := ?_) (a' := ?_) #[true, false, false, false, false, false, false, false, false, false, false] rfl rfl (by kernel_rfl) (fun _ _ _ h => h) (Or.inl ⟨by rfl, ?_⟩) ?_ ?_
            rotate_left
            · intro w'
              go_simp
              with_reducible rfl
            rotate_left
            · simp only [Act.put, List.setIfInBounds_toArray, List.set_cons_zero, List.set_cons_succ, i64_w, i32_w]
              rfl
            refine pure_ (i := 1) (N := some 42) (v := ?_) (a' := ?_) #[true, true, false, false, false, false, false, false, false, false, false] rfl rfl (by kernel_rfl) (fun _ _ _ h => h) (Or.inl ⟨by rfl, ?_⟩) ?_ ?_
            rotate_left
            · intro w'
              go_simp
              with_reducible rfl
            rotate_left
            · simp only [Act.put, List.setIfInBounds_toArray, List.set_cons_zero, List.set_cons_succ, i64_w, i32_w]
              rfl
            refine pure_ (i := 2) (N := some 43) (v := ?_) (a' := ?_) #[true, true, true, false, false, false, false, false, false, false, false] rfl rfl (by kernel_rfl) (fun _ _ _ h => h) (Or.inl ⟨by rfl, ?_⟩) ?_ ?_
            rotate_left
            · intro w'
              go_simp
              with_reducible rfl
            rotate_left
            · simp only [Act.put, List.setIfInBounds_toArray, List.set_cons_zero, List.set_cons_succ, i64_w, i32_w]
              rfl
            refine pure_ (i := 4) (N := some 45) (v := ?_) (a' := ?_) #[true, true, true, false, true, false, false, false, false, false, false] rfl rfl (by kernel_rfl) (fun _ _ _ h => h) (Or.inl ⟨by rfl, ?_⟩) ?_ ?_
            rotate_left
            · intro w'
              go_simp
              with_reducible rfl
            rotate_left
            · simp only [Act.put, List.setIfInBounds_toArray, List.set_cons_zero, List.set_cons_succ, i64_w, i32_w]
              rfl
            refine pure_ (i := 6) (N := some 47) (v := ?_) (a' := ?_) #[true, true, true, false, true, false, true, false, false, false, false] rfl rfl (by kernel_rfl) (fun _ _ _ h => h) (Or.inl ⟨by rfl, ?_⟩) ?_ ?_
            rotate_left
            · intro w'
              go_simp
              with_reducible rfl
            rotate_left
            · simp only [Act.put, List.setIfInBounds_toArray, List.set_cons_zero, List.set_cons_succ, i64_w, i32_w]
              rfl
            refine take_ (i := 3) (N := some 44) (v := ?_) (a' := ?_) #[true, true, true, true, true, false, true, false, false, false, false] rfl rfl (by kernel_rfl) (fun _ _ _ h => h) (Or.inl ⟨by rfl, ?_⟩) hHeld ?_ ?_
            rotate_left
            · rintro w' ⟨s0, s1, s2⟩
              go_simp
              with_reducible rfl
            rotate_left
            · simp only [Act.put, List.setIfInBounds_toArray, List.set_cons_zero, List.set_cons_succ, i64_w, i32_w]
              rfl
            refine take_ (i := 5) (N := some 46) (v := ?_) (a' := ?_) #[true, true, true, true, true, true, true, false, false, false, false] rfl rfl (by kernel_rfl) (fun _ _ _ h => h) (Or.inl ⟨by rfl, ?_⟩) hHeld ?_ ?_
            rotate_left
            · rintro w' ⟨s0, s1, s2⟩
              go_simp
              with_reducible rfl
            rotate_left
            · simp only [Act.put, List.setIfInBounds_toArray, List.set_cons_zero, List.set_cons_succ, i64_w, i32_w]
              rfl
            refine take_ (i := 7) (N := some 48) (v := ?_) (a' := ?_) #[true, true, true, true, true, true, true, true, false, false, false] rfl rfl (by kernel_rfl) (fun _ _ _ h => h) (Or.inl ⟨by rfl, ?_⟩) hHeld ?_ ?_
            rotate_left
            · rintro w' ⟨s0, s1, s2⟩
              go_simp
              with_reducible rfl
            rotate_left
            · simp only [Act.put, List.setIfInBounds_toArray, List.set_cons_zero, List.set_cons_succ, i64_w, i32_w]
              rfl
            refine one_ (i := 8) (N := some 49) #[true, true, true, true, true, true, true, true, true, false, false] rfl rfl (by kernel_rfl) (by decide) (fun K hK => ?_)
            refine goes_ Try.func35 (by kernel_rfl) rfl #[.slice Av 1024 cv] (by rfl) rfl rfl (by simp only [List.map_toArray, List.map_cons, List.map_nil]; rfl) ?_
            with_reducible refine (torn_pg HPA.out _ (Below.refl _ _)).mono ?_
            rintro e w7 ⟨v7, rfl, hm7, hb7⟩
            refine ⟨_, rfl, ?_⟩
            have hp7 := Pg.of_R (B := B) hm7 (by rw [torn_len]; exact HPA.out.1) (torn_isB HPA.out.2.1) (by have h1 := HTA.out.size; have h2 := HBB.out; omega)
            obtain ⟨A7, c7, rfl⟩ := Kd.R_slice hm7
            rw [torn_len, HPA.out.1] at hp7
            have HP7 := Lib.hid hp7
            have hd7 := HDD.out.below hb7
            have HD7 := Lib.hid hd7
            have HT7 := Lib.hid (HTA.out.then_below hb7)
            have HN7 := Lib.hid (block_below HNA.out hb7)
            have zp7 : w7.cell? ⟨p, 0, none⟩ = some (.slice (some ⟨g3, 0, none⟩) s.S.length c3) := by rw [← HQ.out]; have h2 : vS = .slice (some ⟨g3, 0, none⟩) ((crashN l tn s.W s.S k).set j b).length c3 := HVS.out; rw [← h2]; exact (blk_cell hd7.blk 0).trans rfl
            obtain ⟨_, cg7, hgb7⟩ : B ≤ g3 ∧ ∃ c, w7.heap[g3]? = some (.cells c 34 (0, 0)) := by obtain ⟨_, _, _, _, _, _, hr, _, _⟩ := hd7.body; exact own_block hr.s (by rw [HVS.out]; rfl)
            have fz7 := blk_frozen hgb7 j
            obtain ⟨g4, c4, v4, hvS4, hcell7, _⟩ := hd7.page j (by show j < ((crashN l tn s.W s.S k).set j b).length; rw [List.length_set]; exact HJS.out)
            rw [HVS.out] at hvS4
            injection hvS4 with hg4 _ _
            injection hg4 with hg4
            injection hg4 with hg4 _ _
            subst hg4
            clear hm7 hb7 hp7 hd7 hgb7
            refine hK.out _ _ ⟨zp7, (blk_cell HN7.out 0).trans rfl, (blk_cell HN7.out 1).trans rfl⟩ (fun hHeld => ?_)
            clear hK K
            refine norm_ (a' := ?_) ?_ ?_
            rotate_left
            · show Act.put _ (some 49) _ = _
              simp only [Act.put, List.setIfInBounds_toArray, List.set_cons_zero, List.set_cons_succ, i64_w, i32_w]
              rfl
            refine pure_ (i := 9) (N := some 50) (v := ?_) (a' := ?_) #[true, true, true, true, true, true, true, true, true, true, false] rfl rfl (by kernel_rfl) (fun _ _ _ h => h) (Or.inl ⟨by rfl, ?_⟩) ?_ ?_
            rotate_left
            · intro w'
              go_simp
              with_reducible rfl
            rotate_left
            · simp only [Act.put, List.setIfInBounds_toArray, List.set_cons_zero, List.set_cons_succ, i64_w, i32_w]
              rfl
            refine last_ (i := 10) (N := none) #[true, true, true, true, true, true, true, true, true, true, true] rfl rfl (by kernel_rfl) (by decide) (fun K hK => ?_)
            refine skip_ (w1 := ?_) (by rfl) rfl ?_ ?_
            rotate_left
            · go_simp
              rfl
            refine hK.out _ _ ?_
            clear hK K
            refine done_ (by kernel_rfl) ?_
            have hlt7 : (torn b).length = 1024 := by rw [torn_len]; exact HPA.out.1
            have hd8 : DSt (w7.setCell ⟨g3, j, none⟩ (.slice A7 (torn b).length c7)) B p gm vS vW ⟨((crashN l tn s.W s.S k).set j b).set j (torn b), s.W, s.left, s.down⟩ := by
              have h1 := HD7.out
              rw [HVS.out] at h1 ⊢
              exact DSt.store (s := ⟨((crashN l tn s.W s.S k).set j b), s.W, s.left, s.down⟩) h1 (by show j < ((crashN l tn s.W s.S k).set j b).length; rw [List.length_set]; exact HJS.out) (by rw [hlt7]; exact HP7.out)
            have ht8 : Turn (fun i => vS.ownBlock = some i) w (w7.setCell ⟨g3, j, none⟩ (.slice A7 (torn b).length c7)) := HT7.out.trans (Turn.set (O := fun i => vS.ownBlock = some i) _ _ _ _ (by show vS.ownBlock = some g3; rw [HVS.out]; rfl)) (fun i hi => .inl hi)
            rw [List.set_set, hlt7] at hd8
            rw [hlt7] at ht8
            have HD8 := Lib.hid hd8
            have HT8 := Lib.hid ht8
            clear hd8 ht8 HD7 HT7 HN7 HP7 HDD HTA HNA HPA HVS hHeld fz7 hcell7 zp7
            go_wp2
            go_roundw
            case rel => exact ⟨k + 1, by omega, by go_num, Lib.hid (by rw [HST.out]; exact HD8.out), HT8⟩
            case measure => simp [intOf]; omega
          · rw [if_neg hkt] at HST
            have hbe : ((k : Int) == tn) = false := beq_eq_false_iff_ne.2 hkt
            go_wp2
            go_roundw
            case rel => exact ⟨k + 1, by omega, by go_num, Lib.hid (by rw [HST.out]; exact HD6.out), HT6⟩
            case measure => simp [intOf]; omega
      · have d2 : decide ((k : Int) ≥ (l.length : Int)) = true := decide_eq_true (by omega)
        have hkb : l.getD k false = false := by rw [List.getD_eq_getElem?_getD, List.getElem?_eq_none (by omega)]; rfl
        rw [hkb, if_neg (by decide)] at HST
        go_wp2
        go_roundw
        case rel => exact ⟨k + 1, by omega, by go_num, Lib.hid (by rw [HST.out]; exact HR.out.below (below_alloc (Below.refl _ _) _)), Lib.hid (HT.out.alloc _)⟩
        case measure => simp [intOf]; omega
    · have hk2 : k = s.W.length := by omega
      subst hk2
      have d : decide ((s.W.length : Int) < (s.W.length : Int)) = false := decide_eq_false (by omega)
      have HTF := Lib.hid (HT.out.mono (O' := DO p gm vS vW) (fun i hi _ => .inr (.inr (.inl hi))))
      go_wp2_with fail
      refine (rest_calls HR.out).mono ?_
      rintro e w2 ⟨rfl, hd2, ht2⟩
      have k3 := (blk_cell hd2.blk 3)
      have f3 := blk_frozen hd2.blk 3
      have hd3 := hd2.set3 0 (by omega)
      have f4 := blk_frozen hd3.blk 4
      have z3 : w2.cell? ⟨p, 3, none⟩ = some (.int .i64 s.left) := (blk_cell hd2.blk 3).trans rfl
      have z4 : (w2.setCell ⟨p, 3, none⟩ (.int .i64 0)).cell? ⟨p, 4, none⟩ = some (.bool s.down) := (blk_cell hd3.blk 4).trans rfl
      have hd4 := hd3.set4 false
      have HD4 := Lib.hid hd4
      have HT2 := Lib.hid (((HTF.out.trans ht2 (fun i hi => .inl hi)).trans (Turn.set (O := DO p gm vS vW) _ p 3 (.int .i64 0) (.inl rfl)) (fun i hi => .inl hi)).trans (Turn.set (O := DO p gm vS vW) _ p 4 (.bool false) (.inl rfl)) (fun i hi => .inl hi))
      clear hd2 ht2 hd3 hd4 k3 HTF HR HT
      go_wp2
      go_end0
      exact ⟨rfl, HD4.out, HT2.out⟩
end Go.Proofs.Ytblacdnndchghaa.D
