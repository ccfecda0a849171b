/- The disks' New: contracts by hand. -/
import Derived.Test.YtblacdnndchghaaDiskRef3
namespace Go.Proofs.Ytblacdnndchghaa.D
open Go.RowKit Go.Proofs.YtblacdnndchghaaW.PrintWords Go.Proofs.YtblacdnndchghaaW.PrintLast Go.Proofs.YtblacdnndchghaaW.PrintMore Go.Proofs.Ytblacdnndchghaa.Math Go.Proofs.Ytblacdnndchghaa.PAll
open Go.ChangeMaps (setBlock)
set_option linter.unusedVariables false
set_option linter.unusedSimpArgs false

theorem info_row : (Try.prog.info? 34).map (fun i => (i.zero, i.size, i.bytes)) = some (some nilS, 1, 24) := by kernel_rfl
/-- A page of zeros. -/
def zpage : List Int := List.replicate (1024 : Int).toNat 0
theorem zpage_len : zpage.length = 1024 := by unfold zpage; rw [List.length_replicate]; rfl
theorem zpage_isB : IsB zpage := by
  intro x hx
  have := List.eq_of_mem_replicate hx
  omega
/-- A page is laid behind the others. -/
theorem Rows.push {TW : TypeId} {w w1 : World} {B : Nat} {vS v2 vW v : Value} {b : List Int} {Sl : List (Value × List Int)} {Wl : List (Int × Value × List Int)} (h : Rows TW w B vS vW Sl Wl) (hpg : Pg w B v b) (hne : TW ≠ 34)
    (ht : Turn (fun k => vS.ownBlock = some k) w w1) (hown : w1.ownsRow B 34 1 v2 (Sl.length + 1) (Sl.map Prod.fst ++ [v])) : Rows TW w1 B v2 vW (Sl ++ [(v, b)]) Wl := by
  have hp : ∀ k c, w.heap[k]? = some (.cells c 5 (0, 0)) → ¬ vS.ownBlock = some k := fun k c hk e => by
    obtain ⟨_, c2, h2⟩ := own_block h.s e
    exact sep hk h2 (by decide) rfl
  refine ⟨?_, own_turn ht h.w_ (fun k hk e => ?_), fun x hx => ?_, fun x hx => (h.wp x hx).turn ht hp, fun x hx => ?_⟩
  · rw [List.length_append, List.map_append]
    exact hown
  · obtain ⟨_, c2, h2⟩ := own_block h.s e
    obtain ⟨_, c3, h3⟩ := own_block h.w_ hk
    exact sep h3 h2 hne rfl
  · rcases List.mem_append.1 hx with hx | hx
    · exact (h.sp x hx).turn ht hp
    · rw [List.mem_singleton.1 hx]
      exact hpg.turn ht hp
  · have := h.wr x hx
    rw [List.length_append]
    exact ⟨this.1, by have h2 := this.2; simp; omega⟩
theorem DSt.push {w w1 : World} {B p gm : Nat} {vS v2 vW v : Value} {b : List Int} {s : St} (h : DSt w B p gm vS vW s) (hpg : Pg w B v b) (ht : Turn (fun k => vS.ownBlock = some k) w w1) (Sl : List (Value × List Int)) (Wl : List (Int × Value × List Int)) (es : Array MapEntry) (clk : Nat)
    (e1 : s.S = Sl.map Prod.snd) (e2 : s.W = Wl.map unv) (hr : Rows 64 w B vS vW Sl Wl) (hm : w.heap[gm]? = some (.map es clk)) (hok : MOk es clk (lastV Wl))
    (hown : w1.ownsRow B 34 1 v2 (Sl.length + 1) (Sl.map Prod.fst ++ [v])) (hfresh : v2.ownBlock = vS.ownBlock ∨ ∃ k, v2.ownBlock = some k ∧ w.heap.size ≤ k) : DSt (w1.setCell ⟨p, 0, none⟩ v2) B p gm v2 vW { s with S := s.S ++ [b] } := by
  have hpS : vS.ownBlock ≠ some p := fun e => by
    obtain ⟨_, c2, h2⟩ := own_block hr.s e
    exact sep h2 h.blk (by decide) rfl
  have hgS : vS.ownBlock ≠ some gm := fun e => by
    obtain ⟨_, c2, h2⟩ := own_block hr.s e
    exact sepm h2 hm rfl
  have hmp : gm ≠ p := fun e => sepm h.blk hm e.symm
  have hlp := blk_lt h.blk
  have hb1 := blk_turn ht h.blk hpS
  have hm1 := blk_turn ht hm hgS
  have hr1 := hr.push hpg (by decide) ht hown
  have t1 : Turn (fun k => k = p) w1 (w1.setCell ⟨p, 0, none⟩ v2) := Turn.set w1 p 0 _ rfl
  refine ⟨blk_set hb1 0 v2, h.pb, h.left0, Sl ++ [(v, b)], Wl, es, clk, ?_, e2, hr1.turn t1 (fun k c hk e => sep hk hb1 (by decide) e) (fun k hk e => ?_) (fun k hk e => ?_), blk_turn t1 hm1 hmp, hok⟩
  · show s.S ++ [b] = _
    rw [e1, List.map_append]
    rfl
  · rcases hfresh with e' | ⟨k2, e', hk2⟩
    · rw [e'] at hk; rw [e] at hk; exact hpS hk
    · rw [e'] at hk; injection hk with hk; omega
  · obtain ⟨_, c2, h2⟩ := own_block hr1.w_ hk
    exact sep h2 hb1 (by decide) e
theorem RSt.push {w w1 : World} {B p : Nat} {vS v2 vW v : Value} {b : List Int} {s : St} (h : RSt w B p vS vW s) (hpg : Pg w B v b) (ht : Turn (fun k => vS.ownBlock = some k) w w1) (Sl : List (Value × List Int)) (Wl : List (Int × Value × List Int))
    (e1 : s.S = Sl.map Prod.snd) (e2 : s.W = Wl.map unv) (hr : Rows 66 w B vS vW Sl Wl)
    (hown : w1.ownsRow B 34 1 v2 (Sl.length + 1) (Sl.map Prod.fst ++ [v])) (hfresh : v2.ownBlock = vS.ownBlock ∨ ∃ k, v2.ownBlock = some k ∧ w.heap.size ≤ k) : RSt (w1.setCell ⟨p, 0, none⟩ v2) B p v2 vW { s with S := s.S ++ [b] } := by
  have hpS : vS.ownBlock ≠ some p := fun e => by
    obtain ⟨_, c2, h2⟩ := own_block hr.s e
    exact sep h2 h.blk (by decide) rfl
  have hlp := blk_lt h.blk
  have hb1 := blk_turn ht h.blk hpS
  have hr1 := hr.push hpg (by decide) ht hown
  have t1 : Turn (fun k => k = p) w1 (w1.setCell ⟨p, 0, none⟩ v2) := Turn.set w1 p 0 _ rfl
  refine ⟨blk_set hb1 0 v2, h.pb, h.left0, Sl ++ [(v, b)], Wl, ?_, e2, hr1.turn t1 (fun k c hk e => sep hk hb1 (by decide) e) (fun k hk e => ?_) (fun k hk e => ?_)⟩
  · show s.S ++ [b] = _
    rw [e1, List.map_append]
    rfl
  · rcases hfresh with e' | ⟨k2, e', hk2⟩
    · rw [e'] at hk; rw [e] at hk; exact hpS hk
    · rw [e'] at hk; injection hk with hk; omega
  · obtain ⟨_, c2, h2⟩ := own_block hr1.w_ hk
    exact sep h2 hb1 (by decide) e
/-- A new disk of n pages. -/
def fresh (n : Nat) : St := ⟨List.replicate n zpage, [], 0, false⟩
theorem fresh_succ (n : Nat) : (fresh (n + 1)).S = (fresh n).S ++ [zpage] := by
  show List.replicate (n + 1) zpage = List.replicate n zpage ++ [zpage]
  rw [List.replicate_succ']
def npages (n : Int) : Nat := (min (max n 0) 2048).toNat
theorem npages_le (n : Int) : npages n ≤ 2048 := by unfold npages; omega

set_option maxHeartbeats 8000000 in
set_option maxRecDepth 20000 in
theorem new_calls (w : World) (n : Int) :
    Calls Try.prog 10 #[.int .i64 n] w fun e w' => e = .returned (.pointer (some ⟨w.heap.size + 1, 0, none⟩)) ∧ ∃ vS, DSt w' w.heap.size (w.heap.size + 1) w.heap.size vS nilS (fresh (npages n)) ∧ Below w.heap.size w w' := by
  have hmm := @run_makeMap Try.prog
  have h0 : DSt ((w.alloc (.map #[] 0)).alloc (.cells #[nilS, nilS, .map (some w.heap.size), .int .i64 0, .bool false] 60)) w.heap.size (w.heap.size + 1) w.heap.size nilS nilS (fresh 0) := by
    have hb := heap_alloc_new (w.alloc (.map #[] 0)) (.cells #[nilS, nilS, .map (some w.heap.size), .int .i64 0, .bool false] 60)
    have hm := blk_turn (O := fun _ => False) (Turn.of_below (below_alloc (Below.refl _ _) (.cells #[nilS, nilS, .map (some w.heap.size), .int .i64 0, .bool false] 60))) (heap_alloc_new w (.map #[] 0)) id
    have hb' : ((w.alloc (.map #[] 0)).alloc (.cells #[nilS, nilS, .map (some w.heap.size), .int .i64 0, .bool false] 60)).heap[w.heap.size + 1]? = some (.cells #[nilS, nilS, .map (some w.heap.size), .int .i64 0, .bool false] 60 (0, 0)) := by simpa using hb
    refine ⟨hb', ⟨by omega, Nat.le_refl _⟩, ⟨by decide, by decide⟩, [], [], #[], 0, rfl, rfl, ⟨own_nil _ _ _ _, own_nil _ _ _ _, fun x hx => (by cases hx), fun x hx => (by cases hx), fun x hx => (by cases hx)⟩, hm, MOk.empty 0⟩
  have hb0 : Below w.heap.size w ((w.alloc (.map #[] 0)).alloc (.cells #[nilS, nilS, .map (some w.heap.size), .int .i64 0, .bool false] 60)) := below_alloc (below_alloc (Below.refl _ _) _) _
  have HD0 := Lib.hid h0
  have HB0 := Lib.hid hb0
  have HPW := Lib.hid (show w.heap.size ≤ w.heap.size + 1 by omega)
  clear h0 hb0
  go_enter Try.func10, Try.ntmps10
  go_upto_region 2 with fail
  go_cut [9, 10] (fun v9 v10 wc => v9 = .int .i64 (npages n) ∧ v10 = .int .i64 0 ∧ wc = (w.alloc (.map #[] 0)).alloc (.cells #[nilS, nilS, .map (some w.heap.size), .int .i64 0, .bool false] 60))
  case first =>
    go_wp2
    all_goals
      go_meet
      case rel => exact ⟨by congr 1; unfold npages; omega, rfl, rfl⟩
  case rest =>
    obtain ⟨rfl, rfl, rfl⟩ := hcut
    have hnp := npages_le n
    obtain ⟨m, hnm⟩ : ∃ m, m = npages n := ⟨_, rfl⟩
    rw [← hnm] at hnp ⊢
    have HNM := Lib.hid hnm
    clear hnm
    obtain ⟨p, hp⟩ : ∃ p, p = w.heap.size + 1 := ⟨_, rfl⟩
    obtain ⟨gm, hgm⟩ : ∃ gm, gm = w.heap.size := ⟨_, rfl⟩
    rw [← hp] at HD0 HPW ⊢
    have HPG := Lib.hid (show p = w.heap.size + 1 ∧ gm = w.heap.size from ⟨hp, hgm⟩)
    have hd0 : DSt ((w.alloc (.map #[] 0)).alloc (.cells #[nilS, nilS, .map (some w.heap.size), .int .i64 0, .bool false] 60)) w.heap.size p gm nilS nilS (fresh 0) := by rw [hgm]; exact HD0.out
    have HD0 := Lib.hid hd0
    clear hp hgm hmm hd0
    generalize (w.alloc (.map #[] 0)).alloc (.cells #[nilS, nilS, .map (some w.heap.size), .int .i64 0, .bool false] 60) = w1 at HD0 HB0 ⊢
    go_wp2_with fail
    go_loopw [10] (fun i wr => ∃ (k : Nat) (vS : Value), k ≤ m ∧ i = .int .i64 k ∧ Hid (DSt wr w.heap.size p gm vS nilS (fresh k)) ∧ Hid (Below w.heap.size w wr)) (fun i _ => m - (intOf i).toNat)
    case atStart => exact ⟨0, nilS, Nat.zero_le _, rfl, HD0, HB0⟩
    case round =>
      clear HD0 HB0
      obtain ⟨k, vS, hk, rfl, HR, HB⟩ := hrel
      by_cases hlt : k < m
      · have d : decide ((k : Int) < (m : Int)) = true := decide_eq_true (by omega)
        have hwr : wrap64 ((k : Int) + 1) = ((k + 1 : Nat) : Int) := by unfold wrap64; omega
        have HK := Lib.hid (show k ≤ 2048 by omega)
        go_wp2
        have hdd := HR.out.below (Below.refl _ _).drew
        have hbd := HB.out.drew
        obtain ⟨Sl, Wl, es, clk, e1, e2, hr, hm, hok⟩ := hdd.body
        obtain ⟨AS, cS, hvS, _⟩ := own_sl hr.s
        have hsl : Sl.length = k := by have h1 : (fresh k).S.length = Sl.length := by rw [e1, List.length_map]
                                       rw [← h1]; show (List.replicate k zpage).length = k; rw [List.length_replicate]
        have zp : wr.drew.cell? ⟨p, 0, none⟩ = some (.slice AS Sl.length cS) := by rw [← hvS]; exact (blk_cell hdd.blk 0).trans rfl
        clear HR HB
        refine start_ (n := 11) (S := fun w' => w'.cell? ⟨p, 0, none⟩ = some (.slice AS Sl.length cS)) (ds := [10]) #[false, false, false, false, false, false, false, false, false, false, false] (by kernel_rfl) rfl rfl (zp) (fun hHeld => ?_)
        generalize wr.drew = w5 at hdd hbd hr hm zp hHeld ⊢
        have HDD := Lib.hid hdd
        have HBD := Lib.hid hbd
        have HR5 := Lib.hid hr
        have HM5 := Lib.hid hm
        have HV := Lib.hid hvS
        have HE := Lib.hid (show (fresh k).S = _ ∧ (fresh k).W = _ from ⟨e1, e2⟩)
        have HSL := Lib.hid hsl
        clear hdd hbd hr hm hvS e1 e2 zp hsl
        refine pure_ (i := 0) (N := some 12) (v := ?_) (a' := ?_) #[true, false, false, false, false, false, false, false, false, false, false] rfl rfl (by kernel_rfl) (fun _ _ _ h => h) (Or.inl ⟨by rfl, ?_⟩) ?_ ?_
        rotate_left
        · intro w'
          go_simp
          with_reducible rfl
        rotate_left
        · simp only [Act.put, List.setIfInBounds_toArray, List.set_cons_zero, List.set_cons_succ, i64_w, i32_w]
          rfl
        refine pure_ (i := 1) (N := some 13) (v := ?_) (a' := ?_) #[true, true, false, false, false, false, false, false, false, false, false] rfl rfl (by kernel_rfl) (fun _ _ _ h => h) (Or.inl ⟨by rfl, ?_⟩) ?_ ?_
        rotate_left
        · intro w'
          go_simp
          with_reducible rfl
        rotate_left
        · simp only [Act.put, List.setIfInBounds_toArray, List.set_cons_zero, List.set_cons_succ, i64_w, i32_w]
          rfl
        refine pure_ (i := 2) (N := some 14) (v := ?_) (a' := ?_) #[true, true, true, false, false, false, false, false, false, false, false] rfl rfl (by kernel_rfl) (fun _ _ _ h => h) (Or.inl ⟨by rfl, ?_⟩) ?_ ?_
        rotate_left
        · intro w'
          go_simp
          with_reducible rfl
        rotate_left
        · simp only [Act.put, List.setIfInBounds_toArray, List.set_cons_zero, List.set_cons_succ, i64_w, i32_w]
          rfl
        refine pure_ (i := 3) (N := some 15) (v := ?_) (a' := ?_) #[true, true, true, true, false, false, false, false, false, false, false] rfl rfl (by kernel_rfl) (fun _ _ _ h => h) (Or.inl ⟨by rfl, ?_⟩) ?_ ?_
        rotate_left
        · intro w'
          go_simp
          with_reducible rfl
        rotate_left
        · simp only [Act.put, List.setIfInBounds_toArray, List.set_cons_zero, List.set_cons_succ, i64_w, i32_w]
          rfl
        refine take_ (i := 4) (N := some 16) (v := ?_) (a' := ?_) #[true, true, true, true, true, false, false, false, false, false, false] rfl rfl (by kernel_rfl) (fun _ _ _ h => h) (Or.inl ⟨by rfl, ?_⟩) hHeld ?_ ?_
        rotate_left
        · intro w' s0
          go_simp
          with_reducible rfl
        rotate_left
        · simp only [Act.put, List.setIfInBounds_toArray, List.set_cons_zero, List.set_cons_succ, i64_w, i32_w]
          rfl
        refine one_ (i := 5) (N := some 17) #[true, true, true, true, true, true, false, false, false, false, false] rfl rfl (by kernel_rfl) (by decide) (fun K hK => ?_)
        refine Kd.R_make_step (Kd.int .u8) (w0 := w) w.heap.size 5 (by rfl) (N := 17) (by rfl) 34 _ _ (by rfl) 1024 (by rfl) (by rfl) Try.underlying34 (.int .u8 0) 1 info5 rfl (by decide) (by decide) (0 : Int) (ok := fun _ => True) (okp := fun _ => True) rfl (fun _ h => h) trivial (by decide) (by decide) HBD.out HBD.out.size ?_
        intro v6 w6 ho6 hb6 hg6 hn6
        have hp6 := Pg.of_R (B := w.heap.size) (b := zpage) ho6 zpage_len zpage_isB (Nat.le_refl _)
        have t6 : Turn (fun _ => False) w5 w6 := Turn.of_grown hg6 (fun k hk => by cases hk)
        obtain ⟨A6, c6, hv6, _, _⟩ := hp6.reads
        rw [zpage_len] at hv6
        subst hv6
        have HP6 := Lib.hid hp6
        have HT6 := Lib.hid t6
        have HB6 := Lib.hid hb6
        have HD6 := Lib.hid (HDD.out.turn t6 (fun _ _ _ h => h) (fun _ _ h => h))
        clear ho6 hb6 hg6 hn6 hp6 t6
        refine hK.out _ _ ((by rw [← HV.out]; exact (blk_cell HD6.out.blk 0).trans rfl)) (fun hHeld => ?_)
        clear hK K
        refine norm_ (a' := ?_) ?_ ?_
        rotate_left
        · show Act.put _ (some 17) _ = _
          simp only [Act.put, List.setIfInBounds_toArray, List.set_cons_zero, List.set_cons_succ, i64_w, i32_w]
          rfl
        refine one_ (i := 6) (N := some 18) #[true, true, true, true, true, true, true, false, false, false, false] rfl rfl (by kernel_rfl) (by decide) (fun K hK => ?_)
        refine value_ (w1 := ?_) (v := ?_) (by rfl) rfl ?_ ?_
        rotate_left 2
        · go_simp
          constructor
          · rfl
          · rfl
        have HD7 := Lib.hid (HD6.out.below (below_alloc (Below.refl w6.heap.size w6) (.cells #[.slice A6 1024 c6] 34)))
        refine hK.out _ _ ((by rw [← HV.out]; exact (blk_cell HD7.out.blk 0).trans rfl)) (fun hHeld => ?_)
        clear hK K
        refine norm_ (a' := ?_) ?_ ?_
        rotate_left
        · show Act.put _ (some 18) _ = _
          simp only [Act.put, List.setIfInBounds_toArray, List.set_cons_zero, List.set_cons_succ, i64_w, i32_w]
          rfl
        refine one_ (i := 7) (N := some 19) #[true, true, true, true, true, true, true, true, false, false, false] rfl rfl (by kernel_rfl) (by decide) (fun K hK => ?_)
        refine step_append_cells (w0 := w6) (W := w6) w.heap.size (by rfl) (.tmp 16) (.tmp 18) 50 34 nilS 1 24 (by rfl) Try.underlying50 info_row rfl (by decide) (by decide) vS Sl.length (Sl.map Prod.fst) [.slice A6 1024 c6] (by rw [HV.out]; rfl) (by rfl) rfl (fun x hx => by simp at hx; rcases hx with rfl; rfl) (own_turn (O := fun _ => False) HT6.out HR5.out.s (fun _ _ h => h)) (Below.refl _ _) HB6.out.size (by have := HSL.out; have := HK.out; omega) ?_
        intro v8 w8 ho8 hb8 hg8 hat8
        obtain ⟨A8, c8, rfl, _⟩ := own_sl ho8
        have hpS : ¬ vS.ownBlock = some p := (fun e => (own_block HR5.out.s e).2.elim fun _ h2 => sep h2 HDD.out.blk (by decide) rfl)
        have htw : Turn (fun k => vS.ownBlock = some k) w6 w8 := Turn.of_grown hg8 (fun k hk => hk)
        have KB8 := Lib.hid (blk_turn htw HD6.out.blk hpS)
        have fz := blk_frozen KB8.out 0
        have HO8 := Lib.hid ho8
        have HT8 := Lib.hid htw
        have HA8 := Lib.hid hat8
        have hvb : ∀ k, vS.ownBlock = some k → w.heap.size ≤ k := fun k hk => (own_block HR5.out.s hk).1
        have HB8 := Lib.hid (below_turn HB6.out htw hvb)
        clear ho8 hb8 hg8 hat8 hpS htw hvb
        refine hK.out _ _ ((by rw [← HV.out]; exact (blk_cell KB8.out 0).trans rfl)) (fun hHeld => ?_)
        clear hK K
        refine norm_ (a' := ?_) ?_ ?_
        rotate_left
        · show Act.put _ (some 19) _ = _
          simp only [Act.put, List.setIfInBounds_toArray, List.set_cons_zero, List.set_cons_succ, i64_w, i32_w]
          rfl
        refine pure_ (i := 8) (N := some 20) (v := ?_) (a' := ?_) #[true, true, true, true, true, true, true, true, true, false, false] rfl rfl (by kernel_rfl) (fun _ _ _ h => h) (Or.inl ⟨by rfl, ?_⟩) ?_ ?_
        rotate_left
        · intro w'
          go_simp
          with_reducible rfl
        rotate_left
        · simp only [Act.put, List.setIfInBounds_toArray, List.set_cons_zero, List.set_cons_succ, i64_w, i32_w]
          rfl
        refine pure_ (i := 9) (N := some 21) (v := ?_) (a' := ?_) #[true, true, true, true, true, true, true, true, true, true, false] rfl rfl (by kernel_rfl) (fun _ _ _ h => h) (Or.inl ⟨by rfl, ?_⟩) ?_ ?_
        rotate_left
        · intro w'
          go_simp
          with_reducible rfl
        rotate_left
        · simp only [Act.put, List.setIfInBounds_toArray, List.set_cons_zero, List.set_cons_succ, i64_w, i32_w]
          rfl
        refine last_ (i := 10) (N := none) #[true, true, true, true, true, true, true, true, true, true, true] rfl rfl (by kernel_rfl) (by decide) (fun K hK => ?_)
        refine skip_ (w1 := ?_) (by rfl) rfl ?_ ?_
        rotate_left
        · go_simp
          rfl
        refine hK.out _ _ ?_
        clear hK K
        refine done_ (by kernel_rfl) ?_
        have hW := DSt.push HD6.out HP6.out HT8.out Sl Wl es clk HE.out.1 HE.out.2 (HR5.out.turn HT6.out (fun _ _ _ h => h) (fun _ _ h => h) (fun _ _ h => h)) (blk_turn HT6.out HM5.out id) hok HO8.out HA8.out
        have hS2 : DSt (w8.setCell ⟨p, 0, none⟩ (.slice A8 (Sl.length + 1) c8)) w.heap.size p gm (.slice A8 (Sl.length + 1) c8) nilS (fresh (k + 1)) := by
          have h1 := hW
          have h2 : (⟨(fresh k).S ++ [zpage], (fresh k).W, (fresh k).left, (fresh k).down⟩ : St) = fresh (k + 1) := by rw [← fresh_succ]; rfl
          rw [← h2]
          exact h1
        have HS2 := Lib.hid hS2
        have HB9 := Lib.hid (below_turn HB8.out (Turn.set (O := fun i => i = p) w8 p 0 (.slice A8 (Sl.length + 1) c8) rfl) (fun i hi => by rw [hi]; exact HPW.out))
        clear hW hS2
        go_wp2
        go_roundw
        case rel => exact ⟨k + 1, _, by omega, by go_num, HS2, HB9⟩
        case measure => simp [intOf]; omega
      · have hkm : k = m := by omega
        subst hkm
        have d : decide ((k : Int) < (k : Int)) = false := decide_eq_false (by omega)
        go_wp2
        go_ret
        obtain ⟨h1, h2⟩ := HPG.out
        subst h2
        subst h1
        rw [HNM.out] at HR
        first | exact ⟨rfl, vS, HR.out, HB.out⟩ | exact ⟨rfl, ⟨vS, HR.out⟩, HB.out⟩

set_option maxHeartbeats 8000000 in
set_option maxRecDepth 20000 in
theorem newR_calls (w : World) (n : Int) :
    Calls Try.prog 11 #[.int .i64 n] w fun e w' => e = .returned (.pointer (some ⟨w.heap.size, 0, none⟩)) ∧ ∃ vS, RSt w' w.heap.size w.heap.size vS nilS (fresh (npages n)) ∧ Below w.heap.size w w' := by
  have h0 : RSt (w.alloc (.cells #[nilS, nilS, .int .i64 0, .bool false] 54)) w.heap.size w.heap.size nilS nilS (fresh 0) :=
    ⟨heap_alloc_new w _, Nat.le_refl _, ⟨by decide, by decide⟩, [], [], rfl, rfl, ⟨own_nil _ _ _ _, own_nil _ _ _ _, fun x hx => (by cases hx), fun x hx => (by cases hx), fun x hx => (by cases hx)⟩⟩
  have hb0 : Below w.heap.size w (w.alloc (.cells #[nilS, nilS, .int .i64 0, .bool false] 54)) := below_alloc (Below.refl _ _) _
  have HD0 := Lib.hid h0
  have HB0 := Lib.hid hb0
  have hnp := npages_le n
  have hmn : ∀ k : Nat, k < npages n ↔ ((k : Int) < n ∧ k < 2048) := by intro k; unfold npages; omega
  generalize npages n = m at hnp hmn ⊢
  clear h0 hb0
  go_enter Try.func11, Try.ntmps11
  go_wp2
  obtain ⟨p, hp⟩ : ∃ p, p = w.heap.size := ⟨_, rfl⟩
  have HPW := Lib.hid (show w.heap.size ≤ p by omega)
  rw [← hp]
  have hd0 : RSt (w.alloc (.cells #[nilS, nilS, .int .i64 0, .bool false] 54)) w.heap.size p nilS nilS (fresh 0) := by rw [hp]; exact HD0.out
  have HD0 := Lib.hid hd0
  have HPG := Lib.hid hp
  clear hd0 hp
  go_loopw [4] (fun i wr => ∃ (k : Nat) (vS : Value), k ≤ m ∧ i = .int .i64 k ∧ Hid (RSt wr w.heap.size p vS nilS (fresh k)) ∧ Hid (Below w.heap.size w wr)) (fun i _ => m - (intOf i).toNat)
  case atStart => exact ⟨0, nilS, Nat.zero_le _, rfl, HD0, HB0⟩
  case round =>
    clear HD0 HB0
    obtain ⟨k, vS, hk, rfl, HR, HB⟩ := hrel
    by_cases hlt : k < m
    · have d : decide ((k : Int) < n) = true := decide_eq_true ((hmn k).1 hlt).1
      have d2 : decide ((k : Int) < 2048) = true := decide_eq_true (by omega)
      have hwr : wrap64 ((k : Int) + 1) = ((k + 1 : Nat) : Int) := by unfold wrap64; omega
      have HK := Lib.hid (show k ≤ 2048 by omega)
      go_wp2
      have hdd := HR.out.below (Below.refl _ _).drew
      have hbd := HB.out.drew
      obtain ⟨Sl, Wl, e1, e2, hr⟩ := hdd.body
      obtain ⟨AS, cS, hvS, _⟩ := own_sl hr.s
      have hsl : Sl.length = k := by have h1 : (fresh k).S.length = Sl.length := by rw [e1, List.length_map]
                                     rw [← h1]; show (List.replicate k zpage).length = k; rw [List.length_replicate]
      have zp : wr.drew.cell? ⟨p, 0, none⟩ = some (.slice AS Sl.length cS) := by rw [← hvS]; exact (blk_cell hdd.blk 0).trans rfl
      clear HR HB
      refine start_ (n := 11) (S := fun w' => w'.cell? ⟨p, 0, none⟩ = some (.slice AS Sl.length cS)) (ds := [10]) #[false, false, false, false, false, false, false, false, false, false, false] (by kernel_rfl) rfl rfl (zp) (fun hHeld => ?_)
      generalize wr.drew = w5 at hdd hbd hr zp hHeld ⊢
      have HDD := Lib.hid hdd
      have HBD := Lib.hid hbd
      have HR5 := Lib.hid hr
      skip
      have HV := Lib.hid hvS
      have HE := Lib.hid (show (fresh k).S = _ ∧ (fresh k).W = _ from ⟨e1, e2⟩)
      have HSL := Lib.hid hsl
      clear hdd hbd hr hvS e1 e2 zp hsl
      refine pure_ (i := 0) (N := some 16) (v := ?_) (a' := ?_) #[true, false, false, false, false, false, false, false, false, false, false] rfl rfl (by kernel_rfl) (fun _ _ _ h => h) (Or.inl ⟨by rfl, ?_⟩) ?_ ?_
      rotate_left
      · intro w'
        go_simp
        with_reducible rfl
      rotate_left
      · simp only [Act.put, List.setIfInBounds_toArray, List.set_cons_zero, List.set_cons_succ, i64_w, i32_w]
        rfl
      refine pure_ (i := 1) (N := some 17) (v := ?_) (a' := ?_) #[true, true, false, false, false, false, false, false, false, false, false] rfl rfl (by kernel_rfl) (fun _ _ _ h => h) (Or.inl ⟨by rfl, ?_⟩) ?_ ?_
      rotate_left
      · intro w'
        go_simp
        with_reducible rfl
      rotate_left
      · simp only [Act.put, List.setIfInBounds_toArray, List.set_cons_zero, List.set_cons_succ, i64_w, i32_w]
        rfl
      refine pure_ (i := 2) (N := some 18) (v := ?_) (a' := ?_) #[true, true, true, false, false, false, false, false, false, false, false] rfl rfl (by kernel_rfl) (fun _ _ _ h => h) (Or.inl ⟨by rfl, ?_⟩) ?_ ?_
      rotate_left
      · intro w'
        go_simp
        with_reducible rfl
      rotate_left
      · simp only [Act.put, List.setIfInBounds_toArray, List.set_cons_zero, List.set_cons_succ, i64_w, i32_w]
        rfl
      refine pure_ (i := 3) (N := some 19) (v := ?_) (a' := ?_) #[true, true, true, true, false, false, false, false, false, false, false] rfl rfl (by kernel_rfl) (fun _ _ _ h => h) (Or.inl ⟨by rfl, ?_⟩) ?_ ?_
      rotate_left
      · intro w'
        go_simp
        with_reducible rfl
      rotate_left
      · simp only [Act.put, List.setIfInBounds_toArray, List.set_cons_zero, List.set_cons_succ, i64_w, i32_w]
        rfl
      refine take_ (i := 4) (N := some 20) (v := ?_) (a' := ?_) #[true, true, true, true, true, false, false, false, false, false, false] rfl rfl (by kernel_rfl) (fun _ _ _ h => h) (Or.inl ⟨by rfl, ?_⟩) hHeld ?_ ?_
      rotate_left
      · intro w' s0
        go_simp
        with_reducible rfl
      rotate_left
      · simp only [Act.put, List.setIfInBounds_toArray, List.set_cons_zero, List.set_cons_succ, i64_w, i32_w]
        rfl
      refine one_ (i := 5) (N := some 21) #[true, true, true, true, true, true, false, false, false, false, false] rfl rfl (by kernel_rfl) (by decide) (fun K hK => ?_)
      refine Kd.R_make_step (Kd.int .u8) (w0 := w) w.heap.size 5 (by rfl) (N := 21) (by rfl) 34 _ _ (by rfl) 1024 (by rfl) (by rfl) Try.underlying34 (.int .u8 0) 1 info5 rfl (by decide) (by decide) (0 : Int) (ok := fun _ => True) (okp := fun _ => True) rfl (fun _ h => h) trivial (by decide) (by decide) HBD.out HBD.out.size ?_
      intro v6 w6 ho6 hb6 hg6 hn6
      have hp6 := Pg.of_R (B := w.heap.size) (b := zpage) ho6 zpage_len zpage_isB (Nat.le_refl _)
      have t6 : Turn (fun _ => False) w5 w6 := Turn.of_grown hg6 (fun k hk => by cases hk)
      obtain ⟨A6, c6, hv6, _, _⟩ := hp6.reads
      rw [zpage_len] at hv6
      subst hv6
      have HP6 := Lib.hid hp6
      have HT6 := Lib.hid t6
      have HB6 := Lib.hid hb6
      have HD6 := Lib.hid (HDD.out.turn t6 (fun _ _ _ h => h) (fun _ _ h => h))
      clear ho6 hb6 hg6 hn6 hp6 t6
      refine hK.out _ _ ((by rw [← HV.out]; exact (blk_cell HD6.out.blk 0).trans rfl)) (fun hHeld => ?_)
      clear hK K
      refine norm_ (a' := ?_) ?_ ?_
      rotate_left
      · show Act.put _ (some 21) _ = _
        simp only [Act.put, List.setIfInBounds_toArray, List.set_cons_zero, List.set_cons_succ, i64_w, i32_w]
        rfl
      refine one_ (i := 6) (N := some 22) #[true, true, true, true, true, true, true, false, false, false, false] rfl rfl (by kernel_rfl) (by decide) (fun K hK => ?_)
      refine value_ (w1 := ?_) (v := ?_) (by rfl) rfl ?_ ?_
      rotate_left 2
      · go_simp
        constructor
        · rfl
        · rfl
      have HD7 := Lib.hid (HD6.out.below (below_alloc (Below.refl w6.heap.size w6) (.cells #[.slice A6 1024 c6] 34)))
      refine hK.out _ _ ((by rw [← HV.out]; exact (blk_cell HD7.out.blk 0).trans rfl)) (fun hHeld => ?_)
      clear hK K
      refine norm_ (a' := ?_) ?_ ?_
      rotate_left
      · show Act.put _ (some 22) _ = _
        simp only [Act.put, List.setIfInBounds_toArray, List.set_cons_zero, List.set_cons_succ, i64_w, i32_w]
        rfl
      refine one_ (i := 7) (N := some 23) #[true, true, true, true, true, true, true, true, false, false, false] rfl rfl (by kernel_rfl) (by decide) (fun K hK => ?_)
      refine step_append_cells (w0 := w6) (W := w6) w.heap.size (by rfl) (.tmp 20) (.tmp 22) 50 34 nilS 1 24 (by rfl) Try.underlying50 info_row rfl (by decide) (by decide) vS Sl.length (Sl.map Prod.fst) [.slice A6 1024 c6] (by rw [HV.out]; rfl) (by rfl) rfl (fun x hx => by simp at hx; rcases hx with rfl; rfl) (own_turn (O := fun _ => False) HT6.out HR5.out.s (fun _ _ h => h)) (Below.refl _ _) HB6.out.size (by have := HSL.out; have := HK.out; omega) ?_
      intro v8 w8 ho8 hb8 hg8 hat8
      obtain ⟨A8, c8, rfl, _⟩ := own_sl ho8
      have hpS : ¬ vS.ownBlock = some p := (fun e => (own_block HR5.out.s e).2.elim fun _ h2 => sep h2 HDD.out.blk (by decide) rfl)
      have htw : Turn (fun k => vS.ownBlock = some k) w6 w8 := Turn.of_grown hg8 (fun k hk => hk)
      have KB8 := Lib.hid (blk_turn htw HD6.out.blk hpS)
      have fz := blk_frozen KB8.out 0
      have HO8 := Lib.hid ho8
      have HT8 := Lib.hid htw
      have HA8 := Lib.hid hat8
      have hvb : ∀ k, vS.ownBlock = some k → w.heap.size ≤ k := fun k hk => (own_block HR5.out.s hk).1
      have HB8 := Lib.hid (below_turn HB6.out htw hvb)
      clear ho8 hb8 hg8 hat8 hpS htw hvb
      refine hK.out _ _ ((by rw [← HV.out]; exact (blk_cell KB8.out 0).trans rfl)) (fun hHeld => ?_)
      clear hK K
      refine norm_ (a' := ?_) ?_ ?_
      rotate_left
      · show Act.put _ (some 23) _ = _
        simp only [Act.put, List.setIfInBounds_toArray, List.set_cons_zero, List.set_cons_succ, i64_w, i32_w]
        rfl
      refine pure_ (i := 8) (N := some 24) (v := ?_) (a' := ?_) #[true, true, true, true, true, true, true, true, true, false, false] rfl rfl (by kernel_rfl) (fun _ _ _ h => h) (Or.inl ⟨by rfl, ?_⟩) ?_ ?_
      rotate_left
      · intro w'
        go_simp
        with_reducible rfl
      rotate_left
      · simp only [Act.put, List.setIfInBounds_toArray, List.set_cons_zero, List.set_cons_succ, i64_w, i32_w]
        rfl
      refine pure_ (i := 9) (N := some 25) (v := ?_) (a' := ?_) #[true, true, true, true, true, true, true, true, true, true, false] rfl rfl (by kernel_rfl) (fun _ _ _ h => h) (Or.inl ⟨by rfl, ?_⟩) ?_ ?_
      rotate_left
      · intro w'
        go_simp
        with_reducible rfl
      rotate_left
      · simp only [Act.put, List.setIfInBounds_toArray, List.set_cons_zero, List.set_cons_succ, i64_w, i32_w]
        rfl
      refine last_ (i := 10) (N := none) #[true, true, true, true, true, true, true, true, true, true, true] rfl rfl (by kernel_rfl) (by decide) (fun K hK => ?_)
      refine skip_ (w1 := ?_) (by rfl) rfl ?_ ?_
      rotate_left
      · go_simp
        rfl
      refine hK.out _ _ ?_
      clear hK K
      refine done_ (by kernel_rfl) ?_
      have hW := RSt.push HD6.out HP6.out HT8.out Sl Wl HE.out.1 HE.out.2 (HR5.out.turn HT6.out (fun _ _ _ h => h) (fun _ _ h => h) (fun _ _ h => h)) HO8.out HA8.out
      have hS2 : RSt (w8.setCell ⟨p, 0, none⟩ (.slice A8 (Sl.length + 1) c8)) w.heap.size p (.slice A8 (Sl.length + 1) c8) nilS (fresh (k + 1)) := by
        have h1 := hW
        have h2 : (⟨(fresh k).S ++ [zpage], (fresh k).W, (fresh k).left, (fresh k).down⟩ : St) = fresh (k + 1) := by rw [← fresh_succ]; rfl
        rw [← h2]
        exact h1
      have HS2 := Lib.hid hS2
      have HB9 := Lib.hid (below_turn HB8.out (Turn.set (O := fun i => i = p) w8 p 0 (.slice A8 (Sl.length + 1) c8) rfl) (fun i hi => by rw [hi]; exact HPW.out))
      clear hW hS2
      go_wp2
      go_roundw
      case rel => exact ⟨k + 1, _, by omega, by go_num, HS2, HB9⟩
      case measure => simp [intOf]; omega
    · have hkm : k = m := by omega
      subst hkm
      by_cases hkn : (k : Int) < n
      · have d : decide ((k : Int) < n) = true := decide_eq_true hkn
        have d2 : decide ((k : Int) < 2048) = false := decide_eq_false (fun h => hlt ((hmn k).2 ⟨hkn, by omega⟩))
        go_wp2
        go_ret
        have h2 := HPG.out
        subst h2
        first | exact ⟨rfl, vS, HR.out, HB.out⟩ | exact ⟨rfl, ⟨vS, HR.out⟩, HB.out⟩
      · have d : decide ((k : Int) < n) = false := decide_eq_false hkn
        go_wp2
        go_ret
        have h2 := HPG.out
        subst h2
        first | exact ⟨rfl, vS, HR.out, HB.out⟩ | exact ⟨rfl, ⟨vS, HR.out⟩, HB.out⟩
end Go.Proofs.Ytblacdnndchghaa.D
