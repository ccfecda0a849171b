/- The reference's Write, not armed: no page lies in a block that is another's (DiskOthers). -/
import Derived.Test.YtblacdnndchghaaDiskOth1
namespace Go.Proofs.Ytblacdnndchghaa.D
open Go.RowKit Go.Proofs.YtblacdnndchghaaW.PrintWords Go.Proofs.YtblacdnndchghaaW.PrintLast Go.Proofs.YtblacdnndchghaaW.PrintMore Go.Proofs.Ytblacdnndchghaa.Math Go.Proofs.Ytblacdnndchghaa.PAll
open Go.ChangeMaps (setBlock)
set_option linter.unusedVariables false
set_option linter.unusedSimpArgs false

theorem RSt.wroteA {w w1 : World} {B p g : Nat} {vS vW v2 v : Value} {s : St} {no : Int} {b : List Int} (h : RSt w B p vS vW s) (hpg : Pg w B v b) (hin : inside s no)
    (Sl : List (Value × List Int)) (Wl : List (Int × Value × List Int)) (e1 : s.S = Sl.map Prod.snd) (e2 : s.W = Wl.map unv) (hr : Rows 66 w B vS vW Sl Wl) (a1 : ∀ x ∈ Sl, x.1.ownBlock ≠ some g) (a2 : ∀ x ∈ Wl, x.2.1.ownBlock ≠ some g) (av : v.ownBlock ≠ some g)
    (hg : Turn (fun k => vW.ownBlock = some k) w w1) (hown : w1.ownsRow B 66 2 v2 (Wl.length + 1) (Wl.flatMap wc ++ [.int .i64 no, v])) (hfresh : v2.ownBlock = vW.ownBlock ∨ ∃ k, v2.ownBlock = some k ∧ w.heap.size ≤ k) :
    RStA (w1.setCell ⟨p, 1, none⟩ v2) B p vS v2 (wr s no b) g ∧ Turn (RO p vS vW) w (w1.setCell ⟨p, 1, none⟩ v2) := by
  have hpW : vW.ownBlock ≠ some p := fun e => by
    obtain ⟨_, c2, h2⟩ := own_block hr.w_ e
    exact sep h2 h.blk (by decide) rfl
  have hpS : vS.ownBlock ≠ some p := fun e => by
    obtain ⟨_, c2, h2⟩ := own_block hr.s e
    exact sep h2 h.blk (by decide) rfl
  have hSW : ∀ k, vS.ownBlock = some k → vW.ownBlock ≠ some k := fun k e e' => by
    obtain ⟨_, c2, h2⟩ := own_block hr.s e
    obtain ⟨_, c3, h3⟩ := own_block hr.w_ e'
    exact sep h2 h3 (by decide) rfl
  have hlp := blk_lt h.blk
  have t1 : ∀ {O : Nat → Prop}, O p → Turn O w1 (w1.setCell ⟨p, 1, none⟩ v2) := fun h1 => Turn.set w1 p 1 _ h1
  have tA : Turn (RO p vS vW) w (w1.setCell ⟨p, 1, none⟩ v2) := (hg.mono (O' := RO p vS vW) (fun k hk _ => .inr (.inr hk))).trans (t1 (.inl rfl)) (fun k hk => .inl hk)
  have tB : Turn (fun k => k = p ∨ vW.ownBlock = some k) w (w1.setCell ⟨p, 1, none⟩ v2) := (hg.mono (O' := fun k => k = p ∨ vW.ownBlock = some k) (fun k hk _ => .inr hk)).trans (t1 (.inl rfl)) (fun k hk => .inl hk)
  have tC : Turn (fun k => k = p) w1 (w1.setCell ⟨p, 1, none⟩ v2) := t1 rfl
  have hb1 := blk_set (blk_turn hg h.blk hpW) 1 v2
  have hpg' : ∀ k c, w.heap[k]? = some (.cells c 5 (0, 0)) → ¬ (k = p ∨ vW.ownBlock = some k) := fun k c hk e => h.pages k c hk (e.elim .inl fun e => .inr (.inr e))
  refine ⟨⟨hb1, h.pb, h.left0, Sl, Wl ++ [(no, v, b)], e1, ?_, ⟨own_turn tB hr.s ?_, ?_, fun x hx => (hr.sp x hx).turn tB hpg', ?_, ?_⟩, a1, fun x hx => (List.mem_append.1 hx).elim (a2 x) (fun hx => by rw [List.mem_singleton.1 hx]; exact av)⟩, tA⟩
  · show s.W ++ [(no, b)] = _
    rw [e2, List.map_append]
    rfl
  · rintro k hk (rfl | e)
    · exact hpS hk
    · exact hSW k hk e
  · have : w1.ownsRow B 66 2 v2 (Wl ++ [(no, v, b)]).length ((Wl ++ [(no, v, b)]).flatMap wc) := by
      rw [wc_app, List.length_append]
      exact hown
    refine own_turn tC this ?_
    rintro k hk rfl
    rcases hfresh with e | ⟨k2, e, hk2⟩
    · rw [e] at hk; exact hpW hk
    · rw [e] at hk; injection hk with hk; omega
  · intro x hx
    rcases List.mem_append.1 hx with hx | hx
    · exact (hr.wp x hx).turn tB hpg'
    · rw [List.mem_singleton.1 hx]
      exact hpg.turn tB hpg'
  · intro x hx
    rcases List.mem_append.1 hx with hx | hx
    · exact hr.wr x hx
    · rw [List.mem_singleton.1 hx]
      unfold inside at hin
      rw [e1, List.length_map] at hin
      exact hin
set_option maxHeartbeats 8000000 in
set_option maxRecDepth 20000 in
theorem writeR0_calls {w : World} {B p g : Nat} {vS vW : Value} {s : St} (hA : RStA w B p vS vW s g) (hgw : g < w.heap.size) (hB : B ≤ w.heap.size) (no : Int) (A : Option Addr) (c : Nat) (b : List Int) (hc : b.length ≤ c) (hC : Kd.C (Kd.int .u8) w A b.length b) (hl : b.length = 1024) (hib : IsB b) (hlen : s.W.length ≤ 1000000) (hin : inside s no) (hd : s.down = false) (hl0 : s.left = 0) :
    Calls Try.prog 14 #[.pointer (some ⟨p, 0, none⟩), .int .i64 no, .slice A b.length c] w fun e w' => e = .returned (.int .i64 0) ∧ ∃ vW', RStA w' B p vS vW' (wr s no b) g ∧ Turn (RO p vS vW) w w' := by
  have h := hA.r
  obtain ⟨AS, cS, hvS, hcS, hlS⟩ := h.vS
  have k0 : w.cell? ⟨p, 0, none⟩ = some (.slice AS s.S.length cS) := by rw [← hvS]; exact (blk_cell h.blk 0).trans rfl
  have hb : b.length ≤ 1000000 := by omega
  have HL0 := Lib.hid hl0
  have HGW := Lib.hid hgw
  have hin' := hin
  unfold inside at hin'
  have d0 : decide (no < 0) = false := decide_eq_false (by omega)
  have d1 : decide (no ≥ (s.S.length : Int)) = false := decide_eq_false (by omega)
  have d2 : ((b.length : Int) != 1024) = false := by rw [hl]; rfl
  have k3 : w.cell? ⟨p, 3, none⟩ = some (.bool s.down) := (blk_cell h.blk 3).trans rfl
  rw [hd] at k3
  obtain ⟨Sl, Wl, e1, e2, hr, ha1, ha2⟩ := hA.body
  have HA1 := Lib.hid ha1
  have HA2 := Lib.hid ha2
  obtain ⟨AW, cW, hvW, _⟩ := own_sl hr.w_
  have k1 : w.cell? ⟨p, 1, none⟩ = some vW := (blk_cell h.blk 1).trans rfl
  rw [hvW] at k1
  have HV := Lib.hid hvW
  have HD := Lib.hid h
  have HI := Lib.hid hin
  have HLN := Lib.hid hlen
  have HBB := Lib.hid hB
  have HBL := Lib.hid hl
  have HIB := Lib.hid hib
  have HC := Lib.hid hC
  have HDN := Lib.hid hd
  have HR := Lib.hid hr
  have HE1 := Lib.hid e1
  have HE2 := Lib.hid e2
  clear h hA hC hin hl hd hb hlen hB hib hin' hr e1 e2 hvW hvS ha1 ha2 hl0 hgw
  go_enter Try.func14, Try.ntmps14
  go_wp2
  have kb : w.drew.heap[p]? = _ := blk_drew HD.out.blk
  have hbd : Below w.heap.size w w.drew := (Below.refl _ _).drew
  refine start_ (n := 15) (S := fun w' => w'.cell? ⟨p, 1, none⟩ = some (.slice AW Wl.length cW)) (ds := [14]) #[false, false, false, false, false, false, false, false, false, false, false, false, false, false, false] (by kernel_rfl) rfl rfl ((by rw [← HV.out]; exact (blk_cell kb 1).trans rfl)) (fun hHeld => ?_)
  generalize w.drew = w5 at kb hbd hHeld ⊢
  have KB5 := Lib.hid kb
  have HB5 := Lib.hid hbd
  clear kb hbd
  refine pure_ (i := 0) (N := some 27) (v := ?_) (a' := ?_) #[true, false, false, false, false, false, false, false, false, false, false, false, false, false, false] rfl rfl (by kernel_rfl) (fun _ _ _ h => h) (Or.inl ⟨by rfl, ?_⟩) ?_ ?_
  rotate_left
  · intro w'
    go_simp
    with_reducible rfl
  rotate_left
  · simp only [Act.put, List.setIfInBounds_toArray, List.set_cons_zero, List.set_cons_succ, i64_w, i32_w]
    rfl
  refine pure_ (i := 1) (N := some 28) (v := ?_) (a' := ?_) #[true, true, false, false, false, false, false, false, false, false, false, false, false, false, false] rfl rfl (by kernel_rfl) (fun _ _ _ h => h) (Or.inl ⟨by rfl, ?_⟩) ?_ ?_
  rotate_left
  · intro w'
    go_simp
    with_reducible rfl
  rotate_left
  · simp only [Act.put, List.setIfInBounds_toArray, List.set_cons_zero, List.set_cons_succ, i64_w, i32_w]
    rfl
  refine pure_ (i := 2) (N := some 29) (v := ?_) (a' := ?_) #[true, true, true, false, false, false, false, false, false, false, false, false, false, false, false] rfl rfl (by kernel_rfl) (fun _ _ _ h => h) (Or.inl ⟨by rfl, ?_⟩) ?_ ?_
  rotate_left
  · intro w'
    go_simp
    with_reducible rfl
  rotate_left
  · simp only [Act.put, List.setIfInBounds_toArray, List.set_cons_zero, List.set_cons_succ, i64_w, i32_w]
    rfl
  refine pure_ (i := 3) (N := some 30) (v := ?_) (a' := ?_) #[true, true, true, true, false, false, false, false, false, false, false, false, false, false, false] rfl rfl (by kernel_rfl) (fun _ _ _ h => h) (Or.inl ⟨by rfl, ?_⟩) ?_ ?_
  rotate_left
  · intro w'
    go_simp
    with_reducible rfl
  rotate_left
  · simp only [Act.put, List.setIfInBounds_toArray, List.set_cons_zero, List.set_cons_succ, i64_w, i32_w]
    rfl
  refine pure_ (i := 5) (N := some 32) (v := ?_) (a' := ?_) #[true, true, true, true, false, true, false, false, false, false, false, false, false, false, false] rfl rfl (by kernel_rfl) (fun _ _ _ h => h) (Or.inl ⟨by rfl, ?_⟩) ?_ ?_
  rotate_left
  · intro w'
    go_simp
    with_reducible rfl
  rotate_left
  · simp only [Act.put, List.setIfInBounds_toArray, List.set_cons_zero, List.set_cons_succ, i64_w, i32_w]
    rfl
  refine pure_ (i := 7) (N := some 34) (v := ?_) (a' := ?_) #[true, true, true, true, false, true, false, true, false, false, false, false, false, false, false] rfl rfl (by kernel_rfl) (fun _ _ _ h => h) (Or.inl ⟨by rfl, ?_⟩) ?_ ?_
  rotate_left
  · intro w'
    go_simp
    with_reducible rfl
  rotate_left
  · simp only [Act.put, List.setIfInBounds_toArray, List.set_cons_zero, List.set_cons_succ, i64_w, i32_w]
    rfl
  refine take_ (i := 4) (N := some 31) (v := ?_) (a' := ?_) #[true, true, true, true, true, true, false, true, false, false, false, false, false, false, false] rfl rfl (by kernel_rfl) (fun _ _ _ h => h) (Or.inl ⟨by rfl, ?_⟩) hHeld ?_ ?_
  rotate_left
  · intro w' s0
    go_simp
    with_reducible rfl
  rotate_left
  · simp only [Act.put, List.setIfInBounds_toArray, List.set_cons_zero, List.set_cons_succ, i64_w, i32_w]
    rfl
  refine one_ (i := 6) (N := some 33) #[true, true, true, true, true, true, true, true, false, false, false, false, false, false, false] rfl rfl (by kernel_rfl) (by decide) (fun K hK => ?_)
  refine value_ (w1 := ?_) (v := ?_) (by rfl) rfl ?_ ?_
  rotate_left 2
  · go_simp
    constructor
    · rfl
    · rfl
  have KB6 := Lib.hid (blk_turn (O := fun _ => False) (Turn.of_below (below_alloc (Below.refl w5.heap.size w5) (.cells #[] 5))) KB5.out id)
  have HB6 := Lib.hid (below_alloc HB5.out (.cells #[] 5))
  have HO6 := Lib.hid (own_R (k := .u8) (xs := []) (own_lit w5 w.heap.size 5 HB5.out.size) rfl)
  refine hK.out _ _ ((by rw [← HV.out]; exact (blk_cell KB6.out 1).trans rfl)) (fun hHeld => ?_)
  clear hK K
  refine norm_ (a' := ?_) ?_ ?_
  rotate_left
  · show Act.put _ (some 33) _ = _
    simp only [Act.put, List.setIfInBounds_toArray, List.set_cons_zero, List.set_cons_succ, i64_w, i32_w]
    rfl
  refine one_ (i := 8) (N := some 35) #[true, true, true, true, true, true, true, true, true, false, false, false, false, false, false] rfl rfl (by kernel_rfl) (by decide) (fun K hK => ?_)
  refine Kd.R_append_rows_step (Kd.int .u8) (w0 := w) w.heap.size (by rfl) (.tmp 33) (.tmp 34) 34 5 (.int .u8 0) 1 (by rfl) Try.underlying34 info5 rfl (by decide) (by omega) _ [] b A b.length c (fun _ => True) (fun _ => False) (by rfl) (by rfl) HO6.out (Kd.C_below HC.out HB6.out) (fun _ _ h => h) (fun _ h => h.elim) (fun _ _ => trivial) HB6.out HB6.out.size (by have := HBL.out; simp; omega) ?_
  intro v8 w8 ho8 hb8 hg8 hat8
  rw [List.nil_append] at ho8
  have KB8 := Lib.hid (blk_turn (O := fun k => k = w5.heap.size) (Turn.of_grown hg8 (fun k hk => by injection hk with hk; exact hk.symm)) KB6.out (fun e => absurd (blk_lt KB5.out) (by omega)))
  have HB8 := Lib.hid hb8
  have HO8 := Lib.hid ho8
  have HAV := Lib.hid (show v8.ownBlock ≠ some g from fun e => by have h1 := (own_block (Kd.own_of_R ho8) e).1; have h2 := HGW.out; omega)
  obtain ⟨A8, c8, rfl⟩ := Kd.R_slice ho8
  clear ho8 hb8 hg8 hat8
  refine hK.out _ _ ((by rw [← HV.out]; exact (blk_cell KB8.out 1).trans rfl)) (fun hHeld => ?_)
  clear hK K
  refine norm_ (a' := ?_) ?_ ?_
  rotate_left
  · show Act.put _ (some 35) _ = _
    simp only [Act.put, List.setIfInBounds_toArray, List.set_cons_zero, List.set_cons_succ, i64_w, i32_w]
    rfl
  refine pure_ (i := 9) (N := some 36) (v := ?_) (a' := ?_) #[true, true, true, true, true, true, true, true, true, true, false, false, false, false, false] rfl rfl (by kernel_rfl) (fun _ _ _ h => h) (Or.inl ⟨by rfl, ?_⟩) ?_ ?_
  rotate_left
  · intro w'
    go_simp
    with_reducible rfl
  rotate_left
  · simp only [Act.put, List.setIfInBounds_toArray, List.set_cons_zero, List.set_cons_succ, i64_w, i32_w]
    rfl
  refine one_ (i := 10) (N := some 37) #[true, true, true, true, true, true, true, true, true, true, true, false, false, false, false] rfl rfl (by kernel_rfl) (by decide) (fun K hK => ?_)
  refine value_ (w1 := ?_) (v := ?_) (by rfl) rfl ?_ ?_
  rotate_left 2
  · go_simp
    constructor
    · rfl
    · rfl
  refine hK.out _ _ ((by rw [← HV.out]; exact (blk_cell (blk_turn (O := fun _ => False) (Turn.of_below (below_alloc (Below.refl w8.heap.size w8) _)) KB8.out id) 1).trans rfl)) (fun hHeld => ?_)
  clear hK K
  refine norm_ (a' := ?_) ?_ ?_
  rotate_left
  · show Act.put _ (some 37) _ = _
    simp only [Act.put, List.setIfInBounds_toArray, List.set_cons_zero, List.set_cons_succ, i64_w, i32_w]
    rfl
  refine one_ (i := 11) (N := some 38) #[true, true, true, true, true, true, true, true, true, true, true, true, false, false, false] rfl rfl (by kernel_rfl) (by decide) (fun K hK => ?_)
  refine step_append_cells (w0 := w8) (W := w8) B (by rfl) (.tmp 31) (.tmp 37) 52 66 (.agg #[.int .i64 0, .slice none 0 0]) 2 32 (by rfl) Try.underlying52 info_writeR rfl (by decide) (by decide) vW Wl.length (Wl.flatMap wc) [.int .i64 no, .slice A8 b.length c8] (by rw [HV.out]; rfl) (by rfl) rfl (fun x hx => by simp at hx; rcases hx with rfl | rfl <;> rfl) (own_turn (O := fun _ => False) (Turn.of_below HB8.out) HR.out.w_ (fun _ _ h => h)) (Below.refl _ _) (by have := HBB.out; have := HB8.out.size; omega) (by have := HLN.out; rw [HE2.out, List.length_map] at this; omega) ?_
  intro v11 w11 ho11 hb11 hg11 hat11
  obtain ⟨A11, c11, rfl, _⟩ := own_sl ho11
  have hpW : ¬ vW.ownBlock = some p := (fun e => (own_block HR.out.w_ e).2.elim fun _ h2 => sep h2 HD.out.blk (by decide) rfl)
  have htw : Turn (fun k => vW.ownBlock = some k) w8 w11 := Turn.of_grown hg11 (fun k hk => hk)
  have KB11 := Lib.hid (blk_turn htw KB8.out hpW)
  have fz := blk_frozen KB11.out 1
  have HO11 := Lib.hid ho11
  have HT11 := Lib.hid htw
  have HA11 := Lib.hid hat11
  clear ho11 hb11 hg11 hat11 hpW htw
  refine hK.out _ _ ((by rw [← HV.out]; exact (blk_cell KB11.out 1).trans rfl)) (fun hHeld => ?_)
  clear hK K
  refine norm_ (a' := ?_) ?_ ?_
  rotate_left
  · show Act.put _ (some 38) _ = _
    simp only [Act.put, List.setIfInBounds_toArray, List.set_cons_zero, List.set_cons_succ, i64_w, i32_w]
    rfl
  refine pure_ (i := 12) (N := some 39) (v := ?_) (a' := ?_) #[true, true, true, true, true, true, true, true, true, true, true, true, true, false, false] rfl rfl (by kernel_rfl) (fun _ _ _ h => h) (Or.inl ⟨by rfl, ?_⟩) ?_ ?_
  rotate_left
  · intro w'
    go_simp
    with_reducible rfl
  rotate_left
  · simp only [Act.put, List.setIfInBounds_toArray, List.set_cons_zero, List.set_cons_succ, i64_w, i32_w]
    rfl
  refine pure_ (i := 13) (N := some 40) (v := ?_) (a' := ?_) #[true, true, true, true, true, true, true, true, true, true, true, true, true, true, false] rfl rfl (by kernel_rfl) (fun _ _ _ h => h) (Or.inl ⟨by rfl, ?_⟩) ?_ ?_
  rotate_left
  · intro w'
    go_simp
    with_reducible rfl
  rotate_left
  · simp only [Act.put, List.setIfInBounds_toArray, List.set_cons_zero, List.set_cons_succ, i64_w, i32_w]
    rfl
  refine last_ (i := 14) (N := none) #[true, true, true, true, true, true, true, true, true, true, true, true, true, true, true] rfl rfl (by kernel_rfl) (by decide) (fun K hK => ?_)
  refine skip_ (w1 := ?_) (by rfl) rfl ?_ ?_
  rotate_left
  · go_simp
    rfl
  refine hK.out _ _ ?_
  clear hK K
  refine done_ (by kernel_rfl) ?_
  have hW := RSt.wroteA (g := g) (HD.out.below HB8.out) (Pg.of_R HO8.out HBL.out HIB.out HBB.out) HI.out Sl Wl HE1.out HE2.out (HR.out.turn (O := fun _ => False) (Turn.of_below HB8.out) (fun _ _ _ h => h) (fun _ _ h => h) (fun _ _ h => h)) HA1.out HA2.out HAV.out HT11.out HO11.out HA11.out
  have HW1 := Lib.hid hW.1
  have HW2 := Lib.hid ((Turn.of_below (O := RO p vS vW) HB8.out).trans hW.2 (fun k hk => .inl hk))
  have HSZ := Lib.hid (show w.heap.size ≤ w8.heap.size from HB8.out.size)
  clear hW fz KB5 KB6 KB8 KB11 HB5 HB6 HB8 HO6 HO8 HO11 HT11 HR HE1 HE2 hHeld
  generalize w11.setCell ⟨p, 1, none⟩ (.slice A11 (Wl.length + 1) c11) = w12 at HW1 HW2 ⊢
  go_wp2_with fail
  refine (goesR0_calls HW1.out.r (by show s.down = false; exact HDN.out) HL0.out).mono ?_
  rintro e w4 ⟨rfl, rfl⟩
  go_wp2
  go_ret
  exact ⟨rfl, _, HW1.out, HW2.out⟩
end Go.Proofs.Ytblacdnndchghaa.D
