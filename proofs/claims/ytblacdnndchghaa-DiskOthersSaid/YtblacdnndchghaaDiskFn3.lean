/- The disk's Read, Write: contracts by hand. -/
import Derived.Test.YtblacdnndchghaaDiskFn2
import Derived.Laws.AppendOwn
import Derived.OwnWalk
import Derived.Maps.AppendAt
namespace Go.Proofs.Ytblacdnndchghaa.D
open Go.RowKit Go.Proofs.YtblacdnndchghaaW.PrintWords Go.Proofs.YtblacdnndchghaaW.PrintLast Go.Proofs.YtblacdnndchghaaW.PrintMore Go.Proofs.Ytblacdnndchghaa.Math Go.Proofs.Ytblacdnndchghaa.PAll
open Go.ChangeMaps (setBlock)
set_option linter.unusedVariables false
set_option linter.unusedSimpArgs false

theorem zero_row (w : World) : (zeroValue 34).run Try.prog w = .ok nilS w := by
  rfl
def inside (s : St) (no : Int) : Prop := 0 ≤ no ∧ no < s.S.length
instance (s : St) (no : Int) : Decidable (inside s no) := by unfold inside; infer_instance
/-- A page as it is seen. -/
def seenP (s : St) (no : Int) : List Int := (lastP s.W no).getD (s.S.getD no.toNat [])
def readP (s : St) (no : Int) : List Int := if inside s no then seenP s no else []
def readC (s : St) (no : Int) : Int := if inside s no then 0 else 1
set_option maxHeartbeats 2000000 in
theorem read_calls {w : World} {B p gm : Nat} {vS vW : Value} {s : St} (h : DSt w B p gm vS vW s) (no : Int) :
    Calls Try.prog 15 #[.pointer (some ⟨p, 0, none⟩), .int .i64 no] w fun e w' => ∃ v, e = .returned (.tuple #[v, .int .i64 (readC s no)]) ∧ Made w w' v (readP s no) := by
  have HT := Lib.hid (there_calls h no)
  unfold readP readC
  by_cases hin : inside s no
  · rw [if_pos hin, if_pos hin]
    have hin' := hin
    unfold inside at hin'
    rw [decide_eq_true hin'] at HT
    obtain ⟨g, c, v, hv, hcell, hpg⟩ := h.page no.toNat (by omega)
    have k0 : w.cell? ⟨p, 0, none⟩ = some (.slice (some ⟨g, 0, none⟩) s.S.length c) := by rw [← hv]; exact (blk_cell h.blk 0).trans rfl
    have k2 : w.cell? ⟨p, 2, none⟩ = some (.map (some gm)) := (blk_cell h.blk 2).trans rfl
    have HC := Lib.hid (clone_pg hpg w (Below.refl _ _))
    obtain ⟨Sl, Wl, es, clk, e1, e2, hr, hm, hok⟩ := h.body
    have hlk := run_look (P := Try.prog) Try.underlying57 Try.underlying3 nilS w (zero_row w) hm hok no
    obtain ⟨h0, h1⟩ := hin'
    obtain ⟨j, rfl⟩ := Int.eq_ofNat_of_zero_le h0
    unfold seenP
    rw [Int.toNat_natCast] at hcell HC
    rw [Int.toNat_natCast]
    rcases last_both Wl j with ⟨hl1, hl2⟩ | ⟨x, hx, _, hl1, hl2⟩
    · rw [hl1] at hlk
      rw [e2, hl2]
      have hlk' : (Instr.lookup 57 (.map (some gm)) (.int .i64 (j : Int)) true).run Try.prog w = .ok (.tuple #[nilS, .bool false]) w := hlk
      clear hpg h hv hr hm hok e1 e2 hlk hl1 hl2 hin
      go_enter Try.func15, Try.ntmps15
      go_wp2_with fail
      refine HT.out.mono ?_
      rintro e w1 ⟨rfl, rfl⟩
      go_wp2_with fail
      refine HC.out.mono ?_
      rintro e w1 ⟨v1, rfl, hm⟩
      have HM := Lib.hid hm
      clear hm
      go_wp2
      go_ret2
      exact ⟨_, rfl, HM.out⟩
    · rw [hl1] at hlk
      rw [e2, hl2]
      have hlk' : (Instr.lookup 57 (.map (some gm)) (.int .i64 (j : Int)) true).run Try.prog w = .ok (.tuple #[x.2.1, .bool true]) w := hlk
      have HC := Lib.hid (clone_pg (hr.wp x hx) w (Below.refl _ _))
      clear hpg h hv hr hm hok e1 e2 hlk hl1 hl2 hin hx
      go_enter Try.func15, Try.ntmps15
      go_wp2_with fail
      refine HT.out.mono ?_
      rintro e w1 ⟨rfl, rfl⟩
      go_wp2_with fail
      refine HC.out.mono ?_
      rintro e w1 ⟨v1, rfl, hm⟩
      have HM := Lib.hid hm
      clear hm
      go_wp2
      go_ret2
      exact ⟨_, rfl, HM.out⟩
  · rw [if_neg hin, if_neg hin]
    rw [decide_eq_false (show ¬ (0 ≤ no ∧ no < s.S.length) from hin)] at HT
    clear h hin
    go_enter Try.func15, Try.ntmps15
    go_wp2_with fail
    refine HT.out.mono ?_
    rintro e w1 ⟨rfl, rfl⟩
    go_wp2
    go_ret2
    exact ⟨_, rfl, Kd.R_nil _ _ _ _ _, Below.refl _ _⟩

def wr (s : St) (no : Int) (b : List Int) : St := { s with W := s.W ++ [(no, b)] }
/-- What a Write answers, and the state behind. -/
def write (s : St) (no : Int) (b : List Int) : Int × St :=
  if ¬ inside s no ∨ b.length ≠ 1024 then (1, s) else if s.down then (3, s) else (if (goes (wr s no b)).1 then 3 else 0, (goes (wr s no b)).2)
theorem own_turn_of {w : World} {B e size n : Nat} {v : Value} {xs : List Value} : w.ownsRow B e size v n xs → w.ownsRow B e size v n xs := id
theorem info_write : (Try.prog.info? 64).map (fun i => (i.zero, i.size, i.bytes)) = some (some (.agg #[.int .i64 0, .slice none 0 0]), 2, 32) := by kernel_rfl
/-- A write waits: the row and the map are laid anew. -/
theorem DSt.wrote {w w1 : World} {B p gm : Nat} {vS vW v2 v : Value} {s : St} {no : Int} {b : List Int} (h : DSt w B p gm vS vW s) (hpg : Pg w B v b) (hin : inside s no)
    (Sl : List (Value × List Int)) (Wl : List (Int × Value × List Int)) (es : Array MapEntry) (clk : Nat) (e1 : s.S = Sl.map Prod.snd) (e2 : s.W = Wl.map unv) (hr : Rows 64 w B vS vW Sl Wl) (hm : w.heap[gm]? = some (.map es clk)) (hok : MOk es clk (lastV Wl))
    (hg : w.grownBy w1 vW.ownBlock) (hown : w1.ownsRow B 64 2 v2 (Wl.length + 1) (Wl.flatMap wc ++ [.int .i64 no, v])) (hfresh : v2.ownBlock = vW.ownBlock ∨ ∃ k, v2.ownBlock = some k ∧ w.heap.size ≤ k)
    (es' : Array MapEntry) (clk' : Nat) (hok' : MOk es' clk' (fun k => if k = no then some v else lastV Wl k)) :
    DSt (setBlock (w1.setCell ⟨p, 1, none⟩ v2) gm (.map es' clk')) B p gm vS v2 (wr s no b) ∧ Turn (DO p gm vS vW) w (setBlock (w1.setCell ⟨p, 1, none⟩ v2) gm (.map es' clk')) := by
  have hmp : gm ≠ p := fun e => sepm h.blk hm e.symm
  have hpW : vW.ownBlock ≠ some p := fun e => by
    obtain ⟨_, c2, h2⟩ := own_block hr.w_ e
    exact sep h2 h.blk (by decide) rfl
  have hgW : vW.ownBlock ≠ some gm := fun e => by
    obtain ⟨_, c2, h2⟩ := own_block hr.w_ e
    exact sepm h2 hm rfl
  have hpS : vS.ownBlock ≠ some p := fun e => by
    obtain ⟨_, c2, h2⟩ := own_block hr.s e
    exact sep h2 h.blk (by decide) rfl
  have hgS : vS.ownBlock ≠ some gm := fun e => by
    obtain ⟨_, c2, h2⟩ := own_block hr.s e
    exact sepm h2 hm rfl
  have hSW : ∀ k, vS.ownBlock = some k → vW.ownBlock ≠ some k := fun k e e' => by
    obtain ⟨_, c2, h2⟩ := own_block hr.s e
    obtain ⟨_, c3, h3⟩ := own_block hr.w_ e'
    exact sep h2 h3 (by decide) rfl
  have hlp := blk_lt h.blk
  have hlg : gm < w.heap.size := by rw [Array.getElem?_eq_some_iff] at hm; exact hm.1
  have t0 : ∀ {O : Nat → Prop}, (∀ k, vW.ownBlock = some k → O k) → Turn O w w1 := fun ho => Turn.of_grown hg ho
  have t1 : ∀ {O : Nat → Prop}, O p → O gm → Turn O w1 (setBlock (w1.setCell ⟨p, 1, none⟩ v2) gm (.map es' clk')) := fun h1 h2 => (Turn.set w1 p 1 _ h1).trans (Turn.setBlk _ gm _ h2) (fun k hk => .inl hk)
  have tA : Turn (DO p gm vS vW) w (setBlock (w1.setCell ⟨p, 1, none⟩ v2) gm (.map es' clk')) := (t0 (O := DO p gm vS vW) (fun k hk => .inr (.inr (.inr hk)))).trans (t1 (.inl rfl) (.inr (.inl rfl))) (fun k hk => .inl hk)
  have tB : Turn (fun k => k = p ∨ k = gm ∨ vW.ownBlock = some k) w (setBlock (w1.setCell ⟨p, 1, none⟩ v2) gm (.map es' clk')) := (t0 (fun k hk => .inr (.inr hk))).trans (t1 (.inl rfl) (.inr (.inl rfl))) (fun k hk => .inl hk)
  have tC : Turn (fun k => k = p ∨ k = gm) w1 (setBlock (w1.setCell ⟨p, 1, none⟩ v2) gm (.map es' clk')) := t1 (.inl rfl) (.inr rfl)
  have hb0 := blk_turn (t0 (O := fun k => vW.ownBlock = some k) (fun k hk => hk)) h.blk hpW
  have hm0 := blk_turn (t0 (O := fun k => vW.ownBlock = some k) (fun k hk => hk)) hm hgW
  have hb1 := blk_set hb0 1 v2
  have hm1 := blk_turn (Turn.set (O := fun k => k = p) w1 p 1 v2 rfl) hm0 hmp
  have hb2 := blk_turn (Turn.setBlk (O := fun k => k = gm) (w1.setCell ⟨p, 1, none⟩ v2) gm (.map es' clk') rfl) hb1 (fun e => hmp e.symm)
  have hpg' : ∀ k c, w.heap[k]? = some (.cells c 5 (0, 0)) → ¬ (k = p ∨ k = gm ∨ vW.ownBlock = some k) := fun k c hk e => h.pages k c hk (e.elim .inl fun e => e.elim (fun e => .inr (.inl e)) fun e => .inr (.inr (.inr e)))
  refine ⟨⟨hb2, h.pb, h.left0, Sl, Wl ++ [(no, v, b)], es', clk', e1, ?_, ⟨own_turn tB hr.s ?_, ?_, fun x hx => (hr.sp x hx).turn tB hpg', ?_, ?_⟩, setBlock_get _ hm1, ?_⟩, tA⟩
  · show s.W ++ [(no, b)] = _
    rw [e2, List.map_append]
    rfl
  · rintro k hk (rfl | rfl | e)
    · exact hpS hk
    · exact hgS hk
    · exact hSW k hk e
  · have : w1.ownsRow B 64 2 v2 (Wl ++ [(no, v, b)]).length ((Wl ++ [(no, v, b)]).flatMap wc) := by
      rw [wc_app, List.length_append]
      exact hown
    refine own_turn tC this ?_
    rintro k hk (rfl | rfl)
    · rcases hfresh with e | ⟨k2, e, hk2⟩
      · rw [e] at hk; exact hpW hk
      · rw [e] at hk; injection hk with hk; omega
    · rcases hfresh with e | ⟨k2, e, hk2⟩
      · rw [e] at hk; exact hgW hk
      · rw [e] at hk; injection hk with hk; omega
  · intro x hx
    rcases List.mem_append.1 hx with hx | hx
    · exact (hr.wp x hx).turn tB hpg'
    · rw [List.mem_singleton.1 hx]
      exact hpg.turn tB hpg'
  · intro x hx
    rcases List.mem_append.1 hx with hx | hx
    · exact hr.wr x hx
    · rw [List.mem_singleton.1 hx]
      unfold inside at hin
      rw [e1, List.length_map] at hin
      exact hin
  · rw [lastV_app]
    exact hok'

theorem cell_two_new (w : World) (x y : Value) (t : TypeId) : ∀ j u, [x, y][j]? = some u → (w.alloc (.cells #[x, y] t)).cell? ((⟨w.heap.size, 0, none⟩ : Addr).add j) = some u := by
  intro j u hj
  match j, hj with
  | 0, hj => simp at hj; subst hj; simp [Addr.add]
  | 1, hj => simp at hj; subst hj; simp [Addr.add]
theorem Pg.cell {w : World} {B : Nat} {v : Value} {b : List Int} (h : Pg w B v b) : v.oneCell' = true := by
  obtain ⟨A, c, rfl, _⟩ := h.reads
  rfl
set_option maxHeartbeats 4000000 in
theorem write_calls {w : World} {B p gm : Nat} {vS vW : Value} {s : St} (h : DSt w B p gm vS vW s) (hB : B ≤ w.heap.size) (no : Int) (A : Option Addr) (c : Nat) (b : List Int) (hc : b.length ≤ c) (hC : Kd.C (Kd.int .u8) w A b.length b) (hb : b.length ≤ 1000000) (hib : IsB b) (hlen : s.W.length ≤ 1000000) :
    Calls Try.prog 12 #[.pointer (some ⟨p, 0, none⟩), .int .i64 no, .slice A b.length c] w fun e w' => e = .returned (.int .i64 (write s no b).1) ∧ ∃ vW', DSt w' B p gm vS vW' (write s no b).2 ∧ Turn (DO p gm vS vW) w w' ∧ (vW'.ownBlock = vW.ownBlock ∨ ∃ k, vW'.ownBlock = some k ∧ w.heap.size ≤ k) := by
  have HT := Lib.hid (there_calls h no)
  unfold write
  by_cases hin : inside s no
  · rw [decide_eq_true (show 0 ≤ no ∧ no < s.S.length from hin)] at HT
    by_cases hl : b.length = 1024
    · rw [if_neg (by rintro (e | e); exact e hin; exact e hl)]
      have d0 : ((b.length : Int) != 1024) = false := by rw [hl]; rfl
      have k4 : w.cell? ⟨p, 4, none⟩ = some (.bool s.down) := (blk_cell h.blk 4).trans rfl
      cases hd : s.down with
      | true =>
        rw [hd] at k4
        rw [if_pos rfl]
        have HD := Lib.hid h
        clear h hC hin hl hd
        go_enter Try.func12, Try.ntmps12
        go_wp2_with fail
        refine HT.out.mono ?_
        rintro e w1 ⟨rfl, rfl⟩
        go_wp2
        go_ret
        exact ⟨rfl, vW, HD.out, Turn.refl _ _, .inl rfl⟩
      | false =>
        rw [hd] at k4
        rw [if_neg (by decide)]
        have HCl := Lib.hid (bytes_Clone.calls A c b b w hC hc (by unfold bytes_Clone.f; rw [if_pos (by omega)]))
        have HD := Lib.hid h
        have HI := Lib.hid hin
        have HLN := Lib.hid hlen
        have HBB := Lib.hid hB
        have HBL := Lib.hid hl
        have HIB := Lib.hid hib
        clear h hC hin hl hd hb hlen hB hib
        go_enter Try.func12, Try.ntmps12
        go_wp2_with fail
        refine HT.out.mono ?_
        rintro e w1 ⟨rfl, rfl⟩
        go_wp2_with fail
        refine HCl.out.mono ?_
        rintro e w1 ⟨v, rfl, hr, hb⟩
        have HPG := Lib.hid (Pg.of_R hr HBL.out HIB.out HBB.out)
        have HD1 := Lib.hid (HD.out.below hb)
        have HB1 := Lib.hid hb
        clear hr hb HT HCl HD k4
        obtain ⟨Sl, Wl, es, clk, e1, e2, hr, hm, hok⟩ := HD1.out.body
        have HR := Lib.hid hr
        have HM := Lib.hid hm
        have HOK := Lib.hid hok
        have HE1 := Lib.hid e1
        have HE2 := Lib.hid e2
        have HWL := Lib.hid (show Wl.length ≤ 1000000 by have := HLN.out; rw [e2, List.length_map] at this; exact this)
        have k1 : w1.cell? ⟨p, 1, none⟩ = some vW := (blk_cell HD1.out.blk 1).trans rfl
        obtain ⟨Av, cv, rfl, _, _⟩ := HPG.out.reads
        clear hr hm hok e1 e2
        obtain ⟨i0, hi0, hz0, hz1, hz2⟩ := info_parts info_write
        go_wp2_with (first
          | (at_builtin
             refine wpList_append_own_at _ rfl _ _ 58 rfl B 64 i0 (.agg #[.int .i64 0, .slice none 0 0]) 2 32 Try.underlying58 hi0 hz0 hz1 hz2 rfl (by decide) vW Wl.length (Wl.flatMap wc) rfl (HR.out.w_.alloc _) ⟨w1.heap.size, 0, none⟩ 1 1 [.int .i64 no, (.slice Av b.length cv)] rfl rfl (cell_two_new _ _ _ _) (fun x hx => by simp at hx; rcases hx with rfl | rfl <;> rfl) (by have := HWL.out; unfold maxLen; omega) (by have := HWL.out; omega) (by have := HBB.out; have := HB1.out.size; simp; omega) ?_
             intro v2 w2 ho2 hg2 hn2 hf2
             obtain ⟨A2, c2_, rfl, _⟩ := own_sl ho2
             have HO2 := Lib.hid ho2
             have HG2 := Lib.hid hg2
             have HF2 := Lib.hid hf2
             have hDA := HD1.out.below (below_alloc (Below.refl _ _) (.cells #[.int .i64 no, (.slice Av b.length cv)] 64))
             have hpW : ¬ vW.ownBlock = some p := (fun e => (own_block HR.out.w_ e).2.elim fun _ h2 => sep h2 HD1.out.blk (by decide) rfl)
             have hgW : ¬ vW.ownBlock = some gm := (fun e => (own_block HR.out.w_ e).2.elim fun _ h2 => sepm h2 HM.out rfl)
             have hmp : gm ≠ p := (fun e => sepm HD1.out.blk HM.out e.symm)
             have hbp := blk_turn (O := fun k => vW.ownBlock = some k) (Turn.of_grown hg2 (fun k hk => hk)) hDA.blk hpW
             have hbm := blk_turn (O := fun k => vW.ownBlock = some k) (Turn.of_grown hg2 (fun k hk => hk)) (blk_turn (O := fun _ => False) (Turn.of_below (below_alloc (Below.refl _ _) _)) HM.out (fun h => h)) hgW
             have f1 := blk_frozen hbp 1
             have c1 : w2.cell? ⟨p, 1, none⟩ = some vW := (blk_cell hbp 1).trans rfl
             have hb1 := blk_set hbp 1 (.slice A2 (Wl.length + 1) c2_)
             have c2 : (w2.setCell ⟨p, 1, none⟩ (.slice A2 (Wl.length + 1) c2_)).cell? ⟨p, 2, none⟩ = some (.map (some gm)) := (blk_cell hb1 2).trans rfl
             have hm1 := blk_turn (Turn.set (O := fun k => k = p) w2 p 1 (.slice A2 (Wl.length + 1) c2_) rfl) hbm hmp
             obtain ⟨es', clk', hput, hok'⟩ := run_put (P := Try.prog) Try.underlying57 Try.underlying3 (w2.setCell ⟨p, 1, none⟩ (.slice A2 (Wl.length + 1) c2_)) hm1 HOK.out no (.slice Av b.length cv)
             have HOK' := Lib.hid hok'
             clear hDA hpW hgW hmp hbp hbm hb1 hm1 ho2 hg2 hn2 hf2 hok')
          | fail)
        have hba := below_alloc (Below.refl w1.heap.size w1) (.cells #[.int .i64 no, .slice Av b.length cv] 64)
        have hta : Turn (fun _ => False) w1 (w1.alloc (.cells #[.int .i64 no, .slice Av b.length cv] 64)) := Turn.of_below hba
        have hno : ∀ {P : Nat → Prop} (k : Nat), P k → ¬ (fun _ : Nat => False) k := fun _ _ h => h
        have hW := DSt.wrote (HD1.out.below hba) (HPG.out.turn hta (fun _ _ _ h => h)) HI.out Sl Wl es clk HE1.out HE2.out (HR.out.turn hta (fun _ _ _ h => h) (fun _ _ h => h) (fun _ _ h => h)) (blk_turn hta HM.out (fun h => h)) HOK.out HG2.out HO2.out (HF2.out.imp id fun e => ⟨_, e, Nat.le_refl _⟩) es' clk' HOK'.out
        have HW1 := Lib.hid hW.1
        have HW2 := Lib.hid ((Turn.of_below (O := DO p gm vS vW) HB1.out).trans ((Turn.of_below (O := DO p gm vS vW) hba).trans hW.2 (fun k hk => .inl hk)) (fun k hk => .inl hk))
        have HSZ := Lib.hid (show w.heap.size ≤ (w1.alloc (.cells #[.int .i64 no, .slice Av b.length cv] 64)).heap.size from Nat.le_trans HB1.out.size hba.size)
        clear hba hta hno hW HD1 HR HM HOK HE1 HE2 HG2 HO2 HOK' hput c1 c2 f1 k1 HPG HI
        go_wp2_with fail
        refine (goes_calls HW1.out).mono ?_
        rintro e w4 ⟨rfl, hd4, ht4⟩
        have HD4 := Lib.hid hd4
        have HT4 := Lib.hid ht4
        clear hd4 ht4 HW1
        have hfin : ∀ k, DO p gm vS (.slice A2 (Wl.length + 1) c2_) k → DO p gm vS vW k ∨ w.heap.size ≤ k := by
          rintro k (e | e | e | e)
          · exact .inl (.inl e)
          · exact .inl (.inr (.inl e))
          · exact .inl (.inr (.inr (.inl e)))
          · rcases HF2.out with e2 | e2
            · rw [e2] at e; exact .inl (.inr (.inr (.inr e)))
            · rw [e2] at e; injection e with e; have := HSZ.out; exact .inr (by omega)
        have HFIN := Lib.hid (HW2.out.trans HT4.out hfin)
        clear hfin HT4 HW2
        cases hgo : (goes (wr s no b)).1 with
        | true =>
          go_wp2
          all_goals
            go_ret
            exact ⟨rfl, _, HD4.out, HFIN.out, HF2.out.imp id fun e => ⟨_, e, HSZ.out⟩⟩
        | false =>
          go_wp2
          all_goals
            go_ret
            exact ⟨rfl, _, HD4.out, HFIN.out, HF2.out.imp id fun e => ⟨_, e, HSZ.out⟩⟩
    · rw [if_pos (.inr hl)]
      have d0 : ((b.length : Int) != 1024) = true := by rw [bne_iff_ne]; omega
      have HD := Lib.hid h
      clear h hC hin hl
      go_enter Try.func12, Try.ntmps12
      go_wp2_with fail
      refine HT.out.mono ?_
      rintro e w1 ⟨rfl, rfl⟩
      go_wp2
      go_ret
      exact ⟨rfl, vW, HD.out, Turn.refl _ _, .inl rfl⟩
  · rw [if_pos (.inl hin)]
    rw [decide_eq_false (show ¬ (0 ≤ no ∧ no < s.S.length) from hin)] at HT
    have HD := Lib.hid h
    clear h hC hin
    go_enter Try.func12, Try.ntmps12
    go_wp2_with fail
    refine HT.out.mono ?_
    rintro e w1 ⟨rfl, rfl⟩
    go_wp2
    go_ret
    exact ⟨rfl, vW, HD.out, Turn.refl _ _, .inl rfl⟩
end Go.Proofs.Ytblacdnndchghaa.D
