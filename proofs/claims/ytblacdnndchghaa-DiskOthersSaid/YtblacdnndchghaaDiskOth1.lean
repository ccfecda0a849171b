/- Writes of a disk that is not armed: no page lies in a block that is another's (DiskOthers). -/
import Derived.Test.YtblacdnndchghaaDiskLaw4
namespace Go.Proofs.Ytblacdnndchghaa.D
open Go.RowKit Go.Proofs.YtblacdnndchghaaW.PrintWords Go.Proofs.YtblacdnndchghaaW.PrintLast Go.Proofs.YtblacdnndchghaaW.PrintMore Go.Proofs.Ytblacdnndchghaa.Math Go.Proofs.Ytblacdnndchghaa.PAll
open Go.ChangeMaps (setBlock)
set_option linter.unusedVariables false
set_option linter.unusedSimpArgs false

/-- A disk of the program, none of whose pages lies in block g. -/
structure DStA (w : World) (B p gm : Nat) (vS vW : Value) (s : St) (g : Nat) : Prop where
  blk : w.heap[p]? = some (.cells #[vS, vW, .map (some gm), .int .i64 s.left, .bool s.down] 60 (0, 0))
  pb : B ≤ p ∧ B ≤ gm
  left0 : 0 ≤ s.left ∧ s.left ≤ 9223372036854775807
  body : ∃ Sl Wl es clk, s.S = Sl.map Prod.snd ∧ s.W = Wl.map unv ∧ Rows 64 w B vS vW Sl Wl ∧ w.heap[gm]? = some (.map es clk) ∧ MOk es clk (lastV Wl) ∧ (∀ x ∈ Sl, x.1.ownBlock ≠ some g) ∧ (∀ x ∈ Wl, x.2.1.ownBlock ≠ some g)
structure RStA (w : World) (B p : Nat) (vS vW : Value) (s : St) (g : Nat) : Prop where
  blk : w.heap[p]? = some (.cells #[vS, vW, .int .i64 s.left, .bool s.down] 54 (0, 0))
  pb : B ≤ p
  left0 : 0 ≤ s.left ∧ s.left ≤ 9223372036854775807
  body : ∃ Sl Wl, s.S = Sl.map Prod.snd ∧ s.W = Wl.map unv ∧ Rows 66 w B vS vW Sl Wl ∧ (∀ x ∈ Sl, x.1.ownBlock ≠ some g) ∧ (∀ x ∈ Wl, x.2.1.ownBlock ≠ some g)
theorem DStA.d {w : World} {B p gm g : Nat} {vS vW : Value} {s : St} (h : DStA w B p gm vS vW s g) : DSt w B p gm vS vW s := by
  obtain ⟨Sl, Wl, es, clk, e1, e2, hr, hm, hok, _, _⟩ := h.body
  exact ⟨h.blk, h.pb, h.left0, Sl, Wl, es, clk, e1, e2, hr, hm, hok⟩
theorem RStA.r {w : World} {B p g : Nat} {vS vW : Value} {s : St} (h : RStA w B p vS vW s g) : RSt w B p vS vW s := by
  obtain ⟨Sl, Wl, e1, e2, hr, _, _⟩ := h.body
  exact ⟨h.blk, h.pb, h.left0, Sl, Wl, e1, e2, hr⟩
theorem pg_ne {w : World} {B g : Nat} {v : Value} {b : List Int} (h : Pg w B v b) (hg : w.heap.size ≤ g) : v.ownBlock ≠ some g := fun e => by
  obtain ⟨_, c, hc⟩ := own_block h.2.2 e
  have := blk_lt hc
  omega
theorem DStA.of {w : World} {B p gm g : Nat} {vS vW : Value} {s : St} (h : DSt w B p gm vS vW s) (hg : w.heap.size ≤ g) : DStA w B p gm vS vW s g := by
  obtain ⟨Sl, Wl, es, clk, e1, e2, hr, hm, hok⟩ := h.body
  exact ⟨h.blk, h.pb, h.left0, Sl, Wl, es, clk, e1, e2, hr, hm, hok, fun x hx => pg_ne (hr.sp x hx) hg, fun x hx => pg_ne (hr.wp x hx) hg⟩
theorem RStA.of {w : World} {B p g : Nat} {vS vW : Value} {s : St} (h : RSt w B p vS vW s) (hg : w.heap.size ≤ g) : RStA w B p vS vW s g := by
  obtain ⟨Sl, Wl, e1, e2, hr⟩ := h.body
  exact ⟨h.blk, h.pb, h.left0, Sl, Wl, e1, e2, hr, fun x hx => pg_ne (hr.sp x hx) hg, fun x hx => pg_ne (hr.wp x hx) hg⟩
theorem DStA.turn {O : Nat → Prop} {w w1 : World} {B p gm g : Nat} {vS vW : Value} {s : St} (h : DStA w B p gm vS vW s g) (ht : Turn O w w1) (hp : ∀ k c, w.heap[k]? = some (.cells c 5 (0, 0)) → ¬ O k) (hO : ∀ k, DO p gm vS vW k → ¬ O k) : DStA w1 B p gm vS vW s g := by
  obtain ⟨Sl, Wl, es, clk, e1, e2, hr, hm, hok, a1, a2⟩ := h.body
  exact ⟨blk_turn ht h.blk (hO p (.inl rfl)), h.pb, h.left0, Sl, Wl, es, clk, e1, e2, hr.turn ht hp (fun k hk => hO k (.inr (.inr (.inl hk)))) (fun k hk => hO k (.inr (.inr (.inr hk)))), blk_turn ht hm (hO gm (.inr (.inl rfl))), hok, a1, a2⟩
theorem RStA.turn {O : Nat → Prop} {w w1 : World} {B p g : Nat} {vS vW : Value} {s : St} (h : RStA w B p vS vW s g) (ht : Turn O w w1) (hp : ∀ k c, w.heap[k]? = some (.cells c 5 (0, 0)) → ¬ O k) (hO : ∀ k, RO p vS vW k → ¬ O k) : RStA w1 B p vS vW s g := by
  obtain ⟨Sl, Wl, e1, e2, hr, a1, a2⟩ := h.body
  exact ⟨blk_turn ht h.blk (hO p (.inl rfl)), h.pb, h.left0, Sl, Wl, e1, e2, hr.turn ht hp (fun k hk => hO k (.inr (.inl hk))) (fun k hk => hO k (.inr (.inr hk))), a1, a2⟩
theorem DStA.below {w w1 : World} {B p gm g : Nat} {vS vW : Value} {s : St} (h : DStA w B p gm vS vW s g) (hb : Below w.heap.size w w1) : DStA w1 B p gm vS vW s g := h.turn (O := fun _ => False) (Turn.of_below hb) (fun _ _ _ h => h) (fun _ _ h => h)
theorem RStA.below {w w1 : World} {B p g : Nat} {vS vW : Value} {s : St} (h : RStA w B p vS vW s g) (hb : Below w.heap.size w w1) : RStA w1 B p vS vW s g := h.turn (O := fun _ => False) (Turn.of_below hb) (fun _ _ _ h => h) (fun _ _ h => h)
theorem pg_set {w : World} {B g i : Nat} {u v : Value} {b : List Int} (h : Pg w B v b) (hn : v.ownBlock ≠ some g) : Pg (w.setCell ⟨g, i, none⟩ u) B v b :=
  ⟨h.1, h.2.1, own_turn (O := fun k => k = g) (Turn.set w g i u rfl) h.2.2 fun k hk e => hn (by rw [hk, e])⟩
/-- A byte of block g is laid anew: the disk stays. -/
theorem DStA.store {w : World} {B p gm g i : Nat} {vS vW u : Value} {s : St} {c : Array Value} {fr : Nat × Nat} (h : DStA w B p gm vS vW s g) (hg : w.heap[g]? = some (.cells c 5 fr)) : DSt (w.setCell ⟨g, i, none⟩ u) B p gm vS vW s := by
  have hn := h.d.notT hg (by decide) (by decide) (by decide)
  obtain ⟨Sl, Wl, es, clk, e1, e2, hr, hm, hok, a1, a2⟩ := h.body
  have ht : Turn (fun k => k = g) w (w.setCell ⟨g, i, none⟩ u) := Turn.set w g i u rfl
  exact ⟨blk_turn ht h.blk (fun e => hn (.inl e.symm)), h.pb, h.left0, Sl, Wl, es, clk, e1, e2, ⟨own_turn ht hr.s (fun k hk e => hn (.inr (.inr (.inl (by rw [hk, e]))))), own_turn ht hr.w_ (fun k hk e => hn (.inr (.inr (.inr (by rw [hk, e]))))), fun x hx => pg_set (hr.sp x hx) (a1 x hx), fun x hx => pg_set (hr.wp x hx) (a2 x hx), hr.wr⟩, blk_turn ht hm (fun e => hn (.inr (.inl e.symm))), hok⟩
theorem RStA.store {w : World} {B p g i : Nat} {vS vW u : Value} {s : St} {c : Array Value} {fr : Nat × Nat} (h : RStA w B p vS vW s g) (hg : w.heap[g]? = some (.cells c 5 fr)) : RSt (w.setCell ⟨g, i, none⟩ u) B p vS vW s := by
  have hn := h.r.notT hg (by decide) (by decide) (by decide)
  obtain ⟨Sl, Wl, e1, e2, hr, a1, a2⟩ := h.body
  have ht : Turn (fun k => k = g) w (w.setCell ⟨g, i, none⟩ u) := Turn.set w g i u rfl
  exact ⟨blk_turn ht h.blk (fun e => hn (.inl e.symm)), h.pb, h.left0, Sl, Wl, e1, e2, ⟨own_turn ht hr.s (fun k hk e => hn (.inr (.inl (by rw [hk, e])))), own_turn ht hr.w_ (fun k hk e => hn (.inr (.inr (by rw [hk, e])))), fun x hx => pg_set (hr.sp x hx) (a1 x hx), fun x hx => pg_set (hr.wp x hx) (a2 x hx), hr.wr⟩⟩
/-- An act of a disk that is not armed. -/
theorem goes0_calls {w : World} {B p gm : Nat} {vS vW : Value} {s : St} (h : DSt w B p gm vS vW s) (h0 : s.left = 0) :
    Calls Try.prog 32 #[.pointer (some ⟨p, 0, none⟩)] w fun e w' => e = .returned (.bool false) ∧ w' = w := by
  have k3 : w.cell? ⟨p, 3, none⟩ = some (.int .i64 s.left) := (blk_cell h.blk 3).trans rfl
  rw [h0] at k3
  clear h h0
  go_enter Try.func32, Try.ntmps32
  go_wp2
  go_ret
  exact ⟨rfl, rfl⟩
theorem goesR0_calls {w : World} {B p : Nat} {vS vW : Value} {s : St} (h : RSt w B p vS vW s) (hd : s.down = false) (h0 : s.left = 0) :
    Calls Try.prog 33 #[.pointer (some ⟨p, 0, none⟩)] w fun e w' => e = .returned (.bool false) ∧ w' = w := by
  have k3 : w.cell? ⟨p, 2, none⟩ = some (.int .i64 s.left) := (blk_cell h.blk 2).trans rfl
  have k4 : w.cell? ⟨p, 3, none⟩ = some (.bool false) := by rw [← hd]; exact (blk_cell h.blk 3).trans rfl
  rw [h0] at k3
  clear h h0 hd
  go_enter Try.func33, Try.ntmps33
  go_wp2
  go_ret
  exact ⟨rfl, rfl⟩
theorem DSt.wroteA {w w1 : World} {B p gm g : Nat} {vS vW v2 v : Value} {s : St} {no : Int} {b : List Int} (h : DSt w B p gm vS vW s) (hpg : Pg w B v b) (hin : inside s no)
    (Sl : List (Value × List Int)) (Wl : List (Int × Value × List Int)) (es : Array MapEntry) (clk : Nat) (e1 : s.S = Sl.map Prod.snd) (e2 : s.W = Wl.map unv) (hr : Rows 64 w B vS vW Sl Wl) (a1 : ∀ x ∈ Sl, x.1.ownBlock ≠ some g) (a2 : ∀ x ∈ Wl, x.2.1.ownBlock ≠ some g) (av : v.ownBlock ≠ some g) (hm : w.heap[gm]? = some (.map es clk)) (hok : MOk es clk (lastV Wl))
    (hg : w.grownBy w1 vW.ownBlock) (hown : w1.ownsRow B 64 2 v2 (Wl.length + 1) (Wl.flatMap wc ++ [.int .i64 no, v])) (hfresh : v2.ownBlock = vW.ownBlock ∨ ∃ k, v2.ownBlock = some k ∧ w.heap.size ≤ k)
    (es' : Array MapEntry) (clk' : Nat) (hok' : MOk es' clk' (fun k => if k = no then some v else lastV Wl k)) :
    DStA (setBlock (w1.setCell ⟨p, 1, none⟩ v2) gm (.map es' clk')) B p gm vS v2 (wr s no b) g ∧ Turn (DO p gm vS vW) w (setBlock (w1.setCell ⟨p, 1, none⟩ v2) gm (.map es' clk')) := by
  have hmp : gm ≠ p := fun e => sepm h.blk hm e.symm
  have hpW : vW.ownBlock ≠ some p := fun e => by
    obtain ⟨_, c2, h2⟩ := own_block hr.w_ e
    exact sep h2 h.blk (by decide) rfl
  have hgW : vW.ownBlock ≠ some gm := fun e => by
    obtain ⟨_, c2, h2⟩ := own_block hr.w_ e
    exact sepm h2 hm rfl
  have hpS : vS.ownBlock ≠ some p := fun e => by
    obtain ⟨_, c2, h2⟩ := own_block hr.s e
    exact sep h2 h.blk (by decide) rfl
  have hgS : vS.ownBlock ≠ some gm := fun e => by
    obtain ⟨_, c2, h2⟩ := own_block hr.s e
    exact sepm h2 hm rfl
  have hSW : ∀ k, vS.ownBlock = some k → vW.ownBlock ≠ some k := fun k e e' => by
    obtain ⟨_, c2, h2⟩ := own_block hr.s e
    obtain ⟨_, c3, h3⟩ := own_block hr.w_ e'
    exact sep h2 h3 (by decide) rfl
  have hlp := blk_lt h.blk
  have hlg : gm < w.heap.size := by rw [Array.getElem?_eq_some_iff] at hm; exact hm.1
  have t0 : ∀ {O : Nat → Prop}, (∀ k, vW.ownBlock = some k → O k) → Turn O w w1 := fun ho => Turn.of_grown hg ho
  have t1 : ∀ {O : Nat → Prop}, O p → O gm → Turn O w1 (setBlock (w1.setCell ⟨p, 1, none⟩ v2) gm (.map es' clk')) := fun h1 h2 => (Turn.set w1 p 1 _ h1).trans (Turn.setBlk _ gm _ h2) (fun k hk => .inl hk)
  have tA : Turn (DO p gm vS vW) w (setBlock (w1.setCell ⟨p, 1, none⟩ v2) gm (.map es' clk')) := (t0 (O := DO p gm vS vW) (fun k hk => .inr (.inr (.inr hk)))).trans (t1 (.inl rfl) (.inr (.inl rfl))) (fun k hk => .inl hk)
  have tB : Turn (fun k => k = p ∨ k = gm ∨ vW.ownBlock = some k) w (setBlock (w1.setCell ⟨p, 1, none⟩ v2) gm (.map es' clk')) := (t0 (fun k hk => .inr (.inr hk))).trans (t1 (.inl rfl) (.inr (.inl rfl))) (fun k hk => .inl hk)
  have tC : Turn (fun k => k = p ∨ k = gm) w1 (setBlock (w1.setCell ⟨p, 1, none⟩ v2) gm (.map es' clk')) := t1 (.inl rfl) (.inr rfl)
  have hb0 := blk_turn (t0 (O := fun k => vW.ownBlock = some k) (fun k hk => hk)) h.blk hpW
  have hm0 := blk_turn (t0 (O := fun k => vW.ownBlock = some k) (fun k hk => hk)) hm hgW
  have hb1 := blk_set hb0 1 v2
  have hm1 := blk_turn (Turn.set (O := fun k => k = p) w1 p 1 v2 rfl) hm0 hmp
  have hb2 := blk_turn (Turn.setBlk (O := fun k => k = gm) (w1.setCell ⟨p, 1, none⟩ v2) gm (.map es' clk') rfl) hb1 (fun e => hmp e.symm)
  have hpg' : ∀ k c, w.heap[k]? = some (.cells c 5 (0, 0)) → ¬ (k = p ∨ k = gm ∨ vW.ownBlock = some k) := fun k c hk e => h.pages k c hk (e.elim .inl fun e => e.elim (fun e => .inr (.inl e)) fun e => .inr (.inr (.inr e)))
  refine ⟨⟨hb2, h.pb, h.left0, Sl, Wl ++ [(no, v, b)], es', clk', e1, ?_, ⟨own_turn tB hr.s ?_, ?_, fun x hx => (hr.sp x hx).turn tB hpg', ?_, ?_⟩, setBlock_get _ hm1, ?_, a1, fun x hx => (List.mem_append.1 hx).elim (a2 x) (fun hx => by rw [List.mem_singleton.1 hx]; exact av)⟩, tA⟩
  · show s.W ++ [(no, b)] = _
    rw [e2, List.map_append]
    rfl
  · rintro k hk (rfl | rfl | e)
    · exact hpS hk
    · exact hgS hk
    · exact hSW k hk e
  · have : w1.ownsRow B 64 2 v2 (Wl ++ [(no, v, b)]).length ((Wl ++ [(no, v, b)]).flatMap wc) := by
      rw [wc_app, List.length_append]
      exact hown
    refine own_turn tC this ?_
    rintro k hk (rfl | rfl)
    · rcases hfresh with e | ⟨k2, e, hk2⟩
      · rw [e] at hk; exact hpW hk
      · rw [e] at hk; injection hk with hk; omega
    · rcases hfresh with e | ⟨k2, e, hk2⟩
      · rw [e] at hk; exact hgW hk
      · rw [e] at hk; injection hk with hk; omega
  · intro x hx
    rcases List.mem_append.1 hx with hx | hx
    · exact (hr.wp x hx).turn tB hpg'
    · rw [List.mem_singleton.1 hx]
      exact hpg.turn tB hpg'
  · intro x hx
    rcases List.mem_append.1 hx with hx | hx
    · exact hr.wr x hx
    · rw [List.mem_singleton.1 hx]
      unfold inside at hin
      rw [e1, List.length_map] at hin
      exact hin
  · rw [lastV_app]
    exact hok'

set_option maxHeartbeats 4000000 in
theorem write0_calls {w : World} {B p gm g : Nat} {vS vW : Value} {s : St} (hA : DStA w B p gm vS vW s g) (hgw : g < w.heap.size) (hB : B ≤ w.heap.size) (no : Int) (A : Option Addr) (c : Nat) (b : List Int) (hc : b.length ≤ c) (hC : Kd.C (Kd.int .u8) w A b.length b) (hl : b.length = 1024) (hib : IsB b) (hlen : s.W.length ≤ 1000000) (hin : inside s no) (hd : s.down = false) (hl0 : s.left = 0) :
    Calls Try.prog 12 #[.pointer (some ⟨p, 0, none⟩), .int .i64 no, .slice A b.length c] w fun e w' => e = .returned (.int .i64 0) ∧ ∃ vW', DStA w' B p gm vS vW' (wr s no b) g ∧ Turn (DO p gm vS vW) w w' := by
  have HT := Lib.hid (there_calls hA.d no)
  have hb : b.length ≤ 1000000 := by omega
  have h := hA
  have HL0 := Lib.hid hl0
  have HGW := Lib.hid hgw
  rw [decide_eq_true (show 0 ≤ no ∧ no < s.S.length from hin)] at HT
  have d0 : ((b.length : Int) != 1024) = false := by rw [hl]; rfl
  have k4 : w.cell? ⟨p, 4, none⟩ = some (.bool s.down) := (blk_cell h.blk 4).trans rfl
  rw [hd] at k4
  have HCl := Lib.hid (bytes_Clone.calls A c b b w hC hc (by unfold bytes_Clone.f; rw [if_pos (by omega)]))
  have HD := Lib.hid h
  have HI := Lib.hid hin
  have HLN := Lib.hid hlen
  have HBB := Lib.hid hB
  have HBL := Lib.hid hl
  have HIB := Lib.hid hib
  clear h hA hC hin hl hd hb hlen hB hib hl0 hgw
  go_enter Try.func12, Try.ntmps12
  go_wp2_with fail
  refine HT.out.mono ?_
  rintro e w1 ⟨rfl, rfl⟩
  go_wp2_with fail
  refine HCl.out.mono ?_
  rintro e w1 ⟨v, rfl, hr, hb⟩
  have HPG := Lib.hid (Pg.of_R hr HBL.out HIB.out HBB.out)
  have HAV := Lib.hid (show v.ownBlock ≠ some g from fun e => by have h1 := (own_block (Kd.own_of_R hr) e).1; have h2 := HGW.out; omega)
  have HD1 := Lib.hid (HD.out.below hb)
  have HB1 := Lib.hid hb
  clear hr hb HT HCl HD k4
  obtain ⟨Sl, Wl, es, clk, e1, e2, hr, hm, hok, ha1, ha2⟩ := HD1.out.body
  have HA1 := Lib.hid ha1
  have HA2 := Lib.hid ha2
  clear ha1 ha2
  have HR := Lib.hid hr
  have HM := Lib.hid hm
  have HOK := Lib.hid hok
  have HE1 := Lib.hid e1
  have HE2 := Lib.hid e2
  have HWL := Lib.hid (show Wl.length ≤ 1000000 by have := HLN.out; rw [e2, List.length_map] at this; exact this)
  have k1 : w1.cell? ⟨p, 1, none⟩ = some vW := (blk_cell HD1.out.blk 1).trans rfl
  obtain ⟨Av, cv, rfl, _, _⟩ := HPG.out.reads
  clear hr hm hok e1 e2
  obtain ⟨i0, hi0, hz0, hz1, hz2⟩ := info_parts info_write
  go_wp2_with (first
    | (at_builtin
       refine wpList_append_own_at _ rfl _ _ 58 rfl B 64 i0 (.agg #[.int .i64 0, .slice none 0 0]) 2 32 Try.underlying58 hi0 hz0 hz1 hz2 rfl (by decide) vW Wl.length (Wl.flatMap wc) rfl (HR.out.w_.alloc _) ⟨w1.heap.size, 0, none⟩ 1 1 [.int .i64 no, (.slice Av b.length cv)] rfl rfl (cell_two_new _ _ _ _) (fun x hx => by simp at hx; rcases hx with rfl | rfl <;> rfl) (by have := HWL.out; unfold maxLen; omega) (by have := HWL.out; omega) (by have := HBB.out; have := HB1.out.size; simp; omega) ?_
       intro v2 w2 ho2 hg2 hn2 hf2
       obtain ⟨A2, c2_, rfl, _⟩ := own_sl ho2
       have HO2 := Lib.hid ho2
       have HG2 := Lib.hid hg2
       have HF2 := Lib.hid hf2
       have hDA := HD1.out.below (below_alloc (Below.refl _ _) (.cells #[.int .i64 no, (.slice Av b.length cv)] 64))
       have hpW : ¬ vW.ownBlock = some p := (fun e => (own_block HR.out.w_ e).2.elim fun _ h2 => sep h2 HD1.out.blk (by decide) rfl)
       have hgW : ¬ vW.ownBlock = some gm := (fun e => (own_block HR.out.w_ e).2.elim fun _ h2 => sepm h2 HM.out rfl)
       have hmp : gm ≠ p := (fun e => sepm HD1.out.blk HM.out e.symm)
       have hbp := blk_turn (O := fun k => vW.ownBlock = some k) (Turn.of_grown hg2 (fun k hk => hk)) hDA.blk hpW
       have hbm := blk_turn (O := fun k => vW.ownBlock = some k) (Turn.of_grown hg2 (fun k hk => hk)) (blk_turn (O := fun _ => False) (Turn.of_below (below_alloc (Below.refl _ _) _)) HM.out (fun h => h)) hgW
       have f1 := blk_frozen hbp 1
       have c1 : w2.cell? ⟨p, 1, none⟩ = some vW := (blk_cell hbp 1).trans rfl
       have hb1 := blk_set hbp 1 (.slice A2 (Wl.length + 1) c2_)
       have c2 : (w2.setCell ⟨p, 1, none⟩ (.slice A2 (Wl.length + 1) c2_)).cell? ⟨p, 2, none⟩ = some (.map (some gm)) := (blk_cell hb1 2).trans rfl
       have hm1 := blk_turn (Turn.set (O := fun k => k = p) w2 p 1 (.slice A2 (Wl.length + 1) c2_) rfl) hbm hmp
       obtain ⟨es', clk', hput, hok'⟩ := run_put (P := Try.prog) Try.underlying57 Try.underlying3 (w2.setCell ⟨p, 1, none⟩ (.slice A2 (Wl.length + 1) c2_)) hm1 HOK.out no (.slice Av b.length cv)
       have HOK' := Lib.hid hok'
       clear hDA hpW hgW hmp hbp hbm hb1 hm1 ho2 hg2 hn2 hf2 hok')
    | fail)
  have hba := below_alloc (Below.refl w1.heap.size w1) (.cells #[.int .i64 no, .slice Av b.length cv] 64)
  have hta : Turn (fun _ => False) w1 (w1.alloc (.cells #[.int .i64 no, .slice Av b.length cv] 64)) := Turn.of_below hba
  have hno : ∀ {P : Nat → Prop} (k : Nat), P k → ¬ (fun _ : Nat => False) k := fun _ _ h => h
  have hW := DSt.wroteA (g := g) (HD1.out.below hba).d (HPG.out.turn hta (fun _ _ _ h => h)) HI.out Sl Wl es clk HE1.out HE2.out (HR.out.turn hta (fun _ _ _ h => h) (fun _ _ h => h) (fun _ _ h => h)) HA1.out HA2.out HAV.out (blk_turn hta HM.out (fun h => h)) HOK.out HG2.out HO2.out (HF2.out.imp id fun e => ⟨_, e, Nat.le_refl _⟩) es' clk' HOK'.out
  have HW1 := Lib.hid hW.1
  have HW2 := Lib.hid ((Turn.of_below (O := DO p gm vS vW) HB1.out).trans ((Turn.of_below (O := DO p gm vS vW) hba).trans hW.2 (fun k hk => .inl hk)) (fun k hk => .inl hk))
  have HSZ := Lib.hid (show w.heap.size ≤ (w1.alloc (.cells #[.int .i64 no, .slice Av b.length cv] 64)).heap.size from Nat.le_trans HB1.out.size hba.size)
  clear hba hta hno hW HD1 HR HM HOK HE1 HE2 HG2 HO2 HOK' hput c1 c2 f1 k1 HPG HI
  go_wp2_with fail
  refine (goes0_calls HW1.out.d HL0.out).mono ?_
  rintro e w4 ⟨rfl, rfl⟩
  go_wp2
  go_ret
  exact ⟨rfl, _, HW1.out, HW2.out⟩
end Go.Proofs.Ytblacdnndchghaa.D
