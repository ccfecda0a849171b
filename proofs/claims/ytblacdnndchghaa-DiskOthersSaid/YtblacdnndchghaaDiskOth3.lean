/- Both disks of DiskOthers behind the writes. -/
import Derived.Test.YtblacdnndchghaaDiskOth2
namespace Go.Proofs.Ytblacdnndchghaa.D
open Go.RowKit Go.Proofs.YtblacdnndchghaaW.PrintWords Go.Proofs.YtblacdnndchghaaW.PrintLast Go.Proofs.YtblacdnndchghaaW.PrintMore Go.Proofs.Ytblacdnndchghaa.Math Go.Proofs.Ytblacdnndchghaa.PAll Go.Proofs.Ytblacdnndchghaa.Open
set_option linter.unusedVariables false
set_option linter.unusedSimpArgs false

theorem filled_new (x : Int) (w : World) : Calls Try.prog 13 #[.int .u8 x] w fun e w' => ∃ g c, e = .returned (.slice (some ⟨g, 0, none⟩) 1024 c) ∧ w.heap.size ≤ g ∧ Rw w' (.slice (some ⟨g, 0, none⟩) 1024 c) (fpage x) ∧ Below w.heap.size w w' := by
  refine (cambiumlaw05_Filled.calls 2000 x (fpage x) w (filled_f x)).mono ?_
  rintro e w' ⟨v, rfl, h, hb⟩
  obtain ⟨g, c, hv, _, hg, _⟩ := own_at (Kd.own_of_R h) (by rw [fpage_len]; decide)
  rw [fpage_len] at hv
  subst hv
  exact ⟨g, c, rfl, hg, Rw.of_R h, hb⟩
theorem Rw.blk {w : World} {g c n : Nat} {b : List Int} (h : Rw w (.slice (some ⟨g, 0, none⟩) n c) b) : ∃ cs, w.heap[g]? = some (.cells cs 5 (0, 0)) := (own_block h rfl).2
/-- Both disks, none of whose pages lies in block g. -/
structure L2A (W w : World) (p gm q : Nat) (vS vW uS uW : Value) (s t : St) (g : Nat) : Prop where
  d : DStA w W.heap.size p gm vS vW s g
  r : RStA w W.heap.size q uS uW t g
  below : Below W.heap.size W w
  ne : ∀ k, vS.ownBlock = some k → uS.ownBlock ≠ some k
section
variable {W w w1 : World} {p gm q g : Nat} {vS vW uS uW : Value} {s t : St}
theorem L2A.of (h : L2 W w p gm q vS vW uS uW s t) (hg : w.heap.size ≤ g) : L2A W w p gm q vS vW uS uW s t g := ⟨DStA.of h.d hg, RStA.of h.r hg, h.below, h.ne⟩
theorem L2A.next (h : L2A W w p gm q vS vW uS uW s t g) (hb : Below w.heap.size w w1) : L2A W w1 p gm q vS vW uS uW s t g := ⟨h.d.below hb, h.r.below hb, below_step h.below hb, h.ne⟩
theorem L2A.writeD (h : L2A W w p gm q vS vW uS uW s t g) (no : Int) {A : Option Addr} {c : Nat} {b : List Int} (hv : Rw w (.slice A 1024 c) b) (hgw : g < w.heap.size) (hl : b.length = 1024) (hib : IsB b) (hlen : s.W.length ≤ 1000000) (hin : inside s no) (hd : s.down = false) (hl0 : s.left = 0) :
    Calls Try.prog 12 #[.pointer (some ⟨p, 0, none⟩), .int .i64 no, .slice A 1024 c] w fun e w' => e = .returned (.int .i64 0) ∧ (∃ vW', L2A W w' p gm q vS vW' uS uW (wr s no b) t g) ∧ ∀ v b, Rw w v b → Rw w' v b := by
  obtain ⟨A', c', hv', hc, hC⟩ := hv.reads
  injection hv' with h1 h2 h3
  subst h1
  subst h3
  have hw := write0_calls h.d hgw h.below.size no A c b hc hC hl hib hlen hin hd hl0
  rw [hl] at hw
  refine hw.mono ?_
  rintro e w' ⟨rfl, vW', hd', ht⟩
  exact ⟨rfl, ⟨vW', hd', h.r.turn ht (fun k c hk => h.d.d.pages k c hk) (apart h.d.d h.r.r h.ne), below_turn h.below ht h.d.d.fresh_, h.ne⟩, fun v b hr => hr.turn ht (fun k c hk => h.d.d.pages k c hk)⟩
theorem L2A.writeR (h : L2A W w p gm q vS vW uS uW s t g) (no : Int) {A : Option Addr} {c : Nat} {b : List Int} (hv : Rw w (.slice A 1024 c) b) (hgw : g < w.heap.size) (hl : b.length = 1024) (hib : IsB b) (hlen : t.W.length ≤ 1000000) (hin : inside t no) (hd : t.down = false) (hl0 : t.left = 0) :
    Calls Try.prog 14 #[.pointer (some ⟨q, 0, none⟩), .int .i64 no, .slice A 1024 c] w fun e w' => e = .returned (.int .i64 0) ∧ (∃ uW', L2A W w' p gm q vS vW uS uW' s (wr t no b) g) ∧ ∀ v b, Rw w v b → Rw w' v b := by
  obtain ⟨A', c', hv', hc, hC⟩ := hv.reads
  injection hv' with h1 h2 h3
  subst h1
  subst h3
  have hw := writeR0_calls h.r hgw h.below.size no A c b hc hC hl hib hlen hin hd hl0
  rw [hl] at hw
  refine hw.mono ?_
  rintro e w' ⟨rfl, uW', hd', ht⟩
  exact ⟨rfl, ⟨uW', h.d.turn ht (fun k c hk => h.r.r.pages k c hk) (fun k hD hR => apart h.d.d h.r.r h.ne k hR hD), hd', below_turn h.below ht h.r.r.fresh_, h.ne⟩, fun v b hr => hr.turn ht (fun k c hk => h.r.r.pages k c hk)⟩
theorem L2A.store (h : L2A W w p gm q vS vW uS uW s t g) {c : Array Value} {fr : Nat × Nat} (hg : w.heap[g]? = some (.cells c 5 fr)) (hW : W.heap.size ≤ g) (i : Nat) (u : Value) : L2 W (w.setCell ⟨g, i, none⟩ u) p gm q vS vW uS uW s t :=
  ⟨h.d.store hg, h.r.store hg, below_turn h.below (Turn.set (O := fun k => k = g) w g i u rfl) (fun k hk => by rw [hk]; exact hW), h.ne⟩
/-- A byte of a row made since is laid anew: the disks stay. -/
theorem L2.stored (h : L2 W w p gm q vS vW uS uW s t) (hb : Below w.heap.size w w1) (hg : w.heap.size ≤ g) (i : Nat) (u : Value) : L2 W (w1.setCell ⟨g, i, none⟩ u) p gm q vS vW uS uW s t :=
  h.next (below_turn hb (Turn.set (O := fun k => k = g) w1 g i u rfl) (fun k hk => by rw [hk]; exact hg))
end
theorem Rw.stored {w : World} {N g i : Nat} {ok : Nat → Prop} {u v : Value} {b : List Int} (h : Kd.R (Kd.int .u8) 5 w N ok v b) (hg : g < N) : Rw (w.setCell ⟨g, i, none⟩ u) v b :=
  own_turn (O := fun k => k = g) (Turn.set w g i u rfl) (Rw.of_R h) fun k hk e => by have h1 := (own_block (Kd.own_of_R h) hk).1; omega
/-- A row made by a call: where it lies. -/
theorem R_at {w : World} {N : Nat} {ok : Nat → Prop} {v : Value} {b : List Int} (h : Kd.R (Kd.int .u8) 5 w N ok v b) (hl : b.length = 1024) : ∃ g c cs, v = .slice (some ⟨g, 0, none⟩) 1024 c ∧ N ≤ g ∧ w.heap[g]? = some (.cells cs 5 (0, 0)) ∧ w.cell? ⟨g, 5, none⟩ = some (.int .u8 (rd b 5)) := by
  obtain ⟨g, c, hv, _, hg, hcell⟩ := own_at (Kd.own_of_R h) (by omega)
  rw [hl] at hv
  subst hv
  obtain ⟨cs, hcs⟩ := (own_block (Kd.own_of_R h) rfl).2
  refine ⟨g, c, cs, rfl, hg, hcs, hcell 5 _ ?_⟩
  show (nums .u8 b)[5]? = some (.int .u8 (rd b 5))
  unfold nums
  rw [List.getElem?_map, List.getElem?_eq_getElem (by omega)]
  simp [rd, List.getElem?_eq_getElem (show 5 < b.length by omega)]
theorem DSt.read_in {w : World} {B p gm : Nat} {vS vW : Value} {s : St} (h : DSt w B p gm vS vW s) {no : Int} (hin : inside s no) : (readP s no).length = 1024 ∧ readC s no = 0 := by
  obtain ⟨Sl, Wl, es, clk, e1, e2, hr, hm, hok⟩ := h.body
  unfold readP readC
  rw [if_pos hin, if_pos hin]
  refine ⟨?_, rfl⟩
  unfold seenP
  rcases last_both Wl no with ⟨_, h2⟩ | ⟨x, hx, _, _, h2⟩
  · rw [e2, h2, e1]
    have hi := hin
    unfold inside at hi
    rw [e1, List.length_map] at hi
    have hlt : no.toNat < Sl.length := by omega
    show ((Sl.map Prod.snd).getD no.toNat []).length = 1024
    rw [List.getD_eq_getElem?_getD, List.getElem?_map, List.getElem?_eq_getElem hlt]
    exact (hr.sp _ (List.getElem_mem hlt)).1
  · rw [e2, h2]
    exact (hr.wp x hx).1
end Go.Proofs.Ytblacdnndchghaa.D
