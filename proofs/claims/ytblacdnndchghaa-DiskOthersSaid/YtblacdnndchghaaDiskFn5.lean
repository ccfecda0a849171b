/- The disk's Sync: its contract by hand. -/
import Derived.Test.YtblacdnndchghaaDiskFn4
import Derived.Maps.RangeWalk
namespace Go.Proofs.Ytblacdnndchghaa.D
open Go.RowKit Go.Proofs.YtblacdnndchghaaW.PrintWords Go.Proofs.YtblacdnndchghaaW.PrintLast Go.Proofs.YtblacdnndchghaaW.PrintMore Go.Proofs.Ytblacdnndchghaa.Math Go.Proofs.Ytblacdnndchghaa.PAll
open Go.ChangeMaps (setBlock)
set_option linter.unusedVariables false
set_option linter.unusedSimpArgs false

/-- One element of an own row is laid anew. -/
theorem own_set {w : World} {B e g c n k : Nat} {xs : List Value} {v : Value} (h : w.ownsRow B e 1 (.slice (some ⟨g, 0, none⟩) n c) n xs) (hk : k < n) : (w.setCell ⟨g, k, none⟩ v).ownsRow B e 1 (.slice (some ⟨g, 0, none⟩) n c) n (xs.set k v) := by
  obtain ⟨h1, h2⟩ := h
  refine ⟨by rw [List.length_set]; exact h1, ?_⟩
  rcases h2 with ⟨h2, _⟩ | ⟨g', cap, cur, he, hg, hh, hnc, hcm, hcs, ht⟩
  · cases h2
  · injection he with he _ hc
    injection he with he
    injection he with he _ _
    subst he
    subst hc
    refine .inr ⟨g, c, cur.setIfInBounds k v, rfl, hg, ?_, hnc, hcm, by rw [Array.size_setIfInBounds]; exact hcs, ?_⟩
    · exact blk_set hh k v
    · rw [← ht, Array.toList_setIfInBounds, List.take_set]
theorem Rows.store {TW : TypeId} {w : World} {B g c k : Nat} {vW v : Value} {b : List Int} {Sl : List (Value × List Int)} {Wl : List (Int × Value × List Int)} (h : Rows TW w B (.slice (some ⟨g, 0, none⟩) Sl.length c) vW Sl Wl)
    (hne : TW ≠ 34) (hne2 : TW ≠ 5) (hk : k < Sl.length) (hpg : Pg w B v b) : Rows TW (w.setCell ⟨g, k, none⟩ v) B (.slice (some ⟨g, 0, none⟩) Sl.length c) vW (Sl.set k (v, b)) Wl := by
  have ht : Turn (fun j => j = g) w (w.setCell ⟨g, k, none⟩ v) := Turn.set w g k v rfl
  obtain ⟨_, cg, hg⟩ := own_block h.s (k := g) rfl
  have hp : ∀ j d, w.heap[j]? = some (.cells d 5 (0, 0)) → ¬ j = g := fun j d hj e => sep hj hg (by decide) e
  refine ⟨?_, own_turn ht h.w_ (fun j hj e => ?_), fun x hx => ?_, fun x hx => (h.wp x hx).turn ht hp, fun x hx => ?_⟩
  · have := own_set (v := v) h.s hk
    rw [List.length_set, List.map_set]
    exact this
  · obtain ⟨_, c2, h2⟩ := own_block h.w_ hj
    exact sep h2 hg hne e
  · rcases List.mem_or_eq_of_mem_set hx with hx | rfl
    · exact (h.sp x hx).turn ht hp
    · exact hpg.turn ht hp
  · rw [List.length_set]
    exact h.wr x hx
/-- All that waits is safe. -/
def syncS (S : List (List Int)) (W : List (Int × List Int)) : List (List Int) := W.foldl (fun S x => S.set x.1.toNat x.2) S
theorem syncS_len (W : List (Int × List Int)) (S : List (List Int)) : (syncS S W).length = S.length := by
  unfold syncS
  induction W generalizing S with
  | nil => rfl
  | cons y L ih => rw [List.foldl_cons, ih, List.length_set]
theorem syncS_get (W : List (Int × List Int)) (S : List (List Int)) (hw : ∀ x ∈ W, 0 ≤ x.1) (i : Nat) : (syncS S W)[i]? = (S[i]?).map fun b => (lastP W i).getD b := by
  refine rev_rec (P := fun W => (∀ x ∈ W, 0 ≤ x.1) → (syncS S W)[i]? = (S[i]?).map fun b => (lastP W i).getD b) (fun _ => ?_) (fun L x ih hw => ?_) W hw
  · show S[i]? = _
    cases S[i]? <;> rfl
  · have ih := ih fun y hy => hw y (by simp [hy])
    have hx := hw x (by simp)
    have e1 : syncS S (L ++ [x]) = (syncS S L).set x.1.toNat x.2 := by unfold syncS; rw [List.foldl_append]; rfl
    have e2 : lastP (L ++ [x]) i = if (i : Int) = x.1 then some x.2 else lastP L i := by unfold lastP; rw [List.foldl_append]; rfl
    rw [e1, e2, List.getElem?_set]
    by_cases h : (i : Int) = x.1
    · rw [if_pos h, if_pos (by omega)]
      have hl := syncS_len L S
      rw [show x.1.toNat = i by omega, hl]
      by_cases hi : i < S.length
      · rw [if_pos hi, List.getElem?_eq_getElem hi]; rfl
      · rw [if_neg hi, List.getElem?_eq_none (by omega)]; rfl
    · rw [if_neg h, if_neg (by omega), ih]
/-- What Sync answers, and the state behind. -/
def sync (s : St) : Int × St := if s.down then (3, s) else if (goes s).1 then (3, (goes s).2) else (0, { (goes s).2 with S := syncS s.S s.W, W := [] })
theorem goes_S (s : St) : (goes s).2.S = s.S ∧ (goes s).2.W = s.W := by unfold goes; split <;> exact ⟨rfl, rfl⟩

/-- A key's entry was handed out. -/
def Seen (es : Array MapEntry) (seen : Array Nat) (i : Int) : Prop := ∃ e ∈ es.toList, e.key = .int .i64 i ∧ seen.contains e.born = true
/-- The round's world. -/
structure SW (w : World) (B p gm r : Nat) (vS vW : Value) (s : St) (n : Nat) (Wl : List (Int × Value × List Int)) (es : Array MapEntry) (clk : Nat) (w1 : World) (seen : Array Nat) (Sm : List (Value × List Int)) : Prop where
  blk : w1.heap[p]? = some (.cells #[vS, vW, .map (some gm), .int .i64 s.left, .bool s.down] 60 (0, 0))
  rows : Rows 64 w1 B vS vW Sm Wl
  map : w1.heap[gm]? = some (.map es clk)
  it : ∃ c0, w1.heap[r]? = some (.mapIter (some gm) clk seen c0) ∧ clk ≤ c0
  len : Sm.length = n
  turn : Turn (fun k => vS.ownBlock = some k) w w1
/-- What the rounds have done. -/
def SG (Sl : List (Value × List Int)) (Wl : List (Int × Value × List Int)) (es : Array MapEntry) (seen : Array Nat) (Sm : List (Value × List Int)) : Prop :=
  ∀ (i : Nat) x, Sm[i]? = some x → (Seen es seen i ∧ ∃ b, lastP (Wl.map unv) i = some b ∧ x.2 = b) ∨ (¬ Seen es seen i ∧ Sl[i]? = some x)
theorem sepi {w : World} {a b : Nat} {c : Array Value} {t : TypeId} {x : Nat × Nat} {m : Option Nat} {y z : Nat} {s : Array Nat} (h : w.heap[a]? = some (.cells c t x)) (h2 : w.heap[b]? = some (.mapIter m y s z)) : a ≠ b := by
  rintro rfl
  rw [h] at h2
  injection h2 with h2
  cases h2
theorem sepmi {w : World} {a b : Nat} {es : Array MapEntry} {clk : Nat} {m : Option Nat} {y z : Nat} {s : Array Nat} (h : w.heap[a]? = some (.map es clk)) (h2 : w.heap[b]? = some (.mapIter m y s z)) : a ≠ b := by
  rintro rfl
  rw [h] at h2
  injection h2 with h2
  cases h2
section
variable {w : World} {B p gm r : Nat} {vS vW : Value} {s : St} {n : Nat} {Sl : List (Value × List Int)} {Wl : List (Int × Value × List Int)} {es : Array MapEntry} {clk : Nat} {w1 : World} {seen : Array Nat} {Sm : List (Value × List Int)}
theorem SW.next (h : SW w B p gm r vS vW s n Wl es clk w1 seen Sm) (hr : w.heap.size ≤ r) (seen' : Array Nat) {w1' : World} (hal : w1' = w1 ∨ w1' = w1.drew) : SW w B p gm r vS vW s n Wl es clk (setBlock w1' r (.mapIter (some gm) clk seen' clk)) seen' Sm := by
  obtain ⟨c0, hit, hc⟩ := h.it
  have ht : Turn (fun k => k = r) w1 (setBlock w1' r (.mapIter (some gm) clk seen' clk)) := by
    rcases hal with rfl | rfl
    · exact Turn.setBlk _ r _ rfl
    · have := Turn.setBlk (O := fun k => k = r) w1.drew r (.mapIter (some gm) clk seen' clk) rfl
      exact ⟨this.os, this.tape, this.output, this.size, this.block⟩
  have hit' : w1'.heap[r]? = some (.mapIter (some gm) clk seen c0) := by rcases hal with rfl | rfl <;> exact hit
  refine ⟨blk_turn ht h.blk (fun e => sepi h.blk hit e), h.rows.turn ht (fun k c hk e => sepi hk hit e) (fun k hk e => ?_) (fun k hk e => ?_), blk_turn ht h.map (fun e => sepmi h.map hit e), ⟨clk, setBlock_get _ hit', Nat.le_refl _⟩, h.len, h.turn.trans ht (fun k hk => .inr (by rw [hk]; exact hr))⟩
  · obtain ⟨_, c2, h2⟩ := own_block h.rows.s hk
    exact sepi h2 hit e
  · obtain ⟨_, c2, h2⟩ := own_block h.rows.w_ hk
    exact sepi h2 hit e
theorem SW.store {g c k : Nat} {v : Value} {b : List Int} (h : SW w B p gm r (.slice (some ⟨g, 0, none⟩) n c) vW s n Wl es clk w1 seen Sm) (hk : k < n) (hpg : Pg w1 B v b) : SW w B p gm r (.slice (some ⟨g, 0, none⟩) n c) vW s n Wl es clk (w1.setCell ⟨g, k, none⟩ v) seen (Sm.set k (v, b)) := by
  obtain ⟨c0, hit, hc⟩ := h.it
  have hl := h.len
  subst hl
  obtain ⟨_, cg, hg⟩ := own_block h.rows.s (k := g) rfl
  have ht : Turn (fun j => j = g) w1 (w1.setCell ⟨g, k, none⟩ v) := Turn.set w1 g k v rfl
  refine ⟨blk_turn ht h.blk (fun e => sep h.blk hg (by decide) e), h.rows.store (by decide) (by decide) hk hpg, blk_turn ht h.map (fun e => sepm hg h.map e.symm), ⟨c0, blk_turn ht hit (fun e => sepi hg hit e.symm), hc⟩, by rw [List.length_set], h.turn.trans ht (fun k hk => .inl (by rw [hk]; rfl))⟩
theorem SG.step (hok : MOk es clk (lastV Wl)) (h : SG Sl Wl es seen Sm) {e : MapEntry} (he : e ∈ es.toList) {k : Nat} (hkey : e.key = .int .i64 k) (v : Value) (b : List Int) (hb : lastP (Wl.map unv) k = some b) : SG Sl Wl es (seen.push e.born) (Sm.set k (v, b)) := by
  intro i x hx
  rw [List.getElem?_set] at hx
  by_cases hik : k = i
  · subst hik
    rw [if_pos rfl] at hx
    split at hx
    · injection hx with hx
      subst hx
      exact .inl ⟨⟨e, he, hkey, by rw [contains_push]; simp⟩, b, hb, rfl⟩
    · cases hx
  · rw [if_neg hik] at hx
    have hsn : Seen es (seen.push e.born) i ↔ Seen es seen i := by
      refine ⟨fun ⟨e', h1, h2, h3⟩ => ⟨e', h1, h2, ?_⟩, fun ⟨e', h1, h2, h3⟩ => ⟨e', h1, h2, by rw [contains_push, h3]; rfl⟩⟩
      rw [contains_push, Bool.or_eq_true] at h3
      rcases h3 with h3 | h3
      · exact h3
      · have hbe := beq_iff_eq.1 h3
        have hnd := hok.st.2.1
        have hee : e' = e := by
          obtain ⟨i1, h1'⟩ := List.mem_iff_getElem?.1 h1
          obtain ⟨i2, h2'⟩ := List.mem_iff_getElem?.1 he
          have a1 : (es.toList.map (·.born))[i1]? = some e'.born := by rw [List.getElem?_map, h1']; rfl
          have a2 : (es.toList.map (·.born))[i2]? = some e'.born := by rw [List.getElem?_map, h2', hbe]; rfl
          have : i1 = i2 := (List.getElem?_inj (by rw [List.getElem?_eq_some_iff] at a1; exact a1.1) hnd).1 (a1.trans a2.symm)
          rw [this, h2'] at h1'
          injection h1' with h1'
          exact h1'.symm
        rw [hee, hkey] at h2
        injection h2 with _ h2
        omega
    rw [hsn]
    exact h i x hx
theorem SG.start : SG Sl Wl es #[] Sl := fun i x hx => .inr ⟨fun ⟨e, _, _, h⟩ => by simp at h, hx⟩
theorem SG.done (hok : MOk es clk (lastV Wl)) (h : SG Sl Wl es seen Sm) (hl : Sm.length = Sl.length) (hall : (leftOf es seen).size = 0) (hw : ∀ x ∈ Wl, 0 ≤ x.1 ∧ x.1 < Sl.length) : Sm.map Prod.snd = syncS (Sl.map Prod.snd) (Wl.map unv) := by
  apply List.ext_getElem?
  intro i
  rw [syncS_get _ _ (fun x hx => by obtain ⟨y, hy, rfl⟩ := List.mem_map.1 hx; exact (hw y hy).1), List.getElem?_map, List.getElem?_map]
  by_cases hi : i < Sm.length
  · rw [List.getElem?_eq_getElem hi, List.getElem?_eq_getElem (by omega : i < Sl.length)]
    simp only [Option.map_some]
    congr 1
    rcases h i _ (List.getElem?_eq_getElem hi) with ⟨_, b, hb, hx⟩ | ⟨hns, hx⟩
    · rw [hb, hx]; rfl
    · have hn : lastP (Wl.map unv) i = none := by
        rcases last_both Wl i with ⟨_, h2⟩ | ⟨y, hy, h1, h2, _⟩
        · exact h2
        · exfalso
          obtain ⟨e, he, hk, _⟩ := hok.find i _ h2
          exact hns ⟨e, he, hk, all_seen es seen hall e he⟩
      rw [hn]
      rw [List.getElem?_eq_getElem (by omega : i < Sl.length)] at hx
      injection hx with hx
      rw [hx]
      rfl
  · rw [List.getElem?_eq_none (by omega), List.getElem?_eq_none (by omega)]
    rfl
end
/-- How many entries are left. -/
def leftN (es : Array MapEntry) (r : Nat) (w : World) : Nat := match w.heap[r]? with | some (.mapIter _ _ seen _) => (leftOf es seen).size | _ => 0
theorem leftN_eq {es : Array MapEntry} {r : Nat} {w : World} {m : Option Nat} {a c : Nat} {seen : Array Nat} (h : w.heap[r]? = some (.mapIter m a seen c)) : leftN es r w = (leftOf es seen).size := by unfold leftN; rw [h]

set_option maxHeartbeats 4000000 in
theorem sync_calls {w : World} {B p gm : Nat} {vS vW : Value} {s : St} (h : DSt w B p gm vS vW s) :
    Calls Try.prog 19 #[.pointer (some ⟨p, 0, none⟩)] w fun e w' => e = .returned (.int .i64 (sync s).1) ∧ ∃ vW', DSt w' B p gm vS vW' (sync s).2 ∧ Turn (DO p gm vS vW) w w' ∧ (vW'.ownBlock = vW.ownBlock ∨ vW'.ownBlock = none) := by
  have k4 : w.cell? ⟨p, 4, none⟩ = some (.bool s.down) := (blk_cell h.blk 4).trans rfl
  unfold sync
  cases hd : s.down with
  | true =>
    rw [hd] at k4
    rw [if_pos rfl]
    have HD := Lib.hid h
    clear h hd
    go_enter Try.func19, Try.ntmps19
    go_wp2
    go_ret
    exact ⟨rfl, vW, HD.out, Turn.refl _ _, .inl rfl⟩
  | false =>
    rw [hd] at k4
    rw [if_neg (by decide)]
    have HG := Lib.hid (goes_calls h)
    clear h hd
    cases hgo : (goes s).1 with
    | true =>
      rw [if_pos rfl]
      rw [hgo] at HG
      clear hgo
      go_enter Try.func19, Try.ntmps19
      go_wp2_with fail
      refine HG.out.mono ?_
      rintro e w1 ⟨rfl, hd1, ht1⟩
      have HD := Lib.hid hd1
      have HT := Lib.hid ht1
      clear hd1 ht1
      go_wp2
      go_ret
      exact ⟨rfl, vW, HD.out, HT.out, .inl rfl⟩
    | false =>
      rw [if_neg (by decide)]
      rw [hgo] at HG
      have hS := (goes_S s).1
      have hW := (goes_S s).2
      rw [← hS, ← hW]
      generalize (goes s).2 = s1 at HG ⊢
      clear hgo hS hW
      go_enter Try.func19, Try.ntmps19
      go_wp2_with fail
      refine HG.out.mono ?_
      rintro e w1 ⟨rfl, hd1, ht1⟩
      obtain ⟨Sl, Wl, es, clk, e1, e2, hr, hm, hok⟩ := hd1.body
      have k2 : w1.cell? ⟨p, 2, none⟩ = some (.map (some gm)) := (blk_cell hd1.blk 2).trans rfl
      have hrg := run_range (P := Try.prog) Try.underlying57 w1 hm
      have hba := below_alloc (Below.refl w1.heap.size w1) (.mapIter (some gm) clk #[] clk)
      have hta : Turn (fun k => vS.ownBlock = some k) w1 (w1.alloc (.mapIter (some gm) clk #[] clk)) := Turn.of_below hba
      have htf : Turn (fun _ => False) w1 (w1.alloc (.mapIter (some gm) clk #[] clk)) := Turn.of_below hba
      have hsw : SW w1 B p gm w1.heap.size vS vW s1 Sl.length Wl es clk (w1.alloc (.mapIter (some gm) clk #[] clk)) #[] Sl :=
        ⟨blk_turn htf hd1.blk id, hr.turn htf (fun _ _ _ h => h) (fun _ _ h => h) (fun _ _ h => h), blk_turn htf hm id, ⟨clk, heap_alloc_new w1 _, Nat.le_refl _⟩, rfl, hta⟩
      have HSW := Lib.hid hsw
      have HOK := Lib.hid hok
      have HE1 := Lib.hid e1
      have HE2 := Lib.hid e2
      have HT1 := Lib.hid ht1
      have HP := Lib.hid (show (B ≤ p ∧ B ≤ gm) ∧ (0 ≤ s1.left ∧ s1.left ≤ 9223372036854775807) from ⟨hd1.pb, hd1.left0⟩)
      have HWR := Lib.hid hr.wr
      clear hd1 hm hok e1 e2 ht1 hr hba hta htf hsw HG
      go_wp2
      go_loopw [3, 4] (fun _ _ wr => ∃ (seen : Array Nat) (Sm : List (Value × List Int)), Hid (SW w1 B p gm w1.heap.size vS vW s1 Sl.length Wl es clk wr seen Sm) ∧ Hid (SG Sl Wl es seen Sm)) (fun _ _ wr => leftN es w1.heap.size wr)
      case atStart => exact ⟨#[], Sl, HSW, Lib.hid SG.start⟩
      case round =>
        clear HSW hrg k2
        obtain ⟨seen, Sm, HS, HG⟩ := hrel
        obtain ⟨c0, hit, hc0⟩ := HS.out.it
        have hnext : ∀ ty, (Instr.next (.pointer (some ⟨w1.heap.size, 0, none⟩)) false ty).run Try.prog wr = (Instr.next (.pointer (some ⟨w1.heap.size, 0, none⟩)) false 0).run Try.prog wr := fun ty => rfl
        rcases run_next_at (P := Try.prog) wr 0 w1.heap.size gm clk c0 seen es clk hit HS.out.map (fun x hx => HOK.out.st.1 x hx) hc0 with ⟨h0, hrun⟩ | ⟨e, he, w1', hal, hrun⟩
        · have hn : ∀ ty, (Instr.next (.pointer (some ⟨w1.heap.size, 0, none⟩)) false ty).run Try.prog wr = .ok (.tuple #[.bool false]) wr := fun ty => (hnext ty).trans hrun
          have hfin : DSt wr B p gm vS vW { s1 with S := syncS s1.S s1.W } := by
            refine ⟨HS.out.blk, HP.out.1, HP.out.2, Sm, Wl, es, clk, ?_, HE2.out, HS.out.rows, HS.out.map, HOK.out⟩
            show syncS s1.S s1.W = _
            rw [HE1.out, HE2.out]
            exact (SG.done HOK.out HG.out HS.out.len h0 HWR.out).symm
          have HF := Lib.hid hfin
          have HTF := Lib.hid (HT1.out.trans HS.out.turn (fun k hk => .inl (.inr (.inr (.inl hk)))))
          clear hfin hrun hit hnext h0 HS HG HOK HE1 HE2 HT1 HP HWR
          go_wp2_with fail
          refine (rest_calls HF.out).mono ?_
          rintro e w2 ⟨rfl, hd2, ht2⟩
          have HD2 := Lib.hid hd2
          have HT2 := Lib.hid (HTF.out.trans ht2 (fun k hk => .inl hk))
          clear hd2 ht2
          go_wp2
          go_ret
          exact ⟨rfl, nilS, HD2.out, HT2.out, .inr rfl⟩
        · have hn : ∀ ty, (Instr.next (.pointer (some ⟨w1.heap.size, 0, none⟩)) false ty).run Try.prog wr = .ok (.tuple #[.bool true, e.key, e.val]) (setBlock w1' w1.heap.size (.mapIter (some gm) clk (seen.push e.born) clk)) := fun ty => (hnext ty).trans hrun
          obtain ⟨hem, hes⟩ := mem_left he
          obtain ⟨k, hkey, hfk⟩ := HOK.out.keys e hem
          have hlast : ∃ y ∈ Wl, y.1 = k ∧ lastV Wl k = some y.2.1 ∧ lastP (Wl.map unv) k = some y.2.2 := by
            rcases last_both Wl k with ⟨h1, _⟩ | h
            · rw [h1] at hfk; cases hfk
            · exact h
          obtain ⟨y, hy, hyk, hv, hlp⟩ := hlast
          rw [hfk] at hv
          injection hv with hv
          obtain ⟨hk0, hk1⟩ := HWR.out y hy
          rw [hyk] at hk0 hk1
          obtain ⟨j, rfl⟩ := Int.eq_ofNat_of_zero_le hk0
          have hS2 := HS.out.next (Nat.le_refl _) (seen.push e.born) hal
          obtain ⟨c2, hit2, _⟩ := hS2.it
          have hen := run_entry_at (P := Try.prog) (setBlock w1' w1.heap.size (.mapIter (some gm) clk (seen.push e.born) clk)) w1.heap.size gm clk seen es clk e (by obtain ⟨c3, h3, _⟩ := (HS.out.next (Nat.le_refl _) (seen.push e.born) hal).it; exact setBlock_get _ (by rcases hal with rfl | rfl <;> exact hit)) hS2.map hem HOK.out.st.2.1
          have hsh := left_shrinks es seen e he
          rw [hkey, hv] at hn hen
          generalize setBlock w1' w1.heap.size (.mapIter (some gm) clk (seen.push e.born) clk) = w2 at hn hen hS2 hit2
          have hpg := hS2.rows.wp y hy
          have hlen2 := hS2.len
          obtain ⟨g, c, hvS, _, _, hcell⟩ := own_at hS2.rows.s (by omega)
          have hSS : SW w1 B p gm w1.heap.size (.slice (some ⟨g, 0, none⟩) Sl.length c) vW s1 Sl.length Wl es clk w2 (seen.push e.born) Sm := by rw [← hlen2, ← hvS]; rw [hlen2]; exact hS2
          have hst := hSS.store (k := j) (by omega) hpg
          have hgg := HG.out.step HOK.out hem hkey y.2.1 y.2.2 hlp
          obtain ⟨_, cg, hgb⟩ := own_block hSS.rows.s (k := g) rfl
          have fz := blk_frozen hgb j
          obtain ⟨v0, z0⟩ : ∃ v0, w2.cell? ⟨g, j, none⟩ = some v0 := ⟨_, hcell j (Sm[j]'(by omega)).1 (by rw [List.getElem?_map, List.getElem?_eq_getElem (by omega)]; rfl)⟩
          have zp : w2.cell? ⟨p, 0, none⟩ = some (.slice (some ⟨g, 0, none⟩) Sl.length c) := (blk_cell hSS.blk 0).trans rfl
          obtain ⟨Av, cv, hyv, _, _⟩ := hpg.reads
          rw [hyv] at hn hen hst hgg
          have hmz := leftN_eq (es := es) hit
          have hmz2 : ∃ c3, ((w2.setCell ⟨g, j, none⟩ (.slice Av y.2.2.length cv)).heap[w1.heap.size]? = some (.mapIter (some gm) clk (seen.push e.born) c3)) := by obtain ⟨c3, h3, _⟩ := hst.it; exact ⟨c3, h3⟩
          obtain ⟨c3, hit3⟩ := hmz2
          have hmz3 := leftN_eq (es := es) hit3
          have HM := Lib.hid (show leftN es w1.heap.size (w2.setCell ⟨g, j, none⟩ (.slice Av y.2.2.length cv)) < leftN es w1.heap.size wr by rw [hmz, hmz3]; exact hsh)
          have hvS2 : vS = .slice (some ⟨g, 0, none⟩) Sl.length c := by rw [← hlen2]; exact hvS
          rw [← hvS2] at hst
          have HST := Lib.hid hst
          have HGG := Lib.hid hgg
          have q1 : (j : Int) < (Sl.length : Int) := hk1
          have q0 : (0 : Int) ≤ (j : Int) := hk0
          clear hrun hnext he hes hkey hfk hlp hyk hv hk0 hk1 hS2 hit2 hsh hpg hvS hcell hSS hst hgg hgb hit hmz hit3 hmz3 hem HS HG hyv hvS2 hlen2 hal hc0
          go_wp2
          go_roundw
          case rel => exact ⟨_, _, HST, HGG⟩
          case measure => exact HM.out
end Go.Proofs.Ytblacdnndchghaa.D
