/- The disks of chapter 5: what their states are, and what turns in a world. The session's own. -/
import Derived.Test.YtblacdnndchghaaDiskMap
namespace Go.Proofs.Ytblacdnndchghaa.D
open Go.RowKit Go.Proofs.YtblacdnndchghaaW.PrintWords Go.Proofs.YtblacdnndchghaaW.PrintLast Go.Proofs.YtblacdnndchghaaW.PrintMore Go.Proofs.Ytblacdnndchghaa.Math
open Go.ChangeMaps (setBlock)
set_option linter.unusedVariables false
set_option linter.unusedSimpArgs false

/-- Nothing but the blocks of O has turned; new ones may be there. -/
structure Turn (O : Nat → Prop) (w w1 : World) : Prop where
  os : w1.os = w.os
  tape : w1.tape = w.tape
  output : w1.output = w.output
  size : w.heap.size ≤ w1.heap.size
  block : ∀ k, k < w.heap.size → ¬ O k → w1.heap[k]? = w.heap[k]?

theorem Turn.refl (O : Nat → Prop) (w : World) : Turn O w w := ⟨rfl, rfl, rfl, Nat.le_refl _, fun _ _ _ => rfl⟩
theorem Turn.of_below {O : Nat → Prop} {w w1 : World} (h : Below w.heap.size w w1) : Turn O w w1 := ⟨h.os, h.tape, h.output, h.size, fun k hk _ => h.block k hk⟩
theorem Turn.mono {O O' : Nat → Prop} {w w1 : World} (h : Turn O w w1) (ho : ∀ k, O k → k < w.heap.size → O' k) : Turn O' w w1 := ⟨h.os, h.tape, h.output, h.size, fun k hk hn => h.block k hk fun hO => hn (ho k hO hk)⟩
theorem Turn.trans {O O' : Nat → Prop} {w w1 w2 : World} (h : Turn O w w1) (h2 : Turn O' w1 w2) (ho : ∀ k, O' k → O k ∨ w.heap.size ≤ k) : Turn O w w2 :=
  ⟨h2.os.trans h.os, h2.tape.trans h.tape, h2.output.trans h.output, Nat.le_trans h.size h2.size, fun k hk hn => (h2.block k (Nat.lt_of_lt_of_le hk h.size) fun hO => (ho k hO).elim hn (by omega)).trans (h.block k hk hn)⟩
theorem Turn.of_grown {O : Nat → Prop} {w w1 : World} {row : Option Nat} (h : w.grownBy w1 row) (ho : ∀ k, row = some k → O k) : Turn O w w1 :=
  ⟨h.os, h.tape, h.output, h.size, fun k hk hn => h.block k hk fun e => hn (ho k e.symm)⟩
theorem Turn.set {O : Nat → Prop} (w : World) (p i : Nat) (v : Value) (h : O p) : Turn O w (w.setCell ⟨p, i, none⟩ v) :=
  ⟨rfl, rfl, rfl, by simp [World.setCell], fun k _ hn => Below.heap_setCell w ⟨p, i, none⟩ v k (fun e => hn (by rw [e]; exact h))⟩
theorem Turn.setBlk {O : Nat → Prop} (w : World) (p : Nat) (o : Obj) (h : O p) : Turn O w (setBlock w p o) :=
  ⟨rfl, rfl, rfl, by simp [setBlock], fun k _ hn => by
    have hne : ¬ p = k := fun e => hn (e ▸ h)
    simp [setBlock, hne]⟩
theorem Turn.drew {O : Nat → Prop} {w w1 : World} (h : Turn O w w1) : Turn O w w1.drew := ⟨h.os, h.tape, h.output, h.size, h.block⟩
theorem Turn.alloc {O : Nat → Prop} {w w1 : World} (h : Turn O w w1) (o : Obj) : Turn O w (w1.alloc o) :=
  h.trans (Turn.of_below (O := fun _ => False) (below_alloc (Below.refl _ _) o)) (fun k hk => hk.elim)
theorem Turn.then_below {O : Nat → Prop} {w w1 w2 : World} (h : Turn O w w1) (hb : Below w1.heap.size w1 w2) : Turn O w w2 :=
  h.trans (Turn.of_below (O := fun _ => False) hb) (fun k hk => hk.elim)
/-- What lies below stands as it was. -/
theorem below_turn {O : Nat → Prop} {W w w1 : World} (hb : Below W.heap.size W w) (h : Turn O w w1) (ho : ∀ k, O k → W.heap.size ≤ k) : Below W.heap.size W w1 :=
  ⟨h.os.trans hb.os, h.tape.trans hb.tape, h.output.trans hb.output, Nat.le_trans hb.size h.size, fun k hk => (h.block k (Nat.lt_of_lt_of_le hk hb.size) fun hO => by have := ho k hO; omega).trans (hb.block k hk)⟩
theorem blk_turn {O : Nat → Prop} {w w1 : World} (h : Turn O w w1) {k : Nat} {o : Obj} (hk : w.heap[k]? = some o) (hn : ¬ O k) : w1.heap[k]? = some o := (h.block k (blk_lt hk) hn).trans hk
theorem own_turn {O : Nat → Prop} {w w1 : World} {B e size n : Nat} {v : Value} {xs : List Value} (h : Turn O w w1) (ho : w.ownsRow B e size v n xs) (hn : ∀ k, v.ownBlock = some k → ¬ O k) : w1.ownsRow B e size v n xs := by
  obtain ⟨h1, h2⟩ := ho
  refine ⟨h1, ?_⟩
  rcases h2 with h2 | ⟨g, cap, cur, rfl, hg, hh, r⟩
  · exact .inl h2
  · exact .inr ⟨g, cap, cur, rfl, hg, blk_turn h hh (hn g rfl), r⟩
/-- Blocks of two types are two. -/
theorem sep {w : World} {a b : Nat} {c d : Array Value} {t u : TypeId} {x y : Nat × Nat} (h : w.heap[a]? = some (.cells c t x)) (h2 : w.heap[b]? = some (.cells d u y)) (hne : t ≠ u) : a ≠ b := by
  rintro rfl
  rw [h] at h2
  injection h2 with h2
  injection h2 with _ h2
  exact hne h2
theorem sepm {w : World} {a b : Nat} {c : Array Value} {t : TypeId} {x : Nat × Nat} {es : Array MapEntry} {clk : Nat} (h : w.heap[a]? = some (.cells c t x)) (h2 : w.heap[b]? = some (.map es clk)) : a ≠ b := by
  rintro rfl
  rw [h] at h2
  injection h2 with h2
  cases h2
theorem own_block {w : World} {B e size n : Nat} {v : Value} {xs : List Value} (ho : w.ownsRow B e size v n xs) {k : Nat} (hk : v.ownBlock = some k) : B ≤ k ∧ ∃ c, w.heap[k]? = some (.cells c e (0, 0)) := by
  rcases ho.2 with ⟨rfl, _⟩ | ⟨g, cap, cur, rfl, hg, hh, _⟩
  · cases hk
  · injection hk with hk
    subst hk
    exact ⟨hg, cur, hh⟩
/-- A row that has elements: where they lie. -/
theorem own_at {w : World} {B e size n : Nat} {v : Value} {xs : List Value} (ho : w.ownsRow B e size v n xs) (hp : 0 < n) : ∃ g c, v = .slice (some ⟨g, 0, none⟩) n c ∧ n ≤ c ∧ B ≤ g ∧ ∀ i u, xs[i]? = some u → w.cell? ⟨g, i, none⟩ = some u := by
  rcases ho.2 with ⟨_, h0⟩ | ⟨g, cap, cur, rfl, hg, hh, hnc, hcm, hcs, ht⟩
  · omega
  · refine ⟨g, cap, rfl, hnc, hg, fun i u hi => ?_⟩
    have hil : i < xs.length := (List.getElem?_eq_some_iff.1 hi).1
    rw [← ht] at hi hil
    rw [List.getElem?_take] at hi
    split at hi
    · have : cur[i]? = some u := by rw [← Array.getElem?_toList]; exact hi
      exact (blk_cell hh i).trans this
    · cases hi

/-- A page that lies in a block of its own. -/
def Pg (w : World) (B : Nat) (v : Value) (b : List Int) : Prop := b.length = 1024 ∧ IsB b ∧ w.ownsRow B 5 1 v 1024 (nums .u8 b)
theorem Pg.turn {O : Nat → Prop} {w w1 : World} {B : Nat} {v : Value} {b : List Int} (h : Pg w B v b) (ht : Turn O w w1) (hn : ∀ k c, w.heap[k]? = some (.cells c 5 (0, 0)) → ¬ O k) : Pg w1 B v b :=
  ⟨h.1, h.2.1, own_turn ht h.2.2 fun k hk => by obtain ⟨_, c, hc⟩ := own_block h.2.2 hk; exact hn k c hc⟩
theorem Pg.reads {w : World} {B : Nat} {v : Value} {b : List Int} (h : Pg w B v b) : ∃ A c, v = .slice A b.length c ∧ b.length ≤ c ∧ Kd.C (Kd.int .u8) w A b.length b := by
  obtain ⟨hl, _, ho⟩ := h
  obtain ⟨A, c, rfl, hr⟩ := own_reads ho
  refine ⟨A, c, by rw [hl], by rw [hl]; exact own_le ho, ?_⟩
  rw [hl]
  exact Kd.C_of_reads (d := (0 : Int)) hr
theorem Pg.of_R {w : World} {B N : Nat} {ok : Nat → Prop} {v : Value} {b : List Int} (h : Kd.R (Kd.int .u8) 5 w N ok v b) (hl : b.length = 1024) (hi : IsB b) (hb : B ≤ N) : Pg w B v b := by
  have := own_weaken (Kd.own_of_R h) hb
  rw [hl] at this
  exact ⟨hl, hi, this⟩

/-- The cells of the writes that wait. -/
def wc (x : Int × Value × List Int) : List Value := [.int .i64 x.1, x.2.1]
theorem wc_get : ∀ (L : List (Int × Value × List Int)) (i : Nat) (x : Int × Value × List Int), L[i]? = some x → (L.flatMap wc)[2 * i]? = some (.int .i64 x.1) ∧ (L.flatMap wc)[2 * i + 1]? = some x.2.1
  | [], i, x, h => by simp at h
  | y :: L, 0, x, h => by
    rw [List.getElem?_cons_zero] at h
    injection h with h
    subst h
    exact ⟨rfl, rfl⟩
  | y :: L, i + 1, x, h => by
    rw [List.getElem?_cons_succ] at h
    have ih := wc_get L i x h
    have e : (y :: L).flatMap wc = .int .i64 y.1 :: y.2.1 :: L.flatMap wc := rfl
    rw [e, show 2 * (i + 1) = 2 * i + 1 + 1 by omega]
    simpa using ih
theorem wc_app (L : List (Int × Value × List Int)) (x : Int × Value × List Int) : (L ++ [x]).flatMap wc = L.flatMap wc ++ [.int .i64 x.1, x.2.1] := by simp [List.flatMap_append, wc]

/-- A disk's rows: what is safe, what waits. (TW: the type of what waits) -/
structure Rows (TW : TypeId) (w : World) (B : Nat) (vS vW : Value) (Sl : List (Value × List Int)) (Wl : List (Int × Value × List Int)) : Prop where
  s : w.ownsRow B 34 1 vS Sl.length (Sl.map Prod.fst)
  w_ : w.ownsRow B TW 2 vW Wl.length (Wl.flatMap wc)
  sp : ∀ x ∈ Sl, Pg w B x.1 x.2
  wp : ∀ x ∈ Wl, Pg w B x.2.1 x.2.2
  wr : ∀ x ∈ Wl, 0 ≤ x.1 ∧ x.1 < Sl.length
theorem Rows.turn {O : Nat → Prop} {TW : TypeId} {w w1 : World} {B : Nat} {vS vW : Value} {Sl : List (Value × List Int)} {Wl : List (Int × Value × List Int)} (h : Rows TW w B vS vW Sl Wl) (ht : Turn O w w1)
    (hp : ∀ k c, w.heap[k]? = some (.cells c 5 (0, 0)) → ¬ O k) (hS : ∀ k, vS.ownBlock = some k → ¬ O k) (hW : ∀ k, vW.ownBlock = some k → ¬ O k) : Rows TW w1 B vS vW Sl Wl :=
  ⟨own_turn ht h.s hS, own_turn ht h.w_ hW, fun x hx => (h.sp x hx).turn ht hp, fun x hx => (h.wp x hx).turn ht hp, h.wr⟩

/-- What a map of what is seen tells, out of what waits. -/
def lastV (Wl : List (Int × Value × List Int)) (k : Int) : Option Value := Wl.foldl (fun a x => if k = x.1 then some x.2.1 else a) none
def lastP (Wt : List (Int × List Int)) (k : Int) : Option (List Int) := Wt.foldl (fun a x => if k = x.1 then some x.2 else a) none
def unv (x : Int × Value × List Int) : Int × List Int := (x.1, x.2.2)
theorem lastV_app (Wl : List (Int × Value × List Int)) (x : Int × Value × List Int) : lastV (Wl ++ [x]) = fun k => if k = x.1 then some x.2.1 else lastV Wl k := by
  funext k
  unfold lastV
  rw [List.foldl_append]
  rfl
theorem rev_rec {α : Type} {P : List α → Prop} (h0 : P []) (h1 : ∀ L x, P L → P (L ++ [x])) (L : List α) : P L := by
  have : ∀ n (L : List α), L.length = n → P L := by
    intro n
    induction n with
    | zero => intro L hL; rw [List.eq_nil_of_length_eq_zero hL]; exact h0
    | succ n ih =>
      intro L hL
      have hne : L ≠ [] := by rintro rfl; cases hL
      rw [← List.dropLast_concat_getLast hne]
      exact h1 _ _ (ih _ (by rw [List.length_dropLast]; omega))
  exact this _ L rfl
theorem last_both (Wl : List (Int × Value × List Int)) (k : Int) : (lastV Wl k = none ∧ lastP (Wl.map unv) k = none) ∨ ∃ x ∈ Wl, x.1 = k ∧ lastV Wl k = some x.2.1 ∧ lastP (Wl.map unv) k = some x.2.2 := by
  refine rev_rec (P := fun Wl => (lastV Wl k = none ∧ lastP (Wl.map unv) k = none) ∨ ∃ x ∈ Wl, x.1 = k ∧ lastV Wl k = some x.2.1 ∧ lastP (Wl.map unv) k = some x.2.2) (.inl ⟨rfl, rfl⟩) (fun L x ih => ?_) Wl
  · skip
    have e1 : lastV (L ++ [x]) k = if k = x.1 then some x.2.1 else lastV L k := by rw [lastV_app]
    have e2 : lastP ((L ++ [x]).map unv) k = if k = x.1 then some x.2.2 else lastP (L.map unv) k := by
      unfold lastP
      rw [List.map_append, List.foldl_append]
      rfl
    rw [e1, e2]
    by_cases h : k = x.1
    · rw [if_pos h, if_pos h]
      exact .inr ⟨x, by simp, h.symm, rfl, rfl⟩
    · rw [if_neg h, if_neg h]
      rcases ih with ih | ⟨y, hy, r⟩
      · exact .inl ih
      · exact .inr ⟨y, by simp [hy], r⟩

/-- A disk, plainly. -/
structure St where
  S : List (List Int)
  W : List (Int × List Int)
  left : Int
  down : Bool

/-- A disk of the program lies at p. -/
structure DSt (w : World) (B p gm : Nat) (vS vW : Value) (s : St) : Prop where
  blk : w.heap[p]? = some (.cells #[vS, vW, .map (some gm), .int .i64 s.left, .bool s.down] 60 (0, 0))
  pb : B ≤ p ∧ B ≤ gm
  left0 : 0 ≤ s.left ∧ s.left ≤ 9223372036854775807
  body : ∃ Sl Wl es clk, s.S = Sl.map Prod.snd ∧ s.W = Wl.map unv ∧ Rows 64 w B vS vW Sl Wl ∧ w.heap[gm]? = some (.map es clk) ∧ MOk es clk (lastV Wl)
/-- The blocks of a disk that may turn. -/
def DO (p gm : Nat) (vS vW : Value) (k : Nat) : Prop := k = p ∨ k = gm ∨ vS.ownBlock = some k ∨ vW.ownBlock = some k
/-- A disk of the reference lies at p. -/
structure RSt (w : World) (B p : Nat) (vS vW : Value) (s : St) : Prop where
  blk : w.heap[p]? = some (.cells #[vS, vW, .int .i64 s.left, .bool s.down] 54 (0, 0))
  pb : B ≤ p
  left0 : 0 ≤ s.left ∧ s.left ≤ 9223372036854775807
  body : ∃ Sl Wl, s.S = Sl.map Prod.snd ∧ s.W = Wl.map unv ∧ Rows 66 w B vS vW Sl Wl
def RO (p : Nat) (vS vW : Value) (k : Nat) : Prop := k = p ∨ vS.ownBlock = some k ∨ vW.ownBlock = some k

theorem DSt.turn {O : Nat → Prop} {w w1 : World} {B p gm : Nat} {vS vW : Value} {s : St} (h : DSt w B p gm vS vW s) (ht : Turn O w w1) (hp : ∀ k c, w.heap[k]? = some (.cells c 5 (0, 0)) → ¬ O k) (hO : ∀ k, DO p gm vS vW k → ¬ O k) : DSt w1 B p gm vS vW s := by
  obtain ⟨Sl, Wl, es, clk, e1, e2, hr, hm, hok⟩ := h.body
  exact ⟨blk_turn ht h.blk (hO p (.inl rfl)), h.pb, h.left0, Sl, Wl, es, clk, e1, e2, hr.turn ht hp (fun k hk => hO k (.inr (.inr (.inl hk)))) (fun k hk => hO k (.inr (.inr (.inr hk)))), blk_turn ht hm (hO gm (.inr (.inl rfl))), hok⟩
theorem RSt.turn {O : Nat → Prop} {w w1 : World} {B p : Nat} {vS vW : Value} {s : St} (h : RSt w B p vS vW s) (ht : Turn O w w1) (hp : ∀ k c, w.heap[k]? = some (.cells c 5 (0, 0)) → ¬ O k) (hO : ∀ k, RO p vS vW k → ¬ O k) : RSt w1 B p vS vW s := by
  obtain ⟨Sl, Wl, e1, e2, hr⟩ := h.body
  exact ⟨blk_turn ht h.blk (hO p (.inl rfl)), h.pb, h.left0, Sl, Wl, e1, e2, hr.turn ht hp (fun k hk => hO k (.inr (.inl hk))) (fun k hk => hO k (.inr (.inr hk)))⟩
theorem DSt.below {w w1 : World} {B p gm : Nat} {vS vW : Value} {s : St} (h : DSt w B p gm vS vW s) (hb : Below w.heap.size w w1) : DSt w1 B p gm vS vW s := h.turn (O := fun _ => False) (Turn.of_below hb) (fun _ _ _ h => h) (fun _ _ h => h)
theorem RSt.below {w w1 : World} {B p : Nat} {vS vW : Value} {s : St} (h : RSt w B p vS vW s) (hb : Below w.heap.size w w1) : RSt w1 B p vS vW s := h.turn (O := fun _ => False) (Turn.of_below hb) (fun _ _ _ h => h) (fun _ _ h => h)
/-- No page lies in a block that may turn. -/
theorem DSt.pages {w : World} {B p gm : Nat} {vS vW : Value} {s : St} (h : DSt w B p gm vS vW s) : ∀ k c, w.heap[k]? = some (.cells c 5 (0, 0)) → ¬ DO p gm vS vW k := by
  obtain ⟨Sl, Wl, es, clk, e1, e2, hr, hm, hok⟩ := h.body
  rintro k c hk (rfl | rfl | hS | hW)
  · exact sep hk h.blk (by decide) rfl
  · exact sepm hk hm rfl
  · obtain ⟨_, c2, h2⟩ := own_block hr.s hS
    exact sep hk h2 (by decide) rfl
  · obtain ⟨_, c2, h2⟩ := own_block hr.w_ hW
    exact sep hk h2 (by decide) rfl
theorem RSt.pages {w : World} {B p : Nat} {vS vW : Value} {s : St} (h : RSt w B p vS vW s) : ∀ k c, w.heap[k]? = some (.cells c 5 (0, 0)) → ¬ RO p vS vW k := by
  obtain ⟨Sl, Wl, e1, e2, hr⟩ := h.body
  rintro k c hk (rfl | hS | hW)
  · exact sep hk h.blk (by decide) rfl
  · obtain ⟨_, c2, h2⟩ := own_block hr.s hS
    exact sep hk h2 (by decide) rfl
  · obtain ⟨_, c2, h2⟩ := own_block hr.w_ hW
    exact sep hk h2 (by decide) rfl
/-- Two disks, of the program and of the reference, whose safe rows are two, have no block in common. -/
theorem apart {w : World} {B B' p gm q : Nat} {vS vW uS uW : Value} {s t : St} (h : DSt w B p gm vS vW s) (r : RSt w B' q uS uW t) (hne : ∀ k, vS.ownBlock = some k → uS.ownBlock ≠ some k) : ∀ k, RO q uS uW k → ¬ DO p gm vS vW k := by
  obtain ⟨Sl, Wl, es, clk, e1, e2, hr, hm, hok⟩ := h.body
  obtain ⟨Sl', Wl', e1', e2', hr'⟩ := r.body
  rintro k (rfl | hS | hW) (rfl | rfl | kS | kW)
  · exact sep r.blk h.blk (by decide) rfl
  · exact sepm r.blk hm rfl
  · obtain ⟨_, c2, h2⟩ := own_block hr.s kS
    exact sep r.blk h2 (by decide) rfl
  · obtain ⟨_, c2, h2⟩ := own_block hr.w_ kW
    exact sep r.blk h2 (by decide) rfl
  · obtain ⟨_, c2, h2⟩ := own_block hr'.s hS
    exact sep h2 h.blk (by decide) rfl
  · obtain ⟨_, c2, h2⟩ := own_block hr'.s hS
    exact sepm h2 hm rfl
  · exact hne k kS hS
  · obtain ⟨_, c2, h2⟩ := own_block hr'.s hS
    obtain ⟨_, c3, h3⟩ := own_block hr.w_ kW
    exact sep h2 h3 (by decide) rfl
  · obtain ⟨_, c2, h2⟩ := own_block hr'.w_ hW
    exact sep h2 h.blk (by decide) rfl
  · obtain ⟨_, c2, h2⟩ := own_block hr'.w_ hW
    exact sepm h2 hm rfl
  · obtain ⟨_, c2, h2⟩ := own_block hr'.w_ hW
    obtain ⟨_, c3, h3⟩ := own_block hr.s kS
    exact sep h2 h3 (by decide) rfl
  · obtain ⟨_, c2, h2⟩ := own_block hr'.w_ hW
    obtain ⟨_, c3, h3⟩ := own_block hr.w_ kW
    exact sep h2 h3 (by decide) rfl
end Go.Proofs.Ytblacdnndchghaa.D
