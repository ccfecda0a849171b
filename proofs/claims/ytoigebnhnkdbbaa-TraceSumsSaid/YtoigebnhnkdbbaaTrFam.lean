/- The family of spans (chapter 26): what the maps and the row hold while it is gathered, and after. -/
import Derived.Test.YtoigebnhnkdbbaaTrSort
import Derived.Test.YtoigebnhnkdbbaaMapG
namespace Go.Proofs.Ytoigebnhnkdbbaa.Tr
open Go.RowKit Go.Proofs.YtoigebnhnkdbbaaW.PrintWords Go.Proofs.YtoigebnhnkdbbaaW.PrintLast Go.Proofs.YtoigebnhnkdbbaaW.PrintMore Go.Proofs.Ytoigebnhnkdbbaa.Math Go.Proofs.Ytoigebnhnkdbbaa.PAll Go.Proofs.Ytoigebnhnkdbbaa.MapG
open Go.ChangeMaps (setBlock)
set_option linter.unusedVariables false
set_option linter.unusedSimpArgs false

/-- Nothing but the blocks of O has turned; new ones may be there. -/
structure Turn (O : Nat → Prop) (w w1 : World) : Prop where
  os : w1.os = w.os
  tape : w1.tape = w.tape
  output : w1.output = w.output
  size : w.heap.size ≤ w1.heap.size
  block : ∀ k, k < w.heap.size → ¬ O k → w1.heap[k]? = w.heap[k]?
theorem Turn.refl (O : Nat → Prop) (w : World) : Turn O w w := ⟨rfl, rfl, rfl, Nat.le_refl _, fun _ _ _ => rfl⟩
theorem Turn.of_below {O : Nat → Prop} {w w1 : World} (h : Below w.heap.size w w1) : Turn O w w1 := ⟨h.os, h.tape, h.output, h.size, fun k hk _ => h.block k hk⟩
theorem Turn.of_grown {O : Nat → Prop} {w w1 : World} {row : Option Nat} (h : w.grownBy w1 row) (ho : ∀ k, row = some k → O k) : Turn O w w1 :=
  ⟨h.os, h.tape, h.output, h.size, fun k hk hn => h.block k hk fun e => hn (ho k e.symm)⟩
theorem Turn.set {O : Nat → Prop} (w : World) (p i : Nat) (v : Value) (h : O p) : Turn O w (w.setCell ⟨p, i, none⟩ v) :=
  ⟨rfl, rfl, rfl, by simp [World.setCell], fun k _ hn => Below.heap_setCell w ⟨p, i, none⟩ v k (fun e => hn (by rw [e]; exact h))⟩
theorem Turn.setBlk {O : Nat → Prop} (w : World) (p : Nat) (o : Obj) (h : O p) : Turn O w (setBlock w p o) :=
  ⟨rfl, rfl, rfl, by simp [setBlock], fun k _ hn => by
    have hne : ¬ p = k := fun e => hn (e ▸ h)
    simp [setBlock, hne]⟩
theorem Turn.trans {O O' : Nat → Prop} {w w1 w2 : World} (h : Turn O w w1) (h2 : Turn O' w1 w2) (ho : ∀ k, O' k → O k ∨ w.heap.size ≤ k) : Turn O w w2 :=
  ⟨h2.os.trans h.os, h2.tape.trans h.tape, h2.output.trans h.output, Nat.le_trans h.size h2.size, fun k hk hn => (h2.block k (Nat.lt_of_lt_of_le hk h.size) fun hO => (ho k hO).elim hn (by omega)).trans (h.block k hk hn)⟩
theorem Turn.drew {O : Nat → Prop} {w w1 : World} (h : Turn O w w1) : Turn O w w1.drew := ⟨h.os, h.tape, h.output, h.size, h.block⟩
theorem below_turn {O : Nat → Prop} {W w w1 : World} (hb : Below W.heap.size W w) (h : Turn O w w1) (ho : ∀ k, O k → W.heap.size ≤ k) : Below W.heap.size W w1 :=
  ⟨h.os.trans hb.os, h.tape.trans hb.tape, h.output.trans hb.output, Nat.le_trans hb.size h.size, fun k hk => (h.block k (Nat.lt_of_lt_of_le hk hb.size) fun hO => by have := ho k hO; omega).trans (hb.block k hk)⟩
theorem blk_turn {O : Nat → Prop} {w w1 : World} (h : Turn O w w1) {k : Nat} {o : Obj} (hk : w.heap[k]? = some o) (hn : ¬ O k) : w1.heap[k]? = some o := (h.block k (blk_lt hk) hn).trans hk
theorem R_turn {α : Type} {d : Kd α} {e base : Nat} {ok : Nat → Prop} {O : Nat → Prop} {w w1 : World} {v : Value} {xs : List α} (h : d.R e w base ok v xs) (ht : Turn O w w1) (hn : ∀ k, ok k → ¬ O k) : d.R e w1 base ok v xs :=
  Kd.R_step h (fun k hk hlt => ht.block k hlt (hn k hk))

/-- The spans by their numbers, as the map tells them. -/
def byId (L : List Sp) (i : Int) : Option Value := (L.find? fun s => s.id == i).map fun s => .agg (encS s).toArray
theorem byId_isSome (L : List Sp) (i : Int) : (byId L i).isSome = hasId L i := by
  unfold byId hasId
  rw [Option.isSome_map, Bool.eq_iff_iff, List.any_eq_true, List.find?_isSome]
theorem byId_snoc {L : List Sp} {s : Sp} (h : hasId L s.id = false) : byId (L ++ [s]) = fun i => if i = s.id then some (.agg (encS s).toArray) else byId L i := by
  funext i
  unfold byId
  rw [List.find?_append]
  by_cases e : i = s.id
  · rw [if_pos e, e]
    have : L.find? (fun x => x.id == s.id) = none := by
      rw [List.find?_eq_none]
      intro x hx
      have := hasId_false.1 h x hx
      simpa using this
    rw [this]
    simp
  · rw [if_neg e]
    have e2 : (s.id == i) = false := beq_eq_false_iff_ne.2 (fun h => e h.symm)
    simp [e2]

theorem arr_S (s : Sp) : (encS s).toArray = #[.int .u64 s.tr, .int .u64 s.id, .int .u64 s.par, .string s.svc, .string s.op, .int .i64 s.st, .int .i64 s.du, .int .i64 s.stt, .slice s.a.1 s.a.2.1 s.a.2.2, .slice s.e.1 s.e.2.1 s.e.2.2, .slice s.l.1 s.l.2.1 s.l.2.2] := rfl
/-- A span's own block, cell by cell. -/
theorem blkS {w : World} {g : Nat} {t : TypeId} {s : Sp} (h : w.heap[g]? = some (.cells (encS s).toArray t (0, 0))) : w.cell? ⟨g, 0, none⟩ = some (.int .u64 s.tr) ∧ w.cell? ⟨g, 1, none⟩ = some (.int .u64 s.id) ∧ w.cell? ⟨g, 2, none⟩ = some (.int .u64 s.par) ∧ w.cell? ⟨g, 3, none⟩ = some (.string s.svc) ∧ w.cell? ⟨g, 4, none⟩ = some (.string s.op) ∧ w.cell? ⟨g, 5, none⟩ = some (.int .i64 s.st) ∧ w.cell? ⟨g, 6, none⟩ = some (.int .i64 s.du) ∧ w.cell? ⟨g, 7, none⟩ = some (.int .i64 s.stt) ∧ w.cell? ⟨g, 8, none⟩ = some (.slice s.a.1 s.a.2.1 s.a.2.2) ∧ w.cell? ⟨g, 9, none⟩ = some (.slice s.e.1 s.e.2.1 s.e.2.2) ∧ w.cell? ⟨g, 10, none⟩ = some (.slice s.l.1 s.l.2.1 s.l.2.2) :=
  ⟨(blk_cell h 0).trans rfl, (blk_cell h 1).trans rfl, (blk_cell h 2).trans rfl, (blk_cell h 3).trans rfl, (blk_cell h 4).trans rfl, (blk_cell h 5).trans rfl, (blk_cell h 6).trans rfl, (blk_cell h 7).trans rfl, (blk_cell h 8).trans rfl, (blk_cell h 9).trans rfl, (blk_cell h 10).trans rfl⟩
theorem reps_S (w : World) (base : Nat) (ok : Nat → Prop) (s : Sp) : Reps (Kd.M kS w base ok) 11 [s] (encS s) := by
  have h := Reps.snoc (size := 11) (Reps.none (Kd.M kS w base ok) 11) (p := s) (c := encS s) rfl rfl
  exact h
theorem reps_L (w : World) (base : Nat) (ok : Nat → Prop) (s : Ln) : Reps (Kd.M kL w base ok) 13 [s] (encL s) := by
  have h := Reps.snoc (size := 13) (Reps.none (Kd.M kL w base ok) 13) (p := s) (c := encL s) rfl rfl
  exact h
theorem R_above {α : Type} {d : Kd α} {e N : Nat} {w w1 : World} {v : Value} {xs : List α} (h : d.R e w N (fun _ => True) v xs) (hm : ∀ k, N ≤ k → k < w.heap.size → w1.heap[k]? = w.heap[k]?) : d.R e w1 N (fun _ => True) v xs :=
  Kd.R_mono (Kd.R_move (Kd.R_bound h) (fun k hk => hm k hk.2.1 hk.2.2.1)) (fun _ _ => trivial)

/-- The family while the spans are gathered. n: the block of the result; ma: what the map holds, ra: what the row holds. -/
structure G1 (w wr : World) (n : Nat) (ma ra : List Sp) (v : Value) : Prop where
  bw : Below w.heap.size w wr
  n0 : w.heap.size ≤ n
  size : n + 4 ≤ wr.heap.size
  res : wr.heap[n]? = some (.cells #[.slice none 0 0, .map none, .map none] 47 (0, 0))
  m1 : ∃ es clk, wr.heap[n + 1]? = some (.map es clk) ∧ MOk (Value.int .u64) es clk (byId ma)
  m2 : wr.heap[n + 1 + 1]? = some (.map #[] 0)
  fam : wr.heap[n + 1 + 1 + 1]? = some (.cells #[v, .map (some (n + 1)), .map (some (n + 1 + 1))] 47 (0, 0))
  row : Kd.R kS 38 wr (n + 4) (fun _ => True) v ra

theorem G1.step {w wr w1 : World} {n : Nat} {ma ra : List Sp} {v : Value} (h : G1 w wr n ma ra v) (hs : wr.heap.size ≤ w1.heap.size) (ho : w1.os = wr.os) (ht : w1.tape = wr.tape) (hp : w1.output = wr.output) (hk : ∀ k, k < n + 4 → w1.heap[k]? = wr.heap[k]?) (hrow : Kd.R kS 38 w1 (n + 4) (fun _ => True) v ra) : G1 w w1 n ma ra v :=
  ⟨⟨ho.trans h.bw.os, ht.trans h.bw.tape, hp.trans h.bw.output, Nat.le_trans h.bw.size hs, fun k hk2 => (hk k (by have := h.n0; omega)).trans (h.bw.block k hk2)⟩, h.n0, Nat.le_trans h.size hs, (hk _ (by omega)).trans h.res, by obtain ⟨es, clk, h1, h2⟩ := h.m1; exact ⟨es, clk, (hk _ (by omega)).trans h1, h2⟩, (hk _ (by omega)).trans h.m2, (hk _ (by omega)).trans h.fam, hrow⟩
theorem G1.next {w wr w1 : World} {n : Nat} {ma ra : List Sp} {v : Value} (h : G1 w wr n ma ra v) (hb : Below wr.heap.size wr w1) : G1 w w1 n ma ra v :=
  h.step hb.size hb.os hb.tape hb.output (fun k hk => hb.block k (by have := h.size; omega)) (Kd.R_below h.row hb)
theorem G1.start (w : World) : G1 w ((((w.alloc (.cells #[.slice none 0 0, .map none, .map none] 47)).alloc (.map #[] 0)).alloc (.map #[] 0)).alloc (.cells #[.slice none 0 0, .map (some (w.heap.size + 1)), .map (some (w.heap.size + 1 + 1))] 47)) w.heap.size [] [] (.slice none 0 0) := by
  have sz : ∀ (W : World) (o : Obj), (W.alloc o).heap.size = W.heap.size + 1 := fun W o => by simp
  have b : ∀ (W : World) (o : Obj), Below W.heap.size W (W.alloc o) := fun W o => below_alloc (Below.refl _ _) o
  have h1 := heap_alloc_new w (.cells #[.slice none 0 0, .map none, .map none] 47)
  have h2 := heap_alloc_new (w.alloc (.cells #[.slice none 0 0, .map none, .map none] 47)) (.map #[] 0)
  have h3 := heap_alloc_new ((w.alloc (.cells #[.slice none 0 0, .map none, .map none] 47)).alloc (.map #[] 0)) (.map #[] 0)
  have h4 := heap_alloc_new (((w.alloc (.cells #[.slice none 0 0, .map none, .map none] 47)).alloc (.map #[] 0)).alloc (.map #[] 0)) (.cells #[.slice none 0 0, .map (some (w.heap.size + 1)), .map (some (w.heap.size + 1 + 1))] 47)
  simp only [sz] at h2 h3 h4
  exact ⟨below_alloc (below_alloc (below_alloc (below_alloc (Below.refl _ _) _) _) _) _, Nat.le_refl _, by simp only [sz]; omega, block_below (block_below (block_below h1 (b _ _)) (b _ _)) (b _ _), ⟨#[], 0, block_below (block_below h2 (b _ _)) (b _ _), MOk.empty _ 0⟩, block_below h3 (b _ _), h4, Kd.R_nil _ _ _ _ _⟩
theorem G1.put {w wr : World} {n : Nat} {acc ra : List Sp} {v : Value} (h : G1 w wr n acc ra v) {s : Sp} (hs : hasId acc s.id = false) {es : Array MapEntry} {clk : Nat} (hm : MOk (Value.int .u64) es clk (fun i => if i = s.id then some (.agg (encS s).toArray) else byId acc i)) : G1 w (setBlock wr (n + 1) (.map es clk)) n (acc ++ [s]) ra v := by
  have hk : ∀ k, k ≠ n + 1 → (setBlock wr (n + 1) (.map es clk)).heap[k]? = wr.heap[k]? := fun k hk => by rw [heap_setBlock, if_neg (fun e => hk e.1.symm)]
  have hsz := h.size
  refine ⟨⟨h.bw.os, h.bw.tape, h.bw.output, by rw [size_setBlock]; exact h.bw.size, fun k hk2 => (hk k (by have := h.n0; omega)).trans (h.bw.block k hk2)⟩, h.n0, by rw [size_setBlock]; exact hsz, (hk _ (by omega)).trans h.res, ⟨es, clk, by rw [heap_setBlock, if_pos ⟨rfl, by omega⟩], by rw [byId_snoc hs]; exact hm⟩, (hk _ (by omega)).trans h.m2, (hk _ (by omega)).trans h.fam, R_above h.row (fun k h1 _ => hk k (by omega))⟩
theorem G1.app {w wr w1 : World} {n : Nat} {ma ra ra1 : List Sp} {v v1 : Value} (h : G1 w wr n ma ra v) (hb : Below (n + 4) wr w1) (hr : Kd.R kS 38 w1 (n + 4) (fun _ => True) v1 ra1) : G1 w (w1.setCell ⟨n + 1 + 1 + 1, 0, none⟩ v1) n ma ra1 v1 := by
  have hk : ∀ k, k < n + 4 → w1.heap[k]? = wr.heap[k]? := hb.block
  have hf := (hk _ (by omega)).trans h.fam
  have hk2 : ∀ k, k < n + 4 → k ≠ n + 1 + 1 + 1 → (w1.setCell ⟨n + 1 + 1 + 1, 0, none⟩ v1).heap[k]? = wr.heap[k]? := fun k h1 h2 => (Below.heap_setCell w1 ⟨n + 1 + 1 + 1, 0, none⟩ v1 k h2).trans (hk k h1)
  refine ⟨⟨hb.os.trans h.bw.os, hb.tape.trans h.bw.tape, hb.output.trans h.bw.output, by rw [World.size_setCell]; exact Nat.le_trans h.bw.size hb.size, fun k hk3 => (hk2 k (by have := h.n0; omega) (by have := h.n0; omega)).trans (h.bw.block k hk3)⟩, h.n0, by rw [World.size_setCell]; exact Nat.le_trans h.size hb.size, (hk2 _ (by omega) (by omega)).trans h.res, by obtain ⟨es, clk, h1, h2⟩ := h.m1; exact ⟨es, clk, (hk2 _ (by omega) (by omega)).trans h1, h2⟩, (hk2 _ (by omega) (by omega)).trans h.m2, ?_, R_above hr (fun k h1 _ => Below.heap_setCell w1 ⟨n + 1 + 1 + 1, 0, none⟩ v1 k (by show k ≠ n + 1 + 1 + 1; omega))⟩
  have := blk_set hf 0 v1
  simpa using this
theorem R_base {α : Type} {d : Kd α} {e N : Nat} {ok : Nat → Prop} {w : World} {v : Value} {xs : List α} (h : d.R e w N ok v xs) (k : Nat) (hk : v.ownBlock = some k) : N ≤ k := by
  obtain ⟨_, inner, ho, _⟩ := h
  exact own_base ho k hk
theorem G1.sorted {w wr w1 : World} {n : Nat} {ma ra ra1 : List Sp} {v : Value} (h : G1 w wr n ma ra v) (hg : wr.grownBy w1 v.ownBlock) (hr : Kd.R kS 38 w1 (n + 4) (fun _ => True) v ra1) : G1 w w1 n ma ra1 v :=
  have hk : ∀ k, k < n + 4 → w1.heap[k]? = wr.heap[k]? := fun k hk => hg.block k (by have := h.size; omega) fun e => by have := R_base h.row k e.symm; omega
  ⟨⟨hg.os.trans h.bw.os, hg.tape.trans h.bw.tape, hg.output.trans h.bw.output, Nat.le_trans h.bw.size hg.size, fun k hk2 => (hk k (by have := h.n0; omega)).trans (h.bw.block k hk2)⟩, h.n0, Nat.le_trans h.size hg.size, (hk _ (by omega)).trans h.res, by obtain ⟨es, clk, h1, h2⟩ := h.m1; exact ⟨es, clk, (hk _ (by omega)).trans h1, h2⟩, (hk _ (by omega)).trans h.m2, (hk _ (by omega)).trans h.fam, hr⟩
/-- Blocks k < B of the call's own stay. -/
theorem R_range {α : Type} {d : Kd α} {e N B : Nat} {w w1 : World} {v : Value} {xs : List α} (h : d.R e w N (fun k => k < B) v xs) (hm : ∀ k, N ≤ k → k < B → w1.heap[k]? = w.heap[k]?) : d.R e w1 N (fun k => k < B) v xs :=
  Kd.R_mono (Kd.R_move (Kd.R_bound h) (fun k hk => hm k hk.2.1 hk.1)) (fun _ hk => hk.1)
theorem kids_snoc (D : List Sp) (s : Sp) (q : Int) : kidsOf (D ++ [s]) q = if s.par = q then kidsOf D q ++ [s] else kidsOf D q := by
  unfold kidsOf
  rw [List.filter_append]
  by_cases h : s.par = q
  · rw [if_pos h]; simp [h]
  · rw [if_neg h]; simp [h]
/-- The rows of children, told by their parent's number: each a row of its own. -/
structure Kids (wr : World) (B : Nat) (f : Int → Option Value) (D : List Sp) : Prop where
  at_ : ∀ p, (f p = none ∧ kidsOf D p = []) ∨ ∃ u, f p = some u ∧ kidsOf D p ≠ [] ∧ Kd.R kS 38 wr B (fun _ => True) u (kidsOf D p)
  apart : ∀ p q u u', f p = some u → f q = some u' → p ≠ q → u.ownBlock ≠ u'.ownBlock
theorem Kids.get {wr : World} {B : Nat} {f : Int → Option Value} {D : List Sp} (h : Kids wr B f D) (p : Int) : Kd.R kS 38 wr B (fun _ => True) ((f p).getD (.slice none 0 0)) (kidsOf D p) := by
  rcases h.at_ p with ⟨h1, h2⟩ | ⟨u, h1, _, h3⟩
  · rw [h1, h2]; exact Kd.R_nil _ _ _ _ _
  · rw [h1]; exact h3
theorem R_pos_block {w : World} {B : Nat} {ok : Nat → Prop} {u : Value} {xs : List Sp} (h : Kd.R kS 38 w B ok u xs) (hx : xs ≠ []) : ∃ b, u.ownBlock = some b ∧ B ≤ b ∧ b < w.heap.size := by
  obtain ⟨ad, c, rfl⟩ := Kd.R_slice1 h (List.length_pos_iff.2 hx)
  obtain ⟨_, inner, ho, _⟩ := h
  exact ⟨ad.block, rfl, own_base ho _ rfl, own_lt ho _ rfl⟩
theorem Kids.below {wr w1 : World} {B : Nat} {f : Int → Option Value} {D : List Sp} (h : Kids wr B f D) (hb : Below wr.heap.size wr w1) : Kids w1 B f D :=
  ⟨fun p => (h.at_ p).imp id fun ⟨u, h1, h2, h3⟩ => ⟨u, h1, h2, Kd.R_below h3 hb⟩, h.apart⟩
theorem Kids.above {wr w1 : World} {B : Nat} {f : Int → Option Value} {D : List Sp} (h : Kids wr B f D) (hm : ∀ k, B ≤ k → k < wr.heap.size → w1.heap[k]? = wr.heap[k]?) : Kids w1 B f D :=
  ⟨fun p => (h.at_ p).imp id fun ⟨u, h1, h2, h3⟩ => ⟨u, h1, h2, R_above h3 hm⟩, h.apart⟩
theorem Kids.app {wr w1 : World} {B : Nat} {f : Int → Option Value} {D : List Sp} (h : Kids wr B f D) {s : Sp} {v : Value} (hg : wr.grownBy w1 ((f s.par).getD (.slice none 0 0)).ownBlock)
    (hr : Kd.R kS 38 w1 B (fun _ => True) v (kidsOf D s.par ++ [s])) (hn : v.ownBlock = ((f s.par).getD (.slice none 0 0)).ownBlock ∨ ∃ b, v.ownBlock = some b ∧ wr.heap.size ≤ b) :
    Kids w1 B (fun q => if q = s.par then some v else f q) (D ++ [s]) := by
  have hvb := R_pos_block hr (by simp)
  have hsep : ∀ q u, q ≠ s.par → f q = some u → u.ownBlock ≠ v.ownBlock ∧ u.ownBlock ≠ ((f s.par).getD (.slice none 0 0)).ownBlock := by
    intro q u hq hu
    rcases h.at_ q with ⟨h1, _⟩ | ⟨u2, h1, h2, h3⟩
    · rw [hu] at h1; cases h1
    rw [hu] at h1
    injection h1 with h1
    subst h1
    obtain ⟨b, hb, _, hlt⟩ := R_pos_block h3 h2
    have hz : u.ownBlock ≠ ((f s.par).getD (.slice none 0 0)).ownBlock := by
      cases hf : f s.par with
      | none => rw [hb]; simp [Value.ownBlock]
      | some z => exact h.apart q s.par u z hu hf hq
    refine ⟨fun e => ?_, hz⟩
    rcases hn with hn | ⟨b2, hb2, hle⟩
    · exact hz (e.trans hn)
    · rw [hb, hb2] at e
      injection e with e
      omega
  refine ⟨fun q => ?_, fun p q u u' hp hq hne => ?_⟩
  · rw [kids_snoc]
    by_cases hq : q = s.par
    · subst hq
      exact .inr ⟨v, if_pos rfl, by rw [if_pos rfl]; simp, by rw [if_pos rfl]; exact hr⟩
    · have e1 : (if s.par = q then kidsOf D q ++ [s] else kidsOf D q) = kidsOf D q := if_neg (fun e => hq e.symm)
      rw [e1]
      rcases h.at_ q with ⟨h1, h2⟩ | ⟨u, h1, h2, h3⟩
      · exact .inl ⟨by rw [if_neg hq]; exact h1, h2⟩
      · refine .inr ⟨u, by rw [if_neg hq]; exact h1, h2, ?_⟩
        have h4 := Kd.R_flat (ok' := fun k => some k = u.ownBlock) (fun {_ _ _ _} hm => hm) h3 (fun k hk _ => hk.symm)
        refine Kd.R_mono (Kd.R_step h4 fun k hk hlt => hg.block k hlt ?_) (fun _ _ => trivial)
        rw [hk]
        exact (hsep q u hq h1).2
  · by_cases h1 : p = s.par
    · rw [if_pos h1] at hp
      injection hp with hp
      subst hp
      rw [if_neg (fun e => hne (h1.trans e.symm))] at hq
      exact (hsep q u' (fun e => hne (h1.trans e.symm)) hq).1.symm
    · rw [if_neg h1] at hp
      by_cases h2 : q = s.par
      · rw [if_pos h2] at hq
        injection hq with hq
        subst hq
        exact (hsep p u h1 hp).1
      · rw [if_neg h2] at hq
        exact h.apart p q u u' hp hq hne
/-- The family while the children are told: n as in G1, B: the world's size when it began, D: the spans already told. -/
structure G2 (w wr : World) (n B : Nat) (ma C : List Sp) (v : Value) (D : List Sp) : Prop where
  bw : Below w.heap.size w wr
  n0 : w.heap.size ≤ n
  nB : n + 4 ≤ B
  size : B ≤ wr.heap.size
  res : wr.heap[n]? = some (.cells #[.slice none 0 0, .map none, .map none] 47 (0, 0))
  m1 : ∃ es clk, wr.heap[n + 1]? = some (.map es clk) ∧ MOk (Value.int .u64) es clk (byId ma)
  m2 : ∃ es clk f, wr.heap[n + 1 + 1]? = some (.map es clk) ∧ MOk (Value.int .u64) es clk f ∧ Kids wr B f D
  fam : wr.heap[n + 1 + 1 + 1]? = some (.cells #[v, .map (some (n + 1)), .map (some (n + 1 + 1))] 47 (0, 0))
  row : Kd.R kS 38 wr (n + 4) (fun k => k < B) v C
theorem G2.start {w wr : World} {n : Nat} {ma C : List Sp} {v : Value} (h : G1 w wr n ma C v) : G2 w wr n wr.heap.size ma C v [] :=
  ⟨h.bw, h.n0, h.size, Nat.le_refl _, h.res, h.m1, ⟨#[], 0, _, h.m2, MOk.empty _ 0, ⟨fun p => .inl ⟨rfl, rfl⟩, fun p q u u' hp => by cases hp⟩⟩, h.fam, Kd.R_mono (Kd.R_bound h.row) (fun _ hk => hk.2.2.1)⟩
theorem G2.next {w wr w1 : World} {n B : Nat} {ma C D : List Sp} {v : Value} (h : G2 w wr n B ma C v D) (hb : Below wr.heap.size wr w1) : G2 w w1 n B ma C v D := by
  have hsz := h.size
  have hnB := h.nB
  have hk : ∀ k, k < wr.heap.size → w1.heap[k]? = wr.heap[k]? := hb.block
  obtain ⟨es, clk, f, h1, h2, h3⟩ := h.m2
  obtain ⟨es1, clk1, h4, h5⟩ := h.m1
  exact ⟨⟨hb.os.trans h.bw.os, hb.tape.trans h.bw.tape, hb.output.trans h.bw.output, Nat.le_trans h.bw.size hb.size, fun k hk2 => (hk k (by have := h.n0; omega)).trans (h.bw.block k hk2)⟩, h.n0, h.nB, Nat.le_trans h.size hb.size, (hk _ (by omega)).trans h.res, ⟨es1, clk1, (hk _ (by omega)).trans h4, h5⟩, ⟨es, clk, f, (hk _ (by omega)).trans h1, h2, h3.below hb⟩, (hk _ (by omega)).trans h.fam, R_range h.row (fun k h6 h7 => hk k (by omega))⟩
theorem G2.app {w wr w1 : World} {n B : Nat} {ma C D : List Sp} {v z u : Value} (h : G2 w wr n B ma C v D) {es es' : Array MapEntry} {clk clk' : Nat} {f : Int → Option Value} {s : Sp} (hm : wr.heap[n + 1 + 1]? = some (.map es clk)) (hf : MOk (Value.int .u64) es clk f) (hK : Kids wr B f D) (hz : (f s.par).getD (.slice none 0 0) = z) (hg : wr.grownBy w1 z.ownBlock)
    (hr : Kd.R kS 38 w1 B (fun _ => True) u (kidsOf D s.par ++ [s])) (hn : u.ownBlock = z.ownBlock ∨ ∃ b, u.ownBlock = some b ∧ wr.heap.size ≤ b) (hm2 : MOk (Value.int .u64) es' clk' (fun q => if q = s.par then some u else f q)) :
    G2 w (setBlock w1 (n + 1 + 1) (.map es' clk')) n B ma C v (D ++ [s]) := by
  subst hz
  have hsz := h.size
  have hnB := h.nB
  have hzb : ∀ k, ((f s.par).getD (.slice none 0 0)).ownBlock = some k → B ≤ k := fun k hk => by
    obtain ⟨_, inner, ho, _⟩ := hK.get s.par
    exact own_base ho k hk
  have hk0 : ∀ k, k < B → w1.heap[k]? = wr.heap[k]? := fun k hk => hg.block k (by omega) fun e => by have := hzb k e.symm; omega
  have hk : ∀ k, k < B → k ≠ n + 1 + 1 → (setBlock w1 (n + 1 + 1) (.map es' clk')).heap[k]? = wr.heap[k]? := fun k hk hne => by rw [heap_setBlock, if_neg (fun e => hne e.1.symm)]; exact hk0 k hk
  have hA := hK.app hg hr hn
  obtain ⟨es1, clk1, h4, h5⟩ := h.m1
  refine ⟨⟨hg.os.trans h.bw.os, hg.tape.trans h.bw.tape, hg.output.trans h.bw.output, by rw [size_setBlock]; exact Nat.le_trans h.bw.size hg.size, fun k hk2 => (hk k (by have := h.n0; have := h.bw.size; omega) (by have := h.n0; omega)).trans (h.bw.block k hk2)⟩, h.n0, h.nB, by rw [size_setBlock]; exact Nat.le_trans h.size hg.size, (hk _ (by omega) (by omega)).trans h.res, ⟨es1, clk1, (hk _ (by omega) (by omega)).trans h4, h5⟩, ⟨es', clk', _, ?_, hm2, hA.above (fun k h6 h7 => by rw [heap_setBlock, if_neg (fun e => by have := e.1; omega)])⟩, (hk _ (by omega) (by omega)).trans h.fam, R_range h.row (fun k h6 h7 => hk k h7 (by omega))⟩
  rw [heap_setBlock, if_pos ⟨rfl, by have := hg.size; omega⟩]

/-- The family, told: every block of it lies from lo on, below hi. -/
structure Fam (lo hi : Nat) (w : World) (U C : List Sp) (v : Value) (g1 g2 : Nat) : Prop where
  row : Kd.R kS 38 w lo (fun k => k < hi) v C
  b1 : lo ≤ g1 ∧ g1 < hi
  b2 : lo ≤ g2 ∧ g2 < hi
  m1 : ∃ es clk, w.heap[g1]? = some (.map es clk) ∧ MOk (Value.int .u64) es clk (byId U)
  m2 : ∃ es clk f, w.heap[g2]? = some (.map es clk) ∧ MOk (Value.int .u64) es clk f ∧ ∀ p, Kd.R kS 38 w lo (fun k => k < hi) ((f p).getD (.slice none 0 0)) (kidsOf C p)
theorem Fam.move {lo hi : Nat} {w w1 : World} {U C : List Sp} {v : Value} {g1 g2 : Nat} (h : Fam lo hi w U C v g1 g2) (hm : ∀ k, lo ≤ k → k < hi → w1.heap[k]? = w.heap[k]?) : Fam lo hi w1 U C v g1 g2 := by
  obtain ⟨es, clk, f, h1, h2, h3⟩ := h.m2
  obtain ⟨es1, clk1, h4, h5⟩ := h.m1
  exact ⟨R_range h.row hm, h.b1, h.b2, ⟨es1, clk1, (hm _ h.b1.1 h.b1.2).trans h4, h5⟩, ⟨es, clk, f, (hm _ h.b2.1 h.b2.2).trans h1, h2, fun p => R_range (h3 p) hm⟩⟩
theorem G2.fam_ {w wr : World} {n B : Nat} {ma C : List Sp} {v : Value} (h : G2 w wr n B ma C v C) : Fam (n + 1) wr.heap.size wr ma C v (n + 1) (n + 1 + 1) := by
  have hsz := h.size
  have hnB := h.nB
  have hn0 := h.n0
  obtain ⟨es, clk, f, h1, h2, h3⟩ := h.m2
  exact ⟨Kd.R_lower (Kd.R_mono h.row (fun k hk => Nat.lt_of_lt_of_le hk hsz)) (by omega), ⟨by omega, by omega⟩, ⟨by omega, by omega⟩, h.m1, ⟨es, clk, f, h1, h2, fun p => Kd.R_lower (Kd.R_mono (Kd.R_bound (h3.get p)) (fun k hk => hk.2.2.1)) (by omega)⟩⟩
theorem Fam.lower {lo lo' hi : Nat} {w : World} {U C : List Sp} {v : Value} {g1 g2 : Nat} (h : Fam lo hi w U C v g1 g2) (hl : lo' ≤ lo) : Fam lo' hi w U C v g1 g2 := by
  obtain ⟨es, clk, f, h1, h2, h3⟩ := h.m2
  exact ⟨Kd.R_lower h.row hl, ⟨Nat.le_trans hl h.b1.1, h.b1.2⟩, ⟨Nat.le_trans hl h.b2.1, h.b2.2⟩, h.m1, ⟨es, clk, f, h1, h2, fun p => Kd.R_lower (h3 p) hl⟩⟩
/-- A counted loop's measure. -/
theorem meas_up {L k : Nat} (h : L ≤ 1000000) (hk : k + 1 ≤ L) : L - (intOf (.int .i64 (wrap64 ((k : Int) + 1)))).toNat < L - (intOf (.int .i64 k)).toNat := by
  have hw : wrap64 ((k : Int) + 1) = ((k + 1 : Nat) : Int) := by unfold wrap64; omega
  rw [hw]
  show L - ((k + 1 : Nat) : Int).toNat < L - (k : Int).toNat
  rw [Int.toNat_natCast, Int.toNat_natCast]
  omega
end Go.Proofs.Ytoigebnhnkdbbaa.Tr
