/- What the laws over scripts of chapter 5 use. -/
import Derived.Test.YtblacdnndchghaaDiskLaw2
import Derived.Test.YtblacdnndchghaaReads
import Derived.Test.YtblacdnndchghaaPAllx1
namespace Go.Proofs.Ytblacdnndchghaa.D
open Go.RowKit Go.Proofs.YtblacdnndchghaaW.PrintWords Go.Proofs.YtblacdnndchghaaW.PrintLast Go.Proofs.YtblacdnndchghaaW.PrintMore Go.Proofs.Ytblacdnndchghaa.Math Go.Proofs.Ytblacdnndchghaa.PAll Go.Proofs.Ytblacdnndchghaa.Open
set_option linter.unusedVariables false
set_option linter.unusedSimpArgs false

theorem small_l0 (l : List S31) (hl : l.length ≤ 140737488355328) : ∀ (d i k : Nat), i ≤ l.length → i ≤ 60 → 60 - i = d → 2 * d + 2 ≤ k → ∃ r, cambiumlaw05_small.l0 k l (i : Int) = some r := by
  intro d
  induction d with
  | zero =>
    intro i k hi h60 hd hk
    obtain ⟨k, rfl⟩ : ∃ m, k = m + 1 + 1 := ⟨k - 2, by omega⟩
    rw [cambiumlaw05_small.l0]
    split
    · rw [decide_eq_false (by omega), cambiumlaw05_small.j1, if_neg Bool.false_ne_true]
      exact ⟨_, rfl⟩
    · rw [cambiumlaw05_small.j1, if_neg Bool.false_ne_true]
      exact ⟨_, rfl⟩
  | succ d ih =>
    intro i k hi h60 hd hk
    obtain ⟨k, rfl⟩ : ∃ m, k = m + 1 + 1 := ⟨k - 2, by omega⟩
    rw [cambiumlaw05_small.l0]
    by_cases h : (i : Int) < (l.length : Int)
    · rw [if_pos h, decide_eq_true (by omega), cambiumlaw05_small.j1, if_pos rfl, if_pos (by omega), if_pos h]
      split
      · exact ⟨_, rfl⟩
      · have hw : wrap64 ((i : Int) + 1) = ((i + 1 : Nat) : Int) := by unfold wrap64; omega
        rw [hw]
        exact ih (i + 1) k (by omega) (by omega) (by omega) (by omega)
    · rw [if_neg h, cambiumlaw05_small.j1, if_neg Bool.false_ne_true]
      exact ⟨_, rfl⟩
theorem small_calls {W : World} {A : Option Addr} {c : Nat} {l : List S31} (hl : l.length ≤ c) (hC : Kd.C k31 W A l.length l) (hb : l.length ≤ 140737488355328) :
    ∃ r, ∀ w, Below W.heap.size W w → Calls Try.prog 9 #[.slice A l.length c] w fun e w' => e = .returned (.bool r) ∧ Below w.heap.size w w' := by
  obtain ⟨r, hr⟩ := small_l0 l hb 60 0 200 (Nat.zero_le _) (Nat.zero_le _) rfl (by omega)
  refine ⟨r, fun w hbw => (cambiumlaw05_small.calls 200 A c l r w (Kd.C_below hC hbw) hl hr).mono ?_⟩
  rintro e w' ⟨e1, e2⟩
  exact ⟨e1, e2.below⟩
/-- The k-th step of a script, in every later world. -/
theorem do_at {W : World} {A : Option Addr} {l : List S31} (h : Kd.C k31 W A l.length l) {k : Nat} (hk : k < l.length) : ∃ ad A3 c3, A = some ad ∧
    (∀ w, Below W.heap.size W w → w.cell? (ad.add (k * 5)) = some (.int .i64 (rd_T31 l k).f0) ∧ w.cell? ⟨(ad.add (k * 5)).block, (ad.add (k * 5)).off + 1, none⟩ = some (.int .i64 (rd_T31 l k).f1) ∧
      w.cell? ⟨(ad.add (k * 5)).block, (ad.add (k * 5)).off + 2, none⟩ = some (.int .u8 (rd_T31 l k).f2) ∧ w.cell? ⟨(ad.add (k * 5)).block, (ad.add (k * 5)).off + 3, none⟩ = some (.slice A3 (rd_T31 l k).f3.length c3) ∧
      w.cell? ⟨(ad.add (k * 5)).block, (ad.add (k * 5)).off + 4, none⟩ = some (.int .i64 (rd_T31 l k).f4)) ∧ (rd_T31 l k).f3.length ≤ c3 ∧ Kd.C Kd.bool W A3 (rd_T31 l k).f3.length (rd_T31 l k).f3 := by
  obtain ⟨ad, A3, c3, e, h0, h1, h2, h3, h4, hl, hc⟩ := at_T31 h (k : Int) (by omega) (by omega)
  rw [Int.toNat_natCast] at h0 h1 h2 h3 h4
  refine ⟨ad, A3, c3, e, fun w hb => ⟨?_, ?_, ?_, ?_, ?_⟩, hl, hc⟩
  · exact (hb.cell (World.block_lt_of_cell? W _ h0)).trans h0
  · exact (hb.cell (World.block_lt_of_cell? W _ h1)).trans h1
  · exact (hb.cell (World.block_lt_of_cell? W _ h2)).trans h2
  · exact (hb.cell (World.block_lt_of_cell? W _ h3)).trans h3
  · exact (hb.cell (World.block_lt_of_cell? W _ h4)).trans h4
theorem do_byte {l : List S31} (hg : ∀ x ∈ l, G31 x) {k : Nat} (hk : k < l.length) : 0 ≤ (rd_T31 l k).f2 ∧ (rd_T31 l k).f2 < 256 := by
  have hm : rd_T31 l k ∈ l := by
    unfold rd_T31
    rw [Int.toNat_natCast, List.getD_eq_getElem?_getD, List.getElem?_eq_getElem hk]
    exact List.getElem_mem hk
  have h := (hg _ hm).2.2.1
  have h0 : IntKind.u8.min ≤ (rd_T31 l k).f2 ∧ (rd_T31 l k).f2 ≤ IntKind.u8.max := by simpa [Lit.wf] using h
  have h1 : (0 : Int) ≤ (rd_T31 l k).f2 ∧ (rd_T31 l k).f2 ≤ 255 := h0
  omega
theorem do_int {l : List S31} (hg : ∀ x ∈ l, G31 x) {k : Nat} (hk : k < l.length) : (rd_T31 l k).f1 ≤ 9223372036854775807 := by
  have hm : rd_T31 l k ∈ l := by
    unfold rd_T31
    rw [Int.toNat_natCast, List.getD_eq_getElem?_getD, List.getElem?_eq_getElem hk]
    exact List.getElem_mem hk
  have h := (hg _ hm).2.1
  have h0 : IntKind.i64.min ≤ (rd_T31 l k).f1 ∧ (rd_T31 l k).f1 ≤ IntKind.i64.max := by simpa [Lit.wf] using h
  exact h0.2
/-- A disk whose power isn't armed. -/
def PS (S : List (List Int)) (s : St) : Prop := s.S = S ∧ s.left = 0 ∧ s.down = false
theorem PS.write {S : List (List Int)} {s : St} (h : PS S s) (no : Int) (b : List Int) : PS S (D.write s no b).2 ∧ (D.write s no b).2.W.length ≤ s.W.length + 1 := by
  obtain ⟨h1, h2, h3⟩ := h
  unfold D.write
  split
  · exact ⟨⟨h1, h2, h3⟩, by show s.W.length ≤ s.W.length + 1; omega⟩
  · rw [if_neg (by rw [h3]; decide)]
    have hg : goes (wr s no b) = (false, wr s no b) := by unfold goes; rw [if_pos (show (wr s no b).left = 0 from h2)]
    rw [hg]
    exact ⟨⟨h1, h2, h3⟩, by show (s.W ++ [(no, b)]).length ≤ _; rw [List.length_append]; exact Nat.le_refl _⟩
theorem PS.sync {S : List (List Int)} {s : St} (h : PS S s) : D.sync s = (0, ⟨syncS S s.W, [], 0, false⟩) := by
  obtain ⟨h1, h2, h3⟩ := h
  unfold D.sync
  have hg : goes s = (false, s) := by unfold goes; rw [if_pos h2]
  rw [if_neg (by rw [h3]; decide), hg, if_neg (by intro h; cases h), h1]
  show (0, (⟨syncS S s.W, [], s.left, s.down⟩ : St)) = _
  rw [h2, h3]
/-- Rows of bytes that were laid by. -/
structure Kept (w : World) (N : Nat) (v : Value) (Ql : List (Value × List Int)) : Prop where
  own : w.ownsRow N 34 1 v Ql.length (Ql.map Prod.fst)
  rw_ : ∀ x ∈ Ql, Rw w x.1 x.2
theorem Kept.at_ {w : World} {N : Nat} {v : Value} {Ql : List (Value × List Int)} (h : Kept w N v Ql) {j : Nat} (hj : j < Ql.length) : ∃ g c, v = .slice (some ⟨g, 0, none⟩) Ql.length c ∧ ∃ vj, w.cell? ⟨g, j, none⟩ = some vj ∧ Rw w vj (Ql.getD j (nilS, [])).2 := by
  obtain ⟨g, c, hv, _, _, hcell⟩ := own_at h.own (by omega)
  refine ⟨g, c, hv, (Ql[j]'hj).1, hcell j _ (by rw [List.getElem?_map, List.getElem?_eq_getElem hj]; rfl), ?_⟩
  rw [List.getD_eq_getElem?_getD, List.getElem?_eq_getElem hj]
  exact h.rw_ _ (List.getElem_mem hj)
theorem crash_nil (S : List (List Int)) (Wt : List (Int × List Int)) (L tn : Int) (dn : Bool) : D.crash ⟨S, Wt, L, dn⟩ [] tn = ⟨S, [], 0, false⟩ := by
  unfold D.crash
  have : ∀ n, crashN [] tn Wt S n = S := by
    intro n
    induction n with
    | zero => rfl
    | succ n ih =>
      show cstep [] tn Wt (crashN [] tn Wt S n) n = S
      unfold cstep
      rw [ih]
      split
      · rfl
      · rfl
  rw [this]
theorem Kept.below {w w1 : World} {N : Nat} {v : Value} {Ql : List (Value × List Int)} (h : Kept w N v Ql) (hb : Below w.heap.size w w1) : Kept w1 N v Ql :=
  ⟨own_turn (O := fun _ => False) (Turn.of_below hb) h.own (fun _ _ h => h), fun x hx => (h.rw_ x hx).below hb⟩
theorem Kept.turn {w w1 : World} {B N p gm : Nat} {vS vW v : Value} {s : St} {Ql : List (Value × List Int)} (h : Kept w N v Ql) (hd : DSt w B p gm vS vW s) (ht : Turn (DO p gm vS vW) w w1) (hN : ∀ k, vS.ownBlock = some k → k < N) : Kept w1 N v Ql := by
  obtain ⟨Sl, Wl, es, clk, e1, e2, hr, hm, hok⟩ := hd.body
  refine ⟨own_turn ht h.own ?_, fun x hx => (h.rw_ x hx).turn ht (fun k c hk => hd.pages k c hk)⟩
  intro k hk
  obtain ⟨hk0, c2, h2⟩ := own_block h.own hk
  rintro (rfl | rfl | hS | hW)
  · exact sep h2 hd.blk (by decide) rfl
  · exact sepm h2 hm rfl
  · have := hN k hS; omega
  · obtain ⟨_, c3, h3⟩ := own_block hr.w_ hW
    exact sep h2 h3 (by decide) rfl
end Go.Proofs.Ytblacdnndchghaa.D
