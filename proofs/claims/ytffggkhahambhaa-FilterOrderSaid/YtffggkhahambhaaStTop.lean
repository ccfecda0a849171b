/- Stable sorting, plainly: what keeps the order of alike ones; the one row that is sorted so; merging by exchange of blocks. No program in sight. -/
import Derived.Below
import Derived.Test.YtffggkhahambhaaSpBase
import Derived.Shelf.SlSortCmp.WholeK
namespace Go.Proofs.Ytffggkhahambhaa.Stab
set_option linter.unusedVariables false
variable {α : Type}

/-- A strict weak order. -/
structure Swo (lt : α → α → Bool) : Prop where
  irr : ∀ x, lt x x = false
  asym : ∀ x y, lt x y = true → lt y x = false
  ntr : ∀ x y z, lt x y = false → lt y z = false → lt x z = false
def eqv (lt : α → α → Bool) (x y : α) : Bool := !lt x y && !lt y x
theorem eqv_iff {lt : α → α → Bool} {x y : α} : eqv lt x y = true ↔ lt x y = false ∧ lt y x = false := by unfold eqv; cases lt x y <;> cases lt y x <;> simp
theorem eqv_ne {lt : α → α → Bool} (h : Swo lt) {x a b : α} (ha : eqv lt x a = true) (hb : eqv lt x b = true) : lt a b = false := by
  rw [eqv_iff] at ha hb
  exact h.ntr a x b ha.2 hb.1
/-- In order. -/
def Sd (lt : α → α → Bool) (l : List α) : Prop := l.Pairwise fun a b => lt b a = false
/-- Alike ones stay in their order. -/
def Kp (lt : α → α → Bool) (xs ys : List α) : Prop := ∀ x, ys.filter (eqv lt x) = xs.filter (eqv lt x)
theorem Kp.refl (lt : α → α → Bool) (xs : List α) : Kp lt xs xs := fun _ => rfl
theorem Kp.trans {lt : α → α → Bool} {xs ys zs : List α} (h : Kp lt xs ys) (g : Kp lt ys zs) : Kp lt xs zs := fun x => (g x).trans (h x)
theorem Kp.symm {lt : α → α → Bool} {xs ys : List α} (h : Kp lt xs ys) : Kp lt ys xs := fun x => (h x).symm
theorem Kp.app {lt : α → α → Bool} {xs ys us vs : List α} (h : Kp lt xs ys) (g : Kp lt us vs) : Kp lt (xs ++ us) (ys ++ vs) := fun x => by rw [List.filter_append, List.filter_append, h x, g x]
theorem Kp.mem {lt : α → α → Bool} (hw : Swo lt) {xs ys : List α} (h : Kp lt xs ys) {y : α} : y ∈ ys ↔ y ∈ xs := by
  have e : ∀ l : List α, y ∈ l ↔ y ∈ l.filter (eqv lt y) := fun l => by
    rw [List.mem_filter, eqv_iff]
    exact ⟨fun g => ⟨g, hw.irr y, hw.irr y⟩, fun g => g.1⟩
  rw [e ys, e xs, h y]
theorem Kp.nil {lt : α → α → Bool} (hw : Swo lt) {ys : List α} (h : Kp lt [] ys) : ys = [] := by
  cases ys with
  | nil => rfl
  | cons y ys => exact absurd ((h.mem hw).1 List.mem_cons_self) (by simp)
/-- There's one such row. -/
theorem sd_unique {lt : α → α → Bool} (hw : Swo lt) : ∀ {ys zs : List α}, Sd lt ys → Sd lt zs → Kp lt ys zs → ys = zs
  | [], zs, _, _, h => (h.nil hw).symm
  | y :: ys, [], _, _, h => absurd ((h.symm.mem hw).1 List.mem_cons_self) (by simp)
  | y :: ys, z :: zs, hy, hz, h => by
    unfold Sd at hy hz
    rw [List.pairwise_cons] at hy hz
    have h1 : lt z y = false := by
      rcases List.mem_cons.1 ((h.mem hw).1 (List.mem_cons_self (a := z) (l := zs))) with e | e
      · rw [e]; exact hw.irr y
      · exact hy.1 z e
    have h2 : lt y z = false := by
      rcases List.mem_cons.1 ((h.symm.mem hw).1 (List.mem_cons_self (a := y) (l := ys))) with e | e
      · rw [e]; exact hw.irr z
      · exact hz.1 y e
    have hyz : y = z := by
      have := h y
      rw [List.filter_cons, if_pos (eqv_iff.2 ⟨h2, h1⟩), List.filter_cons, if_pos (eqv_iff.2 ⟨hw.irr y, hw.irr y⟩)] at this
      injection this with e _
      exact e.symm
    subst hyz
    rw [sd_unique hw hy.2 hz.2 (fun x => by
      have := h x
      rw [List.filter_cons, List.filter_cons] at this
      split at this
      · injection this
      · exact this)]
/-- Blocks that hold nothing alike may change places. -/
theorem Kp.swap {lt : α → α → Bool} (hw : Swo lt) {A B : List α} (h : ∀ a ∈ A, ∀ b ∈ B, lt b a = true) : Kp lt (A ++ B) (B ++ A) := fun x => by
  rw [List.filter_append, List.filter_append]
  cases hA : A.filter (eqv lt x) with
  | nil => simp
  | cons a r =>
    have ha := List.mem_filter.1 (show a ∈ A.filter (eqv lt x) by rw [hA]; exact List.mem_cons_self)
    have hB : B.filter (eqv lt x) = [] := by
      rw [List.filter_eq_nil_iff]
      intro b hb e
      have := eqv_ne hw e ha.2
      rw [h a ha.1 b hb] at this
      cases this
    rw [hB]; simp
theorem sd_app {lt : α → α → Bool} {A B : List α} : Sd lt (A ++ B) ↔ Sd lt A ∧ Sd lt B ∧ ∀ a ∈ A, ∀ b ∈ B, lt b a = false := by unfold Sd; rw [List.pairwise_append]
/-- A row sorted, alike ones as they were. -/
structure Stb (lt : α → α → Bool) (xs ys : List α) : Prop where
  srt : Sd lt ys
  keep : Kp lt xs ys
theorem Stb.unique {lt : α → α → Bool} (hw : Swo lt) {xs ys zs : List α} (h : Stb lt xs ys) (g : Stb lt xs zs) : ys = zs := sd_unique hw h.srt g.srt (h.keep.symm.trans g.keep)
theorem Stb.nil (lt : α → α → Bool) : Stb lt [] [] := ⟨List.Pairwise.nil, Kp.refl _ _⟩
/-- One more, laid in its place: A not above it, B above it. -/
theorem Stb.add {lt : α → α → Bool} (hw : Swo lt) {xs A B : List α} {v : α} (h : Stb lt xs (A ++ B)) (hA : ∀ a ∈ A, lt v a = false) (hB : ∀ b ∈ B, lt v b = true) : Stb lt (xs ++ [v]) (A ++ v :: B) := by
  obtain ⟨h1, h2, h3⟩ := sd_app.1 h.srt
  refine ⟨sd_app.2 ⟨h1, List.pairwise_cons.2 ⟨fun b hb => hw.asym v b (hB b hb), h2⟩, fun a ha b hb => ?_⟩, ?_⟩
  · rcases List.mem_cons.1 hb with rfl | hb
    · exact hA a ha
    · exact h3 a ha b hb
  · have h4 : Kp lt (A ++ B ++ [v]) (A ++ v :: B) := by
      rw [List.append_assoc]
      exact (Kp.refl lt A).app (Kp.swap hw (fun b hb x hx => by rw [List.mem_singleton.1 hx]; exact hB b hb))
    exact (h.keep.app (Kp.refl lt [v])).trans h4
/-- The last of those ahead tells of all. -/
theorem all_le {lt : α → α → Bool} (hw : Swo lt) {A : List α} {u v : α} (h : Sd lt (A ++ [u])) (hu : lt v u = false) : ∀ a ∈ A ++ [u], lt v a = false := by
  intro a ha
  rcases List.mem_append.1 ha with ha | ha
  · exact hw.ntr v u a hu ((sd_app.1 h).2.2 a ha u (by simp))
  · rw [List.mem_singleton.1 ha]; exact hu
/-- Two sorted rows, one behind the other, merged. -/
structure Mg (lt : α → α → Bool) (L R S : List α) : Prop where
  stb : Stb lt (L ++ R) S
  len : S.length = L.length + R.length
/-- .. by exchange of the middle blocks. -/
theorem Mg.join {lt : α → α → Bool} (hw : Swo lt) {L1 L2 R1 R2 S1 S2 : List α} (h1 : Mg lt L1 R1 S1) (h2 : Mg lt L2 R2 S2) (hL : Sd lt (L1 ++ L2)) (hR : Sd lt (R1 ++ R2)) (ha : ∀ a ∈ L1, ∀ b ∈ R2, lt b a = false) (hb : ∀ a ∈ L2, ∀ b ∈ R1, lt b a = true) : Mg lt (L1 ++ L2) (R1 ++ R2) (S1 ++ S2) := by
  refine ⟨⟨sd_app.2 ⟨h1.stb.srt, h2.stb.srt, fun a ha1 b hb1 => ?_⟩, ?_⟩, by rw [List.length_append, h1.len, h2.len, List.length_append, List.length_append]; omega⟩
  · rcases List.mem_append.1 ((h1.stb.keep.mem hw).1 ha1) with h3 | h3 <;> rcases List.mem_append.1 ((h2.stb.keep.mem hw).1 hb1) with h4 | h4
    · exact (sd_app.1 hL).2.2 a h3 b h4
    · exact ha a h3 b h4
    · exact hw.asym _ _ (hb b h4 a h3)
    · exact (sd_app.1 hR).2.2 a h3 b h4
  · have h3 : Kp lt (L1 ++ L2 ++ (R1 ++ R2)) (L1 ++ R1 ++ (L2 ++ R2)) := by
      have := ((Kp.refl lt L1).app (Kp.swap hw hb)).app (Kp.refl lt R2)
      simp only [List.append_assoc] at this ⊢
      exact this
    exact h3.trans (h1.stb.keep.app h2.stb.keep)
theorem Mg.nilL {lt : α → α → Bool} {R : List α} (h : Sd lt R) : Mg lt [] R R := ⟨⟨h, by rw [List.nil_append]; exact Kp.refl _ _⟩, by simp⟩
theorem Mg.nilR {lt : α → α → Bool} {L : List α} (h : Sd lt L) : Mg lt L [] L := ⟨⟨h, by rw [List.append_nil]; exact Kp.refl _ _⟩, by simp⟩
theorem Mg.oneL {lt : α → α → Bool} (hw : Swo lt) {v : α} {R1 R2 : List α} (h : Sd lt (R1 ++ R2)) (h1 : ∀ r ∈ R1, lt r v = true) (h2 : ∀ r ∈ R2, lt r v = false) : Mg lt [v] (R1 ++ R2) (R1 ++ v :: R2) := by
  have := Mg.join hw (Mg.nilL (sd_app.1 h).1) (Mg.mk (lt := lt) (L := [v]) (R := R2) (S := v :: R2) ⟨List.pairwise_cons.2 ⟨h2, (sd_app.1 h).2.1⟩, Kp.refl _ _⟩ (by simp [Nat.add_comm])) (L1 := []) (List.pairwise_singleton _ _) h (fun a ha => by cases ha) (fun a ha b hb => by rw [List.mem_singleton.1 ha]; exact h1 b hb)
  simpa using this
theorem Mg.oneR {lt : α → α → Bool} (hw : Swo lt) {v : α} {L1 L2 : List α} (h : Sd lt (L1 ++ L2)) (h1 : ∀ l ∈ L1, lt v l = false) (h2 : ∀ l ∈ L2, lt v l = true) : Mg lt (L1 ++ L2) [v] (L1 ++ v :: L2) := by
  refine ⟨?_, by simp; omega⟩
  exact Stb.add hw ⟨h, Kp.refl _ _⟩ h1 h2
theorem sd_get {lt : α → α → Bool} {l : List α} (h : Sd lt l) {i j : Nat} {x y : α} (hij : i < j) (hx : l[i]? = some x) (hy : l[j]? = some y) : lt y x = false := by
  obtain ⟨h1, rfl⟩ := List.getElem?_eq_some_iff.1 hx
  obtain ⟨h2, rfl⟩ := List.getElem?_eq_some_iff.1 hy
  exact (List.pairwise_iff_getElem.1 h) i j h1 h2 hij
theorem sd_get' {lt : α → α → Bool} (hw : Swo lt) {l : List α} (h : Sd lt l) {i j : Nat} {x y : α} (hij : i ≤ j) (hx : l[i]? = some x) (hy : l[j]? = some y) : lt y x = false := by
  rcases Nat.lt_or_ge i j with h1 | h1
  · exact sd_get h h1 hx hy
  · have : i = j := by omega
    subst this
    rw [hx] at hy
    injection hy with hy
    rw [hy]; exact hw.irr _
/-- The split's two sides, by its border. -/
theorem border_le {lt : α → α → Bool} (hw : Swo lt) {L R : List α} (hL : Sd lt L) (hR : Sd lt R) {k1 k2 : Nat} (hk : k1 ≤ L.length) (h : 0 < k1 → ∀ x y, L[k1 - 1]? = some x → R[k2]? = some y → lt y x = false) : ∀ a ∈ L.take k1, ∀ b ∈ R.drop k2, lt b a = false := by
  intro a ha b hb
  obtain ⟨i, hi⟩ := List.mem_iff_getElem?.1 ha
  obtain ⟨j, hj⟩ := List.mem_iff_getElem?.1 hb
  rw [List.getElem?_take] at hi
  split at hi
  · rename_i hik
    rw [List.getElem?_drop] at hj
    have h1 := (List.getElem?_eq_some_iff.1 hi).1
    have h2 := (List.getElem?_eq_some_iff.1 hj).1
    obtain ⟨x, hx⟩ : ∃ x, L[k1 - 1]? = some x := ⟨_, List.getElem?_eq_getElem (by omega)⟩
    obtain ⟨y, hy⟩ : ∃ y, R[k2]? = some y := ⟨_, List.getElem?_eq_getElem (by omega)⟩
    exact hw.ntr b y a (sd_get' hw hR (by omega) hy hj) (hw.ntr y x a (h (by omega) x y hx hy) (sd_get' hw hL (by omega) hi hx))
  · cases hi
theorem border_lt {lt : α → α → Bool} (hw : Swo lt) {L R : List α} (hL : Sd lt L) (hR : Sd lt R) {k1 k2 : Nat} (hk : k2 ≤ R.length) (h : 0 < k2 → ∀ x y, L[k1]? = some x → R[k2 - 1]? = some y → lt y x = true) : ∀ a ∈ L.drop k1, ∀ b ∈ R.take k2, lt b a = true := by
  intro a ha b hb
  obtain ⟨i, hi⟩ := List.mem_iff_getElem?.1 ha
  obtain ⟨j, hj⟩ := List.mem_iff_getElem?.1 hb
  rw [List.getElem?_take] at hj
  split at hj
  · rename_i hjk
    rw [List.getElem?_drop] at hi
    have h1 := (List.getElem?_eq_some_iff.1 hi).1
    have h2 := (List.getElem?_eq_some_iff.1 hj).1
    obtain ⟨x, hx⟩ : ∃ x, L[k1]? = some x := ⟨_, List.getElem?_eq_getElem (by omega)⟩
    obtain ⟨y, hy⟩ : ∃ y, R[k2 - 1]? = some y := ⟨_, List.getElem?_eq_getElem (by omega)⟩
    rw [← Bool.not_eq_false]
    intro e
    have h3 := hw.ntr y b x (sd_get' hw hR (by omega) hj hy) (hw.ntr b a x e (sd_get' hw hL (by omega) hx hi))
    rw [h (by omega) x y hx hy] at h3
    cases h3
  · cases hj
/-- Insertion, plainly: behind the last one that isn't above it. -/
def insS (lt : α → α → Bool) (v : α) (l : List α) : List α := l.takeWhile (fun x => !lt v x) ++ v :: l.dropWhile (fun x => !lt v x)
end Go.Proofs.Ytffggkhahambhaa.Stab

namespace Go.Proofs.Ytffggkhahambhaa.Tr
open Go.RowKit Go.Proofs.YtffggkhahambhaaW.PrintWords Go.Proofs.YtffggkhahambhaaW.PrintLast Go.Proofs.YtffggkhahambhaaW.PrintMore Go.Proofs.Ytffggkhahambhaa.Math Go.Proofs.Ytffggkhahambhaa.PAll Go.Proofs.Ytffggkhahambhaa.Stab
open Go.Sort (HoldsK flatK get_flatK size_flatK)
set_option linter.unusedVariables false
set_option linter.unusedSimpArgs false

/-- The row, and what else may have changed. -/
structure Sr (w0 w : World) (base g n c : Nat) (ys : List Sp) : Prop where
  row : Kd.R kS 34 w base (fun _ => True) (.slice (some ⟨g, 0, none⟩) n c) ys
  gr : w0.grownBy w (some g)
theorem grownBy_refl (w : World) (r : Option Nat) : w.grownBy w r := ⟨rfl, rfl, rfl, Nat.le_refl _, fun _ _ _ => rfl⟩
theorem grownBy_trans {w0 w1 w2 : World} {r : Option Nat} (h : w0.grownBy w1 r) (k : w1.grownBy w2 r) : w0.grownBy w2 r :=
  ⟨k.os.trans h.os, k.tape.trans h.tape, k.output.trans h.output, Nat.le_trans h.size k.size, fun i hi hn => (k.block i (Nat.lt_of_lt_of_le hi h.size) hn).trans (h.block i hi hn)⟩
theorem grownBy_below {w w1 : World} (r : Option Nat) (h : Below w.heap.size w w1) : w.grownBy w1 r := ⟨h.os, h.tape, h.output, h.size, fun k hk _ => h.block k hk⟩
theorem Sr.start {w : World} {base g n c : Nat} {ys : List Sp} (h : Kd.R kS 34 w base (fun _ => True) (.slice (some ⟨g, 0, none⟩) n c) ys) : Sr w w base g n c ys := ⟨h, grownBy_refl _ _⟩
theorem Sr.next {w0 w w1 : World} {base g n c : Nat} {ys : List Sp} (h : Sr w0 w base g n c ys) (hb : Below w.heap.size w w1) : Sr w0 w1 base g n c ys := ⟨Kd.R_below h.row hb, grownBy_trans h.gr (grownBy_below _ hb)⟩
theorem Sr.drew {w0 w : World} {base g n c : Nat} {ys : List Sp} (h : Sr w0 w base g n c ys) : Sr w0 w.drew base g n c ys := h.next (below_drew (Below.refl _ _))
theorem Sr.then_ {w0 w1 w2 : World} {base g n c : Nat} {ys zs : List Sp} (h : Sr w0 w1 base g n c ys) (k : Sr w1 w2 base g n c zs) : Sr w0 w2 base g n c zs := ⟨k.row, grownBy_trans h.gr k.gr⟩
theorem Sr.len {w0 w : World} {base g n c : Nat} {ys : List Sp} (h : Sr w0 w base g n c ys) : n = ys.length := (Kd.R_reads' h.row).1
theorem Sr.holds {w0 w : World} {base g n c : Nat} {ys : List Sp} (h : Sr w0 w base g n c ys) (h0 : 0 < ys.length) : HoldsK encS 11 w g 0 ys.toArray := by
  obtain ⟨g', cur, he, hn, hg, hh, hnc, hcm, hcs, hr⟩ := row_open h.row h0
  injection he with he
  subst he
  exact holds_of hh hnc hcs hr
theorem Sr.ld {w0 w : World} {base g n c : Nat} {ys : List Sp} (h : Sr w0 w base g n c ys) {i : Nat} {x : Sp} (hx : ys[i]? = some x) (P : Program) : Sem.run P (loadCellsFrom ⟨g, i * 11, none⟩ 0 11 #[]) w = .ok (encS x).toArray w := by
  obtain ⟨hi, he⟩ := List.getElem?_eq_some_iff.1 hx
  have hH := h.holds (by omega)
  have := run_loadCellsFrom_list P w ⟨g, 0 + i * 11, none⟩ (encS (ys.toArray[i]!)) 11 (encS_len _) (HoldsK.cells hH encS_len (by simpa using hi))
  rw [Nat.zero_add] at this
  rw [this]
  have e : ys.toArray[i]! = x := by simp [hi, he]
  rw [e]
theorem Sr.st {w0 w : World} {base g n c : Nat} {ys : List Sp} (h : Sr w0 w base g n c ys) {i : Nat} (hi : i < ys.length) (x : Sp) (P : Program) : Sem.run P (storeCells ⟨g, i * 11, none⟩ (encS x) 0) w = .ok () (w.setCells g (i * 11) (encS x)) := by
  have hH := h.holds (by omega)
  have := stores_of_holds P hH (i * 11) (encS x) (by rw [encS_len, size_flatK]; have : i * 11 + 11 ≤ ys.length * 11 := by omega
                                                     simpa using this) (encS_one x)
  rw [Nat.zero_add] at this
  exact this
theorem setCells_put (w : World) (g o : Nat) (x : Sp) : w.setCells g o (encS x) = putA w ⟨g, o, none⟩ x := rfl
theorem Sr.put {w0 w : World} {base g n c : Nat} {ys : List Sp} (h : Sr w0 w base g n c ys) {i : Nat} (hi : i < ys.length) (x : Sp) : Sr w0 (w.setCells g (i * 11) (encS x)) base g n c (ys.set i x) := by
  have hp := (row_put h.row hi x).1
  have hb := (row_put h.row hi x).2.1
  rw [add_at] at hp hb
  rw [setCells_put]
  exact ⟨hp, grownBy_trans h.gr ⟨hb.os, hb.tape, hb.output, hb.size, fun k _ hk => putA_far x (fun e => hk (by rw [e]))⟩⟩
theorem set_set {P M Q : List Sp} {x y : Sp} : ((P ++ x :: (M ++ y :: Q)).set P.length y).set (P.length + (M.length + 1)) x = P ++ y :: (M ++ x :: Q) := by
  rw [List.set_append_right _ _ (Nat.le_refl _), Nat.sub_self, List.set_cons_zero, List.set_append_right _ _ (by omega), show P.length + (M.length + 1) - P.length = M.length + 1 by omega, List.set_cons_succ, List.set_append_right _ _ (Nat.le_refl _), Nat.sub_self, List.set_cons_zero]

set_option maxHeartbeats 4000000 in
set_option maxRecDepth 1000000 in
theorem swapRange_calls (w0 : World) (base g n c : Nat) (A B M P Q : List Sp) (a b k : Nat) (f : Value) (w : World) (ha : P.length = a) (hb : P.length + A.length + M.length = b) (hA : A.length = k) (hB : B.length = k) (hn : n ≤ 1000000) (hS : Sr w0 w base g n c (P ++ A ++ M ++ B ++ Q)) :
    Calls Try.prog 81 #[.slice (some ⟨g, 0, none⟩) n c, .int .i64 a, .int .i64 b, .int .i64 k, f] w fun e w' => e = .returned (.tuple #[]) ∧ Sr w0 w' base g n c (P ++ B ++ M ++ A ++ Q) := by
  have HS := Lib.hid hS
  have HA := Lib.hid hA
  have HB := Lib.hid hB
  have HPa := Lib.hid ha
  have HPb := Lib.hid hb
  have HN := Lib.hid hn
  have HL := Lib.hid (show n = P.length + k + M.length + k + Q.length by have := hS.len; simp only [List.length_append] at this; omega)
  clear hS hA hB ha hb hn
  go_enter Try.func81, Try.ntmps81
  go_wp2
  go_loopw [10] (fun s wr => ∃ i : Nat, i ≤ k ∧ s = .int .i64 i ∧ Hid (Sr w0 wr base g n c (P ++ (B.take i ++ A.drop i) ++ M ++ (A.take i ++ B.drop i) ++ Q))) (fun s _ => k - (intOf s).toNat)
  case atStart => exact ⟨0, Nat.zero_le _, rfl, Lib.hid (by simpa using HS.out)⟩
  case round =>
    clear HS
    obtain ⟨i, hi, rfl, HS⟩ := hrel
    by_cases hlt : i < k
    · obtain ⟨x, hx⟩ : ∃ x, A[i]? = some x := ⟨_, List.getElem?_eq_getElem (by rw [HA.out]; exact hlt)⟩
      obtain ⟨y, hy⟩ : ∃ y, B[i]? = some y := ⟨_, List.getElem?_eq_getElem (by rw [HB.out]; exact hlt)⟩
      obtain ⟨hxl, hxe⟩ := List.getElem?_eq_some_iff.1 hx
      obtain ⟨hyl, hye⟩ := List.getElem?_eq_some_iff.1 hy
      have hs0 : P ++ (B.take i ++ A.drop i) ++ M ++ (A.take i ++ B.drop i) ++ Q = (P ++ B.take i) ++ x :: ((A.drop (i + 1) ++ M ++ A.take i) ++ y :: (B.drop (i + 1) ++ Q)) := by
        rw [List.drop_eq_getElem_cons hxl, List.drop_eq_getElem_cons hyl, hxe, hye]
        simp only [List.append_assoc, List.cons_append]
      have hs1 : (P ++ B.take i) ++ y :: ((A.drop (i + 1) ++ M ++ A.take i) ++ x :: (B.drop (i + 1) ++ Q)) = P ++ (B.take (i + 1) ++ A.drop (i + 1)) ++ M ++ (A.take (i + 1) ++ B.drop (i + 1)) ++ Q := by
        rw [List.take_succ_eq_append_getElem hxl, List.take_succ_eq_append_getElem hyl, hxe, hye]
        simp only [List.append_assoc, List.cons_append, List.singleton_append, List.nil_append]
      rw [hs0] at HS
      obtain ⟨P', hP'⟩ : ∃ P', P ++ B.take i = P' := ⟨_, rfl⟩
      obtain ⟨M', hM'⟩ : ∃ M', A.drop (i + 1) ++ M ++ A.take i = M' := ⟨_, rfl⟩
      obtain ⟨Q', hQ'⟩ : ∃ Q', B.drop (i + 1) ++ Q = Q' := ⟨_, rfl⟩
      have hPl : P'.length = a + i := by rw [← hP', List.length_append, List.length_take, HB.out, HPa.out]; omega
      have hMl : P'.length + (M'.length + 1) = b + i := by rw [hPl, ← hM', List.length_append, List.length_append, List.length_drop, List.length_take, HA.out, ← HPb.out, HPa.out, HA.out]; omega
      rw [hP', hM', hQ'] at HS hs1
      have HS1 := Lib.hid hs1
      clear hs0 hs1 hP' hM' hQ' hx hy hxl hxe hyl hye
      obtain ⟨X, hX⟩ : ∃ X, a + i = X := ⟨_, rfl⟩
      obtain ⟨Y, hY⟩ : ∃ Y, b + i = Y := ⟨_, rfl⟩
      rw [hX] at hPl
      rw [hY] at hMl
      have hsw := set_set (P := P') (M := M') (Q := Q') (x := x) (y := y)
      rw [hMl, hPl] at hsw
      have hgx : (P' ++ x :: (M' ++ y :: Q'))[X]? = some x := by rw [← hPl, List.getElem?_append_right (Nat.le_refl _), Nat.sub_self]; rfl
      have hgy : (P' ++ x :: (M' ++ y :: Q'))[Y]? = some y := by rw [← hMl, List.getElem?_append_right (by omega), show P'.length + (M'.length + 1) - P'.length = M'.length + 1 by omega, List.getElem?_cons_succ, List.getElem?_append_right (Nat.le_refl _), Nat.sub_self]; rfl
      have hXl : X < (P' ++ x :: (M' ++ y :: Q')).length := (List.getElem?_eq_some_iff.1 hgx).1
      have hYl : Y < (P' ++ x :: (M' ++ y :: Q')).length := (List.getElem?_eq_some_iff.1 hgy).1
      have hn2 := HS.out.len
      have HSd := HS.out.drew
      have HSx := HSd.put hXl y
      have HSy := HSx.put (i := Y) (by rw [List.length_set]; exact hYl) x
      rw [hsw, HS1.out] at HSy
      have HSZ := Lib.hid HSy
      have HWX := Lib.hid (show wrap64 ((a : Int) + (i : Int)) = (X : Int) by have := HN.out; unfold wrap64; omega)
      have HWY := Lib.hid (show wrap64 ((b : Int) + (i : Int)) = (Y : Int) by have := HN.out; unfold wrap64; omega)
      have HW := Lib.hid (show wrap64 ((i : Int) + 1) = ((i + 1 : Nat) : Int) by have := HN.out; have := HL.out; unfold wrap64; omega)
      have HK := Lib.hid (show i + 1 ≤ k by omega)
      have HKN := Lib.hid (show k ≤ 1000000 by have := HN.out; have := HL.out; omega)
      have q : (i : Int) < (k : Int) := by omega
      have e1 : ((X : Int)).toNat = X := by omega
      have p1 : (0 : Int) ≤ (X : Int) := by omega
      have b1 : (X : Int) < (n : Int) := by omega
      have r1 : IntKind.i64.wrap ((X : Int)) = (X : Int) := by rw [IntKind.wrap_i64]; have := HN.out; omega
      have e2 : ((Y : Int)).toNat = Y := by omega
      have p2 : (0 : Int) ≤ (Y : Int) := by omega
      have b2 : (Y : Int) < (n : Int) := by omega
      have r2 : IntKind.i64.wrap ((Y : Int)) = (Y : Int) := by rw [IntKind.wrap_i64]; have := HN.out; omega
      have la := HSd.ld hgx Try.prog
      have lb := HSd.ld hgy Try.prog
      have sa := HSd.st hXl y Try.prog
      have sb := HSx.st (i := Y) (by rw [List.length_set]; exact hYl) x Try.prog
      have na : (encS x).length = 11 := encS_len x
      have nb : (encS y).length = 11 := encS_len y
      have aX : (⟨g, 0, none⟩ : Addr).add (X * 11) = ⟨g, X * 11, none⟩ := add_at _ _
      have aY : (⟨g, 0, none⟩ : Addr).add (Y * 11) = ⟨g, Y * 11, none⟩ := add_at _ _
      have aE := Try.isAgg34
      have zE := Try.sizeOf34
      have hwx := HWX.out
      have hwy := HWY.out
      obtain ⟨kk, hkk⟩ : ∃ kk : Nat, kk = 11 := ⟨_, rfl⟩
      have HKK := Lib.hid hkk
      rw [← hkk] at la lb sa sb na nb aX aY HSZ
      simp only [← hkk] at zE
      generalize encS x = cx at la lb sa sb na HSZ
      generalize encS y = cy at lb sa sb nb HSZ
      clear hkk
      clear hgx hgy hXl hYl hn2 HSd HSx HSy hsw hPl hMl hX hY hlt hi
      have mixed : Try.prog.follows Departure.mixedOrders = true := by kernel_rfl
      go_upto_region 3 with (fail)
      go_big_region_o
      clear la lb sa sb
      generalize (wr.drew.setCells g (X * kk) cy).setCells g (Y * kk) cx = w2 at HSZ ⊢
      go_wp2
      go_roundw
      case rel => exact ⟨i + 1, HK.out, by rw [HW.out], HSZ⟩
      case measure => exact meas_up HKN.out HK.out
    · have hik : i = k := by omega
      subst hik
      have q : decide ((i : Int) < (i : Int)) = false := decide_eq_false (by omega)
      have HE := Lib.hid (show Sr w0 wr base g n c (P ++ B ++ M ++ A ++ Q) by
        have h := HS.out
        rw [List.take_of_length_le (by rw [HB.out]; exact Nat.le_refl _), List.drop_eq_nil_of_le (by rw [HA.out]; exact Nat.le_refl _), List.take_of_length_le (by rw [HA.out]; exact Nat.le_refl _), List.drop_eq_nil_of_le (by rw [HB.out]; exact Nat.le_refl _), List.append_nil, List.append_nil] at h
        exact h)
      clear hlt hi
      go_wp2
      go_end0
      exact ⟨rfl, HE.out⟩
end Go.Proofs.Ytffggkhahambhaa.Tr

namespace Go.Proofs.Ytffggkhahambhaa.Tr
open Go.RowKit Go.Proofs.YtffggkhahambhaaW.PrintWords Go.Proofs.YtffggkhahambhaaW.PrintLast Go.Proofs.YtffggkhahambhaaW.PrintMore Go.Proofs.Ytffggkhahambhaa.Math Go.Proofs.Ytffggkhahambhaa.PAll Go.Proofs.Ytffggkhahambhaa.Stab
set_option linter.unusedVariables false
set_option linter.unusedSimpArgs false
theorem w64 (x : Int) (h1 : -9223372036854775808 ≤ x) (h2 : x ≤ 9223372036854775807) : wrap64 x = x := by unfold wrap64; omega
theorem rot_meas1 {x y j : Nat} (hx : x = y - j) (hj : 0 < j) (hy : j < y) : (intOf (.int .i64 (x : Int)) + intOf (.int .i64 (j : Int))).toNat < (intOf (.int .i64 (y : Int)) + intOf (.int .i64 (j : Int))).toNat := by
  show ((x : Int) + (j : Int)).toNat < ((y : Int) + (j : Int)).toNat
  omega
theorem rot_meas2 {x y j : Nat} (hx : x = y - j) (hj : 0 < j) (hy : j < y) : (intOf (.int .i64 (j : Int)) + intOf (.int .i64 (x : Int))).toNat < (intOf (.int .i64 (j : Int)) + intOf (.int .i64 (y : Int))).toNat := by
  show ((j : Int) + (x : Int)).toNat < ((j : Int) + (y : Int)).toNat
  omega

set_option maxHeartbeats 4000000 in
set_option maxRecDepth 1000000 in
theorem rotate_calls (w0 : World) (base g n c : Nat) (P X Y Q : List Sp) (a m b : Nat) (f : Value) (w : World) (ha : P.length = a) (hm : P.length + X.length = m) (hb : m + Y.length = b) (hX : 0 < X.length) (hY : 0 < Y.length) (hn : n ≤ 1000000) (hS : Sr w0 w base g n c (P ++ X ++ Y ++ Q)) :
    Calls Try.prog 77 #[.slice (some ⟨g, 0, none⟩) n c, .int .i64 a, .int .i64 m, .int .i64 b, f] w fun e w' => e = .returned (.tuple #[]) ∧ Sr w0 w' base g n c (P ++ Y ++ X ++ Q) := by
  have HS := Lib.hid hS
  have HN := Lib.hid hn
  have hlen := hS.len
  simp only [List.length_append] at hlen
  have HM := Lib.hid (show m ≤ 1000000 by omega)
  have HX := Lib.hid hX
  have HY := Lib.hid hY
  have HPX := Lib.hid hm
  have HI := Lib.hid (show wrap64 ((m : Int) - (a : Int)) = (X.length : Int) by rw [w64 _ (by omega) (by omega)]; omega)
  have HJ := Lib.hid (show wrap64 ((b : Int) - (m : Int)) = (Y.length : Int) by rw [w64 _ (by omega) (by omega)]; omega)
  clear hS hn hlen ha hm hb hX hY
  go_enter Try.func77, Try.ntmps77
  have hi := HI.out
  have hj := HJ.out
  go_wp2
  clear hi hj
  go_loopw [10, 11] (fun s t wr => ∃ (P' X' Y' Q' : List Sp), s = .int .i64 X'.length ∧ t = .int .i64 Y'.length ∧ Hid (P'.length + X'.length = m) ∧ Hid (0 < X'.length) ∧ Hid (0 < Y'.length) ∧ Hid (P' ++ Y' ++ X' ++ Q' = P ++ Y ++ X ++ Q) ∧ Hid (Sr w0 wr base g n c (P' ++ X' ++ Y' ++ Q'))) (fun s t _ => (intOf s + intOf t).toNat)
  case atStart => exact ⟨P, X, Y, Q, by rw [HI.out], by rw [HJ.out], HPX, HX, HY, Lib.hid rfl, HS⟩
  case round =>
    clear HS HX HY HPX HI HJ
    obtain ⟨P', X', Y', Q', rfl, rfl, HPX, HX, HY, HE, HS⟩ := hrel
    have hlen := HS.out.len
    simp only [List.length_append] at hlen
    obtain ⟨p, hp⟩ : ∃ p, P'.length = p := ⟨_, rfl⟩
    obtain ⟨x, hx⟩ : ∃ x, X'.length = x := ⟨_, rfl⟩
    obtain ⟨y, hy⟩ : ∃ y, Y'.length = y := ⟨_, rfl⟩
    rw [hx, hy]
    have hpx := HPX.out
    have hx0 := HX.out
    have hy0 := HY.out
    have hn := HN.out
    rw [hp, hx] at hpx
    rw [hx] at hx0
    rw [hy] at hy0
    have HP := Lib.hid hp
    have HXl := Lib.hid hx
    have HYl := Lib.hid hy
    have HW := Lib.hid (show wrap64 ((m : Int) - (x : Int)) = (p : Int) by rw [w64 _ (by omega) (by omega)]; omega)
    rcases Nat.lt_trichotomy x y with hlt | heq | hgt
    · -- the rest of the right block stays
      have HSP := Lib.hid (List.take_append_drop (y - x) Y')
      have HL2 := Lib.hid (show (Y'.drop (y - x)).length = x by rw [List.length_drop, hy]; omega)
      have HL1 := Lib.hid (show (Y'.take (y - x)).length = y - x by rw [List.length_take, hy]; omega)
      obtain ⟨Y1, hY1⟩ : ∃ Y1, Y'.take (y - x) = Y1 := ⟨_, rfl⟩
      obtain ⟨Y2, hY2⟩ : ∃ Y2, Y'.drop (y - x) = Y2 := ⟨_, rfl⟩
      rw [hY1, hY2] at HSP
      rw [hY2] at HL2
      rw [hY1] at HL1
      obtain ⟨z, hz⟩ : ∃ z, y - x = z := ⟨_, rfl⟩
      rw [hz] at HL1
      have HZ := Lib.hid hz
      have HLT := Lib.hid hlt
      have hsr := HS.out
      rw [← HSP.out] at hsr
      have hcall := swapRange_calls w0 base g n c X' Y2 Y1 P' Q' p (m + z) x f wr HP.out (by rw [HP.out, HXl.out, HL1.out]; omega) HXl.out HL2.out HN.out (by simpa only [List.append_assoc] using hsr)
      obtain ⟨mz, hmz⟩ : ∃ mz, m + z = mz := ⟨_, rfl⟩
      rw [hmz] at hcall
      have HCALL := Lib.hid hcall
      have HW2 := Lib.hid (show wrap64 (wrap64 ((m : Int) + (y : Int)) - (x : Int)) = (mz : Int) by rw [w64 ((m : Int) + (y : Int)) (by omega) (by omega), w64 _ (by omega) (by omega)]; omega)
      have HW3 := Lib.hid (show wrap64 ((y : Int) - (x : Int)) = (z : Int) by rw [w64 _ (by omega) (by omega)]; omega)
      have q1 : ((x : Int) == (y : Int)) = false := beq_eq_false_iff_ne.2 (by omega)
      have q1' : ((x : Int) != (y : Int)) = true := by rw [bne, q1]; rfl
      have q2 : decide ((y : Int) < (x : Int)) = false := decide_eq_false (by omega)
      have q2' : (x : Int) < (y : Int) := by omega
      clear hcall hsr hlen hp hx hy hpx hx0 hn hz hmz hlt hY1 hY2
      have hw := HW.out
      have hw2 := HW2.out
      have hw3 := HW3.out
      go_wp2_with fail
      refine HCALL.out.mono ?_
      rintro e w2 ⟨rfl, hs2⟩
      have HS2 := Lib.hid hs2
      clear hs2
      go_wp2
      go_roundw
      case rel => exact ⟨P', Y2, Y1, X' ++ Q', by rw [HL2.out], by rw [HL1.out]; first | rfl | rw [hw3], by rw [HL2.out]; exact Lib.hid (by have := HPX.out; rw [HXl.out] at this; exact this), Lib.hid (by rw [HL2.out, ← HXl.out]; exact HX.out), Lib.hid (by rw [HL1.out]; have h1 := HZ.out; have h2 := HLT.out; omega), Lib.hid (by rw [← HE.out, ← HSP.out]; simp only [List.append_assoc]), Lib.hid (by have := HS2.out; simpa only [List.append_assoc] using this)⟩
      case measure => first | (rw [hw3]; exact rot_meas2 HZ.out.symm (by have := HX.out; rw [HXl.out] at this; exact this) HLT.out) | exact rot_meas2 HZ.out.symm (by have := HX.out; rw [HXl.out] at this; exact this) HLT.out
    · subst heq
      have q1 : ((x : Int) == (x : Int)) = true := beq_iff_eq.2 rfl
      have hcall := swapRange_calls w0 base g n c X' Y' [] P' Q' p m x f wr HP.out (by rw [HP.out, HXl.out, List.length_nil]; omega) HXl.out HYl.out HN.out (by simpa using HS.out)
      have HCALL := Lib.hid hcall
      clear hcall hlen hp hx hy hpx hx0 hy0 hn
      have hw := HW.out
      go_wp2_with fail
      refine HCALL.out.mono ?_
      rintro e w2 ⟨rfl, hs2⟩
      have HS2 := Lib.hid hs2
      clear hs2
      go_wp2
      go_end0
      exact ⟨rfl, by rw [← HE.out]; simpa using HS2.out⟩
    · have HSP := Lib.hid (List.take_append_drop y X')
      have HL1 := Lib.hid (show (X'.take y).length = y by rw [List.length_take, hx]; omega)
      have HL2 := Lib.hid (show (X'.drop y).length = x - y by rw [List.length_drop, hx])
      obtain ⟨X1, hX1⟩ : ∃ X1, X'.take y = X1 := ⟨_, rfl⟩
      obtain ⟨X2, hX2⟩ : ∃ X2, X'.drop y = X2 := ⟨_, rfl⟩
      rw [hX1, hX2] at HSP
      rw [hX1] at HL1
      rw [hX2] at HL2
      obtain ⟨z, hz⟩ : ∃ z, x - y = z := ⟨_, rfl⟩
      rw [hz] at HL2
      have HZ := Lib.hid hz
      have HGT := Lib.hid hgt
      have hsr := HS.out
      rw [← HSP.out] at hsr
      have hcall := swapRange_calls w0 base g n c X1 Y' X2 P' Q' p m y f wr HP.out (by rw [HP.out, HL1.out, HL2.out]; omega) HL1.out HYl.out HN.out (by simpa only [List.append_assoc] using hsr)
      have HCALL := Lib.hid hcall
      have HW3 := Lib.hid (show wrap64 ((x : Int) - (y : Int)) = (z : Int) by rw [w64 _ (by omega) (by omega)]; omega)
      have HPZ := Lib.hid (show p + y + z = m by omega)
      have q1 : ((x : Int) == (y : Int)) = false := beq_eq_false_iff_ne.2 (by omega)
      have q1' : ((x : Int) != (y : Int)) = true := by rw [bne, q1]; rfl
      have q2 : (y : Int) < (x : Int) := by omega
      clear hcall hsr hlen hp hx hy hpx hx0 hn hz hgt hX1 hX2
      have hw := HW.out
      have hw3 := HW3.out
      go_wp2_with fail
      refine HCALL.out.mono ?_
      rintro e w2 ⟨rfl, hs2⟩
      have HS2 := Lib.hid hs2
      clear hs2
      go_wp2
      go_roundw
      case rel => exact ⟨P' ++ Y', X2, X1, Q', by rw [HL2.out]; first | rfl | rw [hw3], by rw [HL1.out], Lib.hid (by rw [List.length_append, HL2.out, HP.out, HYl.out]; exact HPZ.out), Lib.hid (by rw [HL2.out]; have h1 := HZ.out; have h2 := HGT.out; omega), Lib.hid (by rw [HL1.out, ← HYl.out]; exact HY.out), Lib.hid (by rw [← HE.out, ← HSP.out]; simp only [List.append_assoc]), Lib.hid (by have := HS2.out; simpa only [List.append_assoc] using this)⟩
      case measure => first | (rw [hw3]; exact rot_meas1 HZ.out.symm (by have := HY.out; rw [HYl.out] at this; exact this) HGT.out) | exact rot_meas1 HZ.out.symm (by have := HY.out; rw [HYl.out] at this; exact this) HGT.out
end Go.Proofs.Ytffggkhahambhaa.Tr

namespace Go.Proofs.Ytffggkhahambhaa.Tr
open Go.RowKit Go.Proofs.YtffggkhahambhaaW.PrintWords Go.Proofs.YtffggkhahambhaaW.PrintLast Go.Proofs.YtffggkhahambhaaW.PrintMore Go.Proofs.Ytffggkhahambhaa.Math Go.Proofs.Ytffggkhahambhaa.PAll Go.Proofs.Ytffggkhahambhaa.Stab
set_option linter.unusedVariables false
set_option linter.unusedSimpArgs false
section
variable {P : Program} {ops : Array Oper} {Q : Exit → Act → World → Prop}
/-- A call of a function value: as goes_. -/
theorem goesv_ {oi : Oper} {N : Option Tmp} {a : Act} {w : World} {K : Act → World → Prop} {f : FuncId} {fn : Func} {x : Operand} {cap : Array Value} {as_ : Array Operand} {ts : Array TypeId} (hf : P.funcs[f]? = some fn) (hname : (fn.name == "runtime.NumGoroutine") = false) (hb : fn.body.isSome = true) (args : Array Value)
    (hw : Region.wanted oi (yielded ops a.tmps) = true) (hN : oi.dst = N) (hop : oi.op = .call { callee := .value x, args := as_, argTypes := ts }) (hx : a.eval x = .func (.func f) #[] cap) (hargs : as_.map a.eval ++ cap = args)
    (h : Calls P f args w fun e w' => ∃ v, e = .returned v ∧ K (a.put N v) w') : if Region.wanted oi (yielded ops a.tmps) = true then Oper.wp P oi a w K Q else K (a.put N undef) w := by
  refine call_ f args hw hN ?_ h
  have he := enters_ hf hname hb args w
  unfold execOp
  simp [hop, resolve, Deferred.ofValue, invoke, hargs, hx, he]
end
theorem ins_down (p : Nat) : (intOf (.int .i64 (p : Int))).toNat < (intOf (.int .i64 ((p + 1 : Nat) : Int))).toNat := by
  show ((p : Nat) : Int).toNat < ((p + 1 : Nat) : Int).toNat
  omega
theorem ins_meas {b I : Nat} (h : I < b) : b + 1 - (intOf (.int .i64 ((I + 1 : Nat) : Int))).toNat < b + 1 - (intOf (.int .i64 (I : Int))).toNat := by
  show b + 1 - ((I + 1 : Nat) : Int).toNat < b + 1 - ((I : Nat) : Int).toNat
  omega
/-- What compares, while the row is sorted: bq the query's block. -/
def Cmp (w0 : World) (g bq : Nat) (cf : Sp → Sp → Int) : Prop := ∀ (x y : Sp) (w : World), w0.grownBy w (some g) → Calls Try.prog 27 #[.agg (encS x).toArray, .agg (encS y).toArray, .pointer (some ⟨bq, 0, none⟩)] w fun e w' => e = .returned (.int .i64 (cf x y)) ∧ Below w.heap.size w w'
def ltC (cf : Sp → Sp → Int) (x y : Sp) : Bool := decide (cf x y < 0)
theorem set_set' {P Q : List Sp} {x y : Sp} : ((P ++ x :: y :: Q).set (P.length + 1) x).set P.length y = P ++ y :: x :: Q := by
  rw [List.set_append_right _ _ (by omega), show P.length + 1 - P.length = 1 by omega, List.set_cons_succ, List.set_cons_zero, List.set_append_right _ _ (Nat.le_refl _), Nat.sub_self, List.set_cons_zero]
theorem Sr.ldk {w0 w : World} {base g n c : Nat} {ys : List Sp} (h : Sr w0 w base g n c ys) {i : Nat} {x : Sp} (hx : ys[i]? = some x) {kk : Nat} (hk : kk = 11) (P : Program) : Sem.run P (loadCellsFrom ⟨g, i * kk, none⟩ 0 kk #[]) w = .ok (encS x).toArray w := by subst hk; exact h.ld hx P

set_option maxHeartbeats 8000000 in
set_option maxRecDepth 1000000 in
theorem insertion_calls (w0 : World) (base g n c bq : Nat) (cf : Sp → Sp → Int) (hw : Swo (ltC cf)) (HC : Hid (Cmp w0 g bq cf)) (P X Q : List Sp) (a b : Nat) (w : World) (ha : P.length = a) (hb : a + X.length = b) (hn : n ≤ 1000000) (hS : Sr w0 w base g n c (P ++ X ++ Q)) :
    Calls Try.prog 66 #[.slice (some ⟨g, 0, none⟩) n c, .int .i64 a, .int .i64 b, .func (.func 27) #[] #[.pointer (some ⟨bq, 0, none⟩)]] w fun e w' => e = .returned (.tuple #[]) ∧ ∃ S, S.length = X.length ∧ Stb (ltC cf) X S ∧ Sr w0 w' base g n c (P ++ S ++ Q) := by
  have HWO := Lib.hid hw
  have HN := Lib.hid hn
  have HPa := Lib.hid ha
  have hlen := hS.len
  simp only [List.length_append] at hlen
  have HAB := Lib.hid hb
  have HBN := Lib.hid (show b ≤ 1000000 by omega)
  have HS := Lib.hid (show Sr w0 w base g n c (P ++ X.take 1 ++ X.drop 1 ++ Q) by rw [List.append_assoc P, List.take_append_drop]; exact hS)
  have HS1 := Lib.hid (show Stb (ltC cf) (X.take 1) (X.take 1) by
    cases X with
    | nil => exact Stb.nil _
    | cons x r => exact ⟨List.pairwise_singleton _ _, Kp.refl _ _⟩)
  clear hw hn ha hb hS hlen
  have HA1 := Lib.hid (show wrap64 ((a : Int) + 1) = ((a + 1 : Nat) : Int) by rw [w64 _ (by omega) (by have := HAB.out; have := HBN.out; omega)]; omega)
  have mixed : Try.prog.follows Departure.mixedOrders = true := by kernel_rfl
  go_enter Try.func66, Try.ntmps66
  go_wp2
  go_loopw [8, 9] (fun s _ wr => ∃ (k I : Nat) (S : List Sp), s = .int .i64 I ∧ Hid (I = a + k) ∧ Hid (1 ≤ k) ∧ Hid (k ≤ X.length + 1) ∧ Hid (Stb (ltC cf) (X.take k) S) ∧ Hid (S.length = (X.take k).length) ∧ Hid (Sr w0 wr base g n c (P ++ S ++ X.drop k ++ Q))) (fun s _ _ => b + 1 - (intOf s).toNat)
  case atStart => exact ⟨1, a + 1, X.take 1, by rw [HA1.out], Lib.hid rfl, Lib.hid (Nat.le_refl _), Lib.hid (by omega), HS1, Lib.hid rfl, HS⟩
  case round =>
    clear HS HS1 HA1
    obtain ⟨k, I, S, rfl, HI, HK1, HKL, HST, HSL, HS⟩ := hrel
    by_cases hlt : I < b
    · have hkX : k < X.length := by have := HI.out; have := HAB.out; omega
      obtain ⟨v, hv⟩ : ∃ v, X[k]? = some v := ⟨_, List.getElem?_eq_getElem hkX⟩
      obtain ⟨hvl, hve⟩ := List.getElem?_eq_some_iff.1 hv
      have HTK := Lib.hid (show X.take (k + 1) = X.take k ++ [v] by rw [List.take_succ_eq_append_getElem hvl, hve])
      have hrow : P ++ S ++ X.drop k ++ Q = P ++ S ++ v :: ([] ++ (X.drop (k + 1) ++ Q)) := by
        rw [List.drop_eq_getElem_cons hvl, hve]; simp
      rw [hrow] at HS
      have HPS := Lib.hid (show P.length + S.length = I by rw [HPa.out, HSL.out, List.length_take, HI.out]; omega)
      have HLT := Lib.hid hlt
      have HKX := Lib.hid hkX
      have HWI := Lib.hid (show wrap64 ((I : Int) + 1) = ((I + 1 : Nat) : Int) by rw [w64 _ (by omega) (by have := HBN.out; omega)]; omega)
      obtain ⟨R, hR⟩ : ∃ R, X.drop (k + 1) ++ Q = R := ⟨_, rfl⟩
      have HRR := Lib.hid hR
      rw [hR] at HS
      have q : (I : Int) < (b : Int) := by omega
      clear hlt hkX hv hvl hve hrow hR
      go_wp2
      clear q
      go_loopw [9] (fun t wr => ∃ (j : Nat) (A B : List Sp), t = .int .i64 j ∧ Hid (P.length + A.length = j) ∧ Hid (j ≤ I) ∧ Hid (A ++ B = S) ∧ Hid (∀ x ∈ B, ltC cf v x = true) ∧ Hid (Sr w0 wr base g n c (P ++ A ++ v :: (B ++ R)))) (fun t _ => (intOf t).toNat)
      case atStart => exact ⟨I, S, [], rfl, HPS, Lib.hid (Nat.le_refl _), Lib.hid (List.append_nil S), Lib.hid (fun x hx => by cases hx), HS⟩
      case round =>
        clear HS HPS
        obtain ⟨j, A, B, rfl, HJ, HJI, HAB2, HBV, HS⟩ := hrel
        have OUT : Hid ((∀ x ∈ A, ltC cf v x = false) → ∀ wz, Sr w0 wz base g n c (P ++ A ++ v :: (B ++ R)) → Stb (ltC cf) (X.take (k + 1)) (A ++ v :: B) ∧ (A ++ v :: B).length = (X.take (k + 1)).length ∧ Sr w0 wz base g n c (P ++ (A ++ v :: B) ++ X.drop (k + 1) ++ Q)) := by
          show _ → _
          intro hA wz hz
          refine ⟨?_, ?_, ?_⟩
          · rw [HTK.out]
            have h := HST.out
            rw [← HAB2.out] at h
            exact Stb.add HWO.out h hA HBV.out
          · have h1 := HSL.out
            rw [← HAB2.out, List.length_append] at h1
            rw [HTK.out, List.length_append, List.length_append, List.length_cons, List.length_singleton]
            omega
          · have e : P ++ (A ++ v :: B) ++ X.drop (k + 1) ++ Q = P ++ A ++ v :: (B ++ R) := by rw [← HRR.out]; simp only [List.append_assoc, List.cons_append]
            rw [e]; exact hz
        rcases List.eq_nil_or_concat A with rfl | ⟨A, u, rfl⟩
        · have hja : j = a := by have := HJ.out; rw [List.length_nil] at this; have := HPa.out; omega
          have q1 : decide ((a : Int) < (j : Int)) = false := decide_eq_false (by omega)
          have q1n : decide (a < j) = false := decide_eq_false (by omega)
          have HO := Lib.hid (OUT.out (fun x hx => by cases hx) wr.drew HS.out.drew)
          clear hja
          go_upto_region 4 with (fail)
          refine start_ (n := 17) (S := fun w' => True) (ds := []) #[false, false, false, false, false, false, false, false, false, false, false, false, false, false, false, false, false] (by kernel_rfl) rfl rfl trivial (fun hHeld => ?_)
          generalize hwe : wr.drew = w5 at HO hHeld ⊢
          clear hwe
          refine pure_ (i := 0) (N := some 18) (v := ?_) (a' := ?_) #[true, false, false, false, false, false, false, false, false, false, false, false, false, false, false, false, false] rfl rfl (by kernel_rfl) (fun _ _ _ h => h) (Or.inl ⟨by rfl, ?_⟩) ?_ ?_
          rotate_left
          · intro w'
            go_simp
            with_reducible rfl
          rotate_left
          · simp only [Act.put, List.setIfInBounds_toArray, List.set_cons_zero, List.set_cons_succ, i64_w, i32_w]
            rfl
          refine pure_ (i := 1) (N := some 19) (v := ?_) (a' := ?_) #[true, true, false, false, false, false, false, false, false, false, false, false, false, false, false, false, false] rfl rfl (by kernel_rfl) (fun _ _ _ h => h) (Or.inl ⟨by rfl, ?_⟩) ?_ ?_
          rotate_left
          · intro w'
            go_simp
            with_reducible rfl
          rotate_left
          · simp only [Act.put, List.setIfInBounds_toArray, List.set_cons_zero, List.set_cons_succ, i64_w, i32_w]
            rfl
          refine pure_ (i := 2) (N := some 20) (v := ?_) (a' := ?_) #[true, true, true, false, false, false, false, false, false, false, false, false, false, false, false, false, false] rfl rfl (by kernel_rfl) (fun _ _ _ h => h) (Or.inl ⟨by rfl, ?_⟩) ?_ ?_
          rotate_left
          · intro w'
            go_simp
            with_reducible rfl
          rotate_left
          · simp only [Act.put, List.setIfInBounds_toArray, List.set_cons_zero, List.set_cons_succ, i64_w, i32_w]
            rfl
          refine pure_ (i := 3) (N := some 21) (v := ?_) (a' := ?_) #[true, true, true, true, false, false, false, false, false, false, false, false, false, false, false, false, false] rfl rfl (by kernel_rfl) (fun _ _ _ h => h) (Or.inl ⟨by rfl, ?_⟩) ?_ ?_
          rotate_left
          · intro w'
            go_simp
            with_reducible rfl
          rotate_left
          · simp only [Act.put, List.setIfInBounds_toArray, List.set_cons_zero, List.set_cons_succ, i64_w, i32_w]
            rfl
          refine pure_ (i := 4) (N := some 22) (v := undef) (a' := ?_) #[true, true, true, true, true, false, false, false, false, false, false, false, false, false, false, false, false] rfl rfl (by kernel_rfl) (fun _ _ _ h => h) (Or.inr ⟨by rfl, rfl⟩) ?_ ?_
          rotate_left
          · simp only [Act.put, List.setIfInBounds_toArray, List.set_cons_zero, List.set_cons_succ, i64_w, i32_w]
            rfl
          refine pure_ (i := 5) (N := some 23) (v := undef) (a' := ?_) #[true, true, true, true, true, true, false, false, false, false, false, false, false, false, false, false, false] rfl rfl (by kernel_rfl) (fun _ _ _ h => h) (Or.inr ⟨by rfl, rfl⟩) ?_ ?_
          rotate_left
          · simp only [Act.put, List.setIfInBounds_toArray, List.set_cons_zero, List.set_cons_succ, i64_w, i32_w]
            rfl
          refine pure_ (i := 6) (N := some 24) (v := undef) (a' := ?_) #[true, true, true, true, true, true, true, false, false, false, false, false, false, false, false, false, false] rfl rfl (by kernel_rfl) (fun _ _ _ h => h) (Or.inr ⟨by rfl, rfl⟩) ?_ ?_
          rotate_left
          · simp only [Act.put, List.setIfInBounds_toArray, List.set_cons_zero, List.set_cons_succ, i64_w, i32_w]
            rfl
          refine pure_ (i := 7) (N := some 25) (v := undef) (a' := ?_) #[true, true, true, true, true, true, true, true, false, false, false, false, false, false, false, false, false] rfl rfl (by kernel_rfl) (fun _ _ _ h => h) (Or.inr ⟨by rfl, rfl⟩) ?_ ?_
          rotate_left
          · simp only [Act.put, List.setIfInBounds_toArray, List.set_cons_zero, List.set_cons_succ, i64_w, i32_w]
            rfl
          refine pure_ (i := 8) (N := some 26) (v := undef) (a' := ?_) #[true, true, true, true, true, true, true, true, true, false, false, false, false, false, false, false, false] rfl rfl (by kernel_rfl) (fun _ _ _ h => h) (Or.inr ⟨by rfl, rfl⟩) ?_ ?_
          rotate_left
          · simp only [Act.put, List.setIfInBounds_toArray, List.set_cons_zero, List.set_cons_succ, i64_w, i32_w]
            rfl
          refine pure_ (i := 9) (N := some 27) (v := undef) (a' := ?_) #[true, true, true, true, true, true, true, true, true, true, false, false, false, false, false, false, false] rfl rfl (by kernel_rfl) (fun _ _ _ h => h) (Or.inr ⟨by rfl, rfl⟩) ?_ ?_
          rotate_left
          · simp only [Act.put, List.setIfInBounds_toArray, List.set_cons_zero, List.set_cons_succ, i64_w, i32_w]
            rfl
          refine pure_ (i := 10) (N := some 28) (v := undef) (a' := ?_) #[true, true, true, true, true, true, true, true, true, true, true, false, false, false, false, false, false] rfl rfl (by kernel_rfl) (fun _ _ _ h => h) (Or.inr ⟨by rfl, rfl⟩) ?_ ?_
          rotate_left
          · simp only [Act.put, List.setIfInBounds_toArray, List.set_cons_zero, List.set_cons_succ, i64_w, i32_w]
            rfl
          refine pure_ (i := 11) (N := some 29) (v := undef) (a' := ?_) #[true, true, true, true, true, true, true, true, true, true, true, true, false, false, false, false, false] rfl rfl (by kernel_rfl) (fun _ _ _ h => h) (Or.inr ⟨by rfl, rfl⟩) ?_ ?_
          rotate_left
          · simp only [Act.put, List.setIfInBounds_toArray, List.set_cons_zero, List.set_cons_succ, i64_w, i32_w]
            rfl
          refine pure_ (i := 12) (N := some 30) (v := undef) (a' := ?_) #[true, true, true, true, true, true, true, true, true, true, true, true, true, false, false, false, false] rfl rfl (by kernel_rfl) (fun _ _ _ h => h) (Or.inr ⟨by rfl, rfl⟩) ?_ ?_
          rotate_left
          · simp only [Act.put, List.setIfInBounds_toArray, List.set_cons_zero, List.set_cons_succ, i64_w, i32_w]
            rfl
          refine pure_ (i := 13) (N := some 31) (v := undef) (a' := ?_) #[true, true, true, true, true, true, true, true, true, true, true, true, true, true, false, false, false] rfl rfl (by kernel_rfl) (fun _ _ _ h => h) (Or.inr ⟨by rfl, rfl⟩) ?_ ?_
          rotate_left
          · simp only [Act.put, List.setIfInBounds_toArray, List.set_cons_zero, List.set_cons_succ, i64_w, i32_w]
            rfl
          refine pure_ (i := 14) (N := some 32) (v := undef) (a' := ?_) #[true, true, true, true, true, true, true, true, true, true, true, true, true, true, true, false, false] rfl rfl (by kernel_rfl) (fun _ _ _ h => h) (Or.inr ⟨by rfl, rfl⟩) ?_ ?_
          rotate_left
          · simp only [Act.put, List.setIfInBounds_toArray, List.set_cons_zero, List.set_cons_succ, i64_w, i32_w]
            rfl
          refine pure_ (i := 15) (N := some 33) (v := undef) (a' := ?_) #[true, true, true, true, true, true, true, true, true, true, true, true, true, true, true, true, false] rfl rfl (by kernel_rfl) (fun _ _ _ h => h) (Or.inr ⟨by rfl, rfl⟩) ?_ ?_
          rotate_left
          · simp only [Act.put, List.setIfInBounds_toArray, List.set_cons_zero, List.set_cons_succ, i64_w, i32_w]
            rfl
          refine pure_ (i := 16) (N := some 34) (v := ?_) (a' := ?_) #[true, true, true, true, true, true, true, true, true, true, true, true, true, true, true, true, true] rfl rfl (by kernel_rfl) (fun _ _ _ h => h) (Or.inl ⟨by rfl, ?_⟩) ?_ ?_
          rotate_left
          · intro w'
            go_simp
            with_reducible rfl
          rotate_left
          · simp only [Act.put, List.setIfInBounds_toArray, List.set_cons_zero, List.set_cons_succ, i64_w, i32_w]
            rfl
          refine done_ (by kernel_rfl) ?_
          go_wp2
          go_roundw
          case rel => exact ⟨k + 1, I + 1, _, by rw [HWI.out], Lib.hid (by have := HI.out; omega), Lib.hid (by omega), Lib.hid (by have := HKX.out; omega), Lib.hid HO.out.1, Lib.hid HO.out.2.1, Lib.hid HO.out.2.2⟩
          case measure => rw [HWI.out]; exact ins_meas HLT.out
        · rw [List.concat_eq_append] at HJ HAB2 HS OUT
          have hjl := HJ.out
          rw [List.length_append, List.length_singleton] at hjl
          obtain ⟨p, hp⟩ : ∃ p, P.length + A.length = p := ⟨_, rfl⟩
          have hjp : j = p + 1 := by omega
          have hap : a ≤ p := by have := HPa.out; omega
          have q1 : (a : Int) < (j : Int) := by omega
          have q1n : a < j := by omega
          have hrow : P ++ (A ++ [u]) ++ v :: (B ++ R) = (P ++ A) ++ u :: v :: (B ++ R) := by simp only [List.append_assoc, List.cons_append, List.nil_append]
          rw [hrow] at HS
          have hPl : (P ++ A).length = p := by rw [List.length_append]; exact hp
          have hgp : ((P ++ A) ++ u :: v :: (B ++ R))[p]? = some u := by rw [← hPl, List.getElem?_append_right (Nat.le_refl _), Nat.sub_self]; rfl
          have hgj : ((P ++ A) ++ u :: v :: (B ++ R))[j]? = some v := by rw [hjp, ← hPl, List.getElem?_append_right (by omega), show (P ++ A).length + 1 - (P ++ A).length = 1 by omega]; rfl
          have hsw := set_set' (P := P ++ A) (Q := B ++ R) (x := u) (y := v)
          rw [hPl] at hsw
          have hn2 := HS.out.len
          have hjn : j < n := by rw [hn2]; exact (List.getElem?_eq_some_iff.1 hgj).1
          have HGP := Lib.hid hgp
          have HGJ := Lib.hid hgj
          have HSW := Lib.hid hsw
          have HJP := Lib.hid hjp
          have HPJ := Lib.hid (show P.length + A.length = p from hp)
          have b1 : (j : Int) < (n : Int) := by omega
          have b2 : (p : Int) < (n : Int) := by omega
          have HJN := Lib.hid hjn
          have HWJ := Lib.hid (show wrap64 ((j : Int) - 1) = (p : Int) by rw [w64 _ (by omega) (by have := HN.out; omega)]; omega)
          obtain ⟨kk, hkk⟩ : ∃ kk : Nat, kk = 11 := ⟨_, rfl⟩
          have HKK := Lib.hid hkk
          have zE := Try.sizeOf34
          simp only [← hkk] at zE
          have aE := Try.isAgg34
          have la := HS.out.drew.ldk hgj hkk Try.prog
          have lb := HS.out.drew.ldk hgp hkk Try.prog
          obtain ⟨cv, hcv⟩ : ∃ cv, encS v = cv := ⟨_, rfl⟩
          obtain ⟨cu, hcu⟩ : ∃ cu, encS u = cu := ⟨_, rfl⟩
          have na : cv.length = kk := by rw [← hcv, hkk]; rfl
          have nb : cu.length = kk := by rw [← hcu, hkk]; rfl
          rw [hcv] at la
          rw [hcu] at lb
          have HCV := Lib.hid hcv
          have HCU := Lib.hid hcu
          have aX : (⟨g, 0, none⟩ : Addr).add (j * kk) = ⟨g, j * kk, none⟩ := add_at _ _
          have aY : (⟨g, 0, none⟩ : Addr).add (p * kk) = ⟨g, p * kk, none⟩ := add_at _ _
          have hwj := HWJ.out
          have HSd := Lib.hid HS.out.drew
          clear hjl hp hjp hap hrow hPl hgp hgj hsw hn2 hjn hkk hcv hcu
          go_upto_region 4 with (fail)
          refine start_ (n := 17) (S := fun w' => Sem.run Try.prog (loadCellsFrom ⟨g, j * kk, none⟩ 0 kk #[]) w' = .ok cv.toArray w' ∧ Sem.run Try.prog (loadCellsFrom ⟨g, p * kk, none⟩ 0 kk #[]) w' = .ok cu.toArray w') (ds := []) #[false, false, false, false, false, false, false, false, false, false, false, false, false, false, false, false, false] (by kernel_rfl) rfl rfl ⟨la, lb⟩ (fun hHeld => ?_)
          generalize hwe : wr.drew = w5 at la lb HSd hHeld ⊢
          clear hwe la lb
          refine pure_ (i := 0) (N := some 18) (v := ?_) (a' := ?_) #[true, false, false, false, false, false, false, false, false, false, false, false, false, false, false, false, false] rfl rfl (by kernel_rfl) (fun _ _ _ h => h) (Or.inl ⟨by rfl, ?_⟩) ?_ ?_
          rotate_left
          · intro w'
            go_simp
            with_reducible rfl
          rotate_left
          · simp only [Act.put, List.setIfInBounds_toArray, List.set_cons_zero, List.set_cons_succ, i64_w, i32_w]
            rfl
          refine pure_ (i := 1) (N := some 19) (v := ?_) (a' := ?_) #[true, true, false, false, false, false, false, false, false, false, false, false, false, false, false, false, false] rfl rfl (by kernel_rfl) (fun _ _ _ h => h) (Or.inl ⟨by rfl, ?_⟩) ?_ ?_
          rotate_left
          · intro w'
            go_simp
            with_reducible rfl
          rotate_left
          · simp only [Act.put, List.setIfInBounds_toArray, List.set_cons_zero, List.set_cons_succ, i64_w, i32_w]
            rfl
          refine pure_ (i := 2) (N := some 20) (v := ?_) (a' := ?_) #[true, true, true, false, false, false, false, false, false, false, false, false, false, false, false, false, false] rfl rfl (by kernel_rfl) (fun _ _ _ h => h) (Or.inl ⟨by rfl, ?_⟩) ?_ ?_
          rotate_left
          · intro w'
            go_simp
            with_reducible rfl
          rotate_left
          · simp only [Act.put, List.setIfInBounds_toArray, List.set_cons_zero, List.set_cons_succ, i64_w, i32_w]
            rfl
          refine pure_ (i := 3) (N := some 21) (v := ?_) (a' := ?_) #[true, true, true, true, false, false, false, false, false, false, false, false, false, false, false, false, false] rfl rfl (by kernel_rfl) (fun _ _ _ h => h) (Or.inl ⟨by rfl, ?_⟩) ?_ ?_
          rotate_left
          · intro w'
            go_simp
            with_reducible rfl
          rotate_left
          · simp only [Act.put, List.setIfInBounds_toArray, List.set_cons_zero, List.set_cons_succ, i64_w, i32_w]
            rfl
          refine pure_ (i := 4) (N := some 22) (v := ?_) (a' := ?_) #[true, true, true, true, true, false, false, false, false, false, false, false, false, false, false, false, false] rfl rfl (by kernel_rfl) (fun _ _ _ h => h) (Or.inl ⟨by rfl, ?_⟩) ?_ ?_
          rotate_left
          · intro w'
            go_simp
            with_reducible rfl
          rotate_left
          · simp only [Act.put, List.setIfInBounds_toArray, List.set_cons_zero, List.set_cons_succ, i64_w, i32_w]
            rfl
          refine pure_ (i := 5) (N := some 23) (v := ?_) (a' := ?_) #[true, true, true, true, true, true, false, false, false, false, false, false, false, false, false, false, false] rfl rfl (by kernel_rfl) (fun _ _ _ h => h) (Or.inl ⟨by rfl, ?_⟩) ?_ ?_
          rotate_left
          · intro w'
            go_simp
            with_reducible rfl
          rotate_left
          · simp only [Act.put, List.setIfInBounds_toArray, List.set_cons_zero, List.set_cons_succ, i64_w, i32_w]
            rfl
          refine pure_ (i := 6) (N := some 24) (v := ?_) (a' := ?_) #[true, true, true, true, true, true, true, false, false, false, false, false, false, false, false, false, false] rfl rfl (by kernel_rfl) (fun _ _ _ h => h) (Or.inl ⟨by rfl, ?_⟩) ?_ ?_
          rotate_left
          · intro w'
            go_simp
            with_reducible rfl
          rotate_left
          · simp only [Act.put, List.setIfInBounds_toArray, List.set_cons_zero, List.set_cons_succ, i64_w, i32_w]
            rfl
          refine pure_ (i := 7) (N := some 25) (v := ?_) (a' := ?_) #[true, true, true, true, true, true, true, true, false, false, false, false, false, false, false, false, false] rfl rfl (by kernel_rfl) (fun _ _ _ h => h) (Or.inl ⟨by rfl, ?_⟩) ?_ ?_
          rotate_left
          · intro w'
            go_simp
            with_reducible rfl
          rotate_left
          · simp only [Act.put, List.setIfInBounds_toArray, List.set_cons_zero, List.set_cons_succ, i64_w, i32_w]
            rfl
          refine pure_ (i := 9) (N := some 27) (v := ?_) (a' := ?_) #[true, true, true, true, true, true, true, true, false, true, false, false, false, false, false, false, false] rfl rfl (by kernel_rfl) (fun _ _ _ h => h) (Or.inl ⟨by rfl, ?_⟩) ?_ ?_
          rotate_left
          · intro w'
            go_simp
            with_reducible rfl
          rotate_left
          · simp only [Act.put, List.setIfInBounds_toArray, List.set_cons_zero, List.set_cons_succ, i64_w, i32_w]
            rfl
          refine pure_ (i := 10) (N := some 28) (v := ?_) (a' := ?_) #[true, true, true, true, true, true, true, true, false, true, true, false, false, false, false, false, false] rfl rfl (by kernel_rfl) (fun _ _ _ h => h) (Or.inl ⟨by rfl, ?_⟩) ?_ ?_
          rotate_left
          · intro w'
            go_simp
            with_reducible rfl
          rotate_left
          · simp only [Act.put, List.setIfInBounds_toArray, List.set_cons_zero, List.set_cons_succ, i64_w, i32_w]
            rfl
          refine pure_ (i := 11) (N := some 29) (v := ?_) (a' := ?_) #[true, true, true, true, true, true, true, true, false, true, true, true, false, false, false, false, false] rfl rfl (by kernel_rfl) (fun _ _ _ h => h) (Or.inl ⟨by rfl, ?_⟩) ?_ ?_
          rotate_left
          · intro w'
            go_simp
            with_reducible rfl
          rotate_left
          · simp only [Act.put, List.setIfInBounds_toArray, List.set_cons_zero, List.set_cons_succ, i64_w, i32_w]
            rfl
          refine pure_ (i := 12) (N := some 30) (v := ?_) (a' := ?_) #[true, true, true, true, true, true, true, true, false, true, true, true, true, false, false, false, false] rfl rfl (by kernel_rfl) (fun _ _ _ h => h) (Or.inl ⟨by rfl, ?_⟩) ?_ ?_
          rotate_left
          · intro w'
            go_simp
            with_reducible rfl
          rotate_left
          · simp only [Act.put, List.setIfInBounds_toArray, List.set_cons_zero, List.set_cons_succ, i64_w, i32_w]
            rfl
          refine take_ (i := 8) (N := some 26) (v := ?_) (a' := ?_) #[true, true, true, true, true, true, true, true, true, true, true, true, true, false, false, false, false] rfl rfl (by kernel_rfl) (fun _ _ _ h => h) (Or.inl ⟨by rfl, ?_⟩) hHeld ?_ ?_
          rotate_left
          · rintro w' ⟨s0, s1⟩
            go_simp
            with_reducible rfl
          rotate_left
          · simp only [Act.put, List.setIfInBounds_toArray, List.set_cons_zero, List.set_cons_succ, i64_w, i32_w]
            rfl
          refine take_ (i := 13) (N := some 31) (v := ?_) (a' := ?_) #[true, true, true, true, true, true, true, true, true, true, true, true, true, true, false, false, false] rfl rfl (by kernel_rfl) (fun _ _ _ h => h) (Or.inl ⟨by rfl, ?_⟩) hHeld ?_ ?_
          rotate_left
          · rintro w' ⟨s0, s1⟩
            go_simp
            with_reducible rfl
          rotate_left
          · simp only [Act.put, List.setIfInBounds_toArray, List.set_cons_zero, List.set_cons_succ, i64_w, i32_w]
            rfl
          refine one_ (i := 14) (N := some 32) #[true, true, true, true, true, true, true, true, true, true, true, true, true, true, true, false, false] rfl rfl (by kernel_rfl) (by decide) (fun K hK => ?_)
          have hcm := HC.out v u w5 HSd.out.gr
          rw [HCV.out, HCU.out] at hcm
          refine goesv_ Try.func27 (by kernel_rfl) rfl #[.agg cv.toArray, .agg cu.toArray, .pointer (some ⟨bq, 0, none⟩)] (by rfl) rfl rfl (by rfl) (by simp only [List.map_toArray, List.map_cons, List.map_nil]; rfl) ?_
          with_reducible refine (hcm).mono ?_
          rintro ee w6 ⟨rfl, hb⟩
          refine ⟨_, rfl, ?_⟩
          have HS6 := Lib.hid (HSd.out.next hb)
          clear hb hcm
          have la := HS6.out.ldk HGJ.out HKK.out Try.prog
          have lb := HS6.out.ldk HGP.out HKK.out Try.prog
          rw [HCV.out] at la
          rw [HCU.out] at lb
          refine hK.out _ _ ⟨la, lb⟩ (fun hHeld => ?_)
          clear hK K
          refine norm_ (a' := ?_) ?_ ?_
          rotate_left
          · show Act.put _ (some 32) _ = _
            simp only [Act.put, List.setIfInBounds_toArray, List.set_cons_zero, List.set_cons_succ, i64_w, i32_w]
            rfl
          refine pure_ (i := 15) (N := some 33) (v := ?_) (a' := ?_) #[true, true, true, true, true, true, true, true, true, true, true, true, true, true, true, true, false] rfl rfl (by kernel_rfl) (fun _ _ _ h => h) (Or.inl ⟨by rfl, ?_⟩) ?_ ?_
          rotate_left
          · intro w'
            go_simp
            with_reducible rfl
          rotate_left
          · simp only [Act.put, List.setIfInBounds_toArray, List.set_cons_zero, List.set_cons_succ, i64_w, i32_w]
            rfl
          refine pure_ (i := 16) (N := some 34) (v := ?_) (a' := ?_) #[true, true, true, true, true, true, true, true, true, true, true, true, true, true, true, true, true] rfl rfl (by kernel_rfl) (fun _ _ _ h => h) (Or.inl ⟨by rfl, ?_⟩) ?_ ?_
          rotate_left
          · intro w'
            go_simp
            with_reducible rfl
          rotate_left
          · simp only [Act.put, List.setIfInBounds_toArray, List.set_cons_zero, List.set_cons_succ, i64_w, i32_w]
            rfl
          refine done_ (by kernel_rfl) ?_
          clear la lb
          by_cases hr : cf v u < 0
          · have e1 : decide (cf v u < 0) = true := decide_eq_true hr
            have HLV := Lib.hid (show ltC cf v u = true from decide_eq_true hr)
            have hlj := (List.getElem?_eq_some_iff.1 HGJ.out).1
            have hlp := (List.getElem?_eq_some_iff.1 HGP.out).1
            have HSe := HS6.out.drew
            have HSx := HSe.put hlj u
            have HSy := HSx.put (i := p) (by rw [List.length_set]; exact hlp) v
            have hsw := HSW.out
            rw [← HJP.out] at hsw
            rw [hsw] at HSy
            have HSZ := Lib.hid HSy
            have la := HSe.ldk HGJ.out HKK.out Try.prog
            have lb := HSe.ldk HGP.out HKK.out Try.prog
            have sa := HSe.st hlj u Try.prog
            have sb := HSx.st (i := p) (by rw [List.length_set]; exact hlp) v Try.prog
            rw [HCV.out] at la sb HSZ
            rw [HCU.out] at lb sa HSZ
            rw [HCU.out] at sb
            rw [← HKK.out] at sa sb HSZ
            have e2 : ((j : Int)).toNat = j := by omega
            have p2 : (0 : Int) ≤ (j : Int) := by omega
            have r2 : IntKind.i64.wrap ((j : Int)) = (j : Int) := by rw [IntKind.wrap_i64]; have := HJN.out; have := HN.out; omega
            have e3 : ((p : Int)).toNat = p := by omega
            have p3 : (0 : Int) ≤ (p : Int) := by omega
            have r3 : IntKind.i64.wrap ((p : Int)) = (p : Int) := by rw [IntKind.wrap_i64]; have := HJN.out; have := HN.out; have := HJP.out; omega
            have hwj := HWJ.out
            clear hlj hlp HSe HSx HSy hsw
            go_upto_region 6 with (fail)
            go_big_region_o
            clear la lb sa sb
            generalize (w6.drew.setCells g (j * kk) cu).setCells g (p * kk) cv = w7 at HSZ ⊢
            go_wp2
            go_roundw
            case rel => exact ⟨p, A, u :: B, by rw [HWJ.out], HPJ, Lib.hid (by have := HJP.out; have := HJI.out; omega), Lib.hid (by rw [← HAB2.out]; simp), Lib.hid (fun x hx => (List.mem_cons.1 hx).elim (fun e => by rw [e]; exact HLV.out) (HBV.out x)), Lib.hid (by have := HSZ.out; simpa only [List.append_assoc, List.cons_append] using this)⟩
            case measure => rw [HWJ.out, HJP.out]; exact ins_down p
          · have e1 : decide (cf v u < 0) = false := decide_eq_false hr
            have hr2 : 0 ≤ cf v u := by omega
            have HLV := Lib.hid (show ltC cf v u = false from decide_eq_false hr)
            have HALL := Lib.hid (show ∀ x ∈ A ++ [u], ltC cf v x = false from all_le HWO.out (by have h := HST.out.srt; rw [← HAB2.out] at h; exact (sd_app.1 h).1) HLV.out)
            have HO := Lib.hid (OUT.out HALL.out w6 (by have h := HS6.out; rw [show (P ++ A) ++ u :: v :: (B ++ R) = P ++ (A ++ [u]) ++ v :: (B ++ R) by simp only [List.append_assoc, List.cons_append, List.nil_append]] at h; exact h))
            clear hr
            go_wp2
            go_roundw
            case rel => exact ⟨k + 1, I + 1, A ++ [u] ++ v :: B, by rw [HWI.out], Lib.hid (by have := HI.out; omega), Lib.hid (by omega), Lib.hid (by have := HKX.out; omega), Lib.hid HO.out.1, Lib.hid HO.out.2.1, Lib.hid HO.out.2.2⟩
            case measure => rw [HWI.out]; exact ins_meas HLT.out
    · have q : decide ((I : Int) < (b : Int)) = false := decide_eq_false (by omega)
      have qn : decide (I < b) = false := decide_eq_false hlt
      have HGE := Lib.hid (show X.length ≤ k by have := HI.out; have := HAB.out; omega)
      clear hlt
      go_wp2
      go_end0
      refine ⟨rfl, S, ?_, ?_, ?_⟩
      · rw [HSL.out, List.take_of_length_le HGE.out]
      · have h := HST.out
        rw [List.take_of_length_le HGE.out] at h
        exact h
      · have h := HS.out
        rw [List.drop_eq_nil_of_le HGE.out, List.append_nil] at h
        exact h
end Go.Proofs.Ytffggkhahambhaa.Tr

namespace Go.Proofs.Ytffggkhahambhaa.Tr
open Go.RowKit Go.Proofs.YtffggkhahambhaaW.PrintWords Go.Proofs.YtffggkhahambhaaW.PrintLast Go.Proofs.YtffggkhahambhaaW.PrintMore Go.Proofs.Ytffggkhahambhaa.Math Go.Proofs.Ytffggkhahambhaa.PAll Go.Proofs.Ytffggkhahambhaa.Stab
set_option linter.unusedVariables false
set_option linter.unusedSimpArgs false
/-- The middle of two places, as it is reckoned. -/
theorem half_eq {I J H : Nat} (hI : I ≤ 2000000) (hJ : J ≤ 2000000) (hH : (I + J) / 2 = H) : wrap64 (IntKind.u64.wrap (wrap64 ((I : Int) + (J : Int))) / 2) = (H : Int) := by
  rw [w64 ((I : Int) + (J : Int)) (by omega) (by omega)]
  have e : IntKind.u64.wrap ((I : Int) + (J : Int)) = (I : Int) + (J : Int) := by
    rw [IntKind.wrap_u64]; omega
  rw [e, w64 _ (by omega) (by omega)]
  omega
theorem bs_m1 {I J H : Nat} (h1 : I ≤ H) (h2 : H < J) : (intOf (.int .i64 (J : Int)) - intOf (.int .i64 ((H + 1 : Nat) : Int))).toNat < (intOf (.int .i64 (J : Int)) - intOf (.int .i64 (I : Int))).toNat := by
  show ((J : Int) - ((H + 1 : Nat) : Int)).toNat < ((J : Int) - (I : Int)).toNat
  omega
theorem bs_m2 {I J H : Nat} (h1 : I ≤ H) (h2 : H < J) : (intOf (.int .i64 (H : Int)) - intOf (.int .i64 (I : Int))).toNat < (intOf (.int .i64 (J : Int)) - intOf (.int .i64 (I : Int))).toNat := by
  show ((H : Int) - (I : Int)).toNat < ((J : Int) - (I : Int)).toNat
  omega
theorem bub_m {T Y z : Nat} (h : Y = T + 1) (hz : T < z) : z - (intOf (.int .i64 (Y : Int))).toNat < z - (intOf (.int .i64 (T : Int))).toNat := by
  show z - ((Y : Nat) : Int).toNat < z - ((T : Nat) : Int).toNat
  omega

set_option maxHeartbeats 8000000 in
set_option maxRecDepth 1000000 in
theorem symL_calls (w0 : World) (base g n c bq : Nat) (cf : Sp → Sp → Int) (hw : Swo (ltC cf)) (HC : Hid (Cmp w0 g bq cf)) (P R Q : List Sp) (v : Sp) (a m b : Nat) (w : World) (ha : P.length = a) (hm : a + 1 = m) (hb : m + R.length = b) (hR : Sd (ltC cf) R) (hn : n ≤ 1000000) (hS : Sr w0 w base g n c (P ++ v :: R ++ Q)) :
    Calls Try.prog 67 #[.slice (some ⟨g, 0, none⟩) n c, .int .i64 a, .int .i64 m, .int .i64 b, .func (.func 27) #[] #[.pointer (some ⟨bq, 0, none⟩)]] w fun e w' => e = .returned (.tuple #[]) ∧ ∃ S, Mg (ltC cf) [v] R S ∧ Sr w0 w' base g n c (P ++ S ++ Q) := by
  have HWO := Lib.hid hw
  have HN := Lib.hid hn
  have HPa := Lib.hid ha
  have hlen := hS.len
  simp only [List.length_append, List.length_cons] at hlen
  have HBN := Lib.hid (show b ≤ n by omega)
  have HS := Lib.hid hS
  have HSR := Lib.hid hR
  have HM := Lib.hid hm
  have HB := Lib.hid hb
  clear hw hn hlen hS hR
  have HMA := Lib.hid (show wrap64 ((m : Int) - (a : Int)) = 1 by rw [w64 _ (by omega) (by omega)]; omega)
  clear ha hm hb
  have mixed : Try.prog.follows Departure.mixedOrders = true := by kernel_rfl
  go_enter Try.func67, Try.ntmps67
  have hma := HMA.out
  go_wp2
  clear hma
  go_loopw [10, 11, 12] (fun s u _ wr => ∃ (i j I J : Nat), Hid (i ≤ j) ∧ Hid (j ≤ R.length) ∧ s = .int .i64 I ∧ u = .int .i64 J ∧ Hid (m + i = I) ∧ Hid (m + j = J) ∧ Hid (0 < i → ∀ x, R[i - 1]? = some x → ltC cf x v = true) ∧ Hid (∀ x, R[j]? = some x → ltC cf x v = false) ∧ Hid (Sr w0 wr base g n c (P ++ v :: R ++ Q))) (fun s u _ _ => (intOf u - intOf s).toNat)
  case atStart => exact ⟨0, R.length, m, b, Lib.hid (Nat.zero_le _), Lib.hid (Nat.le_refl _), rfl, rfl, Lib.hid (Nat.add_zero m), HB, Lib.hid (fun h => absurd h (Nat.lt_irrefl _)), Lib.hid (fun x hx => by simp at hx), HS⟩
  case round =>
    clear HS
    obtain ⟨i, j, I, J, HIJ, HJR, rfl, rfl, HMI, HMJ, HI, HJ, HS⟩ := hrel
    by_cases hlt : I < J
    · have q : (I : Int) < (J : Int) := by omega
      obtain ⟨H, hH⟩ : ∃ H, (I + J) / 2 = H := ⟨_, rfl⟩
      obtain ⟨h, hh⟩ : ∃ h, (i + j) / 2 = h := ⟨_, rfl⟩
      have hmi := HMI.out
      have hmj := HMJ.out
      have hmh : m + h = H := by omega
      have hih : i ≤ h := by omega
      have hhj : h < j := by omega
      have hjr := HJR.out
      obtain ⟨x, hx⟩ : ∃ x, R[h]? = some x := ⟨_, List.getElem?_eq_getElem (by omega)⟩
      have hpa := HPa.out
      have hma2 := HM.out
      have HGX := Lib.hid (show (P ++ v :: R ++ Q)[H]? = some x by rw [List.append_assoc, List.getElem?_append_right (by omega), show H - P.length = h + 1 by omega, List.cons_append, List.getElem?_cons_succ, List.getElem?_append_left (by omega)]; exact hx)
      have HGY := Lib.hid (show (P ++ v :: R ++ Q)[a]? = some v by rw [List.append_assoc, List.getElem?_append_right (by omega), show a - P.length = 0 by omega]; rfl)
      have HX := Lib.hid hx
      have HHL := Lib.hid (show I ≤ H by omega)
      have HHJ := Lib.hid (show H < J by omega)
      have HIH := Lib.hid hih
      have HHj := Lib.hid hhj
      have HMH := Lib.hid hmh
      have hbn := HBN.out
      have hnn := HN.out
      have hbb := HB.out
      have b1 : (H : Int) < (n : Int) := by omega
      have b2 : (a : Int) < (n : Int) := by omega
      have HHALF := Lib.hid (half_eq (by omega) (by omega) hH)
      have HWH := Lib.hid (show wrap64 ((H : Int) + 1) = ((H + 1 : Nat) : Int) by rw [w64 _ (by omega) (by omega)]; omega)
      clear hlt hH hh hmi hmj hmh hih hhj hjr hx hpa hma2 hbn hnn hbb
      obtain ⟨kk, hkk⟩ : ∃ kk : Nat, kk = 11 := ⟨_, rfl⟩
      have HKK := Lib.hid hkk
      have zE := Try.sizeOf34
      simp only [← hkk] at zE
      have aE := Try.isAgg34
      have la := HS.out.drew.ldk HGX.out hkk Try.prog
      have lb := HS.out.drew.ldk HGY.out hkk Try.prog
      obtain ⟨cx, hcx⟩ : ∃ cx, encS x = cx := ⟨_, rfl⟩
      obtain ⟨cy, hcy⟩ : ∃ cy, encS v = cy := ⟨_, rfl⟩
      have na : cx.length = kk := by rw [← hcx, hkk]; rfl
      have nb : cy.length = kk := by rw [← hcy, hkk]; rfl
      rw [hcx] at la
      rw [hcy] at lb
      have HCX := Lib.hid hcx
      have HCY := Lib.hid hcy
      have aX : (⟨g, 0, none⟩ : Addr).add (H * kk) = ⟨g, H * kk, none⟩ := add_at _ _
      have aY : (⟨g, 0, none⟩ : Addr).add (a * kk) = ⟨g, a * kk, none⟩ := add_at _ _
      have HSd := Lib.hid HS.out.drew
      clear hkk hcx hcy
      have hhalf := HHALF.out
      go_upto_region 5 with (fail)
      refine start_ (n := 11) (S := fun w' => Sem.run Try.prog (loadCellsFrom ⟨g, H * kk, none⟩ 0 kk #[]) w' = .ok cx.toArray w' ∧ Sem.run Try.prog (loadCellsFrom ⟨g, a * kk, none⟩ 0 kk #[]) w' = .ok cy.toArray w') (ds := []) #[false, false, false, false, false, false, false, false, false, false, false] (by kernel_rfl) rfl rfl ⟨la, lb⟩ (fun hHeld => ?_)
      generalize hwe : wr.drew = w5 at la lb HSd hHeld ⊢
      clear hwe la lb
      refine pure_ (i := 0) (N := some 40) (v := ?_) (a' := ?_) #[true, false, false, false, false, false, false, false, false, false, false] rfl rfl (by kernel_rfl) (fun _ _ _ h => h) (Or.inl ⟨by rfl, ?_⟩) ?_ ?_
      rotate_left
      · intro w'
        go_simp
        with_reducible rfl
      rotate_left
      · simp only [Act.put, List.setIfInBounds_toArray, List.set_cons_zero, List.set_cons_succ, i64_w, i32_w]
        rfl
      refine pure_ (i := 1) (N := some 41) (v := ?_) (a' := ?_) #[true, true, false, false, false, false, false, false, false, false, false] rfl rfl (by kernel_rfl) (fun _ _ _ h => h) (Or.inl ⟨by rfl, ?_⟩) ?_ ?_
      rotate_left
      · intro w'
        go_simp
        with_reducible rfl
      rotate_left
      · simp only [Act.put, List.setIfInBounds_toArray, List.set_cons_zero, List.set_cons_succ, i64_w, i32_w]
        rfl
      refine pure_ (i := 2) (N := some 42) (v := ?_) (a' := ?_) #[true, true, true, false, false, false, false, false, false, false, false] rfl rfl (by kernel_rfl) (fun _ _ _ h => h) (Or.inl ⟨by rfl, ?_⟩) ?_ ?_
      rotate_left
      · intro w'
        go_simp
        with_reducible rfl
      rotate_left
      · simp only [Act.put, List.setIfInBounds_toArray, List.set_cons_zero, List.set_cons_succ, i64_w, i32_w]
        rfl
      refine pure_ (i := 3) (N := some 43) (v := ?_) (a' := ?_) #[true, true, true, true, false, false, false, false, false, false, false] rfl rfl (by kernel_rfl) (fun _ _ _ h => h) (Or.inl ⟨by rfl, ?_⟩) ?_ ?_
      rotate_left
      · intro w'
        go_simp
        with_reducible rfl
      rotate_left
      · simp only [Act.put, List.setIfInBounds_toArray, List.set_cons_zero, List.set_cons_succ, i64_w, i32_w]
        rfl
      refine pure_ (i := 5) (N := some 45) (v := ?_) (a' := ?_) #[true, true, true, true, false, true, false, false, false, false, false] rfl rfl (by kernel_rfl) (fun _ _ _ h => h) (Or.inl ⟨by rfl, ?_⟩) ?_ ?_
      rotate_left
      · intro w'
        go_simp
        with_reducible rfl
      rotate_left
      · simp only [Act.put, List.setIfInBounds_toArray, List.set_cons_zero, List.set_cons_succ, i64_w, i32_w]
        rfl
      refine pure_ (i := 6) (N := some 46) (v := ?_) (a' := ?_) #[true, true, true, true, false, true, true, false, false, false, false] rfl rfl (by kernel_rfl) (fun _ _ _ h => h) (Or.inl ⟨by rfl, ?_⟩) ?_ ?_
      rotate_left
      · intro w'
        go_simp
        with_reducible rfl
      rotate_left
      · simp only [Act.put, List.setIfInBounds_toArray, List.set_cons_zero, List.set_cons_succ, i64_w, i32_w]
        rfl
      refine pure_ (i := 7) (N := some 47) (v := ?_) (a' := ?_) #[true, true, true, true, false, true, true, true, false, false, false] rfl rfl (by kernel_rfl) (fun _ _ _ h => h) (Or.inl ⟨by rfl, ?_⟩) ?_ ?_
      rotate_left
      · intro w'
        go_simp
        with_reducible rfl
      rotate_left
      · simp only [Act.put, List.setIfInBounds_toArray, List.set_cons_zero, List.set_cons_succ, i64_w, i32_w]
        rfl
      refine take_ (i := 4) (N := some 44) (v := ?_) (a' := ?_) #[true, true, true, true, true, true, true, true, false, false, false] rfl rfl (by kernel_rfl) (fun _ _ _ h => h) (Or.inl ⟨by rfl, ?_⟩) hHeld ?_ ?_
      rotate_left
      · rintro w' ⟨s0, s1⟩
        go_simp
        with_reducible rfl
      rotate_left
      · simp only [Act.put, List.setIfInBounds_toArray, List.set_cons_zero, List.set_cons_succ, i64_w, i32_w]
        rfl
      refine take_ (i := 8) (N := some 48) (v := ?_) (a' := ?_) #[true, true, true, true, true, true, true, true, true, false, false] rfl rfl (by kernel_rfl) (fun _ _ _ h => h) (Or.inl ⟨by rfl, ?_⟩) hHeld ?_ ?_
      rotate_left
      · rintro w' ⟨s0, s1⟩
        go_simp
        with_reducible rfl
      rotate_left
      · simp only [Act.put, List.setIfInBounds_toArray, List.set_cons_zero, List.set_cons_succ, i64_w, i32_w]
        rfl
      refine one_ (i := 9) (N := some 49) #[true, true, true, true, true, true, true, true, true, true, false] rfl rfl (by kernel_rfl) (by decide) (fun K hK => ?_)
      have hcm := HC.out x v w5 HSd.out.gr
      rw [HCX.out, HCY.out] at hcm
      refine goesv_ Try.func27 (by kernel_rfl) rfl #[.agg cx.toArray, .agg cy.toArray, .pointer (some ⟨bq, 0, none⟩)] (by rfl) rfl rfl (by rfl) (by simp only [List.map_toArray, List.map_cons, List.map_nil]; rfl) ?_
      with_reducible refine (hcm).mono ?_
      rintro ee w6 ⟨rfl, hb⟩
      refine ⟨_, rfl, ?_⟩
      have HS6 := Lib.hid (HSd.out.next hb)
      clear hb hcm
      have la := HS6.out.ldk HGX.out HKK.out Try.prog
      have lb := HS6.out.ldk HGY.out HKK.out Try.prog
      rw [HCX.out] at la
      rw [HCY.out] at lb
      refine hK.out _ _ ⟨la, lb⟩ (fun hHeld => ?_)
      clear hK K
      refine norm_ (a' := ?_) ?_ ?_
      rotate_left
      · show Act.put _ (some 49) _ = _
        simp only [Act.put, List.setIfInBounds_toArray, List.set_cons_zero, List.set_cons_succ, i64_w, i32_w]
        rfl
      refine pure_ (i := 10) (N := some 50) (v := ?_) (a' := ?_) #[true, true, true, true, true, true, true, true, true, true, true] rfl rfl (by kernel_rfl) (fun _ _ _ h => h) (Or.inl ⟨by rfl, ?_⟩) ?_ ?_
      rotate_left
      · intro w'
        go_simp
        with_reducible rfl
      rotate_left
      · simp only [Act.put, List.setIfInBounds_toArray, List.set_cons_zero, List.set_cons_succ, i64_w, i32_w]
        rfl
      refine done_ (by kernel_rfl) ?_
      clear la lb
      clear hhalf b1 b2
      by_cases hr : cf x v < 0
      · have e1 : decide (cf x v < 0) = true := decide_eq_true hr
        have HLV := Lib.hid (show ltC cf x v = true from decide_eq_true hr)
        go_wp2
        go_roundw
        case rel => exact ⟨h + 1, j, H + 1, J, Lib.hid (by have := HHj.out; omega), HJR, by rw [HHALF.out, HWH.out], rfl, Lib.hid (by have := HMH.out; omega), HMJ, Lib.hid (fun _ y hy => by rw [Nat.add_sub_cancel, HX.out] at hy; injection hy with hy; rw [← hy]; exact HLV.out), HJ, HS6⟩
        case measure => rw [HHALF.out, HWH.out]; exact bs_m1 HHL.out HHJ.out
      · have e1 : decide (cf x v < 0) = false := decide_eq_false hr
        have hr2 : 0 ≤ cf x v := by omega
        have HLV := Lib.hid (show ltC cf x v = false from decide_eq_false hr)
        clear hr
        go_wp2
        go_roundw
        case rel => exact ⟨i, h, I, H, HIH, Lib.hid (by have h1 := HHj.out; have h2 := HJR.out; omega), rfl, by rw [HHALF.out], HMI, HMH, HI, Lib.hid (fun y hy => by rw [HX.out] at hy; injection hy with hy; rw [← hy]; exact HLV.out), HS6⟩
        case measure => rw [HHALF.out]; exact bs_m2 HHL.out HHJ.out
    · have hij : i = j := by have h1 := HMI.out; have h2 := HMJ.out; have h3 := HIJ.out; omega
      subst hij
      have q : decide ((I : Int) < (J : Int)) = false := decide_eq_false (by omega)
      have qn : decide (I < J) = false := decide_eq_false hlt
      have HT := Lib.hid (show Mg (ltC cf) [v] R (R.take i ++ v :: R.drop i) by
        have h1 := border_lt (L := [v]) (k1 := 0) HWO.out (List.pairwise_singleton _ _) HSR.out HJR.out (fun h x y hx hy => by injection hx with hx; rw [← hx]; exact HI.out h y hy)
        have h2 := border_le (L := [v]) (k1 := 1) HWO.out (List.pairwise_singleton _ _) HSR.out (Nat.le_refl _) (fun h x y hx hy => by injection hx with hx; rw [← hx]; exact HJ.out y hy)
        have h3 := Mg.oneL (v := v) (R1 := R.take i) (R2 := R.drop i) HWO.out (by rw [List.take_append_drop]; exact HSR.out) (fun r hr => h1 v (by simp) r hr) (fun r hr => h2 v (by simp) r hr)
        rw [List.take_append_drop] at h3
        exact h3)
      have HWI := Lib.hid (show wrap64 ((I : Int) - 1) = (a : Int) + (i : Int) by
        have h1 := HMI.out; have h2 := HM.out; have h3 := HN.out; have h4 := HBN.out; have h5 := HB.out; have h6 := HJR.out
        rw [w64 _ (by omega) (by omega)]; omega)
      have HS0 := Lib.hid (show Sr w0 wr base g n c (P ++ R.take 0 ++ v :: (R.drop 0 ++ Q)) by
        have h := HS.out
        rw [List.take_zero, List.drop_zero, List.append_nil]
        rwa [List.append_assoc] at h)
      clear hlt HS HI HJ HMJ HIJ
      go_wp2
      clear q qn
      go_loopw [13] (fun s wr => ∃ (t T : Nat), Hid (t ≤ i) ∧ s = .int .i64 T ∧ Hid (a + t = T) ∧ Hid (Sr w0 wr base g n c (P ++ R.take t ++ v :: (R.drop t ++ Q)))) (fun s _ => a + i - (intOf s).toNat)
      case atStart => exact ⟨0, a, Lib.hid (Nat.zero_le _), rfl, Lib.hid (Nat.add_zero a), HS0⟩
      case round =>
        clear HS0
        obtain ⟨t, T, HTI, rfl, HAT, HS⟩ := hrel
        by_cases htl : t < i
        · have hjr := HJR.out
          have hat := HAT.out
          have hpa := HPa.out
          have hbn := HBN.out
          have hbb := HB.out
          have hmm := HM.out
          have hnn := HN.out
          obtain ⟨y, hy⟩ : ∃ y, R[t]? = some y := ⟨_, List.getElem?_eq_getElem (by omega)⟩
          obtain ⟨hyl, hye⟩ := List.getElem?_eq_some_iff.1 hy
          have hrow : P ++ R.take t ++ v :: (R.drop t ++ Q) = (P ++ R.take t) ++ v :: y :: (R.drop (t + 1) ++ Q) := by rw [List.drop_eq_getElem_cons hyl, hye]; rfl
          rw [hrow] at HS
          have hPl : (P ++ R.take t).length = T := by rw [List.length_append, List.length_take]; omega
          obtain ⟨Y, hY⟩ : ∃ Y, T + 1 = Y := ⟨_, rfl⟩
          have HGX := Lib.hid (show ((P ++ R.take t) ++ v :: y :: (R.drop (t + 1) ++ Q))[T]? = some v by rw [← hPl, List.getElem?_append_right (Nat.le_refl _), Nat.sub_self]; rfl)
          have HGY := Lib.hid (show ((P ++ R.take t) ++ v :: y :: (R.drop (t + 1) ++ Q))[Y]? = some y by rw [← hY, ← hPl, List.getElem?_append_right (by omega), show (P ++ R.take t).length + 1 - (P ++ R.take t).length = 1 by omega]; rfl)
          have HSW := Lib.hid (show (((P ++ R.take t) ++ v :: y :: (R.drop (t + 1) ++ Q)).set T y).set Y v = P ++ R.take (t + 1) ++ v :: (R.drop (t + 1) ++ Q) by
            have h := set_set (P := P ++ R.take t) (M := []) (Q := R.drop (t + 1) ++ Q) (x := v) (y := y)
            rw [hPl, List.length_nil, Nat.zero_add, hY] at h
            simp only [List.nil_append] at h
            rw [h, List.take_succ_eq_append_getElem hyl, hye]
            simp only [List.append_assoc, List.cons_append, List.nil_append])
          have HXN := Lib.hid (show T < n by omega)
          have HYN := Lib.hid (show Y < n by omega)
          have HWJ := Lib.hid (show wrap64 ((T : Int) + 1) = (Y : Int) by rw [w64 _ (by omega) (by omega)]; omega)
          have HTY := Lib.hid (show a + (t + 1) = Y by omega)
          have HTI2 := Lib.hid (show t + 1 ≤ i by omega)
          have HTL := Lib.hid htl
          have HTYe := Lib.hid hY
          obtain ⟨kk, hkk⟩ : ∃ kk : Nat, kk = 11 := ⟨_, rfl⟩
          have HKK := Lib.hid hkk
          have zE := Try.sizeOf34
          simp only [← hkk] at zE
          have aE := Try.isAgg34
          obtain ⟨cx, hcx⟩ : ∃ cx, encS v = cx := ⟨_, rfl⟩
          obtain ⟨cy, hcy⟩ : ∃ cy, encS y = cy := ⟨_, rfl⟩
          have na : cx.length = kk := by rw [← hcx, hkk]; rfl
          have nb : cy.length = kk := by rw [← hcy, hkk]; rfl
          have HCX := Lib.hid hcx
          have HCY := Lib.hid hcy
          have aX : (⟨g, 0, none⟩ : Addr).add (T * kk) = ⟨g, T * kk, none⟩ := add_at _ _
          have aY : (⟨g, 0, none⟩ : Addr).add (Y * kk) = ⟨g, Y * kk, none⟩ := add_at _ _
          have q : (T : Int) < (a : Int) + (i : Int) := by omega
          clear hjr hat hpa hbn hbb hmm hnn hy hyl hye hrow hPl hY htl hkk hcx hcy
          have hl1 := (List.getElem?_eq_some_iff.1 HGX.out).1
          have hl2 := (List.getElem?_eq_some_iff.1 HGY.out).1
          have HSe := HS.out.drew
          have HSx := HSe.put hl1 y
          have HSy := HSx.put (i := Y) (by rw [List.length_set]; exact hl2) v
          rw [HSW.out] at HSy
          have HSZ := Lib.hid HSy
          have la := HSe.ldk HGX.out HKK.out Try.prog
          have lb := HSe.ldk HGY.out HKK.out Try.prog
          have sa := HSe.st hl1 y Try.prog
          have sb := HSx.st (i := Y) (by rw [List.length_set]; exact hl2) v Try.prog
          rw [HCX.out] at la
          rw [HCY.out] at lb
          rw [HCY.out] at sa
          rw [HCX.out, HCY.out] at HSZ
          simp only [HCX.out, HCY.out] at sb
          rw [← HKK.out] at sa sb HSZ
          have e2 : ((T : Int)).toNat = T := by omega
          have p2 : (0 : Int) ≤ (T : Int) := by omega
          have r2 : IntKind.i64.wrap ((T : Int)) = (T : Int) := by rw [IntKind.wrap_i64]; have := HXN.out; have := HN.out; omega
          have e3 : ((Y : Int)).toNat = Y := by omega
          have p3 : (0 : Int) ≤ (Y : Int) := by omega
          have r3 : IntKind.i64.wrap ((Y : Int)) = (Y : Int) := by rw [IntKind.wrap_i64]; have := HYN.out; have := HN.out; omega
          have b2 : (T : Int) < (n : Int) := by have := HXN.out; omega
          have b3 : (Y : Int) < (n : Int) := by have := HYN.out; omega
          have hwj := HWJ.out
          have hwi := HWI.out
          clear hl1 hl2 HSe HSx HSy
          go_upto_region 11 with (fail)
          go_big_region_o
          clear la lb sa sb hwj e2 p2 r2 e3 p3 r3 b2 b3
          generalize (wr.drew.setCells g (T * kk) cy).setCells g (Y * kk) cx = w7 at HSZ ⊢
          clear q
          go_wp2
          go_roundw
          case rel => exact ⟨t + 1, Y, HTI2, by rw [HWJ.out], HTY, HSZ⟩
          case measure => rw [HWJ.out]; exact bub_m (by have := HTYe.out; omega) (by have h1 := HAT.out; have h2 := HTL.out; omega)
        · have hti : t = i := by have := HTI.out; omega
          subst hti
          have hat := HAT.out
          have q : decide ((T : Int) < (a : Int) + (t : Int)) = false := decide_eq_false (by omega)
          have q2 : ¬ (T : Int) < (a : Int) + (t : Int) := by omega
          have hwi := HWI.out
          have HE := Lib.hid (show Sr w0 wr base g n c (P ++ (R.take t ++ v :: R.drop t) ++ Q) by
            have h := HS.out
            have e : P ++ (R.take t ++ v :: R.drop t) ++ Q = P ++ R.take t ++ v :: (R.drop t ++ Q) := by simp only [List.append_assoc, List.cons_append]
            rw [e]; exact h)
          clear htl hat
          go_wp2
          refine bodyPost_ret (results_none rfl _ _ _) rfl ?_
          exact ⟨rfl, _, HT.out, by have h := HE.out; simpa only [List.append_assoc, List.cons_append] using h⟩

set_option maxHeartbeats 8000000 in
set_option maxRecDepth 1000000 in
theorem symR_calls (w0 : World) (base g n c bq : Nat) (cf : Sp → Sp → Int) (hw : Swo (ltC cf)) (HC : Hid (Cmp w0 g bq cf)) (P L Q : List Sp) (v : Sp) (a m b : Nat) (w : World) (ha : P.length = a) (hm : a + L.length = m) (hb : m + 1 = b) (hL2 : 1 < L.length) (hL : Sd (ltC cf) L) (hn : n ≤ 1000000) (hS : Sr w0 w base g n c (P ++ L ++ v :: Q)) :
    Calls Try.prog 67 #[.slice (some ⟨g, 0, none⟩) n c, .int .i64 a, .int .i64 m, .int .i64 b, .func (.func 27) #[] #[.pointer (some ⟨bq, 0, none⟩)]] w fun e w' => e = .returned (.tuple #[]) ∧ ∃ S, Mg (ltC cf) L [v] S ∧ Sr w0 w' base g n c (P ++ S ++ Q) := by
  have HWO := Lib.hid hw
  have HN := Lib.hid hn
  have HPa := Lib.hid ha
  have hlen := hS.len
  simp only [List.length_append, List.length_cons] at hlen
  have HBN := Lib.hid (show b ≤ n by omega)
  have HS := Lib.hid hS
  have HSL := Lib.hid hL
  have HM := Lib.hid hm
  have HB := Lib.hid hb
  clear hw hn hlen hS hL
  have hnn := HN.out
  have hbn := HBN.out
  have HMA := Lib.hid (show wrap64 ((m : Int) - (a : Int)) = (L.length : Int) by rw [w64 _ (by omega) (by omega)]; omega)
  have HBM := Lib.hid (show wrap64 ((b : Int) - (m : Int)) = 1 by rw [w64 _ (by omega) (by omega)]; omega)
  have e0 : ((L.length : Int) == 1) = false := beq_eq_false_iff_ne.2 (by omega)
  clear ha hm hb hL2 hnn hbn
  have mixed : Try.prog.follows Departure.mixedOrders = true := by kernel_rfl
  go_enter Try.func67, Try.ntmps67
  have hma := HMA.out
  have hbm := HBM.out
  go_wp2
  clear hma hbm e0
  go_loopw [14, 15, 16] (fun s u _ wr => ∃ (i j I J : Nat), Hid (i ≤ j) ∧ Hid (j ≤ L.length) ∧ s = .int .i64 I ∧ u = .int .i64 J ∧ Hid (a + i = I) ∧ Hid (a + j = J) ∧ Hid (0 < i → ∀ x, L[i - 1]? = some x → ltC cf v x = false) ∧ Hid (∀ x, L[j]? = some x → ltC cf v x = true) ∧ Hid (Sr w0 wr base g n c (P ++ L ++ v :: Q))) (fun s u _ _ => (intOf u - intOf s).toNat)
  case atStart => exact ⟨0, L.length, a, m, Lib.hid (Nat.zero_le _), Lib.hid (Nat.le_refl _), rfl, rfl, Lib.hid (Nat.add_zero a), HM, Lib.hid (fun h => absurd h (Nat.lt_irrefl _)), Lib.hid (fun x hx => by simp at hx), HS⟩
  case round =>
    clear HS
    obtain ⟨i, j, I, J, HIJ, HJR, rfl, rfl, HMI, HMJ, HI, HJ, HS⟩ := hrel
    by_cases hlt : I < J
    · have q : (I : Int) < (J : Int) := by omega
      obtain ⟨H, hH⟩ : ∃ H, (I + J) / 2 = H := ⟨_, rfl⟩
      obtain ⟨h, hh⟩ : ∃ h, (i + j) / 2 = h := ⟨_, rfl⟩
      have hmi := HMI.out
      have hmj := HMJ.out
      have hmh : a + h = H := by omega
      have hih : i ≤ h := by omega
      have hhj : h < j := by omega
      have hjr := HJR.out
      obtain ⟨x, hx⟩ : ∃ x, L[h]? = some x := ⟨_, List.getElem?_eq_getElem (by omega)⟩
      have hpa := HPa.out
      have hma2 := HM.out
      have HGY := Lib.hid (show (P ++ L ++ v :: Q)[H]? = some x by rw [List.append_assoc, List.getElem?_append_right (by omega), show H - P.length = h by omega, List.getElem?_append_left (by omega)]; exact hx)
      have HGX := Lib.hid (show (P ++ L ++ v :: Q)[m]? = some v by rw [List.getElem?_append_right (by rw [List.length_append]; omega), List.length_append, show m - (P.length + L.length) = 0 by omega]; rfl)
      have HX := Lib.hid hx
      have HHL := Lib.hid (show I ≤ H by omega)
      have HHJ := Lib.hid (show H < J by omega)
      have HIH := Lib.hid hih
      have HHj := Lib.hid hhj
      have HMH := Lib.hid hmh
      have hbn := HBN.out
      have hnn := HN.out
      have hbb := HB.out
      have b1 : (H : Int) < (n : Int) := by omega
      have b2 : (m : Int) < (n : Int) := by omega
      have HHALF := Lib.hid (half_eq (by omega) (by omega) hH)
      have HWH := Lib.hid (show wrap64 ((H : Int) + 1) = ((H + 1 : Nat) : Int) by rw [w64 _ (by omega) (by omega)]; omega)
      clear hlt hH hh hmi hmj hmh hih hhj hjr hx hpa hma2 hbn hnn hbb
      obtain ⟨kk, hkk⟩ : ∃ kk : Nat, kk = 11 := ⟨_, rfl⟩
      have HKK := Lib.hid hkk
      have zE := Try.sizeOf34
      simp only [← hkk] at zE
      have aE := Try.isAgg34
      have la := HS.out.drew.ldk HGX.out hkk Try.prog
      have lb := HS.out.drew.ldk HGY.out hkk Try.prog
      obtain ⟨cx, hcx⟩ : ∃ cx, encS v = cx := ⟨_, rfl⟩
      obtain ⟨cy, hcy⟩ : ∃ cy, encS x = cy := ⟨_, rfl⟩
      have na : cx.length = kk := by rw [← hcx, hkk]; rfl
      have nb : cy.length = kk := by rw [← hcy, hkk]; rfl
      rw [hcx] at la
      rw [hcy] at lb
      have HCX := Lib.hid hcx
      have HCY := Lib.hid hcy
      have aX : (⟨g, 0, none⟩ : Addr).add (m * kk) = ⟨g, m * kk, none⟩ := add_at _ _
      have aY : (⟨g, 0, none⟩ : Addr).add (H * kk) = ⟨g, H * kk, none⟩ := add_at _ _
      have HSd := Lib.hid HS.out.drew
      clear hkk hcx hcy
      have hhalf := HHALF.out
      go_upto_region 17 with (fail)
      refine start_ (n := 12) (S := fun w' => Sem.run Try.prog (loadCellsFrom ⟨g, m * kk, none⟩ 0 kk #[]) w' = .ok cx.toArray w' ∧ Sem.run Try.prog (loadCellsFrom ⟨g, H * kk, none⟩ 0 kk #[]) w' = .ok cy.toArray w') (ds := []) #[false, false, false, false, false, false, false, false, false, false, false, false] (by kernel_rfl) rfl rfl ⟨la, lb⟩ (fun hHeld => ?_)
      generalize hwe : wr.drew = w5 at la lb HSd hHeld ⊢
      clear hwe la lb
      refine pure_ (i := 0) (N := some 92) (v := ?_) (a' := ?_) #[true, false, false, false, false, false, false, false, false, false, false, false] rfl rfl (by kernel_rfl) (fun _ _ _ h => h) (Or.inl ⟨by rfl, ?_⟩) ?_ ?_
      rotate_left
      · intro w'
        go_simp
        with_reducible rfl
      rotate_left
      · simp only [Act.put, List.setIfInBounds_toArray, List.set_cons_zero, List.set_cons_succ, i64_w, i32_w]
        rfl
      refine pure_ (i := 1) (N := some 93) (v := ?_) (a' := ?_) #[true, true, false, false, false, false, false, false, false, false, false, false] rfl rfl (by kernel_rfl) (fun _ _ _ h => h) (Or.inl ⟨by rfl, ?_⟩) ?_ ?_
      rotate_left
      · intro w'
        go_simp
        with_reducible rfl
      rotate_left
      · simp only [Act.put, List.setIfInBounds_toArray, List.set_cons_zero, List.set_cons_succ, i64_w, i32_w]
        rfl
      refine pure_ (i := 2) (N := some 94) (v := ?_) (a' := ?_) #[true, true, true, false, false, false, false, false, false, false, false, false] rfl rfl (by kernel_rfl) (fun _ _ _ h => h) (Or.inl ⟨by rfl, ?_⟩) ?_ ?_
      rotate_left
      · intro w'
        go_simp
        with_reducible rfl
      rotate_left
      · simp only [Act.put, List.setIfInBounds_toArray, List.set_cons_zero, List.set_cons_succ, i64_w, i32_w]
        rfl
      refine pure_ (i := 3) (N := some 95) (v := ?_) (a' := ?_) #[true, true, true, true, false, false, false, false, false, false, false, false] rfl rfl (by kernel_rfl) (fun _ _ _ h => h) (Or.inl ⟨by rfl, ?_⟩) ?_ ?_
      rotate_left
      · intro w'
        go_simp
        with_reducible rfl
      rotate_left
      · simp only [Act.put, List.setIfInBounds_toArray, List.set_cons_zero, List.set_cons_succ, i64_w, i32_w]
        rfl
      refine pure_ (i := 5) (N := some 97) (v := ?_) (a' := ?_) #[true, true, true, true, false, true, false, false, false, false, false, false] rfl rfl (by kernel_rfl) (fun _ _ _ h => h) (Or.inl ⟨by rfl, ?_⟩) ?_ ?_
      rotate_left
      · intro w'
        go_simp
        with_reducible rfl
      rotate_left
      · simp only [Act.put, List.setIfInBounds_toArray, List.set_cons_zero, List.set_cons_succ, i64_w, i32_w]
        rfl
      refine pure_ (i := 6) (N := some 98) (v := ?_) (a' := ?_) #[true, true, true, true, false, true, true, false, false, false, false, false] rfl rfl (by kernel_rfl) (fun _ _ _ h => h) (Or.inl ⟨by rfl, ?_⟩) ?_ ?_
      rotate_left
      · intro w'
        go_simp
        with_reducible rfl
      rotate_left
      · simp only [Act.put, List.setIfInBounds_toArray, List.set_cons_zero, List.set_cons_succ, i64_w, i32_w]
        rfl
      refine pure_ (i := 7) (N := some 99) (v := ?_) (a' := ?_) #[true, true, true, true, false, true, true, true, false, false, false, false] rfl rfl (by kernel_rfl) (fun _ _ _ h => h) (Or.inl ⟨by rfl, ?_⟩) ?_ ?_
      rotate_left
      · intro w'
        go_simp
        with_reducible rfl
      rotate_left
      · simp only [Act.put, List.setIfInBounds_toArray, List.set_cons_zero, List.set_cons_succ, i64_w, i32_w]
        rfl
      refine take_ (i := 4) (N := some 96) (v := ?_) (a' := ?_) #[true, true, true, true, true, true, true, true, false, false, false, false] rfl rfl (by kernel_rfl) (fun _ _ _ h => h) (Or.inl ⟨by rfl, ?_⟩) hHeld ?_ ?_
      rotate_left
      · rintro w' ⟨s0, s1⟩
        go_simp
        with_reducible rfl
      rotate_left
      · simp only [Act.put, List.setIfInBounds_toArray, List.set_cons_zero, List.set_cons_succ, i64_w, i32_w]
        rfl
      refine take_ (i := 8) (N := some 100) (v := ?_) (a' := ?_) #[true, true, true, true, true, true, true, true, true, false, false, false] rfl rfl (by kernel_rfl) (fun _ _ _ h => h) (Or.inl ⟨by rfl, ?_⟩) hHeld ?_ ?_
      rotate_left
      · rintro w' ⟨s0, s1⟩
        go_simp
        with_reducible rfl
      rotate_left
      · simp only [Act.put, List.setIfInBounds_toArray, List.set_cons_zero, List.set_cons_succ, i64_w, i32_w]
        rfl
      refine one_ (i := 9) (N := some 101) #[true, true, true, true, true, true, true, true, true, true, false, false] rfl rfl (by kernel_rfl) (by decide) (fun K hK => ?_)
      have hcm := HC.out v x w5 HSd.out.gr
      rw [HCX.out, HCY.out] at hcm
      refine goesv_ Try.func27 (by kernel_rfl) rfl #[.agg cx.toArray, .agg cy.toArray, .pointer (some ⟨bq, 0, none⟩)] (by rfl) rfl rfl (by rfl) (by simp only [List.map_toArray, List.map_cons, List.map_nil]; rfl) ?_
      with_reducible refine (hcm).mono ?_
      rintro ee w6 ⟨rfl, hb⟩
      refine ⟨_, rfl, ?_⟩
      have HS6 := Lib.hid (HSd.out.next hb)
      clear hb hcm
      have la := HS6.out.ldk HGX.out HKK.out Try.prog
      have lb := HS6.out.ldk HGY.out HKK.out Try.prog
      rw [HCX.out] at la
      rw [HCY.out] at lb
      refine hK.out _ _ ⟨la, lb⟩ (fun hHeld => ?_)
      clear hK K
      refine norm_ (a' := ?_) ?_ ?_
      rotate_left
      · show Act.put _ (some 101) _ = _
        simp only [Act.put, List.setIfInBounds_toArray, List.set_cons_zero, List.set_cons_succ, i64_w, i32_w]
        rfl
      refine pure_ (i := 10) (N := some 102) (v := ?_) (a' := ?_) #[true, true, true, true, true, true, true, true, true, true, true, false] rfl rfl (by kernel_rfl) (fun _ _ _ h => h) (Or.inl ⟨by rfl, ?_⟩) ?_ ?_
      rotate_left
      · intro w'
        go_simp
        with_reducible rfl
      rotate_left
      · simp only [Act.put, List.setIfInBounds_toArray, List.set_cons_zero, List.set_cons_succ, i64_w, i32_w]
        rfl
      refine pure_ (i := 11) (N := some 103) (v := ?_) (a' := ?_) #[true, true, true, true, true, true, true, true, true, true, true, true] rfl rfl (by kernel_rfl) (fun _ _ _ h => h) (Or.inl ⟨by rfl, ?_⟩) ?_ ?_
      rotate_left
      · intro w'
        go_simp
        with_reducible rfl
      rotate_left
      · simp only [Act.put, List.setIfInBounds_toArray, List.set_cons_zero, List.set_cons_succ, i64_w, i32_w]
        rfl
      refine done_ (by kernel_rfl) ?_
      clear la lb
      clear hhalf b1 b2
      obtain ⟨rb, hrb⟩ : ∃ rb, decide (cf v x < 0) = rb := ⟨_, rfl⟩
      rw [hrb]
      cases rb with
      | true =>
        have HLV := Lib.hid (show ltC cf v x = true from hrb)
        clear hrb
        go_wp2
        go_roundw
        case rel => exact ⟨i, h, I, H, HIH, Lib.hid (by have h1 := HHj.out; have h2 := HJR.out; omega), rfl, by rw [HHALF.out], HMI, HMH, HI, Lib.hid (fun y hy => by rw [HX.out] at hy; injection hy with hy; rw [← hy]; exact HLV.out), HS6⟩
        case measure => rw [HHALF.out]; exact bs_m2 HHL.out HHJ.out
      | false =>
        have HLV := Lib.hid (show ltC cf v x = false from hrb)
        clear hrb
        go_wp2
        go_roundw
        case rel => exact ⟨h + 1, j, H + 1, J, Lib.hid (by have := HHj.out; omega), HJR, by rw [HHALF.out, HWH.out], rfl, Lib.hid (by have := HMH.out; omega), HMJ, Lib.hid (fun _ y hy => by rw [Nat.add_sub_cancel, HX.out] at hy; injection hy with hy; rw [← hy]; exact HLV.out), HJ, HS6⟩
        case measure => rw [HHALF.out, HWH.out]; exact bs_m1 HHL.out HHJ.out
    · have hij : i = j := by have h1 := HMI.out; have h2 := HMJ.out; have h3 := HIJ.out; omega
      subst hij
      have q : decide ((I : Int) < (J : Int)) = false := decide_eq_false (by omega)
      have qn : decide (I < J) = false := decide_eq_false hlt
      have HT := Lib.hid (show Mg (ltC cf) L [v] (L.take i ++ v :: L.drop i) by
        have h1 := border_le (R := [v]) (k1 := i) (k2 := 0) HWO.out HSL.out (List.pairwise_singleton _ _) HJR.out (fun h x y hx hy => by injection hy with hy; rw [← hy]; exact HI.out h x hx)
        have h2 := border_lt (R := [v]) (k1 := i) (k2 := 1) HWO.out HSL.out (List.pairwise_singleton _ _) (Nat.le_refl _) (fun h x y hx hy => by injection hy with hy; rw [← hy]; exact HJ.out x hx)
        have h3 := Mg.oneR (v := v) (L1 := L.take i) (L2 := L.drop i) HWO.out (by rw [List.take_append_drop]; exact HSL.out) (fun r hr => h1 r hr v (by simp)) (fun r hr => h2 r hr v (by simp))
        rw [List.take_append_drop] at h3
        exact h3)
      have HS0 := Lib.hid (show Sr w0 wr base g n c (P ++ L.take L.length ++ v :: (L.drop L.length ++ Q)) by
        have h := HS.out
        rw [List.take_length, List.drop_length, List.nil_append]
        exact h)
      clear hlt HS HI HJ HMJ HIJ
      go_wp2
      clear q qn
      go_loopw [17] (fun s wr => ∃ (t T : Nat), Hid (i ≤ t) ∧ Hid (t ≤ L.length) ∧ s = .int .i64 T ∧ Hid (a + t = T) ∧ Hid (Sr w0 wr base g n c (P ++ L.take t ++ v :: (L.drop t ++ Q)))) (fun s _ => (intOf s).toNat)
      case atStart => exact ⟨L.length, m, HJR, Lib.hid (Nat.le_refl _), rfl, HM, HS0⟩
      case round =>
        clear HS0
        obtain ⟨t, T, HTI, HTL, rfl, HAT, HS⟩ := hrel
        by_cases htl : i < t
        · have hjr := HTL.out
          have hat := HAT.out
          have hpa := HPa.out
          have hbn := HBN.out
          have hbb := HB.out
          have hmm := HM.out
          have hnn := HN.out
          have hmi := HMI.out
          obtain ⟨t, rfl⟩ : ∃ t', t = t' + 1 := ⟨t - 1, by omega⟩
          obtain ⟨y, hy⟩ : ∃ y, L[t]? = some y := ⟨_, List.getElem?_eq_getElem (by omega)⟩
          obtain ⟨hyl, hye⟩ := List.getElem?_eq_some_iff.1 hy
          have hrow : P ++ L.take (t + 1) ++ v :: (L.drop (t + 1) ++ Q) = (P ++ L.take t) ++ y :: v :: (L.drop (t + 1) ++ Q) := by rw [List.take_succ_eq_append_getElem hyl, hye]; simp only [List.append_assoc, List.cons_append, List.nil_append]
          rw [hrow] at HS
          obtain ⟨Y, hY⟩ : ∃ Y, a + t = Y := ⟨_, rfl⟩
          have hYT : T = Y + 1 := by omega
          have hPl : (P ++ L.take t).length = Y := by rw [List.length_append, List.length_take]; omega
          have HGY := Lib.hid (show ((P ++ L.take t) ++ y :: v :: (L.drop (t + 1) ++ Q))[Y]? = some y by rw [← hPl, List.getElem?_append_right (Nat.le_refl _), Nat.sub_self]; rfl)
          have HGX := Lib.hid (show ((P ++ L.take t) ++ y :: v :: (L.drop (t + 1) ++ Q))[T]? = some v by rw [hYT, ← hPl, List.getElem?_append_right (by omega), show (P ++ L.take t).length + 1 - (P ++ L.take t).length = 1 by omega]; rfl)
          have HSW := Lib.hid (show (((P ++ L.take t) ++ y :: v :: (L.drop (t + 1) ++ Q)).set T y).set Y v = P ++ L.take t ++ v :: (L.drop t ++ Q) by
            have h := set_set' (P := P ++ L.take t) (Q := L.drop (t + 1) ++ Q) (x := y) (y := v)
            rw [hPl, ← hYT] at h
            rw [h, List.drop_eq_getElem_cons hyl, hye]
            simp only [List.append_assoc, List.cons_append, List.nil_append])
          have HXN := Lib.hid (show T < n by omega)
          have HYN := Lib.hid (show Y < n by omega)
          have HWJ := Lib.hid (show wrap64 ((T : Int) - 1) = (Y : Int) by rw [w64 _ (by omega) (by omega)]; omega)
          have HAY := Lib.hid hY
          have HTI2 := Lib.hid (show i ≤ t by omega)
          have HTL2 := Lib.hid (show t ≤ L.length by omega)
          have HYT := Lib.hid hYT
          obtain ⟨kk, hkk⟩ : ∃ kk : Nat, kk = 11 := ⟨_, rfl⟩
          have HKK := Lib.hid hkk
          have zE := Try.sizeOf34
          simp only [← hkk] at zE
          have aE := Try.isAgg34
          obtain ⟨cx, hcx⟩ : ∃ cx, encS v = cx := ⟨_, rfl⟩
          obtain ⟨cy, hcy⟩ : ∃ cy, encS y = cy := ⟨_, rfl⟩
          have na : cx.length = kk := by rw [← hcx, hkk]; rfl
          have nb : cy.length = kk := by rw [← hcy, hkk]; rfl
          have HCX := Lib.hid hcx
          have HCY := Lib.hid hcy
          have aX : (⟨g, 0, none⟩ : Addr).add (T * kk) = ⟨g, T * kk, none⟩ := add_at _ _
          have aY : (⟨g, 0, none⟩ : Addr).add (Y * kk) = ⟨g, Y * kk, none⟩ := add_at _ _
          have q : (I : Int) < (T : Int) := by omega
          clear hjr hat hpa hbn hbb hmm hnn hmi hy hyl hye hrow hPl hY hYT htl hkk hcx hcy
          have hl1 := (List.getElem?_eq_some_iff.1 HGX.out).1
          have hl2 := (List.getElem?_eq_some_iff.1 HGY.out).1
          have HSe := HS.out.drew
          have HSx := HSe.put hl1 y
          have HSy := HSx.put (i := Y) (by rw [List.length_set]; exact hl2) v
          rw [HSW.out] at HSy
          have HSZ := Lib.hid HSy
          have la := HSe.ldk HGX.out HKK.out Try.prog
          have lb := HSe.ldk HGY.out HKK.out Try.prog
          have sa := HSe.st hl1 y Try.prog
          have sb := HSx.st (i := Y) (by rw [List.length_set]; exact hl2) v Try.prog
          rw [HCX.out] at la
          rw [HCY.out] at lb
          rw [HCY.out] at sa
          rw [HCX.out, HCY.out] at HSZ
          simp only [HCX.out, HCY.out] at sb
          rw [← HKK.out] at sa sb HSZ
          have e2 : ((T : Int)).toNat = T := by omega
          have p2 : (0 : Int) ≤ (T : Int) := by omega
          have r2 : IntKind.i64.wrap ((T : Int)) = (T : Int) := by rw [IntKind.wrap_i64]; have := HXN.out; have := HN.out; omega
          have e3 : ((Y : Int)).toNat = Y := by omega
          have p3 : (0 : Int) ≤ (Y : Int) := by omega
          have r3 : IntKind.i64.wrap ((Y : Int)) = (Y : Int) := by rw [IntKind.wrap_i64]; have := HYN.out; have := HN.out; omega
          have b2 : (T : Int) < (n : Int) := by have := HXN.out; omega
          have b3 : (Y : Int) < (n : Int) := by have := HYN.out; omega
          have hwj := HWJ.out
          skip
          clear hl1 hl2 HSe HSx HSy
          go_upto_region 23 with (fail)
          go_big_region_o
          clear la lb sa sb hwj e2 p2 r2 e3 p3 r3 b2 b3
          generalize (wr.drew.setCells g (T * kk) cy).setCells g (Y * kk) cx = w7 at HSZ ⊢
          clear q
          go_wp2
          go_roundw
          case rel => exact ⟨t, Y, HTI2, HTL2, by rw [HWJ.out], HAY, HSZ⟩
          case measure => rw [HWJ.out, HYT.out]; exact ins_down Y
        · have hti : t = i := by have := HTI.out; omega
          subst hti
          have hTI : T = I := by have h1 := HAT.out; have h2 := HMI.out; omega
          subst hTI
          have q : decide ((T : Int) < (T : Int)) = false := decide_eq_false (by omega)
          have HE := Lib.hid (show Sr w0 wr base g n c (P ++ (L.take t ++ v :: L.drop t) ++ Q) by
            have h := HS.out
            have e : P ++ (L.take t ++ v :: L.drop t) ++ Q = P ++ L.take t ++ v :: (L.drop t ++ Q) := by simp only [List.append_assoc, List.cons_append]
            rw [e]; exact h)
          clear htl
          go_wp2
          refine bodyPost_ret (results_none rfl _ _ _) rfl ?_
          exact ⟨rfl, _, HT.out, by have h := HE.out; simpa only [List.append_assoc, List.cons_append] using h⟩
end Go.Proofs.Ytffggkhahambhaa.Tr

namespace Go.Proofs.Ytffggkhahambhaa.Tr
open Go.RowKit Go.Proofs.YtffggkhahambhaaW.PrintWords Go.Proofs.YtffggkhahambhaaW.PrintLast Go.Proofs.YtffggkhahambhaaW.PrintMore Go.Proofs.Ytffggkhahambhaa.Math Go.Proofs.Ytffggkhahambhaa.PAll Go.Proofs.Ytffggkhahambhaa.Stab
set_option linter.unusedVariables false
set_option linter.unusedSimpArgs false
/-- Where the search begins and ends. -/
structure Rng (a m b M N s0 r0 : Nat) : Prop where
  lo : a ≤ s0
  hi : r0 ≤ m
  mid : r0 ≤ M
  sr : s0 ≤ r0
  top : N - s0 ≤ b
  nm : N = M + m
  s0e : s0 = a ∨ N - s0 = b
  r0e : r0 = m ∨ r0 = M
theorem rng1 {a m b M N : Nat} (h1 : a < m) (h2 : m < b) (hM : (a + b) / 2 = M) (hN : M + m = N) (h : M < m) : Rng a m b M N (N - b) M := ⟨by omega, by omega, by omega, by omega, by omega, hN.symm, .inr (by omega), .inr rfl⟩
theorem rng2 {a m b M N : Nat} (h1 : a < m) (h2 : m < b) (hM : (a + b) / 2 = M) (hN : M + m = N) (h : ¬ M < m) : Rng a m b M N a m := ⟨by omega, by omega, by omega, by omega, by omega, hN.symm, .inl rfl, .inl rfl⟩

set_option maxHeartbeats 8000000 in
set_option maxRecDepth 1000000 in
theorem sym_calls (w0 : World) (base g n c bq : Nat) (cf : Sp → Sp → Int) (hw : Swo (ltC cf)) (HC : Hid (Cmp w0 g bq cf)) (hn : n ≤ 1000000) : ∀ (d : Nat) (P L R Q : List Sp) (a m b : Nat) (w : World), L.length + R.length ≤ d → P.length = a → a + L.length = m → m + R.length = b → 0 < L.length → 0 < R.length → Sd (ltC cf) L → Sd (ltC cf) R → Sr w0 w base g n c (P ++ L ++ R ++ Q) →
    Calls Try.prog 67 #[.slice (some ⟨g, 0, none⟩) n c, .int .i64 a, .int .i64 m, .int .i64 b, .func (.func 27) #[] #[.pointer (some ⟨bq, 0, none⟩)]] w fun e w' => e = .returned (.tuple #[]) ∧ ∃ S, Mg (ltC cf) L R S ∧ Sr w0 w' base g n c (P ++ S ++ Q) := by
  have HWO := Lib.hid hw
  have HN := Lib.hid hn
  clear hw hn
  intro d
  induction d with
  | zero => intro P L R Q a m b w hd _ _ _ h1 _; omega
  | succ d ih =>
  intro P L R Q a m b w hd ha hm hb hL0 hR0 hL hR hS
  by_cases hl1 : L.length = 1
  · obtain ⟨v, rfl⟩ : ∃ v, L = [v] := by
      cases L with
      | nil => cases hl1
      | cons v r => exact ⟨v, by simp at hl1; rw [hl1]⟩
    exact symL_calls w0 base g n c bq cf HWO.out HC P R Q v a m b w ha hm hb hR HN.out (by simpa only [List.append_assoc, List.cons_append, List.nil_append] using hS)
  by_cases hr1 : R.length = 1
  · obtain ⟨v, rfl⟩ : ∃ v, R = [v] := by
      cases R with
      | nil => cases hr1
      | cons v r => exact ⟨v, by simp at hr1; rw [hr1]⟩
    exact symR_calls w0 base g n c bq cf HWO.out HC P L Q v a m b w ha hm hb (by omega) hL HN.out (by simpa only [List.append_assoc, List.cons_append, List.nil_append] using hS)
  have IH := Lib.hid ih
  have hnn := HN.out
  have HPa := Lib.hid ha
  have hlen := hS.len
  simp only [List.length_append] at hlen
  have HBN := Lib.hid (show b ≤ n by omega)
  have HS := Lib.hid hS
  have HSL := Lib.hid hL
  have HSR := Lib.hid hR
  have HM := Lib.hid hm
  have HB := Lib.hid hb
  have HL0 := Lib.hid (show 1 < L.length by omega)
  have HR0 := Lib.hid (show 1 < R.length by omega)
  have HD := Lib.hid hd
  obtain ⟨M, hM⟩ : ∃ M, (a + b) / 2 = M := ⟨_, rfl⟩
  obtain ⟨N, hN⟩ : ∃ N, M + m = N := ⟨_, rfl⟩
  have HMA := Lib.hid (show wrap64 ((m : Int) - (a : Int)) = (L.length : Int) by rw [w64 _ (by omega) (by omega)]; omega)
  have HBM := Lib.hid (show wrap64 ((b : Int) - (m : Int)) = (R.length : Int) by rw [w64 _ (by omega) (by omega)]; omega)
  have HMID := Lib.hid (half_eq (I := a) (J := b) (by omega) (by omega) hM)
  have HWN := Lib.hid (show wrap64 ((M : Int) + (m : Int)) = (N : Int) by rw [w64 _ (by omega) (by omega)]; omega)
  have HWS := Lib.hid (show M < m → wrap64 ((N : Int) - (b : Int)) = ((N - b : Nat) : Int) by intro h; rw [w64 _ (by omega) (by omega)]; omega)
  have HWP := Lib.hid (show wrap64 ((N : Int) - 1) = ((N - 1 : Nat) : Int) by rw [w64 _ (by omega) (by omega)]; omega)
  have e0 : ((L.length : Int) == 1) = false := beq_eq_false_iff_ne.2 (by omega)
  have e1 : ((R.length : Int) == 1) = false := beq_eq_false_iff_ne.2 (by omega)
  have HAM := Lib.hid (show a < m by omega)
  have HMB := Lib.hid (show m < b by omega)
  have HMe := Lib.hid hM
  have HNe := Lib.hid hN
  clear ih hd ha hm hb hL0 hR0 hL hR hS hl1 hr1 hlen hnn hM hN
  have mixed : Try.prog.follows Departure.mixedOrders = true := by kernel_rfl
  go_enter Try.func67, Try.ntmps67
  have hma := HMA.out
  have hbm := HBM.out
  go_upto_region 27 with (fail)
  clear hma hbm e0 e1
  obtain ⟨bt, hbt⟩ : ∃ bt : Bool, decide (M < m) = bt := ⟨_, rfl⟩
  have HBT := Lib.hid hbt
  have HBTi := Lib.hid (show decide ((M : Int) < (m : Int)) = bt by rw [← hbt]; exact decide_eq_decide.2 ⟨Int.ofNat_lt.1, Int.ofNat_lt.2⟩)
  clear hbt
  go_cut [18, 19, 140] from 129 to 139 (fun v18 v19 v wq => v18 = .int .i64 M ∧ v19 = .int .i64 N ∧ v = .bool bt ∧ w = wq)
  case first =>
    go_wp2
    go_meet
    case rel => exact ⟨by rw [HMID.out], by rw [HMID.out, HWN.out], by rw [HMID.out]; first | rw [HBTi.out] | simp only [HBT.out, HBTi.out, Int.ofNat_lt], rfl⟩
  case rest =>
  obtain ⟨rfl, rfl, rfl, rfl⟩ := hcut
  apply_assumption
  go_cut [20, 21] from 141 to 146 (fun s r wq => ∃ s0 r0 : Nat, s = .int .i64 s0 ∧ r = .int .i64 r0 ∧ Hid (Rng a m b M N s0 r0) ∧ w = wq)
  case first =>
    cases bt with
    | true =>
      have HR := Lib.hid (rng1 HAM.out HMB.out HMe.out HNe.out (of_decide_eq_true HBT.out))
      have hws := HWS.out (of_decide_eq_true HBT.out)
      go_wp2
      go_meet
      case rel => exact ⟨N - b, M, by first | rfl | rw [hws], rfl, HR, rfl⟩
    | false =>
      have HR := Lib.hid (rng2 HAM.out HMB.out HMe.out HNe.out (of_decide_eq_false HBT.out))
      go_wp2
      go_meet
      case rel => exact ⟨a, m, rfl, rfl, HR, rfl⟩
  case rest =>
  obtain ⟨s0, r0, rfl, rfl, HRG, rfl⟩ := hcut
  apply_assumption
  refine wp_seq_k fun K22 hK22 => ?_
  go_cut [22] from 147 to 148 (fun v wq => v = .int .i64 ((N - 1 : Nat) : Int) ∧ w = wq)
  case first =>
    go_wp2
    go_meet
    case rel => exact ⟨by rw [HWP.out], rfl⟩
  case rest =>
  obtain ⟨rfl, rfl⟩ := hcut
  apply hK22
  refine wp_seq_k fun K33 hK33 => ?_
  go_cut [20, 21, 23] from 149 to 174 (fun s _ _ wq => ∃ e : Nat, s = .int .i64 e ∧ Hid (s0 ≤ e) ∧ Hid (e ≤ r0) ∧ Hid (s0 < e → ∀ x y, L[e - 1 - a]? = some x → R[N - e - m]? = some y → ltC cf y x = false) ∧ Hid (e < r0 → ∀ x y, L[e - a]? = some x → R[N - 1 - e - m]? = some y → ltC cf y x = true) ∧ Hid (Sr w0 wq base g n c (P ++ L ++ R ++ Q)))
  case first =>
    first | (refine wp_block ?_) | skip
    go_loopw [20, 21, 23] (fun s u _ wr => ∃ (i j : Nat), Hid (i ≤ j) ∧ Hid (s0 ≤ i) ∧ Hid (j ≤ r0) ∧ s = .int .i64 i ∧ u = .int .i64 j ∧ Hid (s0 < i → ∀ x y, L[i - 1 - a]? = some x → R[N - i - m]? = some y → ltC cf y x = false) ∧ Hid (j < r0 → ∀ x y, L[j - a]? = some x → R[N - 1 - j - m]? = some y → ltC cf y x = true) ∧ Hid (Sr w0 wr base g n c (P ++ L ++ R ++ Q))) (fun s u _ _ => (intOf u - intOf s).toNat)
    case atStart => exact ⟨s0, r0, Lib.hid HRG.out.sr, Lib.hid (Nat.le_refl _), Lib.hid (Nat.le_refl _), rfl, rfl, Lib.hid (fun h => absurd h (Nat.lt_irrefl _)), Lib.hid (fun h => absurd h (Nat.lt_irrefl _)), HS⟩
    case round =>
      clear HS
      obtain ⟨I, J, HIJ, HSI, HJR, rfl, rfl, HI, HJ, HS⟩ := hrel
      by_cases hlt : I < J
      · have q : (I : Int) < (J : Int) := by omega
        obtain ⟨H, hH⟩ : ∃ H, (I + J) / 2 = H := ⟨_, rfl⟩
        obtain ⟨Z, hZ⟩ : ∃ Z, N - 1 - H = Z := ⟨_, rfl⟩
        have hrg := HRG.out
        have hsi := HSI.out
        have hjr := HJR.out
        have hma2 := HM.out
        have hmb2 := HB.out
        have hpa := HPa.out
        have hbn := HBN.out
        have hnn := HN.out
        obtain ⟨lo, hi, hmid, hsr, htop, hnm, _, _⟩ := hrg
        have hih : I ≤ H := by omega
        have hhj : H < J := by omega
        have hzm : m ≤ Z := by omega
        have hzb : Z < b := by omega
        obtain ⟨x, hx⟩ : ∃ x, L[H - a]? = some x := ⟨_, List.getElem?_eq_getElem (by omega)⟩
        obtain ⟨y, hy⟩ : ∃ y, R[Z - m]? = some y := ⟨_, List.getElem?_eq_getElem (by omega)⟩
        have HGY := Lib.hid (show (P ++ L ++ R ++ Q)[H]? = some x by rw [List.append_assoc, List.append_assoc, List.getElem?_append_right (by omega), hpa, List.getElem?_append_left (by omega)]; exact hx)
        have HGX := Lib.hid (show (P ++ L ++ R ++ Q)[Z]? = some y by rw [List.append_assoc, List.getElem?_append_right (by rw [List.length_append]; omega), List.length_append, show Z - (P.length + L.length) = Z - m by omega, List.getElem?_append_left (by omega)]; exact hy)
        have HX := Lib.hid hx
        have HY := Lib.hid hy
        have HHL := Lib.hid hih
        have HHJ := Lib.hid hhj
        have HZE := Lib.hid hZ
        have HZ1 := Lib.hid (show N - (H + 1) - m = Z - m by omega)
        have b1 : (H : Int) < (n : Int) := by omega
        have b2 : (Z : Int) < (n : Int) := by omega
        have HHALF := Lib.hid (half_eq (by omega) (by omega) hH)
        have HWH := Lib.hid (show wrap64 ((H : Int) + 1) = ((H + 1 : Nat) : Int) by rw [w64 _ (by omega) (by omega)]; omega)
        have HWZ := Lib.hid (show wrap64 (((N - 1 : Nat) : Int) - (H : Int)) = (Z : Int) by rw [w64 _ (by omega) (by omega)]; omega)
        clear hlt hH hZ hsi hjr hma2 hmb2 hpa hbn hnn lo hi hmid hsr htop hnm hih hhj hzm hzb hx hy
        obtain ⟨kk, hkk⟩ : ∃ kk : Nat, kk = 11 := ⟨_, rfl⟩
        have HKK := Lib.hid hkk
        have zE := Try.sizeOf34
        simp only [← hkk] at zE
        have aE := Try.isAgg34
        have la := HS.out.drew.ldk HGX.out hkk Try.prog
        have lb := HS.out.drew.ldk HGY.out hkk Try.prog
        obtain ⟨cx, hcx⟩ : ∃ cx, encS y = cx := ⟨_, rfl⟩
        obtain ⟨cy, hcy⟩ : ∃ cy, encS x = cy := ⟨_, rfl⟩
        have na : cx.length = kk := by rw [← hcx, hkk]; rfl
        have nb : cy.length = kk := by rw [← hcy, hkk]; rfl
        rw [hcx] at la
        rw [hcy] at lb
        have HCX := Lib.hid hcx
        have HCY := Lib.hid hcy
        have aX : (⟨g, 0, none⟩ : Addr).add (Z * kk) = ⟨g, Z * kk, none⟩ := add_at _ _
        have aY : (⟨g, 0, none⟩ : Addr).add (H * kk) = ⟨g, H * kk, none⟩ := add_at _ _
        have HSd := Lib.hid HS.out.drew
        clear hkk hcx hcy
        have hhalf := HHALF.out
        have hwz := HWZ.out
        go_upto_region 35 with (fail)
        refine start_ (n := 14) (S := fun w' => Sem.run Try.prog (loadCellsFrom ⟨g, Z * kk, none⟩ 0 kk #[]) w' = .ok cx.toArray w' ∧ Sem.run Try.prog (loadCellsFrom ⟨g, H * kk, none⟩ 0 kk #[]) w' = .ok cy.toArray w') (ds := []) #[false, false, false, false, false, false, false, false, false, false, false, false, false, false] (by kernel_rfl) rfl rfl ⟨la, lb⟩ (fun hHeld => ?_)
        generalize hwe : wr.drew = w5 at la lb HSd hHeld ⊢
        clear hwe la lb
        refine pure_ (i := 0) (N := some 158) (v := ?_) (a' := ?_) #[true, false, false, false, false, false, false, false, false, false, false, false, false, false] rfl rfl (by kernel_rfl) (fun _ _ _ h => h) (Or.inl ⟨by rfl, ?_⟩) ?_ ?_
        rotate_left
        · intro w'
          go_simp
          with_reducible rfl
        rotate_left
        · simp only [Act.put, List.setIfInBounds_toArray, List.set_cons_zero, List.set_cons_succ, i64_w, i32_w]
          rfl
        refine pure_ (i := 1) (N := some 159) (v := ?_) (a' := ?_) #[true, true, false, false, false, false, false, false, false, false, false, false, false, false] rfl rfl (by kernel_rfl) (fun _ _ _ h => h) (Or.inl ⟨by rfl, ?_⟩) ?_ ?_
        rotate_left
        · intro w'
          go_simp
          with_reducible rfl
        rotate_left
        · simp only [Act.put, List.setIfInBounds_toArray, List.set_cons_zero, List.set_cons_succ, i64_w, i32_w]
          rfl
        refine pure_ (i := 2) (N := some 160) (v := ?_) (a' := ?_) #[true, true, true, false, false, false, false, false, false, false, false, false, false, false] rfl rfl (by kernel_rfl) (fun _ _ _ h => h) (Or.inl ⟨by rfl, ?_⟩) ?_ ?_
        rotate_left
        · intro w'
          go_simp
          with_reducible rfl
        rotate_left
        · simp only [Act.put, List.setIfInBounds_toArray, List.set_cons_zero, List.set_cons_succ, i64_w, i32_w]
          rfl
        refine pure_ (i := 3) (N := some 161) (v := ?_) (a' := ?_) #[true, true, true, true, false, false, false, false, false, false, false, false, false, false] rfl rfl (by kernel_rfl) (fun _ _ _ h => h) (Or.inl ⟨by rfl, ?_⟩) ?_ ?_
        rotate_left
        · intro w'
          go_simp
          with_reducible rfl
        rotate_left
        · simp only [Act.put, List.setIfInBounds_toArray, List.set_cons_zero, List.set_cons_succ, i64_w, i32_w]
          rfl
        refine pure_ (i := 4) (N := some 162) (v := ?_) (a' := ?_) #[true, true, true, true, true, false, false, false, false, false, false, false, false, false] rfl rfl (by kernel_rfl) (fun _ _ _ h => h) (Or.inl ⟨by rfl, ?_⟩) ?_ ?_
        rotate_left
        · intro w'
          go_simp
          with_reducible rfl
        rotate_left
        · simp only [Act.put, List.setIfInBounds_toArray, List.set_cons_zero, List.set_cons_succ, i64_w, i32_w]
          rfl
        refine pure_ (i := 5) (N := some 163) (v := ?_) (a' := ?_) #[true, true, true, true, true, true, false, false, false, false, false, false, false, false] rfl rfl (by kernel_rfl) (fun _ _ _ h => h) (Or.inl ⟨by rfl, ?_⟩) ?_ ?_
        rotate_left
        · intro w'
          go_simp
          with_reducible rfl
        rotate_left
        · simp only [Act.put, List.setIfInBounds_toArray, List.set_cons_zero, List.set_cons_succ, i64_w, i32_w]
          rfl
        refine pure_ (i := 7) (N := some 165) (v := ?_) (a' := ?_) #[true, true, true, true, true, true, false, true, false, false, false, false, false, false] rfl rfl (by kernel_rfl) (fun _ _ _ h => h) (Or.inl ⟨by rfl, ?_⟩) ?_ ?_
        rotate_left
        · intro w'
          go_simp
          with_reducible rfl
        rotate_left
        · simp only [Act.put, List.setIfInBounds_toArray, List.set_cons_zero, List.set_cons_succ, i64_w, i32_w]
          rfl
        refine pure_ (i := 8) (N := some 166) (v := ?_) (a' := ?_) #[true, true, true, true, true, true, false, true, true, false, false, false, false, false] rfl rfl (by kernel_rfl) (fun _ _ _ h => h) (Or.inl ⟨by rfl, ?_⟩) ?_ ?_
        rotate_left
        · intro w'
          go_simp
          with_reducible rfl
        rotate_left
        · simp only [Act.put, List.setIfInBounds_toArray, List.set_cons_zero, List.set_cons_succ, i64_w, i32_w]
          rfl
        refine pure_ (i := 9) (N := some 167) (v := ?_) (a' := ?_) #[true, true, true, true, true, true, false, true, true, true, false, false, false, false] rfl rfl (by kernel_rfl) (fun _ _ _ h => h) (Or.inl ⟨by rfl, ?_⟩) ?_ ?_
        rotate_left
        · intro w'
          go_simp
          with_reducible rfl
        rotate_left
        · simp only [Act.put, List.setIfInBounds_toArray, List.set_cons_zero, List.set_cons_succ, i64_w, i32_w]
          rfl
        refine take_ (i := 6) (N := some 164) (v := ?_) (a' := ?_) #[true, true, true, true, true, true, true, true, true, true, false, false, false, false] rfl rfl (by kernel_rfl) (fun _ _ _ h => h) (Or.inl ⟨by rfl, ?_⟩) hHeld ?_ ?_
        rotate_left
        · rintro w' ⟨s0, s1⟩
          go_simp
          with_reducible rfl
        rotate_left
        · simp only [Act.put, List.setIfInBounds_toArray, List.set_cons_zero, List.set_cons_succ, i64_w, i32_w]
          rfl
        refine take_ (i := 10) (N := some 168) (v := ?_) (a' := ?_) #[true, true, true, true, true, true, true, true, true, true, true, false, false, false] rfl rfl (by kernel_rfl) (fun _ _ _ h => h) (Or.inl ⟨by rfl, ?_⟩) hHeld ?_ ?_
        rotate_left
        · rintro w' ⟨s0, s1⟩
          go_simp
          with_reducible rfl
        rotate_left
        · simp only [Act.put, List.setIfInBounds_toArray, List.set_cons_zero, List.set_cons_succ, i64_w, i32_w]
          rfl
        refine one_ (i := 11) (N := some 169) #[true, true, true, true, true, true, true, true, true, true, true, true, false, false] rfl rfl (by kernel_rfl) (by decide) (fun K hK => ?_)
        have hcm := HC.out y x w5 HSd.out.gr
        rw [HCX.out, HCY.out] at hcm
        refine goesv_ Try.func27 (by kernel_rfl) rfl #[.agg cx.toArray, .agg cy.toArray, .pointer (some ⟨bq, 0, none⟩)] (by rfl) rfl rfl (by rfl) (by simp only [List.map_toArray, List.map_cons, List.map_nil]; rfl) ?_
        with_reducible refine (hcm).mono ?_
        rintro ee w6 ⟨rfl, hb⟩
        refine ⟨_, rfl, ?_⟩
        have HS6 := Lib.hid (HSd.out.next hb)
        clear hb hcm
        have la := HS6.out.ldk HGX.out HKK.out Try.prog
        have lb := HS6.out.ldk HGY.out HKK.out Try.prog
        rw [HCX.out] at la
        rw [HCY.out] at lb
        refine hK.out _ _ ⟨la, lb⟩ (fun hHeld => ?_)
        clear hK K
        refine norm_ (a' := ?_) ?_ ?_
        rotate_left
        · show Act.put _ (some 169) _ = _
          simp only [Act.put, List.setIfInBounds_toArray, List.set_cons_zero, List.set_cons_succ, i64_w, i32_w]
          rfl
        refine pure_ (i := 12) (N := some 170) (v := ?_) (a' := ?_) #[true, true, true, true, true, true, true, true, true, true, true, true, true, false] rfl rfl (by kernel_rfl) (fun _ _ _ h => h) (Or.inl ⟨by rfl, ?_⟩) ?_ ?_
        rotate_left
        · intro w'
          go_simp
          with_reducible rfl
        rotate_left
        · simp only [Act.put, List.setIfInBounds_toArray, List.set_cons_zero, List.set_cons_succ, i64_w, i32_w]
          rfl
        refine pure_ (i := 13) (N := some 171) (v := ?_) (a' := ?_) #[true, true, true, true, true, true, true, true, true, true, true, true, true, true] rfl rfl (by kernel_rfl) (fun _ _ _ h => h) (Or.inl ⟨by rfl, ?_⟩) ?_ ?_
        rotate_left
        · intro w'
          go_simp
          with_reducible rfl
        rotate_left
        · simp only [Act.put, List.setIfInBounds_toArray, List.set_cons_zero, List.set_cons_succ, i64_w, i32_w]
          rfl
        refine done_ (by kernel_rfl) ?_
        clear la lb
        clear hhalf hwz b1 b2
        obtain ⟨rb, hrb⟩ : ∃ rb, decide (cf y x < 0) = rb := ⟨_, rfl⟩
        rw [hrb]
        cases rb with
        | true =>
          have HLV := Lib.hid (show ltC cf y x = true from hrb)
          clear hrb
          go_wp2
          go_roundw
          case rel => exact ⟨I, H, HHL, HSI, Lib.hid (by have h1 := HHJ.out; have h2 := HJR.out; omega), rfl, by rw [HHALF.out], HI, Lib.hid (fun _ x' y' hx' hy' => by rw [HX.out] at hx'; rw [HZE.out, HY.out] at hy'; injection hx' with hx'; injection hy' with hy'; rw [← hx', ← hy']; exact HLV.out), HS6⟩
          case measure => rw [HHALF.out]; exact bs_m2 HHL.out HHJ.out
        | false =>
          have HLV := Lib.hid (show ltC cf y x = false from hrb)
          clear hrb
          go_wp2
          go_roundw
          case rel => exact ⟨H + 1, J, Lib.hid (by have := HHJ.out; omega), Lib.hid (by have h1 := HHL.out; have h2 := HSI.out; omega), HJR, by rw [HHALF.out, HWH.out], rfl, Lib.hid (fun _ x' y' hx' hy' => by rw [Nat.add_sub_cancel, HX.out] at hx'; rw [HZ1.out, HY.out] at hy'; injection hx' with hx'; injection hy' with hy'; rw [← hx', ← hy']; exact HLV.out), HJ, HS6⟩
          case measure => rw [HHALF.out, HWH.out]; exact bs_m1 HHL.out HHJ.out
      · have hij : I = J := by have h3 := HIJ.out; omega
        subst hij
        have q : decide ((I : Int) < (I : Int)) = false := decide_eq_false (by omega)
        clear hlt
        go_wp2
        go_meet
        case rel => exact ⟨I, rfl, HSI, HJR, HI, HJ, HS⟩
  case rest =>
  clear HS
  obtain ⟨e, rfl, HSE, HER, HI, HJ, HS⟩ := hcut
  apply hK33
  obtain ⟨E, hE⟩ : ∃ E, N - e = E := ⟨_, rfl⟩
  obtain ⟨lo, hi, hmid, hsr, htop, hnm, hs0e, hr0e⟩ := HRG.out
  have hse := HSE.out
  have her := HER.out
  have hm2 := HM.out
  have hb2 := HB.out
  have hpa := HPa.out
  have hbn := HBN.out
  have hnn := HN.out
  have hMe := HMe.out
  have HWE := Lib.hid (show wrap64 ((N : Int) - (e : Int)) = (E : Int) by rw [w64 _ (by omega) (by omega)]; omega)
  obtain ⟨k1, hk1⟩ : ∃ k1, e - a = k1 := ⟨_, rfl⟩
  obtain ⟨k2, hk2⟩ : ∃ k2, E - m = k2 := ⟨_, rfl⟩
  have HBL := Lib.hid (border_le (k1 := k1) (k2 := k2) HWO.out HSL.out HSR.out (by omega) (fun h x y hx hy => by
    have h1 := (List.getElem?_eq_some_iff.1 hy).1
    refine HI.out (by omega) x y ?_ ?_
    · rw [show e - 1 - a = k1 - 1 by omega]; exact hx
    · rw [show N - e - m = k2 by omega]; exact hy))
  have HBT2 := Lib.hid (border_lt (k1 := k1) (k2 := k2) HWO.out HSL.out HSR.out (by omega) (fun h x y hx hy => by
    have h1 := (List.getElem?_eq_some_iff.1 hx).1
    refine HJ.out (by omega) x y ?_ ?_
    · rw [show e - a = k1 by omega]; exact hx
    · rw [show N - 1 - e - m = k2 - 1 by omega]; exact hy))
  obtain ⟨L1, hL1⟩ : ∃ L1, L.take k1 = L1 := ⟨_, rfl⟩
  obtain ⟨L2, hL2⟩ : ∃ L2, L.drop k1 = L2 := ⟨_, rfl⟩
  obtain ⟨R1, hR1⟩ : ∃ R1, R.take k2 = R1 := ⟨_, rfl⟩
  obtain ⟨R2, hR2⟩ : ∃ R2, R.drop k2 = R2 := ⟨_, rfl⟩
  have HLS := Lib.hid (show L1 ++ L2 = L by rw [← hL1, ← hL2, List.take_append_drop])
  have HRS := Lib.hid (show R1 ++ R2 = R by rw [← hR1, ← hR2, List.take_append_drop])
  have HL1 := Lib.hid (show a + L1.length = e by rw [← hL1, List.length_take]; omega)
  have HL2 := Lib.hid (show e + L2.length = m by rw [← hL2, List.length_drop]; omega)
  have HR1 := Lib.hid (show m + R1.length = E by rw [← hR1, List.length_take]; omega)
  have HR2 := Lib.hid (show E + R2.length = b by rw [← hR2, List.length_drop]; omega)
  have HEM := Lib.hid (show e + R1.length = M by rw [← hR1, List.length_take]; omega)
  have HME := Lib.hid (show M + L2.length = E by rw [← hL2, List.length_drop]; omega)
  have HDL := Lib.hid (show L1.length + R1.length ≤ d by have h1 := HD.out; have h2 := HL0.out; rw [← hL1, ← hR1, List.length_take, List.length_take]; omega)
  have HDR := Lib.hid (show L2.length + R2.length ≤ d by have h1 := HD.out; have h2 := HL0.out; have h3 := HR0.out; rw [← hL2, ← hR2, List.length_drop, List.length_drop]; omega)
  rw [hL1, hR2] at HBL
  rw [hL2, hR1] at HBT2
  have hsr2 := HS.out
  rw [← HLS.out, ← HRS.out] at hsr2
  have HSO := Lib.hid (show Sr w0 wc base g n c ((P ++ L1) ++ L2 ++ R1 ++ (R2 ++ Q)) by simpa only [List.append_assoc] using hsr2)
  have HPL1 := Lib.hid (show (P ++ L1).length = e by rw [List.length_append, hpa, HL1.out])
  clear hE lo hi hmid hsr htop hnm hs0e hr0e hse her hm2 hb2 hpa hbn hnn hMe hk1 hk2 hL1 hL2 hR1 hR2 hsr2 HS HI HJ
  refine wp_seq_k fun K24 hK24 => ?_
  go_cut [24] from 175 to 177 (fun v wq => v = .int .i64 E ∧ wc = wq)
  case first =>
    go_wp2
    go_meet
    case rel => exact ⟨by rw [HWE.out], rfl⟩
  case rest =>
  obtain ⟨rfl, rfl⟩ := hcut
  apply hK24
  obtain ⟨bo, hbo⟩ : ∃ bo : Bool, (decide (e < m) && decide (m < E)) = bo := ⟨_, rfl⟩
  have Hbo := Lib.hid hbo
  clear hbo
  go_upto_region 39 with (fail)
  go_cut [185] from 178 to 184 (fun v wq => v = .bool bo ∧ wc = wq)
  case first =>
    by_cases h1 : e < m
    · have q1 : (e : Int) < (m : Int) := by omega
      by_cases h2 : m < E
      · have q2 : (m : Int) < (E : Int) := by omega
        have HE1 := Lib.hid (show true = bo by rw [← Hbo.out, decide_eq_true h1, decide_eq_true h2]; rfl)
        go_wp2
        go_meet
        case rel => exact ⟨by rw [← HE1.out], rfl⟩
      · have q2 : decide ((m : Int) < (E : Int)) = false := decide_eq_false (by omega)
        have q2n : decide (m < E) = false := decide_eq_false h2
        have HE1 := Lib.hid (show false = bo by rw [← Hbo.out, decide_eq_true h1, decide_eq_false h2]; rfl)
        clear h2
        go_wp2
        go_meet
        case rel => exact ⟨by rw [← HE1.out], rfl⟩
    · have q1 : decide ((e : Int) < (m : Int)) = false := decide_eq_false (by omega)
      have q1n : decide (e < m) = false := decide_eq_false h1
      have HE1 := Lib.hid (show false = bo by rw [← Hbo.out, decide_eq_false h1]; rfl)
      clear h1
      go_wp2
      go_meet
      case rel => exact ⟨by rw [← HE1.out], rfl⟩
  case rest =>
  obtain ⟨rfl, rfl⟩ := hcut
  apply_assumption
  go_cut [185] from 186 to 191 (fun _ wq => Hid (Sr w0 wq base g n c ((P ++ L1) ++ R1 ++ L2 ++ (R2 ++ Q))))
  case first =>
    cases bo with
    | true =>
      have hq : e < m ∧ m < E := by have := Hbo.out; simpa using this
      have hcall := rotate_calls w0 base g n c (P ++ L1) L2 R1 (R2 ++ Q) e m E (.func (.func 27) #[] #[.pointer (some ⟨bq, 0, none⟩)]) wc HPL1.out (by rw [HPL1.out]; exact HL2.out) HR1.out (by have := HL2.out; omega) (by have := HR1.out; omega) HN.out HSO.out
      have HCALL := Lib.hid hcall
      clear hcall hq
      go_wp2_with fail
      refine HCALL.out.mono ?_
      rintro ee w2 ⟨rfl, hs2⟩
      have HS2 := Lib.hid hs2
      clear hs2
      go_wp2
      go_meet
      case rel => exact HS2
    | false =>
      have HS2 := Lib.hid (show Sr w0 wc base g n c ((P ++ L1) ++ R1 ++ L2 ++ (R2 ++ Q)) by
        have hq := Hbo.out
        rw [Bool.and_eq_false_iff, decide_eq_false_iff_not, decide_eq_false_iff_not] at hq
        have h := HSO.out
        rcases hq with hq | hq
        · have : L2 = [] := List.eq_nil_of_length_eq_zero (by have := HL2.out; omega)
          rw [this] at h ⊢
          simpa using h
        · have : R1 = [] := List.eq_nil_of_length_eq_zero (by have := HR1.out; omega)
          rw [this] at h ⊢
          simpa using h)
      go_wp2
      go_meet
      case rel => exact HS2
  case rest =>
  clear HSO
  have HSO := hcut
  clear hcut
  apply_assumption
  obtain ⟨bp, hbp⟩ : ∃ bp : Bool, (decide (a < e) && decide (e < M)) = bp := ⟨_, rfl⟩
  have Hbp := Lib.hid hbp
  clear hbp
  go_upto_region 41 with (fail)
  go_cut [199] from 192 to 198 (fun v wq => v = .bool bp ∧ wc = wq)
  case first =>
    by_cases h1 : a < e
    · have q1 : (a : Int) < (e : Int) := by omega
      by_cases h2 : e < M
      · have q2 : (e : Int) < (M : Int) := by omega
        have HE1 := Lib.hid (show true = bp by rw [← Hbp.out, decide_eq_true h1, decide_eq_true h2]; rfl)
        go_wp2
        go_meet
        case rel => exact ⟨by rw [← HE1.out], rfl⟩
      · have q2 : decide ((e : Int) < (M : Int)) = false := decide_eq_false (by omega)
        have q2n : decide (e < M) = false := decide_eq_false h2
        have HE1 := Lib.hid (show false = bp by rw [← Hbp.out, decide_eq_true h1, decide_eq_false h2]; rfl)
        clear h2
        go_wp2
        go_meet
        case rel => exact ⟨by rw [← HE1.out], rfl⟩
    · have q1 : decide ((a : Int) < (e : Int)) = false := decide_eq_false (by omega)
      have q1n : decide (a < e) = false := decide_eq_false h1
      have HE1 := Lib.hid (show false = bp by rw [← Hbp.out, decide_eq_false h1]; rfl)
      clear h1
      go_wp2
      go_meet
      case rel => exact ⟨by rw [← HE1.out], rfl⟩
  case rest =>
  obtain ⟨rfl, rfl⟩ := hcut
  apply_assumption
  go_cut [199] from 200 to 205 (fun _ wq => ∃ S1, Hid (Mg (ltC cf) L1 R1 S1) ∧ Hid (Sr w0 wq base g n c ((P ++ S1) ++ L2 ++ R2 ++ Q)))
  case first =>
    have HSL1 := Lib.hid (show Sd (ltC cf) L1 from by have h := HSL.out; rw [← HLS.out] at h; exact (sd_app.1 h).1)
    have HSR1 := Lib.hid (show Sd (ltC cf) R1 from by have h := HSR.out; rw [← HRS.out] at h; exact (sd_app.1 h).1)
    cases bp with
    | true =>
      have hq : a < e ∧ e < M := by have := Hbp.out; simpa using this
      have hcall := IH.out P L1 R1 (L2 ++ R2 ++ Q) a e M wc HDL.out HPa.out HL1.out HEM.out (by have := HL1.out; omega) (by have := HEM.out; omega) HSL1.out HSR1.out (by have h := HSO.out; simpa only [List.append_assoc] using h)
      have HCALL := Lib.hid hcall
      clear hcall hq
      go_wp2_with fail
      refine HCALL.out.mono ?_
      rintro ee w2 ⟨rfl, S1, hg1, hs2⟩
      have HG1 := Lib.hid hg1
      have HS2 := Lib.hid (show Sr w0 w2 base g n c ((P ++ S1) ++ L2 ++ R2 ++ Q) by simpa only [List.append_assoc] using hs2)
      clear hs2 hg1
      go_wp2
      go_meet
      case rel => exact ⟨S1, HG1, HS2⟩
    | false =>
      have HG1 := Lib.hid (show Mg (ltC cf) L1 R1 (L1 ++ R1) by
        have hq := Hbp.out
        rw [Bool.and_eq_false_iff, decide_eq_false_iff_not, decide_eq_false_iff_not] at hq
        rcases hq with hq | hq
        · have : L1 = [] := List.eq_nil_of_length_eq_zero (by have := HL1.out; omega)
          rw [this, List.nil_append]
          exact Mg.nilL HSR1.out
        · have : R1 = [] := List.eq_nil_of_length_eq_zero (by have := HEM.out; omega)
          rw [this, List.append_nil]
          exact Mg.nilR HSL1.out)
      have HS2 := Lib.hid (show Sr w0 wc base g n c ((P ++ (L1 ++ R1)) ++ L2 ++ R2 ++ Q) by have h := HSO.out; simpa only [List.append_assoc] using h)
      go_wp2
      go_meet
      case rel => exact ⟨L1 ++ R1, HG1, HS2⟩
  case rest =>
  clear HSO
  obtain ⟨S1, HG1, HSO⟩ := hcut
  apply_assumption
  have HPS1 := Lib.hid (show (P ++ S1).length = M by rw [List.length_append, HPa.out, HG1.out.len]; have h1 := HL1.out; have h2 := HEM.out; omega)
  obtain ⟨bq2, hbq2⟩ : ∃ bq2 : Bool, (decide (M < E) && decide (E < b)) = bq2 := ⟨_, rfl⟩
  have Hbq2 := Lib.hid hbq2
  clear hbq2
  go_upto_region 43 with (fail)
  go_cut [213] from 206 to 212 (fun v wq => v = .bool bq2 ∧ wc = wq)
  case first =>
    by_cases h1 : M < E
    · have q1 : (M : Int) < (E : Int) := by omega
      by_cases h2 : E < b
      · have q2 : (E : Int) < (b : Int) := by omega
        have HE1 := Lib.hid (show true = bq2 by rw [← Hbq2.out, decide_eq_true h1, decide_eq_true h2]; rfl)
        go_wp2
        go_meet
        case rel => exact ⟨by rw [← HE1.out], rfl⟩
      · have q2 : decide ((E : Int) < (b : Int)) = false := decide_eq_false (by omega)
        have q2n : decide (E < b) = false := decide_eq_false h2
        have HE1 := Lib.hid (show false = bq2 by rw [← Hbq2.out, decide_eq_true h1, decide_eq_false h2]; rfl)
        clear h2
        go_wp2
        go_meet
        case rel => exact ⟨by rw [← HE1.out], rfl⟩
    · have q1 : decide ((M : Int) < (E : Int)) = false := decide_eq_false (by omega)
      have q1n : decide (M < E) = false := decide_eq_false h1
      have HE1 := Lib.hid (show false = bq2 by rw [← Hbq2.out, decide_eq_false h1]; rfl)
      clear h1
      go_wp2
      go_meet
      case rel => exact ⟨by rw [← HE1.out], rfl⟩
  case rest =>
  obtain ⟨rfl, rfl⟩ := hcut
  apply_assumption
  have HSL2 := Lib.hid (show Sd (ltC cf) L2 from by have h := HSL.out; rw [← HLS.out] at h; exact (sd_app.1 h).2.1)
  have HSR2 := Lib.hid (show Sd (ltC cf) R2 from by have h := HSR.out; rw [← HRS.out] at h; exact (sd_app.1 h).2.1)
  have HJOIN := Lib.hid (show ∀ S2, Mg (ltC cf) L2 R2 S2 → Mg (ltC cf) L R (S1 ++ S2) from fun S2 hg2 => by
    have h := Mg.join HWO.out HG1.out hg2 (by rw [HLS.out]; exact HSL.out) (by rw [HRS.out]; exact HSR.out) HBL.out HBT2.out
    rwa [HLS.out, HRS.out] at h)
  cases bq2 with
  | true =>
    have hq : M < E ∧ E < b := by have := Hbq2.out; simpa using this
    have hcall := IH.out (P ++ S1) L2 R2 Q M E b wc HDR.out HPS1.out HME.out HR2.out (by have := HME.out; omega) (by have := HR2.out; omega) HSL2.out HSR2.out HSO.out
    have HCALL := Lib.hid hcall
    clear hcall hq
    go_wp2_with fail
    refine HCALL.out.mono ?_
    rintro ee w2 ⟨rfl, S2, hg2, hs2⟩
    have HG2 := Lib.hid (HJOIN.out S2 hg2)
    have HS2 := Lib.hid hs2
    clear hs2 hg2
    go_wp2
    go_end0
    exact ⟨rfl, S1 ++ S2, HG2.out, by have h := HS2.out; simpa only [List.append_assoc] using h⟩
  | false =>
    have HG2 := Lib.hid (HJOIN.out (L2 ++ R2) (by
      have hq := Hbq2.out
      rw [Bool.and_eq_false_iff, decide_eq_false_iff_not, decide_eq_false_iff_not] at hq
      rcases hq with hq | hq
      · have : L2 = [] := List.eq_nil_of_length_eq_zero (by have := HME.out; omega)
        rw [this, List.nil_append]
        exact Mg.nilL HSR2.out
      · have : R2 = [] := List.eq_nil_of_length_eq_zero (by have := HR2.out; omega)
        rw [this, List.append_nil]
        exact Mg.nilR HSL2.out))
    go_wp2
    go_end0
    exact ⟨rfl, S1 ++ (L2 ++ R2), HG2.out, by have h := HSO.out; simpa only [List.append_assoc] using h⟩
end Go.Proofs.Ytffggkhahambhaa.Tr

namespace Go.Proofs.Ytffggkhahambhaa.Stab
set_option linter.unusedVariables false
variable {α : Type} {lt : α → α → Bool}
/-- Sorted in blocks of s; the last one may be shorter. -/
inductive Lv (lt : α → α → Bool) (s : Nat) : List α → List α → Prop
  | last (A S : List α) : A.length ≤ s → S.length = A.length → Stb lt A S → Lv lt s A S
  | cons (A S xs ys : List α) : A.length = s → S.length = s → Stb lt A S → Lv lt s xs ys → Lv lt s (A ++ xs) (S ++ ys)
/-- .. all blocks whole. -/
inductive Full (lt : α → α → Bool) (s : Nat) : List α → List α → Prop
  | nil : Full lt s [] []
  | cons (A S xs ys : List α) : A.length = s → S.length = s → Stb lt A S → Full lt s xs ys → Full lt s (A ++ xs) (S ++ ys)
theorem Full.snoc {s : Nat} {xs ys A S : List α} (h : Full lt s xs ys) (hA : A.length = s) (hS : S.length = s) (hst : Stb lt A S) : Full lt s (xs ++ A) (ys ++ S) := by
  induction h with
  | nil => have := Full.cons A S [] [] hA hS hst Full.nil; simpa using this
  | cons B T us vs h1 h2 h3 _ ih => rw [List.append_assoc, List.append_assoc]; exact Full.cons B T _ _ h1 h2 h3 ih
theorem Full.app {s : Nat} {xs ys us vs : List α} (h : Full lt s xs ys) (g : Lv lt s us vs) : Lv lt s (xs ++ us) (ys ++ vs) := by
  induction h with
  | nil => exact g
  | cons B T cs bs h1 h2 h3 _ ih => rw [List.append_assoc, List.append_assoc]; exact Lv.cons B T _ _ h1 h2 h3 ih
theorem Lv.len {s : Nat} {xs ys : List α} (h : Lv lt s xs ys) : ys.length = xs.length := by
  induction h with
  | last A S _ h _ => exact h
  | cons A S xs ys h1 h2 _ _ ih => rw [List.length_append, List.length_append, ih, h1, h2]
theorem Full.len {s : Nat} {xs ys : List α} (h : Full lt s xs ys) : ys.length = xs.length := by
  induction h with
  | nil => rfl
  | cons A S xs ys h1 h2 _ _ ih => rw [List.length_append, List.length_append, ih, h1, h2]
/-- No longer than a block: sorted. -/
theorem Lv.one {s : Nat} {xs ys : List α} (h : Lv lt s xs ys) (hl : ys.length ≤ s) : Stb lt xs ys := by
  cases h with
  | last _ _ _ _ h => exact h
  | cons A S us vs h1 h2 h3 h4 =>
    have hv : vs = [] := List.eq_nil_of_length_eq_zero (by rw [List.length_append] at hl; omega)
    subst hv
    have hu : us = [] := List.eq_nil_of_length_eq_zero (by rw [← h4.len]; rfl)
    subst hu
    simpa using h3
/-- Two blocks at the front. -/
theorem Lv.two {s : Nat} {xs ys : List α} (h : Lv lt s xs ys) (hs : 0 < s) (hl : 2 * s ≤ ys.length) : ∃ A1 A2 xr S1 S2 r, xs = A1 ++ A2 ++ xr ∧ ys = S1 ++ S2 ++ r ∧ A1.length = s ∧ A2.length = s ∧ S1.length = s ∧ S2.length = s ∧ Stb lt A1 S1 ∧ Stb lt A2 S2 ∧ Lv lt s xr r := by
  cases h with
  | last A S h1 h2 h3 => omega
  | cons A S us vs h1 h2 h3 h4 =>
    rw [List.length_append] at hl
    cases h4 with
    | last _ _ g1 g2 g3 => exact ⟨A, us, [], S, vs, [], by simp, by simp, h1, by omega, h2, by omega, h3, g3, .last [] [] (Nat.zero_le _) rfl (Stb.nil lt)⟩
    | cons B T cs bs g1 g2 g3 g4 => exact ⟨A, B, cs, S, T, bs, by simp, by simp, h1, g1, h2, g2, h3, g3, g4⟩
/-- A block and a shorter one. -/
theorem Lv.oneAnd {s : Nat} {xs ys : List α} (h : Lv lt s xs ys) (hl : s < ys.length) (hl2 : ys.length < 2 * s) : ∃ A1 A2 S1 S2, xs = A1 ++ A2 ∧ ys = S1 ++ S2 ∧ S1.length = s ∧ A1.length = s ∧ S2.length = A2.length ∧ 0 < S2.length ∧ Stb lt A1 S1 ∧ Stb lt A2 S2 := by
  cases h with
  | last A S h1 h2 h3 => omega
  | cons A S us vs h1 h2 h3 h4 =>
    rw [List.length_append] at hl hl2
    exact ⟨A, us, S, vs, rfl, rfl, h2, h1, h4.len, by omega, h3, h4.one (by omega)⟩
theorem Mg.of {A1 A2 S1 S2 S : List α} (h : Mg lt S1 S2 S) (h1 : Stb lt A1 S1) (h2 : Stb lt A2 S2) : Stb lt (A1 ++ A2) S := ⟨h.stb.srt, (h1.keep.app h2.keep).trans h.stb.keep⟩
end Go.Proofs.Ytffggkhahambhaa.Stab

namespace Go.Proofs.Ytffggkhahambhaa.Tr
open Go.RowKit Go.Proofs.YtffggkhahambhaaW.PrintWords Go.Proofs.YtffggkhahambhaaW.PrintLast Go.Proofs.YtffggkhahambhaaW.PrintMore Go.Proofs.Ytffggkhahambhaa.Math Go.Proofs.Ytffggkhahambhaa.PAll Go.Proofs.Ytffggkhahambhaa.Stab
set_option linter.unusedVariables false
set_option linter.unusedSimpArgs false
theorem st_m {n a b : Nat} (h : a < b) (hb : a < n + 1) : n + 1 - (intOf (.int .i64 (b : Int))).toNat < n + 1 - (intOf (.int .i64 (a : Int))).toNat := by
  show n + 1 - ((b : Nat) : Int).toNat < n + 1 - ((a : Nat) : Int).toNat
  omega

set_option maxHeartbeats 8000000 in
set_option maxRecDepth 1000000 in
theorem stable_calls (w0 : World) (base g n c bq : Nat) (cf : Sp → Sp → Int) (hw : Swo (ltC cf)) (HC : Hid (Cmp w0 g bq cf)) (hn : n ≤ 1000000) (X : List Sp) (w : World) (hS : Sr w0 w base g n c X) :
    Calls Try.prog 48 #[.slice (some ⟨g, 0, none⟩) n c, .int .i64 n, .func (.func 27) #[] #[.pointer (some ⟨bq, 0, none⟩)]] w fun e w' => e = .returned (.tuple #[]) ∧ ∃ S, S.length = X.length ∧ Stb (ltC cf) X S ∧ Sr w0 w' base g n c S := by
  have HWO := Lib.hid hw
  have HN := Lib.hid hn
  have HS := Lib.hid hS
  have HL := Lib.hid hS.len
  clear hw hn hS
  have mixed : Try.prog.follows Departure.mixedOrders = true := by kernel_rfl
  go_enter Try.func48, Try.ntmps48
  go_wp2
  go_loopw [7, 8] (fun s u wr => ∃ (a b : Nat) (xD D U : List Sp), s = .int .i64 a ∧ u = .int .i64 b ∧ Hid (b = a + 20) ∧ Hid (a ≤ n) ∧ Hid (D.length = a) ∧ Hid (Full (ltC cf) 20 xD D) ∧ Hid (X = xD ++ U) ∧ Hid (Sr w0 wr base g n c (D ++ U))) (fun s _ _ => n + 1 - (intOf s).toNat)
  case atStart => exact ⟨0, 20, [], [], X, rfl, rfl, Lib.hid rfl, Lib.hid (Nat.zero_le _), Lib.hid rfl, Lib.hid .nil, Lib.hid rfl, HS⟩
  case round =>
    clear HS
    obtain ⟨a, b, xD, D, U, rfl, rfl, HBA, HAN, HDL, HF, HX, HS⟩ := hrel
    by_cases hlt : b ≤ n
    · have hba := HBA.out
      have hnn := HN.out
      have hdl := HDL.out
      have hlen := HS.out.len
      rw [List.length_append] at hlen
      have q : (b : Int) ≤ (n : Int) := by omega
      have HUT := Lib.hid (List.take_append_drop 20 U)
      obtain ⟨U1, hU1⟩ : ∃ U1, U.take 20 = U1 := ⟨_, rfl⟩
      obtain ⟨U2, hU2⟩ : ∃ U2, U.drop 20 = U2 := ⟨_, rfl⟩
      have HU1 := Lib.hid (show U1.length = 20 by rw [← hU1, List.length_take]; omega)
      rw [hU1, hU2] at HUT
      have hsr := HS.out
      rw [← HUT.out] at hsr
      have hcall := insertion_calls w0 base g n c bq cf HWO.out HC D U1 U2 a b wr hdl (by rw [HU1.out, hba]) HN.out (by simpa only [List.append_assoc] using hsr)
      have HCALL := Lib.hid hcall
      have HWB := Lib.hid (show wrap64 ((b : Int) + 20) = ((b + 20 : Nat) : Int) by rw [w64 _ (by omega) (by omega)]; omega)
      have HLT := Lib.hid hlt
      clear hcall hsr hlt hba hnn hdl hlen hU1 hU2
      go_wp2_with fail
      refine HCALL.out.mono ?_
      rintro e w2 ⟨rfl, S, hsl, hst, hs2⟩
      have HS2 := Lib.hid hs2
      have HF2 := Lib.hid (HF.out.snoc HU1.out (by rw [hsl]; exact HU1.out) hst)
      have HD2 := Lib.hid (show (D ++ S).length = b by rw [List.length_append, hsl, HU1.out, HDL.out, HBA.out])
      have HX2 := Lib.hid (show X = (xD ++ U1) ++ U2 by rw [HX.out, ← HUT.out, List.append_assoc])
      clear hs2 hst hsl HCALL
      go_wp2
      go_roundw
      case rel => exact ⟨b, b + 20, xD ++ U1, D ++ S, U2, rfl, by rw [HWB.out], Lib.hid rfl, HLT, HD2, HF2, HX2, HS2⟩
      case measure => exact st_m (by have := HBA.out; omega) (by have := HAN.out; omega)
    · have hba := HBA.out
      have hnn := HN.out
      have hdl := HDL.out
      have hlen := HS.out.len
      rw [List.length_append] at hlen
      have q : decide ((b : Int) ≤ (n : Int)) = false := decide_eq_false (by omega)
      have qn : decide (b ≤ n) = false := decide_eq_false hlt
      have hcall := insertion_calls w0 base g n c bq cf HWO.out HC D U [] a n wr hdl (by omega) HN.out (by simpa using HS.out)
      have HCALL := Lib.hid hcall
      have HUL := Lib.hid (show U.length < 20 by omega)
      clear hcall hlt hba hnn hdl hlen
      go_wp2_with fail
      refine HCALL.out.mono ?_
      rintro e w2 ⟨rfl, S, hsl, hst, hs2⟩
      have HS2 := Lib.hid (show Sr w0 w2 base g n c (D ++ S) by simpa using hs2)
      have HLV := Lib.hid (show Lv (ltC cf) 20 X (D ++ S) by rw [HX.out]; exact HF.out.app (.last U S (by have := HUL.out; omega) hsl hst))
      obtain ⟨Y, hY⟩ : ∃ Y, D ++ S = Y := ⟨_, rfl⟩
      rw [hY] at HS2 HLV
      clear hs2 hst hsl HCALL hY HS HF HX HUL HDL q qn
      go_wp2
      go_loopw [6, 7, 8, 9] (fun v6 _ _ _ wr => ∃ (s : Nat) (Y : List Sp), v6 = .int .i64 s ∧ Hid (0 < s) ∧ Hid (s ≤ 2000000) ∧ Hid (Lv (ltC cf) s X Y) ∧ Hid (Sr w0 wr base g n c Y)) (fun v6 _ _ _ _ => 4000001 - (intOf v6).toNat)
      case atStart => exact ⟨20, Y, rfl, Lib.hid (by decide), Lib.hid (by decide), HLV, HS2⟩
      case round =>
        clear HLV HS2
        obtain ⟨s, Y, rfl, HS0, HSB, HLV, HS⟩ := hrel
        have HYL := Lib.hid (show Y.length = n from HS.out.len.symm)
        by_cases hlt : s < n
        · have q : (s : Int) < (n : Int) := by omega
          obtain ⟨s2, hs2⟩ : ∃ s2, 2 * s = s2 := ⟨_, rfl⟩
          have HS2E := Lib.hid hs2
          have HSN := Lib.hid hlt
          have HW2 := Lib.hid (show wrap64 (2 * (s : Int)) = (s2 : Int) by have := HSB.out; rw [w64 _ (by omega) (by omega)]; omega)
          have HW3 := Lib.hid (show wrap64 ((s : Int) * 2) = (s2 : Int) by have := HSB.out; rw [w64 _ (by omega) (by omega)]; omega)
          clear hlt hs2
          go_wp2
          clear q
          go_loopw [7, 8] (fun v u wr => ∃ (a b : Nat) (xD D xU U : List Sp), v = .int .i64 a ∧ u = .int .i64 b ∧ Hid (b = a + s2) ∧ Hid (a ≤ n) ∧ Hid (D.length = a) ∧ Hid (Full (ltC cf) s2 xD D) ∧ Hid (Lv (ltC cf) s xU U) ∧ Hid (X = xD ++ xU) ∧ Hid (Sr w0 wr base g n c (D ++ U))) (fun v _ _ => n + 1 - (intOf v).toNat)
          case atStart => exact ⟨0, s2, [], [], X, Y, rfl, by rw [HW2.out], Lib.hid (by omega), Lib.hid (Nat.zero_le _), Lib.hid rfl, Lib.hid .nil, HLV, Lib.hid rfl, HS⟩
          case round =>
            clear HS HLV HYL
            obtain ⟨a, b, xD, D, xU, U, rfl, rfl, HBA, HAN, HDL, HF, HLV, HX, HS⟩ := hrel
            have hba := HBA.out
            have hnn := HN.out
            have hdl := HDL.out
            have hsb := HSB.out
            have hs0 := HS0.out
            have hs2e := HS2E.out
            have hlen := HS.out.len
            have han := HAN.out
            rw [List.length_append] at hlen
            obtain ⟨m, hm⟩ : ∃ m, a + s = m := ⟨_, rfl⟩
            have HWM := Lib.hid (show wrap64 ((a : Int) + (s : Int)) = (m : Int) by rw [w64 _ (by omega) (by omega)]; omega)
            by_cases hlt : b ≤ n
            · obtain ⟨A1, A2, xr, S1, S2, r, hx1, hu1, hA1, hA2, hS1, hS2, hst1, hst2, hlr⟩ := HLV.out.two hs0 (by omega)
              have q : (b : Int) ≤ (n : Int) := by omega
              have hsr := HS.out
              rw [hu1] at hsr
              have hcall := sym_calls w0 base g n c bq cf HWO.out HC HN.out (S1.length + S2.length) D S1 S2 r a m b wr (Nat.le_refl _) hdl (by omega) (by omega) (by omega) (by omega) hst1.srt hst2.srt (by simpa only [List.append_assoc] using hsr)
              have HCALL := Lib.hid hcall
              obtain ⟨b2, hb2⟩ : ∃ b2, b + s2 = b2 := ⟨_, rfl⟩
              have HB2 := Lib.hid hb2
              have HWB := Lib.hid (show wrap64 ((b : Int) + wrap64 (2 * (s : Int))) = (b2 : Int) by rw [HW2.out, w64 _ (by omega) (by omega)]; omega)
              have HA12 := Lib.hid (show (A1 ++ A2).length = s2 by rw [List.length_append]; omega)
              have HS12 := Lib.hid (show S1.length + S2.length = s2 by omega)
              have HT1 := Lib.hid hst1
              have HT2 := Lib.hid hst2
              have HLR := Lib.hid hlr
              have HX1 := Lib.hid (show X = (xD ++ (A1 ++ A2)) ++ xr by rw [HX.out, hx1]; simp only [List.append_assoc])
              have HLT := Lib.hid hlt
              have hwm := HWM.out
              clear hcall hsr hlt hba hnn hdl hsb hs0 hs2e hlen han hm hx1 hu1 hA1 hA2 hS1 hS2 hst1 hst2 hlr hb2
              go_wp2_with fail
              refine HCALL.out.mono ?_
              rintro e w2 ⟨rfl, S, hg, hs2⟩
              have HS2' := Lib.hid hs2
              have HF2 := Lib.hid (HF.out.snoc HA12.out (by rw [hg.len]; exact HS12.out) (hg.of HT1.out HT2.out))
              have HD2 := Lib.hid (show (D ++ S).length = b by rw [List.length_append, hg.len, HS12.out, HDL.out, HBA.out])
              clear hs2 hg HCALL
              go_wp2
              go_roundw
              case rel => exact ⟨b, b2, xD ++ (A1 ++ A2), D ++ S, xr, r, rfl, by rw [HWB.out], Lib.hid HB2.out.symm, HLT, HD2, HF2, HLR, HX1, HS2'⟩
              case measure => exact st_m (by have h1 := HBA.out; have h2 := HS2E.out; have h3 := HS0.out; omega) (by have := HAN.out; omega)
            · have q : decide ((b : Int) ≤ (n : Int)) = false := decide_eq_false (by omega)
              have qn : decide (b ≤ n) = false := decide_eq_false hlt
              by_cases hmn : m < n
              · have q2 : (m : Int) < (n : Int) := by omega
                obtain ⟨A1, A2, S1, S2, hx1, hu1, hS1, hA1, hS2, hpos, hst1, hst2⟩ := HLV.out.oneAnd (by omega) (by omega)
                have hsr := HS.out
                rw [hu1] at hsr
                have hul : U.length = S1.length + S2.length := by rw [hu1, List.length_append]
                have hcall := sym_calls w0 base g n c bq cf HWO.out HC HN.out (S1.length + S2.length) D S1 S2 [] a m n wr (Nat.le_refl _) hdl (by omega) (by omega) (by omega) (by omega) hst1.srt hst2.srt (by simpa only [List.append_assoc, List.append_nil] using hsr)
                have HCALL := Lib.hid hcall
                have HLV2 := Lib.hid (show ∀ S, Mg (ltC cf) S1 S2 S → Lv (ltC cf) s2 X (D ++ S) from fun S hg => by
                  rw [HX.out, hx1]
                  exact HF.out.app (.last _ _ (by rw [List.length_append]; omega) (by rw [hg.len, List.length_append]; omega) (hg.of hst1 hst2)))
                have HSB2 := Lib.hid (show s2 ≤ 2000000 by have := HSN.out; omega)
                have HS02 := Lib.hid (show 0 < s2 by omega)
                have HSS := Lib.hid (show s < s2 by omega)
                have hwm := HWM.out
                clear hcall hsr hlt hba hnn hdl hsb hs0 hs2e hlen han hm hx1 hu1 hA1 hS1 hS2 hst1 hst2 hpos hmn hul
                go_wp2_with fail
                refine HCALL.out.mono ?_
                rintro e w2 ⟨rfl, S, hg, hs2⟩
                have HS2' := Lib.hid (show Sr w0 w2 base g n c (D ++ S) by simpa only [List.append_nil] using hs2)
                have HLV3 := Lib.hid (HLV2.out S hg)
                clear hs2 hg HCALL
                go_wp2
                go_roundw
                case rel => exact ⟨s2, D ++ S, by rw [HW3.out], HS02, HSB2, HLV3, HS2'⟩
                case measure => rw [HW3.out]; exact st_m HSS.out (by have := HSB.out; omega)
              · have q2 : decide ((m : Int) < (n : Int)) = false := decide_eq_false (by omega)
                have q2n : decide (m < n) = false := decide_eq_false hmn
                have HLV3 := Lib.hid (show Lv (ltC cf) s2 X (D ++ U) by
                  rw [HX.out]
                  have h1 := HLV.out.one (by omega)
                  exact HF.out.app (.last _ _ (by rw [← HLV.out.len]; omega) HLV.out.len h1))
                have HSB2 := Lib.hid (show s2 ≤ 2000000 by have := HSN.out; omega)
                have HS02 := Lib.hid (show 0 < s2 by omega)
                have HSS := Lib.hid (show s < s2 by omega)
                have hwm := HWM.out
                clear hlt hba hnn hdl hsb hs0 hs2e hlen han hm hmn
                go_wp2
                go_roundw
                case rel => exact ⟨s2, D ++ U, by rw [HW3.out], HS02, HSB2, HLV3, HS⟩
                case measure => rw [HW3.out]; exact st_m HSS.out (by have := HSB.out; omega)
        · have q : decide ((s : Int) < (n : Int)) = false := decide_eq_false (by omega)
          have qn : decide (s < n) = false := decide_eq_false hlt
          have HST := Lib.hid (HLV.out.one (by have := HYL.out; omega))
          have HLX := Lib.hid HLV.out.len
          clear hlt
          go_wp2
          go_end0
          exact ⟨rfl, Y, HLX.out, HST.out, HS.out⟩
end Go.Proofs.Ytffggkhahambhaa.Tr

namespace Go.Proofs.Ytffggkhahambhaa.Tr
open Go.RowKit Go.Proofs.YtffggkhahambhaaW.PrintWords Go.Proofs.YtffggkhahambhaaW.PrintLast Go.Proofs.YtffggkhahambhaaW.PrintMore Go.Proofs.Ytffggkhahambhaa.Math Go.Proofs.Ytffggkhahambhaa.PAll Go.Proofs.Ytffggkhahambhaa.Stab
set_option linter.unusedVariables false
set_option linter.unusedSimpArgs false
set_option maxHeartbeats 4000000 in
set_option maxRecDepth 100000 in
theorem insertion_nil (v f : Value) (w : World) : Calls Try.prog 66 #[v, .int .i64 0, .int .i64 0, f] w fun e w' => e = .returned (.tuple #[]) ∧ w = w' := by
  have HW1 := Lib.hid (show wrap64 (0 + 1) = 1 by unfold wrap64; omega)
  go_enter Try.func66, Try.ntmps66
  go_wp2
  go_loopw [8, 9] (fun s _ wr => s = .int .i64 1 ∧ w = wr) (fun _ _ _ => 0)
  case atStart => exact ⟨by first | rfl | rw [HW1.out], rfl⟩
  case round =>
    obtain ⟨rfl, rfl⟩ := hrel
    go_wp2
    go_end0
    exact ⟨rfl, rfl⟩
set_option maxHeartbeats 4000000 in
set_option maxRecDepth 100000 in
theorem stable_nil (v f : Value) (w : World) : Calls Try.prog 48 #[v, .int .i64 0, f] w fun e w' => e = .returned (.tuple #[]) ∧ w = w' := by
  have hi := Lib.hid (insertion_nil v f w)
  go_enter Try.func48, Try.ntmps48
  go_wp2
  go_loopw [7, 8] (fun s u wr => s = .int .i64 0 ∧ u = .int .i64 20 ∧ w = wr) (fun _ _ _ => 0)
  case atStart => exact ⟨rfl, rfl, rfl⟩
  case round =>
    obtain ⟨rfl, rfl, rfl⟩ := hrel
    go_wp2_with fail
    refine hi.out.mono ?_
    rintro e w2 ⟨rfl, rfl⟩
    go_wp2
    go_loopw [6, 7, 8, 9] (fun s _ _ _ wr => s = .int .i64 20 ∧ w = wr) (fun _ _ _ _ _ => 0)
    case atStart => exact ⟨rfl, rfl⟩
    case round =>
      obtain ⟨rfl, rfl⟩ := hrel
      go_wp2
      go_end0
      exact ⟨rfl, rfl⟩
set_option maxHeartbeats 4000000 in
set_option maxRecDepth 100000 in
theorem sortStable_pos {base bq g n c : Nat} {xs : List Sp} {w : World} {cf : Sp → Sp → Int} (HS : Hid (Calls Try.prog 48 #[.slice (some ⟨g, 0, none⟩) n c, .int .i64 n, .func (.func 27) #[] #[.pointer (some ⟨bq, 0, none⟩)]] w fun e w' => e = .returned (.tuple #[]) ∧ ∃ S, S.length = xs.length ∧ Stb (ltC cf) xs S ∧ Sr w w' base g n c S)) :
    Calls Try.prog 26 #[.slice (some ⟨g, 0, none⟩) n c, .func (.func 27) #[] #[.pointer (some ⟨bq, 0, none⟩)]] w fun e w' => e = .returned (.tuple #[]) ∧ ∃ S, S.length = xs.length ∧ Stb (ltC cf) xs S ∧ Sr w w' base g n c S := by
  go_enter Try.func26, Try.ntmps26
  go_wp2_with fail
  refine HS.out.mono ?_
  rintro e w2 ⟨rfl, hs⟩
  have HS2 := Lib.hid hs
  clear hs HS
  go_wp2
  go_end0
  exact ⟨rfl, HS2.out⟩
set_option maxHeartbeats 4000000 in
set_option maxRecDepth 100000 in
theorem sortStable_calls {base bq n c : Nat} {A : Option Addr} {xs : List Sp} {w : World} {cf : Sp → Sp → Int} (hw : Swo (ltC cf)) (h : Kd.R kS 34 w base (fun _ => True) (.slice A n c) xs) (hn : xs.length ≤ 1000000) (HC : ∀ g, A = some ⟨g, 0, none⟩ → Cmp w g bq cf) :
    Calls Try.prog 26 #[.slice A n c, .func (.func 27) #[] #[.pointer (some ⟨bq, 0, none⟩)]] w fun e w' => e = .returned (.tuple #[]) ∧ ∃ ys : List Sp, ys.length = xs.length ∧ Stb (ltC cf) xs ys ∧ Kd.R kS 34 w' base (fun _ => True) (.slice A n c) ys ∧ w.grownBy w' (Value.slice A n c).ownBlock := by
  have hnl := (Kd.R_reads' h).1
  rcases Nat.eq_zero_or_pos xs.length with hz0 | h0
  · have hnil : xs = [] := List.length_eq_zero_iff.1 hz0
    subst hnil
    have hn0 : n = 0 := hnl
    subst hn0
    have HS := Lib.hid (stable_nil (.slice A 0 c) (.func (.func 27) #[] #[.pointer (some ⟨bq, 0, none⟩)]) w)
    have HR := Lib.hid h
    clear h hw hn HC hz0 hnl
    go_enter Try.func26, Try.ntmps26
    go_wp2_with fail
    refine HS.out.mono ?_
    rintro e w2 ⟨rfl, rfl⟩
    go_wp2
    go_end0
    exact ⟨rfl, [], rfl, Stb.nil _, HR.out, grownBy_refl _ _⟩
  · obtain ⟨ad, c', he⟩ := Kd.R_slice1 h h0
    injection he with he1 he2 he3
    subst he1
    obtain ⟨g, cur, rfl, _⟩ := row_open h h0
    refine (sortStable_pos (Lib.hid (stable_calls w base g n c bq cf hw (Lib.hid (HC g rfl)) (by omega) xs w (Sr.start h)))).mono ?_
    rintro e w2 ⟨rfl, S, hsl, hst, hs2⟩
    exact ⟨rfl, S, hsl, hst, hs2.row, hs2.gr⟩
end Go.Proofs.Ytffggkhahambhaa.Tr
