/- Spans as cells, and rows of them: read, kept, stored in. -/
import Derived.Test.YtffggkhahambhaaPAllx0
import Derived.Test.YtffggkhahambhaaBlocks
import Derived.Test.YtffggkhahambhaaWMore
import Derived.Laws.CopyRow
import Derived.Shelf.SlSortCmp.NoneTotal
namespace Go.Proofs.Ytffggkhahambhaa.Tr
open Go.RowKit Go.Proofs.YtffggkhahambhaaW.PrintWords Go.Proofs.YtffggkhahambhaaW.PrintLast Go.Proofs.YtffggkhahambhaaW.PrintMore Go.Proofs.Ytffggkhahambhaa.Math Go.Proofs.Ytffggkhahambhaa.PAll
open Go.Sort (HoldsK flatK get_flatK size_flatK)
set_option linter.unusedVariables false
set_option linter.unusedSimpArgs false

/-- A span, as its cells: the rows within by where they lie. -/
structure Sp where
  tr : Int
  id : Int
  par : Int
  svc : ByteArray
  op : ByteArray
  st : Int
  du : Int
  stt : Int
  a : Option Addr × Nat × Nat
  e : Option Addr × Nat × Nat
  l : Option Addr × Nat × Nat
instance : Inhabited Sp := ⟨⟨0, 0, 0, ⟨#[]⟩, ⟨#[]⟩, 0, 0, 0, (none, 0, 0), (none, 0, 0), (none, 0, 0)⟩⟩
/-- A kind of elements that are told by their cells alone. -/
def flat {α : Type} (enc : α → List Value) (n : Nat) (hl : ∀ x, (enc x).length = n) (h1 : ∀ x, ∀ v ∈ enc x, v.oneCell' = true) : Kd α where
  sz := n
  E := []
  K := fun _ x cs => cs = enc x
  M := fun _ _ _ x cs => cs = enc x
  K_len := fun h => by rw [h]; exact hl _
  K_one := fun h u hu => by rw [h] at hu; exact h1 _ u hu
  K_below := fun _ h => h
  K_of_M := fun h => h
  M_mono := fun _ h => h
  M_bound := fun h => h
  M_move := fun _ h => h
  M_lower := fun _ h => h
def slv (t : Option Addr × Nat × Nat) : Value := .slice t.1 t.2.1 t.2.2
def encS (s : Sp) : List Value := [.int .u64 s.tr, .int .u64 s.id, .int .u64 s.par, .string s.svc, .string s.op, .int .i64 s.st, .int .i64 s.du, .int .i64 s.stt, .slice s.a.1 s.a.2.1 s.a.2.2, .slice s.e.1 s.e.2.1 s.e.2.2, .slice s.l.1 s.l.2.1 s.l.2.2]
theorem encS_len (s : Sp) : (encS s).length = 11 := rfl
theorem encS_one (s : Sp) : ∀ v ∈ encS s, v.oneCell' = true := by
  intro v hv
  simp only [encS, List.mem_cons, List.not_mem_nil, or_false] at hv
  rcases hv with rfl | rfl | rfl | rfl | rfl | rfl | rfl | rfl | rfl | rfl | rfl <;> rfl
def kS : Kd Sp := flat encS 11 encS_len encS_one
theorem at_S {w : World} {A : Option Addr} {n : Nat} {xs : List Sp} (h : Kd.C kS w A n xs) {k : Nat} {s : Sp} (hk : xs[k]? = some s) : ∃ ad, A = some ad ∧ w.cell? (ad.add (k * 11)) = some (.int .u64 s.tr) ∧ w.cell? ⟨(ad.add (k * 11)).block, (ad.add (k * 11)).off + 1, none⟩ = some (.int .u64 s.id) ∧ w.cell? ⟨(ad.add (k * 11)).block, (ad.add (k * 11)).off + 2, none⟩ = some (.int .u64 s.par) ∧ w.cell? ⟨(ad.add (k * 11)).block, (ad.add (k * 11)).off + 3, none⟩ = some (.string s.svc) ∧ w.cell? ⟨(ad.add (k * 11)).block, (ad.add (k * 11)).off + 4, none⟩ = some (.string s.op) ∧ w.cell? ⟨(ad.add (k * 11)).block, (ad.add (k * 11)).off + 5, none⟩ = some (.int .i64 s.st) ∧ w.cell? ⟨(ad.add (k * 11)).block, (ad.add (k * 11)).off + 6, none⟩ = some (.int .i64 s.du) ∧ w.cell? ⟨(ad.add (k * 11)).block, (ad.add (k * 11)).off + 7, none⟩ = some (.int .i64 s.stt) ∧ w.cell? ⟨(ad.add (k * 11)).block, (ad.add (k * 11)).off + 8, none⟩ = some (.slice s.a.1 s.a.2.1 s.a.2.2) ∧ w.cell? ⟨(ad.add (k * 11)).block, (ad.add (k * 11)).off + 9, none⟩ = some (.slice s.e.1 s.e.2.1 s.e.2.2) ∧ w.cell? ⟨(ad.add (k * 11)).block, (ad.add (k * 11)).off + 10, none⟩ = some (.slice s.l.1 s.l.2.1 s.l.2.2) := by
  obtain ⟨hkl, hs⟩ := List.getElem?_eq_some_iff.1 hk
  obtain ⟨ad, c, e, _, hK, hc⟩ := Kd.C_get h (default : Sp) (k : Int) (by omega) (by have := h.1; omega)
  have e2 : xs.getD (k : Int).toNat default = s := by rw [Int.toNat_natCast, List.getD_eq_getElem?_getD, hk]; rfl
  rw [e2] at hK
  have hK : c = encS s := hK
  subst hK
  have hc : ∀ j u, (encS s)[j]? = some u → w.cell? (ad.add (k * 11 + j)) = some u := by simpa [kS, flat] using hc
  exact ⟨ad, e, hc 0 _ rfl, by rw [← add_field _ _ 1 (by omega)]; exact hc 1 _ rfl, by rw [← add_field _ _ 2 (by omega)]; exact hc 2 _ rfl, by rw [← add_field _ _ 3 (by omega)]; exact hc 3 _ rfl, by rw [← add_field _ _ 4 (by omega)]; exact hc 4 _ rfl, by rw [← add_field _ _ 5 (by omega)]; exact hc 5 _ rfl, by rw [← add_field _ _ 6 (by omega)]; exact hc 6 _ rfl, by rw [← add_field _ _ 7 (by omega)]; exact hc 7 _ rfl, by rw [← add_field _ _ 8 (by omega)]; exact hc 8 _ rfl, by rw [← add_field _ _ 9 (by omega)]; exact hc 9 _ rfl, by rw [← add_field _ _ 10 (by omega)]; exact hc 10 _ rfl⟩
theorem infoS : (Try.prog.info? 34).map (fun i => (i.zero, i.size, i.bytes)) = some (some (.agg #[(.int .u64 0), (.int .u64 0), (.int .u64 0), (.string ⟨#[]⟩), (.string ⟨#[]⟩), (.int .i64 0), (.int .i64 0), (.int .i64 0), (.slice none 0 0), (.slice none 0 0), (.slice none 0 0)]), 11, 152) := by kernel_rfl
/-- What a span is in the law's own kinds. -/
def Is (w : World) (s : Sp) (x : S34) : Prop := k34.K w x (encS s)
theorem Is.below {w w1 : World} {s : Sp} {x : S34} (h : Is w s x) (hb : Below w.heap.size w w1) : Is w1 s x := k34.K_below hb h
theorem Is.fields {w : World} {s : Sp} {x : S34} (h : Is w s x) : x.f0 = s.tr ∧ x.f1 = s.id ∧ x.f2 = s.par ∧ x.f3 = s.svc ∧ x.f4 = s.op ∧ x.f5 = s.st ∧ x.f6 = s.du ∧ x.f7 = s.stt := by
  obtain ⟨A8, c8, A9, c9, A10, c10, he, _⟩ := k34_open h
  simp only [encS, List.cons.injEq, Value.int.injEq, Value.string.injEq, true_and] at he
  obtain ⟨h0, h1, h2, h3, h4, h5, h6, h7, _⟩ := he
  exact ⟨h0.symm, h1.symm, h2.symm, h3.symm, h4.symm, h5.symm, h6.symm, h7.symm⟩
/-- A row that comes in: its spans as cells. -/
theorem raw_of {w : World} {A : Option Addr} {n : Nat} {xs : List S34} (h : Kd.C k34 w A n xs) : ∃ rs : List Sp, rs.length = xs.length ∧ Kd.C kS w A n rs ∧ ∀ (j : Nat) (s : Sp), rs[j]? = some s → ∃ x, xs[j]? = some x ∧ Is w s x := by
  obtain ⟨hn, hb, hc⟩ := h
  have key : ∀ j, j < xs.length → ∃ s : Sp, ∃ x, xs[j]? = some x ∧ Is w s x ∧ ∀ ad, A = some ad → ∀ i u, (encS s)[i]? = some u → w.cell? (ad.add (j * 11 + i)) = some u := by
    intro j hj
    obtain ⟨ad, rfl, hcc⟩ := hc (by omega)
    obtain ⟨c, hcl, hK, hce⟩ := hcc j _ (List.getElem?_eq_getElem hj)
    have hcell : ∀ i u, c[i]? = some u → w.cell? (ad.add (j * 11 + i)) = some u := hce
    obtain ⟨A8, c8, A9, c9, A10, c10, rfl, _⟩ := k34_open hK
    refine ⟨⟨xs[j].f0, xs[j].f1, xs[j].f2, xs[j].f3, xs[j].f4, xs[j].f5, xs[j].f6, xs[j].f7, (A8, xs[j].f8.length, c8), (A9, xs[j].f9.length, c9), (A10, xs[j].f10.length, c10)⟩, xs[j], List.getElem?_eq_getElem hj, hK, fun ad' he => ?_⟩
    injection he with he
    subst he
    exact hcell
  have pick : ∀ m, m ≤ xs.length → ∃ rs : List Sp, rs.length = m ∧ ∀ (j : Nat) (s : Sp), rs[j]? = some s → ∃ x, xs[j]? = some x ∧ Is w s x ∧ ∀ ad, A = some ad → ∀ i u, (encS s)[i]? = some u → w.cell? (ad.add (j * 11 + i)) = some u := by
    intro m
    induction m with
    | zero => intro _; exact ⟨[], rfl, fun j s h => by simp at h⟩
    | succ m ih =>
      intro hm
      obtain ⟨rs, hl, hr⟩ := ih (by omega)
      obtain ⟨s, hs⟩ := key m (by omega)
      refine ⟨rs ++ [s], by simp [hl], fun j t ht => ?_⟩
      by_cases hj : j < rs.length
      · rw [List.getElem?_append_left hj] at ht
        exact hr j t ht
      · rw [List.getElem?_append_right (by omega)] at ht
        have : j = m := by
          rcases Nat.lt_or_ge (j - rs.length) 1 with h1 | h1
          · omega
          · rw [List.getElem?_eq_none (by simpa using h1)] at ht; cases ht
        subst this
        rw [hl, Nat.sub_self] at ht
        simp at ht
        rw [← ht]
        exact hs
  obtain ⟨rs, hl, hr⟩ := pick xs.length (Nat.le_refl _)
  refine ⟨rs, hl, ⟨by rw [hl]; exact hn, hb, fun hp => ?_⟩, fun j s hj => ?_⟩
  · obtain ⟨ad, rfl, _⟩ := hc hp
    refine ⟨ad, rfl, fun j p hj => ⟨encS p, rfl, rfl, fun i u hu => ?_⟩⟩
    obtain ⟨x, _, _, hx⟩ := hr j p hj
    exact hx ad rfl i u hu
  · obtain ⟨x, h1, h2, _⟩ := hr j s hj
    exact ⟨x, h1, h2⟩
theorem arr_S (s : Sp) : (encS s).toArray = #[.int .u64 s.tr, .int .u64 s.id, .int .u64 s.par, .string s.svc, .string s.op, .int .i64 s.st, .int .i64 s.du, .int .i64 s.stt, .slice s.a.1 s.a.2.1 s.a.2.2, .slice s.e.1 s.e.2.1 s.e.2.2, .slice s.l.1 s.l.2.1 s.l.2.2] := rfl
/-- A span's own block, cell by cell. -/
theorem blkS {w : World} {g : Nat} {t : TypeId} {s : Sp} (h : w.heap[g]? = some (.cells (encS s).toArray t (0, 0))) : w.cell? ⟨g, 0, none⟩ = some (.int .u64 s.tr) ∧ w.cell? ⟨g, 1, none⟩ = some (.int .u64 s.id) ∧ w.cell? ⟨g, 2, none⟩ = some (.int .u64 s.par) ∧ w.cell? ⟨g, 3, none⟩ = some (.string s.svc) ∧ w.cell? ⟨g, 4, none⟩ = some (.string s.op) ∧ w.cell? ⟨g, 5, none⟩ = some (.int .i64 s.st) ∧ w.cell? ⟨g, 6, none⟩ = some (.int .i64 s.du) ∧ w.cell? ⟨g, 7, none⟩ = some (.int .i64 s.stt) ∧ w.cell? ⟨g, 8, none⟩ = some (.slice s.a.1 s.a.2.1 s.a.2.2) ∧ w.cell? ⟨g, 9, none⟩ = some (.slice s.e.1 s.e.2.1 s.e.2.2) ∧ w.cell? ⟨g, 10, none⟩ = some (.slice s.l.1 s.l.2.1 s.l.2.2) :=
  ⟨(blk_cell h 0).trans rfl, (blk_cell h 1).trans rfl, (blk_cell h 2).trans rfl, (blk_cell h 3).trans rfl, (blk_cell h 4).trans rfl, (blk_cell h 5).trans rfl, (blk_cell h 6).trans rfl, (blk_cell h 7).trans rfl, (blk_cell h 8).trans rfl, (blk_cell h 9).trans rfl, (blk_cell h 10).trans rfl⟩
/-- A counted loop's measure. -/
theorem meas_up {L k : Nat} (h : L ≤ 1000000) (hk : k + 1 ≤ L) : L - (intOf (.int .i64 (wrap64 ((k : Int) + 1)))).toNat < L - (intOf (.int .i64 k)).toNat := by
  have hw : wrap64 ((k : Int) + 1) = ((k + 1 : Nat) : Int) := by unfold wrap64; omega
  rw [hw]
  show L - ((k + 1 : Nat) : Int).toNat < L - (k : Int).toNat
  rw [Int.toNat_natCast, Int.toNat_natCast]
  omega
/-- The empty span. -/
def zS : Sp := ⟨0, 0, 0, ⟨#[]⟩, ⟨#[]⟩, 0, 0, 0, (none, 0, 0), (none, 0, 0), (none, 0, 0)⟩
/-- Where a row of one's own lies. -/
theorem row_lt {w : World} {base : Nat} {v : Value} {xs : List Sp} (h : Kd.R kS 34 w base (fun _ => True) v xs) : ∀ k, v.ownBlock = some k → base ≤ k ∧ k < w.heap.size := by
  obtain ⟨_, inner, ho, _⟩ := h
  exact fun k hk => ⟨own_base ho k hk, own_lt ho k hk⟩

/-- A span stored at a place. -/
def putA (w : World) (a : Addr) (s : Sp) : World := (((((((((((w.setCell a (.int .u64 s.tr)).setCell ⟨a.block, a.off + 1, none⟩ (.int .u64 s.id)).setCell ⟨a.block, a.off + 2, none⟩ (.int .u64 s.par)).setCell ⟨a.block, a.off + 3, none⟩ (.string s.svc)).setCell ⟨a.block, a.off + 4, none⟩ (.string s.op)).setCell ⟨a.block, a.off + 5, none⟩ (.int .i64 s.st)).setCell ⟨a.block, a.off + 6, none⟩ (.int .i64 s.du)).setCell ⟨a.block, a.off + 7, none⟩ (.int .i64 s.stt)).setCell ⟨a.block, a.off + 8, none⟩ (.slice s.a.1 s.a.2.1 s.a.2.2)).setCell ⟨a.block, a.off + 9, none⟩ (.slice s.e.1 s.e.2.1 s.e.2.2)).setCell ⟨a.block, a.off + 10, none⟩ (.slice s.l.1 s.l.2.1 s.l.2.2))
def arrA (cur : Array Value) (o : Nat) (s : Sp) : Array Value := (((((((((((cur.setIfInBounds (o + 0) (.int .u64 s.tr)).setIfInBounds (o + 1) (.int .u64 s.id)).setIfInBounds (o + 2) (.int .u64 s.par)).setIfInBounds (o + 3) (.string s.svc)).setIfInBounds (o + 4) (.string s.op)).setIfInBounds (o + 5) (.int .i64 s.st)).setIfInBounds (o + 6) (.int .i64 s.du)).setIfInBounds (o + 7) (.int .i64 s.stt)).setIfInBounds (o + 8) (.slice s.a.1 s.a.2.1 s.a.2.2)).setIfInBounds (o + 9) (.slice s.e.1 s.e.2.1 s.e.2.2)).setIfInBounds (o + 10) (.slice s.l.1 s.l.2.1 s.l.2.2))
theorem putA_far {w : World} {a : Addr} {k : Nat} (s : Sp) (h : k ≠ a.block) : (putA w a s).heap[k]? = w.heap[k]? := by
  unfold putA
  rw [Below.heap_setCell _ ⟨a.block, a.off + 10, none⟩ _ _ h, Below.heap_setCell _ ⟨a.block, a.off + 9, none⟩ _ _ h, Below.heap_setCell _ ⟨a.block, a.off + 8, none⟩ _ _ h, Below.heap_setCell _ ⟨a.block, a.off + 7, none⟩ _ _ h, Below.heap_setCell _ ⟨a.block, a.off + 6, none⟩ _ _ h, Below.heap_setCell _ ⟨a.block, a.off + 5, none⟩ _ _ h, Below.heap_setCell _ ⟨a.block, a.off + 4, none⟩ _ _ h, Below.heap_setCell _ ⟨a.block, a.off + 3, none⟩ _ _ h, Below.heap_setCell _ ⟨a.block, a.off + 2, none⟩ _ _ h, Below.heap_setCell _ ⟨a.block, a.off + 1, none⟩ _ _ h, Below.heap_setCell _ a _ _ h]
theorem below_putA {B : Nat} {w0 w : World} {a : Addr} (s : Sp) (h : Below B w0 w) (hg : B ≤ a.block) : Below B w0 (putA w a s) :=
  (((((((((((h.setCell hg _).setCell (p := ⟨a.block, a.off + 1, none⟩) hg _).setCell (p := ⟨a.block, a.off + 2, none⟩) hg _).setCell (p := ⟨a.block, a.off + 3, none⟩) hg _).setCell (p := ⟨a.block, a.off + 4, none⟩) hg _).setCell (p := ⟨a.block, a.off + 5, none⟩) hg _).setCell (p := ⟨a.block, a.off + 6, none⟩) hg _).setCell (p := ⟨a.block, a.off + 7, none⟩) hg _).setCell (p := ⟨a.block, a.off + 8, none⟩) hg _).setCell (p := ⟨a.block, a.off + 9, none⟩) hg _).setCell (p := ⟨a.block, a.off + 10, none⟩) hg _)
theorem putA_same {w : World} {g o : Nat} {cur : Array Value} {t : TypeId} (s : Sp) (h : w.heap[g]? = some (.cells cur t (0, 0))) : (putA w ⟨g, o, none⟩ s).heap[g]? = some (.cells (arrA cur o s) t (0, 0)) := by
  have h' := blk_set (blk_set (blk_set (blk_set (blk_set (blk_set (blk_set (blk_set (blk_set (blk_set (blk_set (h) (o + 0) (.int .u64 s.tr)) (o + 1) (.int .u64 s.id)) (o + 2) (.int .u64 s.par)) (o + 3) (.string s.svc)) (o + 4) (.string s.op)) (o + 5) (.int .i64 s.st)) (o + 6) (.int .i64 s.du)) (o + 7) (.int .i64 s.stt)) (o + 8) (.slice s.a.1 s.a.2.1 s.a.2.2)) (o + 9) (.slice s.e.1 s.e.2.1 s.e.2.2)) (o + 10) (.slice s.l.1 s.l.2.1 s.l.2.2)
  unfold putA arrA
  exact h'
theorem arrA_size (cur : Array Value) (o : Nat) (s : Sp) : (arrA cur o s).size = cur.size := by
  unfold arrA
  simp only [Array.size_setIfInBounds]
theorem arrA_ne {cur : Array Value} {o t : Nat} (s : Sp) (h : t < o ∨ o + 11 ≤ t) : (arrA cur o s)[t]? = cur[t]? := by
  unfold arrA
  iterate 11 rw [Array.getElem?_setIfInBounds_ne (by omega)]
theorem arrA_at {cur : Array Value} {o : Nat} (s : Sp) (h : o + 11 ≤ cur.size) (q : Nat) (hq : q < 11) : (arrA cur o s)[o + q]? = (encS s)[q]? := by
  have hc : q = 0 ∨ q = 1 ∨ q = 2 ∨ q = 3 ∨ q = 4 ∨ q = 5 ∨ q = 6 ∨ q = 7 ∨ q = 8 ∨ q = 9 ∨ q = 10 := by omega
  unfold arrA
  rcases hc with rfl | rfl | rfl | rfl | rfl | rfl | rfl | rfl | rfl | rfl | rfl
  · rw [Array.getElem?_setIfInBounds_ne (by omega)]; rw [Array.getElem?_setIfInBounds_ne (by omega)]; rw [Array.getElem?_setIfInBounds_ne (by omega)]; rw [Array.getElem?_setIfInBounds_ne (by omega)]; rw [Array.getElem?_setIfInBounds_ne (by omega)]; rw [Array.getElem?_setIfInBounds_ne (by omega)]; rw [Array.getElem?_setIfInBounds_ne (by omega)]; rw [Array.getElem?_setIfInBounds_ne (by omega)]; rw [Array.getElem?_setIfInBounds_ne (by omega)]; rw [Array.getElem?_setIfInBounds_ne (by omega)]; rw [Array.getElem?_setIfInBounds_self_of_lt (by first | omega | (simp only [Array.size_setIfInBounds]; omega))]; rfl
  · rw [Array.getElem?_setIfInBounds_ne (by omega)]; rw [Array.getElem?_setIfInBounds_ne (by omega)]; rw [Array.getElem?_setIfInBounds_ne (by omega)]; rw [Array.getElem?_setIfInBounds_ne (by omega)]; rw [Array.getElem?_setIfInBounds_ne (by omega)]; rw [Array.getElem?_setIfInBounds_ne (by omega)]; rw [Array.getElem?_setIfInBounds_ne (by omega)]; rw [Array.getElem?_setIfInBounds_ne (by omega)]; rw [Array.getElem?_setIfInBounds_ne (by omega)]; rw [Array.getElem?_setIfInBounds_self_of_lt (by first | omega | (simp only [Array.size_setIfInBounds]; omega))]; rfl
  · rw [Array.getElem?_setIfInBounds_ne (by omega)]; rw [Array.getElem?_setIfInBounds_ne (by omega)]; rw [Array.getElem?_setIfInBounds_ne (by omega)]; rw [Array.getElem?_setIfInBounds_ne (by omega)]; rw [Array.getElem?_setIfInBounds_ne (by omega)]; rw [Array.getElem?_setIfInBounds_ne (by omega)]; rw [Array.getElem?_setIfInBounds_ne (by omega)]; rw [Array.getElem?_setIfInBounds_ne (by omega)]; rw [Array.getElem?_setIfInBounds_self_of_lt (by first | omega | (simp only [Array.size_setIfInBounds]; omega))]; rfl
  · rw [Array.getElem?_setIfInBounds_ne (by omega)]; rw [Array.getElem?_setIfInBounds_ne (by omega)]; rw [Array.getElem?_setIfInBounds_ne (by omega)]; rw [Array.getElem?_setIfInBounds_ne (by omega)]; rw [Array.getElem?_setIfInBounds_ne (by omega)]; rw [Array.getElem?_setIfInBounds_ne (by omega)]; rw [Array.getElem?_setIfInBounds_ne (by omega)]; rw [Array.getElem?_setIfInBounds_self_of_lt (by first | omega | (simp only [Array.size_setIfInBounds]; omega))]; rfl
  · rw [Array.getElem?_setIfInBounds_ne (by omega)]; rw [Array.getElem?_setIfInBounds_ne (by omega)]; rw [Array.getElem?_setIfInBounds_ne (by omega)]; rw [Array.getElem?_setIfInBounds_ne (by omega)]; rw [Array.getElem?_setIfInBounds_ne (by omega)]; rw [Array.getElem?_setIfInBounds_ne (by omega)]; rw [Array.getElem?_setIfInBounds_self_of_lt (by first | omega | (simp only [Array.size_setIfInBounds]; omega))]; rfl
  · rw [Array.getElem?_setIfInBounds_ne (by omega)]; rw [Array.getElem?_setIfInBounds_ne (by omega)]; rw [Array.getElem?_setIfInBounds_ne (by omega)]; rw [Array.getElem?_setIfInBounds_ne (by omega)]; rw [Array.getElem?_setIfInBounds_ne (by omega)]; rw [Array.getElem?_setIfInBounds_self_of_lt (by first | omega | (simp only [Array.size_setIfInBounds]; omega))]; rfl
  · rw [Array.getElem?_setIfInBounds_ne (by omega)]; rw [Array.getElem?_setIfInBounds_ne (by omega)]; rw [Array.getElem?_setIfInBounds_ne (by omega)]; rw [Array.getElem?_setIfInBounds_ne (by omega)]; rw [Array.getElem?_setIfInBounds_self_of_lt (by first | omega | (simp only [Array.size_setIfInBounds]; omega))]; rfl
  · rw [Array.getElem?_setIfInBounds_ne (by omega)]; rw [Array.getElem?_setIfInBounds_ne (by omega)]; rw [Array.getElem?_setIfInBounds_ne (by omega)]; rw [Array.getElem?_setIfInBounds_self_of_lt (by first | omega | (simp only [Array.size_setIfInBounds]; omega))]; rfl
  · rw [Array.getElem?_setIfInBounds_ne (by omega)]; rw [Array.getElem?_setIfInBounds_ne (by omega)]; rw [Array.getElem?_setIfInBounds_self_of_lt (by first | omega | (simp only [Array.size_setIfInBounds]; omega))]; rfl
  · rw [Array.getElem?_setIfInBounds_ne (by omega)]; rw [Array.getElem?_setIfInBounds_self_of_lt (by first | omega | (simp only [Array.size_setIfInBounds]; omega))]; rfl
  · rw [Array.getElem?_setIfInBounds_self_of_lt (by first | omega | (simp only [Array.size_setIfInBounds]; omega))]; rfl

theorem add_at (g i : Nat) : (⟨g, 0, none⟩ : Addr).add i = ⟨g, i, none⟩ := by unfold Addr.add; split <;> simp_all
/-- A row whose block is known. -/
theorem row_open {w : World} {base c : Nat} {ad : Addr} {n : Nat} {ys : List Sp} (h : Kd.R kS 34 w base (fun _ => True) (.slice (some ad) n c) ys) (h0 : 0 < ys.length) : ∃ g cur, ad = ⟨g, 0, none⟩ ∧ n = ys.length ∧ base ≤ g ∧ w.heap[g]? = some (.cells cur 34 (0, 0)) ∧ ys.length ≤ c ∧ c ≤ maxLen ∧ cur.size = c * 11 ∧ ∀ j p, ys[j]? = some p → ((cur.toList.take (ys.length * 11)).drop (j * 11)).take 11 = encS p := by
  have hn := (Kd.R_reads' h).1
  obtain ⟨hok, inner, ⟨hl, ho⟩, hr⟩ := h
  rcases ho with ⟨h1, _⟩ | ⟨g, cap, cur, h1, hg, hh, hnc, hcm, hcs, ht⟩
  · cases h1
  · injection h1 with e1 e2 e3
    injection e1 with e1
    subst e3
    exact ⟨g, cur, e1, hn, hg, hh, hnc, hcm, hcs, fun j p hj => by
      have := hr.2 j p hj
      rw [← ht] at this
      exact this⟩
theorem row_close {w : World} {base c : Nat} {g n : Nat} {cur : Array Value} {ys : List Sp} (hn : n = ys.length) (hg : base ≤ g) (hh : w.heap[g]? = some (.cells cur 34 (0, 0))) (hnc : ys.length ≤ c) (hcm : c ≤ maxLen) (hcs : cur.size = c * 11) (hr : ∀ j p, ys[j]? = some p → ∀ q, q < 11 → cur[j * 11 + q]? = (encS p)[q]?) : Kd.R kS 34 w base (fun _ => True) (.slice (some ⟨g, 0, none⟩) n c) ys := by
  subst hn
  have hle : ys.length * 11 ≤ cur.size := by rw [hcs]; exact Nat.mul_le_mul_right 11 hnc
  have hlen : (cur.toList.take (ys.length * 11)).length = ys.length * 11 := by
    rw [List.length_take]
    show min (ys.length * 11) cur.size = ys.length * 11
    exact Nat.min_eq_left hle
  refine ⟨fun _ _ => trivial, cur.toList.take (ys.length * 11), ⟨hlen, .inr ⟨g, c, cur, rfl, hg, hh, hnc, hcm, hcs, rfl⟩⟩, hlen, fun j p hj => ?_⟩
  have hjl := (List.getElem?_eq_some_iff.1 hj).1
  show ((cur.toList.take (ys.length * 11)).drop (j * 11)).take 11 = encS p
  refine List.ext_getElem? fun q => ?_
  rw [List.getElem?_take]
  by_cases hq : q < 11
  · rw [if_pos hq, List.getElem?_drop, List.getElem?_take, if_pos (by omega), Array.getElem?_toList]
    exact hr j p hj q hq
  · rw [if_neg hq]
    exact (List.getElem?_eq_none (by rw [encS_len]; omega)).symm
theorem chunk_get {cur : Array Value} {n j : Nat} {p : Sp} (hj : j < n) (h : ((cur.toList.take (n * 11)).drop (j * 11)).take 11 = encS p) (q : Nat) (hq : q < 11) : cur[j * 11 + q]? = (encS p)[q]? := by
  have h1 := congrArg (fun l : List Value => l[q]?) h
  rw [List.getElem?_take, if_pos hq, List.getElem?_drop, List.getElem?_take, if_pos (by omega), Array.getElem?_toList] at h1
  exact h1
/-- One element of a row of one's own, stored. -/
theorem row_put {w : World} {base c n : Nat} {ad : Addr} {ys : List Sp} (h : Kd.R kS 34 w base (fun _ => True) (.slice (some ad) n c) ys) {i : Nat} (hi : i < ys.length) (s : Sp) :
    Kd.R kS 34 (putA w (ad.add (i * 11)) s) base (fun _ => True) (.slice (some ad) n c) (ys.set i s) ∧ Below base w (putA w (ad.add (i * 11)) s) ∧ (∀ k : Nat, k < 11 → w.frozen? ⟨(ad.add (i * 11)).block, (ad.add (i * 11)).off + k, none⟩ = false) ∧ w.frozen? (ad.add (i * 11)) = false := by
  obtain ⟨g, cur, rfl, hn, hg, hh, hnc, hcm, hcs, hr⟩ := row_open h (by omega)
  rw [add_at]
  have hsz : i * 11 + 11 ≤ cur.size := by rw [hcs]; have := Nat.mul_le_mul_right 11 (show i + 1 ≤ c by omega); omega
  have hps := putA_same (o := i * 11) s hh
  have hbp : Below base w (putA w ⟨g, i * 11, none⟩ s) := below_putA s (Below.refl base w) hg
  have hpf : ∀ k : Nat, w.frozen? ⟨g, i * 11 + k, none⟩ = false := fun k => blk_frozen hh _
  have has := arrA_size cur (i * 11) s
  have hae := fun t => arrA_ne (cur := cur) (o := i * 11) (t := t) s
  have haa := arrA_at (cur := cur) (o := i * 11) s hsz
  clear hh
  generalize putA w ⟨g, i * 11, none⟩ s = w1 at hps hbp ⊢
  generalize arrA cur (i * 11) s = cur1 at hps has hae haa
  refine ⟨row_close (by rw [List.length_set]; exact hn) hg hps (by rw [List.length_set]; exact hnc) hcm (by rw [has]; exact hcs) (fun j p hj q hq => ?_), hbp, fun k _ => hpf k, hpf 0⟩
  by_cases hji : j = i
  · subst hji
    rw [List.getElem?_set_self hi] at hj
    injection hj with hj
    rw [haa q hq, hj]
  · rw [List.getElem?_set_ne (fun e => hji e.symm)] at hj
    have hjl := (List.getElem?_eq_some_iff.1 hj).1
    rw [hae _ (by omega)]
    exact chunk_get hjl (hr j p hj) q hq
/-- The rest of a row of one's own, cleared. -/
theorem row_clear {w : World} {base c n : Nat} {ad : Addr} {ys : List Sp} (h : Kd.R kS 34 w base (fun _ => True) (.slice (some ad) n c) ys) {i : Nat} (hi : i < ys.length) (cc : Nat) :
    ∃ W, (∀ ty, (Builtin.clear_ #[25] ty #[.slice (some (ad.add (i * 11))) (n - i) cc]).run Try.prog w = .ok (.tuple #[]) W) ∧ Kd.R kS 34 W base (fun _ => True) (.slice (some ad) i c) (ys.take i) ∧ Below base w W := by
  obtain ⟨g, cur, rfl, hn, hg, hh, hnc, hcm, hcs, hr⟩ := row_open h (by omega)
  rw [add_at]
  have hz : (Builtin.zeroCells (encS zS).toArray (n - i)).toList.length = (n - i) * 11 := by
    rw [Array.length_toList, size_zeroCells]
    rfl
  have hle : i * 11 + 0 + (Builtin.zeroCells (encS zS).toArray (n - i)).toList.length ≤ cur.size := by
    rw [hz, hcs, Nat.add_zero, ← Nat.add_mul]
    exact Nat.mul_le_mul_right 11 (by omega)
  have hone : ∀ v ∈ (Builtin.zeroCells (encS zS).toArray (n - i)).toList, v.oneCell' = true := by
    intro v hv
    simp only [Builtin.zeroCells, Array.toList_map, List.mem_map] at hv
    obtain ⟨t, _, rfl⟩ := hv
    have ht : t % (encS zS).toArray.size < (encS zS).toArray.size := Nat.mod_lt _ (by decide)
    rw [getElem!_pos (encS zS).toArray (t % (encS zS).toArray.size) ht]
    exact encS_one zS _ (List.getElem_mem _)
  have hrun := run_storeCells_at (P := Try.prog) g (i * 11) 34 _ 0 cur w hh hle hone
  have hlen : (cur.toList.take (i * 11 + 0) ++ (Builtin.zeroCells (encS zS).toArray (n - i)).toList ++ cur.toList.drop (i * 11 + 0 + (Builtin.zeroCells (encS zS).toArray (n - i)).toList.length)).toArray.size = c * 11 := by
    rw [← hcs]
    show (cur.toList.take (i * 11 + 0) ++ (Builtin.zeroCells (encS zS).toArray (n - i)).toList ++ cur.toList.drop (i * 11 + 0 + (Builtin.zeroCells (encS zS).toArray (n - i)).toList.length)).length = cur.toList.length
    have hle' : i * 11 + 0 + (Builtin.zeroCells (encS zS).toArray (n - i)).toList.length ≤ cur.toList.length := hle
    rw [List.length_append, List.length_append, List.length_take, List.length_drop]
    omega
  refine ⟨_, fun ty => ?_, row_close (w := w.setRow g _) (by rw [List.length_take]; omega) hg (setRow_heap w g cur _ 34 (0, 0) hh) (by rw [List.length_take]; omega) hcm hlen (fun j p hj q hq => ?_), ⟨rfl, rfl, rfl, by simp, fun k hk => setRow_other w g k _ (by omega)⟩⟩
  · obtain ⟨m, hm⟩ : ∃ m, n - i = m + 1 := ⟨n - i - 1, by omega⟩
    rw [hm] at hrun ⊢
    have hz2 : (Value.agg #[.int .u64 0, .int .u64 0, .int .u64 0, .string ⟨#[]⟩, .string ⟨#[]⟩, .int .i64 0, .int .i64 0, .int .i64 0, .slice none 0 0, .slice none 0 0, .slice none 0 0]).cells = (encS zS).toArray := rfl
    simp [Builtin.clear_, run_underlying Try.underlying25, Result.andThen, Try.zeroValue34, hz2, hrun]
  · rw [List.getElem?_take] at hj
    split at hj
    · rename_i hji
      have hjl := (List.getElem?_eq_some_iff.1 hj).1
      rw [← chunk_get hjl (hr j p hj) q hq]
      rw [List.getElem?_toArray, List.append_assoc, List.getElem?_append_left (by rw [List.length_take]; show _ < min _ cur.size; omega), List.getElem?_take, if_pos (by omega), Array.getElem?_toList]
    · cases hj

def nilS : S34 := ⟨0, 0, 0, ⟨#[]⟩, ⟨#[]⟩, 0, 0, 0, [], [], []⟩
/-- A row of one's own, as the sort wants it. -/
theorem holds_of {w : World} {g cap : Nat} {cur : Array Value} {xs : List Sp} (hh : w.heap[g]? = some (.cells cur 34 (0, 0))) (hnc : xs.length ≤ cap) (hcs : cur.size = cap * 11)
    (hr : ∀ (j : Nat) (p : Sp), xs[j]? = some p → ((cur.toList.take (xs.length * 11)).drop (j * 11)).take 11 = encS p) : HoldsK encS 11 w g 0 xs.toArray := by
  intro t ht
  rw [size_flatK] at ht
  have ht : t < xs.length * 11 := by simpa using ht
  have hq : t / 11 < xs.length := by omega
  have hp := hr (t / 11) _ (List.getElem?_eq_getElem hq)
  have hcell : w.cell? ⟨g, 0 + t, none⟩ = cur[t]? := by rw [Nat.zero_add]; exact cell_of_row w g t _ _ _ hh
  refine ⟨?_, by rw [Nat.zero_add]; exact blk_frozen hh t⟩
  rw [hcell]
  have hlt : t < cur.size := by rw [hcs]; have := Nat.mul_le_mul_right 11 hnc; omega
  have h1 := congrArg (fun l : List Value => l[t % 11]?) hp
  rw [List.getElem?_take, if_pos (Nat.mod_lt _ (by omega)), List.getElem?_drop, List.getElem?_take, if_pos (by omega), show t / 11 * 11 + t % 11 = t by omega, Array.getElem?_toList] at h1
  rw [h1]
  show (encS xs[t / 11])[t % 11]? = some (flatK encS 11 xs.toArray)[t]!
  rw [get_flatK _ _ _ _ (by simpa using ht)]
  have e : xs.toArray[t / 11]! = xs[t / 11] := by simp [hq]
  rw [e]
  have hm : t % 11 < (encS xs[t / 11]).length := Nat.mod_lt _ (by decide)
  rw [List.getElem?_eq_getElem hm, getElem!_pos (encS xs[t / 11]) (t % 11) hm]

end Go.Proofs.Ytffggkhahambhaa.Tr
