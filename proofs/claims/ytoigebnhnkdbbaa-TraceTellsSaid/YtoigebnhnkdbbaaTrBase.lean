/- Spans and lines as cells (chapter 26): their kinds; where a row of spans is read from. -/
import Derived.Test.YtoigebnhnkdbbaaPAllx0
import Derived.Test.YtoigebnhnkdbbaaTrWay
import Derived.Test.YtoigebnhnkdbbaaBlocks
import Derived.Test.YtoigebnhnkdbbaaWMore
namespace Go.Proofs.Ytoigebnhnkdbbaa.Tr
open Go.RowKit Go.Proofs.YtoigebnhnkdbbaaW.PrintWords Go.Proofs.YtoigebnhnkdbbaaW.PrintLast Go.Proofs.YtoigebnhnkdbbaaW.PrintMore Go.Proofs.Ytoigebnhnkdbbaa.Math Go.Proofs.Ytoigebnhnkdbbaa.PAll
set_option linter.unusedVariables false
set_option linter.unusedSimpArgs false

/-- A kind of elements that are told by their cells alone. -/
def flat {α : Type} (enc : α → List Value) (n : Nat) (hl : ∀ x, (enc x).length = n) (h1 : ∀ x, ∀ v ∈ enc x, v.oneCell' = true) : Kd α where
  sz := n
  E := []
  K := fun _ x cs => cs = enc x
  M := fun _ _ _ x cs => cs = enc x
  K_len := fun h => by rw [h]; exact hl _
  K_one := fun h u hu => by rw [h] at hu; exact h1 _ u hu
  K_below := fun _ h => h
  K_of_M := fun h => h
  M_mono := fun _ h => h
  M_bound := fun h => h
  M_move := fun _ h => h
  M_lower := fun _ h => h
def slv (t : Option Addr × Nat × Nat) : Value := .slice t.1 t.2.1 t.2.2
def encS (s : Sp) : List Value := [.int .u64 s.tr, .int .u64 s.id, .int .u64 s.par, .string s.svc, .string s.op, .int .i64 s.st, .int .i64 s.du, .int .i64 s.stt, .slice s.a.1 s.a.2.1 s.a.2.2, .slice s.e.1 s.e.2.1 s.e.2.2, .slice s.l.1 s.l.2.1 s.l.2.2]
def encL (x : Ln) : List Value := [.int .u64 x.sp.tr, .int .u64 x.sp.id, .int .u64 x.sp.par, .string x.sp.svc, .string x.sp.op, .int .i64 x.sp.st, .int .i64 x.sp.du, .int .i64 x.sp.stt, .slice x.sp.a.1 x.sp.a.2.1 x.sp.a.2.2, .slice x.sp.e.1 x.sp.e.2.1 x.sp.e.2.2, .slice x.sp.l.1 x.sp.l.2.1 x.sp.l.2.2, .int .i64 x.d, .bool x.o]
theorem encS_len (s : Sp) : (encS s).length = 11 := rfl
theorem encL_len (x : Ln) : (encL x).length = 13 := rfl
theorem encS_one (s : Sp) : ∀ v ∈ encS s, v.oneCell' = true := by
  intro v hv
  simp only [encS, List.mem_cons, List.not_mem_nil, or_false] at hv
  rcases hv with rfl | rfl | rfl | rfl | rfl | rfl | rfl | rfl | rfl | rfl | rfl <;> rfl
theorem encL_one (s : Ln) : ∀ v ∈ encL s, v.oneCell' = true := by
  intro v hv
  simp only [encL, List.mem_cons, List.not_mem_nil, or_false] at hv
  rcases hv with rfl | rfl | rfl | rfl | rfl | rfl | rfl | rfl | rfl | rfl | rfl | rfl | rfl <;> rfl
def kS : Kd Sp := flat encS 11 encS_len encS_one
def kL : Kd Ln := flat encL 13 encL_len encL_one
theorem at_S {w : World} {A : Option Addr} {n : Nat} {xs : List Sp} (h : Kd.C kS w A n xs) {k : Nat} {s : Sp} (hk : xs[k]? = some s) : ∃ ad, A = some ad ∧ w.cell? (ad.add (k * 11)) = some (.int .u64 s.tr) ∧ w.cell? ⟨(ad.add (k * 11)).block, (ad.add (k * 11)).off + 1, none⟩ = some (.int .u64 s.id) ∧ w.cell? ⟨(ad.add (k * 11)).block, (ad.add (k * 11)).off + 2, none⟩ = some (.int .u64 s.par) ∧ w.cell? ⟨(ad.add (k * 11)).block, (ad.add (k * 11)).off + 3, none⟩ = some (.string s.svc) ∧ w.cell? ⟨(ad.add (k * 11)).block, (ad.add (k * 11)).off + 4, none⟩ = some (.string s.op) ∧ w.cell? ⟨(ad.add (k * 11)).block, (ad.add (k * 11)).off + 5, none⟩ = some (.int .i64 s.st) ∧ w.cell? ⟨(ad.add (k * 11)).block, (ad.add (k * 11)).off + 6, none⟩ = some (.int .i64 s.du) ∧ w.cell? ⟨(ad.add (k * 11)).block, (ad.add (k * 11)).off + 7, none⟩ = some (.int .i64 s.stt) ∧ w.cell? ⟨(ad.add (k * 11)).block, (ad.add (k * 11)).off + 8, none⟩ = some (.slice s.a.1 s.a.2.1 s.a.2.2) ∧ w.cell? ⟨(ad.add (k * 11)).block, (ad.add (k * 11)).off + 9, none⟩ = some (.slice s.e.1 s.e.2.1 s.e.2.2) ∧ w.cell? ⟨(ad.add (k * 11)).block, (ad.add (k * 11)).off + 10, none⟩ = some (.slice s.l.1 s.l.2.1 s.l.2.2) := by
  obtain ⟨hkl, hs⟩ := List.getElem?_eq_some_iff.1 hk
  obtain ⟨ad, c, e, _, hK, hc⟩ := Kd.C_get h (default : Sp) (k : Int) (by omega) (by have := h.1; omega)
  have e2 : xs.getD (k : Int).toNat default = s := by rw [Int.toNat_natCast, List.getD_eq_getElem?_getD, hk]; rfl
  rw [e2] at hK
  have hK : c = encS s := hK
  subst hK
  have hc : ∀ j u, (encS s)[j]? = some u → w.cell? (ad.add (k * 11 + j)) = some u := by simpa [kS, flat] using hc
  exact ⟨ad, e, hc 0 _ rfl, by rw [← add_field _ _ 1 (by omega)]; exact hc 1 _ rfl, by rw [← add_field _ _ 2 (by omega)]; exact hc 2 _ rfl, by rw [← add_field _ _ 3 (by omega)]; exact hc 3 _ rfl, by rw [← add_field _ _ 4 (by omega)]; exact hc 4 _ rfl, by rw [← add_field _ _ 5 (by omega)]; exact hc 5 _ rfl, by rw [← add_field _ _ 6 (by omega)]; exact hc 6 _ rfl, by rw [← add_field _ _ 7 (by omega)]; exact hc 7 _ rfl, by rw [← add_field _ _ 8 (by omega)]; exact hc 8 _ rfl, by rw [← add_field _ _ 9 (by omega)]; exact hc 9 _ rfl, by rw [← add_field _ _ 10 (by omega)]; exact hc 10 _ rfl⟩
theorem at_L {w : World} {A : Option Addr} {n : Nat} {xs : List Ln} (h : Kd.C kL w A n xs) {k : Nat} {x : Ln} (hk : xs[k]? = some x) : ∃ ad, A = some ad ∧ w.cell? (ad.add (k * 13)) = some (.int .u64 x.sp.tr) ∧ w.cell? ⟨(ad.add (k * 13)).block, (ad.add (k * 13)).off + 1, none⟩ = some (.int .u64 x.sp.id) ∧ w.cell? ⟨(ad.add (k * 13)).block, (ad.add (k * 13)).off + 2, none⟩ = some (.int .u64 x.sp.par) ∧ w.cell? ⟨(ad.add (k * 13)).block, (ad.add (k * 13)).off + 3, none⟩ = some (.string x.sp.svc) ∧ w.cell? ⟨(ad.add (k * 13)).block, (ad.add (k * 13)).off + 4, none⟩ = some (.string x.sp.op) ∧ w.cell? ⟨(ad.add (k * 13)).block, (ad.add (k * 13)).off + 5, none⟩ = some (.int .i64 x.sp.st) ∧ w.cell? ⟨(ad.add (k * 13)).block, (ad.add (k * 13)).off + 6, none⟩ = some (.int .i64 x.sp.du) ∧ w.cell? ⟨(ad.add (k * 13)).block, (ad.add (k * 13)).off + 7, none⟩ = some (.int .i64 x.sp.stt) ∧ w.cell? ⟨(ad.add (k * 13)).block, (ad.add (k * 13)).off + 8, none⟩ = some (.slice x.sp.a.1 x.sp.a.2.1 x.sp.a.2.2) ∧ w.cell? ⟨(ad.add (k * 13)).block, (ad.add (k * 13)).off + 9, none⟩ = some (.slice x.sp.e.1 x.sp.e.2.1 x.sp.e.2.2) ∧ w.cell? ⟨(ad.add (k * 13)).block, (ad.add (k * 13)).off + 10, none⟩ = some (.slice x.sp.l.1 x.sp.l.2.1 x.sp.l.2.2) ∧ w.cell? ⟨(ad.add (k * 13)).block, (ad.add (k * 13)).off + 11, none⟩ = some (.int .i64 x.d) ∧ w.cell? ⟨(ad.add (k * 13)).block, (ad.add (k * 13)).off + 12, none⟩ = some (.bool x.o) := by
  obtain ⟨hkl, hs⟩ := List.getElem?_eq_some_iff.1 hk
  obtain ⟨ad, c, e, _, hK, hc⟩ := Kd.C_get h (⟨default, 0, false⟩ : Ln) (k : Int) (by omega) (by have := h.1; omega)
  have e2 : xs.getD (k : Int).toNat ⟨default, 0, false⟩ = x := by rw [Int.toNat_natCast, List.getD_eq_getElem?_getD, hk]; rfl
  rw [e2] at hK
  have hK : c = encL x := hK
  subst hK
  have hc : ∀ j u, (encL x)[j]? = some u → w.cell? (ad.add (k * 13 + j)) = some u := by simpa [kL, flat] using hc
  exact ⟨ad, e, hc 0 _ rfl, by rw [← add_field _ _ 1 (by omega)]; exact hc 1 _ rfl, by rw [← add_field _ _ 2 (by omega)]; exact hc 2 _ rfl, by rw [← add_field _ _ 3 (by omega)]; exact hc 3 _ rfl, by rw [← add_field _ _ 4 (by omega)]; exact hc 4 _ rfl, by rw [← add_field _ _ 5 (by omega)]; exact hc 5 _ rfl, by rw [← add_field _ _ 6 (by omega)]; exact hc 6 _ rfl, by rw [← add_field _ _ 7 (by omega)]; exact hc 7 _ rfl, by rw [← add_field _ _ 8 (by omega)]; exact hc 8 _ rfl, by rw [← add_field _ _ 9 (by omega)]; exact hc 9 _ rfl, by rw [← add_field _ _ 10 (by omega)]; exact hc 10 _ rfl, by rw [← add_field _ _ 11 (by omega)]; exact hc 11 _ rfl, by rw [← add_field _ _ 12 (by omega)]; exact hc 12 _ rfl⟩
theorem infoS : (Try.prog.info? 38).map (fun i => (i.zero, i.size, i.bytes)) = some (some (.agg #[(.int .u64 0), (.int .u64 0), (.int .u64 0), (.string ⟨#[]⟩), (.string ⟨#[]⟩), (.int .i64 0), (.int .i64 0), (.int .i64 0), (.slice none 0 0), (.slice none 0 0), (.slice none 0 0)]), 11, 152) := by kernel_rfl
theorem infoL : (Try.prog.info? 40).map (fun i => (i.zero, i.size, i.bytes)) = some (some (.agg #[(.int .u64 0), (.int .u64 0), (.int .u64 0), (.string ⟨#[]⟩), (.string ⟨#[]⟩), (.int .i64 0), (.int .i64 0), (.int .i64 0), (.slice none 0 0), (.slice none 0 0), (.slice none 0 0), (.int .i64 0), (.bool false)]), 13, 168) := by kernel_rfl

/-- What a span is in the law's own kinds. -/
def Is (w : World) (s : Sp) (x : S38) : Prop := k38.K w x (encS s)
theorem Is.below {w w1 : World} {s : Sp} {x : S38} (h : Is w s x) (hb : Below w.heap.size w w1) : Is w1 s x := k38.K_below hb h
theorem Is.fields {w : World} {s : Sp} {x : S38} (h : Is w s x) : x.f0 = s.tr ∧ x.f1 = s.id ∧ x.f2 = s.par ∧ x.f3 = s.svc ∧ x.f4 = s.op ∧ x.f5 = s.st ∧ x.f6 = s.du ∧ x.f7 = s.stt := by
  obtain ⟨A8, c8, A9, c9, A10, c10, he, _⟩ := k38_open h
  simp only [encS, List.cons.injEq, Value.int.injEq, Value.string.injEq, true_and] at he
  obtain ⟨h0, h1, h2, h3, h4, h5, h6, h7, _⟩ := he
  exact ⟨h0.symm, h1.symm, h2.symm, h3.symm, h4.symm, h5.symm, h6.symm, h7.symm⟩
/-- A row that comes in: its spans as cells. -/
theorem raw_of {w : World} {A : Option Addr} {n : Nat} {xs : List S38} (h : Kd.C k38 w A n xs) : ∃ rs : List Sp, rs.length = xs.length ∧ Kd.C kS w A n rs ∧ ∀ (j : Nat) (s : Sp), rs[j]? = some s → ∃ x, xs[j]? = some x ∧ Is w s x := by
  obtain ⟨hn, hb, hc⟩ := h
  have key : ∀ j, j < xs.length → ∃ s : Sp, ∃ x, xs[j]? = some x ∧ Is w s x ∧ ∀ ad, A = some ad → ∀ i u, (encS s)[i]? = some u → w.cell? (ad.add (j * 11 + i)) = some u := by
    intro j hj
    obtain ⟨ad, rfl, hcc⟩ := hc (by omega)
    obtain ⟨c, hcl, hK, hce⟩ := hcc j _ (List.getElem?_eq_getElem hj)
    have hcell : ∀ i u, c[i]? = some u → w.cell? (ad.add (j * 11 + i)) = some u := hce
    obtain ⟨A8, c8, A9, c9, A10, c10, rfl, _⟩ := k38_open hK
    refine ⟨⟨xs[j].f0, xs[j].f1, xs[j].f2, xs[j].f3, xs[j].f4, xs[j].f5, xs[j].f6, xs[j].f7, (A8, xs[j].f8.length, c8), (A9, xs[j].f9.length, c9), (A10, xs[j].f10.length, c10)⟩, xs[j], List.getElem?_eq_getElem hj, hK, fun ad' he => ?_⟩
    injection he with he
    subst he
    exact hcell
  have pick : ∀ m, m ≤ xs.length → ∃ rs : List Sp, rs.length = m ∧ ∀ (j : Nat) (s : Sp), rs[j]? = some s → ∃ x, xs[j]? = some x ∧ Is w s x ∧ ∀ ad, A = some ad → ∀ i u, (encS s)[i]? = some u → w.cell? (ad.add (j * 11 + i)) = some u := by
    intro m
    induction m with
    | zero => intro _; exact ⟨[], rfl, fun j s h => by simp at h⟩
    | succ m ih =>
      intro hm
      obtain ⟨rs, hl, hr⟩ := ih (by omega)
      obtain ⟨s, hs⟩ := key m (by omega)
      refine ⟨rs ++ [s], by simp [hl], fun j t ht => ?_⟩
      by_cases hj : j < rs.length
      · rw [List.getElem?_append_left hj] at ht
        exact hr j t ht
      · rw [List.getElem?_append_right (by omega)] at ht
        have : j = m := by
          rcases Nat.lt_or_ge (j - rs.length) 1 with h1 | h1
          · omega
          · rw [List.getElem?_eq_none (by simpa using h1)] at ht; cases ht
        subst this
        rw [hl, Nat.sub_self] at ht
        simp at ht
        rw [← ht]
        exact hs
  obtain ⟨rs, hl, hr⟩ := pick xs.length (Nat.le_refl _)
  refine ⟨rs, hl, ⟨by rw [hl]; exact hn, hb, fun hp => ?_⟩, fun j s hj => ?_⟩
  · obtain ⟨ad, rfl, _⟩ := hc hp
    refine ⟨ad, rfl, fun j p hj => ⟨encS p, rfl, rfl, fun i u hu => ?_⟩⟩
    obtain ⟨x, _, _, hx⟩ := hr j p hj
    exact hx ad rfl i u hu
  · obtain ⟨x, h1, h2, _⟩ := hr j s hj
    exact ⟨x, h1, h2⟩
/-- A row of spans, in the law's own kinds. -/
theorem kind_of {w : World} {A : Option Addr} {n : Nat} {rs : List Sp} (f : Sp → S38) (h : Kd.C kS w A n rs) (hf : ∀ s ∈ rs, Is w s (f s)) : Kd.C k38 w A n (rs.map f) := by
  obtain ⟨hn, hb, hc⟩ := h
  refine ⟨by rw [List.length_map]; exact hn, hb, fun hp => ?_⟩
  obtain ⟨ad, rfl, hcc⟩ := hc hp
  refine ⟨ad, rfl, fun j p hj => ?_⟩
  rw [List.getElem?_map] at hj
  obtain ⟨s, hs, rfl⟩ := Option.map_eq_some_iff.1 hj
  obtain ⟨c, hcl, hK, hce⟩ := hcc j s hs
  have hK : c = encS s := hK
  subst hK
  exact ⟨encS s, rfl, hf s (List.mem_of_getElem? hs), hce⟩
end Go.Proofs.Ytoigebnhnkdbbaa.Tr
