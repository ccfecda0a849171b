/- Chapter 17: what a batch of rows reads as; rows of one span's cells; two rows side by side (flat kinds and kind_of out of XSpBase, same_refl and spans_refl out of XStRefl: chapters 22, 26). -/
import Derived.Test.YtkgpnfjmahjlcaaDoorWiAll
import Derived.Test.YtkgpnfjmahjlcaaDoorPAllx18
namespace Go.Proofs.YtkgpnfjmahjlcaaDoor.Wi
open Go.RowKit Go.Proofs.YtkgpnfjmahjlcaaDoorW.PrintWords Go.Proofs.YtkgpnfjmahjlcaaDoorW.PrintLast Go.Proofs.YtkgpnfjmahjlcaaDoorW.PrintMore Go.Proofs.YtkgpnfjmahjlcaaDoor.Math Go.Proofs.YtkgpnfjmahjlcaaDoor.PAll Go.Proofs.YtkgpnfjmahjlcaaDoor.NumFacts Go.Proofs.YtkgpnfjmahjlcaaDoor.Pure
set_option linter.unusedVariables false
set_option linter.unusedSimpArgs false
theorem rows_reads (r : List Int) : ∀ (rows : List (List Int)), (∀ b ∈ rows, (b.length : Int) < 18446744073709551616) → rowsS rows.length (rows.flatMap rowE ++ r, false) = (rows, (r, false))
  | [], _ => rfl
  | b :: rows, h => by
    have h1 := row_good.reads b (rows.flatMap rowE ++ r) (h b (by simp))
    rw [List.flatMap_cons, List.append_assoc, List.length_cons, rowsS, h1]
    dsimp only
    rw [rows_reads r rows (fun c hc => h c (by simp [hc]))]
theorem batch_rows {rows : List (List Int)} (hl : rows.length ≤ 1000000) (h : ∀ b ∈ rows, b.length ≤ 1000000) :
    batchS (markB ++ listE rowE rows) = if rows.length > 64 then ([], 0, 6) else (rows.filterMap readO, (rows.length : Int) - ((rows.filterMap readO).length : Int), 0) := by
  have h1 := num_good.reads (rows.length : Int) (rows.flatMap rowE) ⟨by omega, by omega⟩
  have h2 := rows_reads [] rows (fun b hb => by have := h b hb; omega)
  rw [List.append_nil] at h2
  unfold batchS
  rw [if_pos (List.prefix_append _ _), show (markB ++ listE rowE rows).drop 4 = listE rowE rows from rfl]
  unfold listE
  rw [h1]
  dsimp only
  rw [if_neg Bool.false_ne_true, Int.toNat_natCast, h2]
  dsimp only
  by_cases hg : rows.length > 64
  · rw [if_pos (by omega), if_pos hg]
  · rw [if_neg (by omega), if_neg hg, if_neg (by rintro (h | h); cases h; exact h rfl)]
theorem filter_rep {α β : Type} {f : α → Option β} {a : α} {b : β} (h : f a = some b) : ∀ n, (List.replicate n a).filterMap f = List.replicate n b
  | 0 => rfl
  | n + 1 => by rw [List.replicate_succ, List.filterMap_cons_some h, filter_rep h n, List.replicate_succ]
theorem batch_many_of {x : S27} (ho : SpOk x) (hm : MayP x) (n : Nat) (hn : n ≤ 1000000) :
    batchS (markB ++ listE rowE (List.replicate n (enc x))) = if n > 64 then ([], 0, 6) else (List.replicate n x, 0, 0) := by
  have hb := enc_len ho hm
  rw [batch_rows (by rw [List.length_replicate]; exact hn) (fun b h => by rw [List.eq_of_mem_replicate h]; omega), filter_rep (readO_some.2 (read_enc ho hm)), List.length_replicate, List.length_replicate, Int.sub_self]
theorem map_rep {α β : Type} (f : α → β) (a : α) (n : Nat) : (List.replicate n a).map f = List.replicate n (f a) := by rw [List.map_replicate]
theorem rows_rep (b : List Int) (n : Nat) : ((List.replicate n b).flatMap rowE).length = n * (rowE b).length := by
  induction n with
  | zero => simp
  | succ n ih => rw [List.replicate_succ, List.flatMap_cons, List.length_append, ih, Nat.add_mul]; omega
theorem rows_max {b : List Int} (hb : b.length ≤ 10000) {n : Nat} (hn : n ≤ 70) : (markB ++ listE rowE (List.replicate n b)).length ≤ 1000000 := by
  have h1 := vput_len10 (v := (b.length : Int)) (by omega)
  have h2 := vput_len10 (v := ((List.replicate n b).length : Int)) (by rw [List.length_replicate]; omega)
  have h3 : (rowE b).length ≤ 10010 := by unfold rowE; rw [List.length_append]; omega
  have h4 : n * (rowE b).length ≤ 70 * 10010 := Nat.mul_le_mul hn h3
  have h5 : markB.length = 4 := rfl
  unfold listE
  rw [List.length_append, List.length_append, rows_rep]
  omega
/-- A span, as its cells: the rows within by where they lie. -/
structure Sp where
  tr : Int
  id : Int
  par : Int
  svc : ByteArray
  op : ByteArray
  st : Int
  du : Int
  stt : Int
  a : Option Addr × Nat × Nat
  e : Option Addr × Nat × Nat
  l : Option Addr × Nat × Nat
instance : Inhabited Sp := ⟨⟨0, 0, 0, ⟨#[]⟩, ⟨#[]⟩, 0, 0, 0, (none, 0, 0), (none, 0, 0), (none, 0, 0)⟩⟩
/-- A kind of elements that are told by their cells alone. -/
def flat {α : Type} (enc : α → List Value) (n : Nat) (hl : ∀ x, (enc x).length = n) (h1 : ∀ x, ∀ v ∈ enc x, v.oneCell' = true) : Kd α where
  sz := n
  E := []
  K := fun _ x cs => cs = enc x
  M := fun _ _ _ x cs => cs = enc x
  K_len := fun h => by rw [h]; exact hl _
  K_one := fun h u hu => by rw [h] at hu; exact h1 _ u hu
  K_below := fun _ h => h
  K_of_M := fun h => h
  M_mono := fun _ h => h
  M_bound := fun h => h
  M_move := fun _ h => h
  M_lower := fun _ h => h
def slv (t : Option Addr × Nat × Nat) : Value := .slice t.1 t.2.1 t.2.2
def encS (s : Sp) : List Value := [.int .u64 s.tr, .int .u64 s.id, .int .u64 s.par, .string s.svc, .string s.op, .int .i64 s.st, .int .i64 s.du, .int .i64 s.stt, .slice s.a.1 s.a.2.1 s.a.2.2, .slice s.e.1 s.e.2.1 s.e.2.2, .slice s.l.1 s.l.2.1 s.l.2.2]
theorem encS_len (s : Sp) : (encS s).length = 11 := rfl
theorem encS_one (s : Sp) : ∀ v ∈ encS s, v.oneCell' = true := by
  intro v hv
  simp only [encS, List.mem_cons, List.not_mem_nil, or_false] at hv
  rcases hv with rfl | rfl | rfl | rfl | rfl | rfl | rfl | rfl | rfl | rfl | rfl <;> rfl
def kS : Kd Sp := flat encS 11 encS_len encS_one
theorem infoS : (Tryd.prog.info? 27).map (fun i => (i.zero, i.size, i.bytes)) = some (some (.agg #[(.int .u64 0), (.int .u64 0), (.int .u64 0), (.string ⟨#[]⟩), (.string ⟨#[]⟩), (.int .i64 0), (.int .i64 0), (.int .i64 0), (.slice none 0 0), (.slice none 0 0), (.slice none 0 0)]), 11, 152) := by kernel_rfl
/-- What a span is in the law's own kinds. -/
def Is (w : World) (s : Sp) (x : S27) : Prop := k27.K w x (encS s)
theorem Is.below {w w1 : World} {s : Sp} {x : S27} (h : Is w s x) (hb : Below w.heap.size w w1) : Is w1 s x := k27.K_below hb h
/-- A row of spans, in the law's own kinds. -/
theorem kind_of {w : World} {A : Option Addr} {n : Nat} {rs : List Sp} (f : Sp → S27) (h : Kd.C kS w A n rs) (hf : ∀ s ∈ rs, Is w s (f s)) : Kd.C k27 w A n (rs.map f) := by
  obtain ⟨hn, hb, hc⟩ := h
  refine ⟨by rw [List.length_map]; exact hn, hb, fun hp => ?_⟩
  obtain ⟨ad, rfl, hcc⟩ := hc hp
  refine ⟨ad, rfl, fun j p hj => ?_⟩
  rw [List.getElem?_map] at hj
  obtain ⟨s, hs, rfl⟩ := Option.map_eq_some_iff.1 hj
  obtain ⟨c, hcl, hK, hce⟩ := hcc j s hs
  have hK : c = encS s := hK
  subst hK
  exact ⟨encS s, rfl, hf s (List.mem_of_getElem? hs), hce⟩
theorem wsucR (i : Nat) (h : i < 9223372036854775807) : wrap64 ((i : Int) + 1) = ((i + 1 : Nat) : Int) := by unfold wrap64; omega
variable (a b c : Int) (s o : ByteArray) (d e f : Int) (A : List S53) (E : List S55) (L : List S68)
theorem same_l2 (hL : L.length ≤ 9223372036854775807) (n : Nat) : ∀ (k i : Nat), L.length - i ≤ n → n < k → cambiumref16_Same.l2 k (i : Int) a b c s o d e f A E L a b c s o d e f A E L = some true := by
  induction n with
  | zero =>
    intro k i h hk
    obtain ⟨k, rfl⟩ : ∃ j, k = j + 1 := ⟨k - 1, by omega⟩
    rw [cambiumref16_Same.l2, if_neg (by omega)]
  | succ n ih =>
    intro k i h hk
    obtain ⟨k, rfl⟩ : ∃ j, k = j + 1 := ⟨k - 1, by omega⟩
    by_cases hlt : i < L.length
    · rw [cambiumref16_Same.l2, if_pos (by omega), if_pos (by omega), if_pos (by omega), if_neg (by simp), wsucR i (by omega)]
      exact ih k (i + 1) (by omega) (by omega)
    · rw [cambiumref16_Same.l2, if_neg (by omega)]
theorem same_l1 (hE : E.length ≤ 9223372036854775807) (hL : L.length ≤ 9223372036854775807) (n : Nat) : ∀ (k i : Nat), E.length - i ≤ n → n + L.length + 1 < k → cambiumref16_Same.l1 k (i : Int) a b c s o d e f A E L a b c s o d e f A E L = some true := by
  induction n with
  | zero =>
    intro k i h hk
    obtain ⟨k, rfl⟩ : ∃ j, k = j + 1 := ⟨k - 1, by omega⟩
    rw [cambiumref16_Same.l1, if_neg (by omega)]
    exact same_l2 a b c s o d e f A E L hL L.length k 0 (by omega) (by omega)
  | succ n ih =>
    intro k i h hk
    obtain ⟨k, rfl⟩ : ∃ j, k = j + 1 := ⟨k - 1, by omega⟩
    by_cases hlt : i < E.length
    · rw [cambiumref16_Same.l1, if_pos (by omega), if_pos (by omega), if_pos (by omega), if_neg (by simp), wsucR i (by omega)]
      exact ih k (i + 1) (by omega) (by omega)
    · rw [cambiumref16_Same.l1, if_neg (by omega)]
      exact same_l2 a b c s o d e f A E L hL L.length k 0 (by omega) (by omega)
theorem same_l0 (hA : A.length ≤ 9223372036854775807) (hE : E.length ≤ 9223372036854775807) (hL : L.length ≤ 9223372036854775807) (n : Nat) : ∀ (k i : Nat), A.length - i ≤ n → n + E.length + L.length + 2 < k → cambiumref16_Same.l0 k (i : Int) a b c s o d e f A E L a b c s o d e f A E L = some true := by
  induction n with
  | zero =>
    intro k i h hk
    obtain ⟨k, rfl⟩ : ∃ j, k = j + 1 := ⟨k - 1, by omega⟩
    rw [cambiumref16_Same.l0, if_neg (by omega)]
    exact same_l1 a b c s o d e f A E L hE hL E.length k 0 (by omega) (by omega)
  | succ n ih =>
    intro k i h hk
    obtain ⟨k, rfl⟩ : ∃ j, k = j + 1 := ⟨k - 1, by omega⟩
    by_cases hlt : i < A.length
    · rw [cambiumref16_Same.l0, if_pos (by omega), if_pos (by omega), if_pos (by omega), if_neg (by simp), wsucR i (by omega)]
      exact ih k (i + 1) (by omega) (by omega)
    · rw [cambiumref16_Same.l0, if_neg (by omega)]
      exact same_l1 a b c s o d e f A E L hE hL E.length k 0 (by omega) (by omega)
theorem same_refl (hA : A.length ≤ 9223372036854775807) (hE : E.length ≤ 9223372036854775807) (hL : L.length ≤ 9223372036854775807) (k : Nat) (hk : A.length + E.length + L.length + 3 < k) : cambiumref16_Same.f k a b c s o d e f A E L a b c s o d e f A E L = some true := by
  obtain ⟨k, rfl⟩ : ∃ j, k = j + 1 := ⟨k - 1, by omega⟩
  unfold cambiumref16_Same.f
  rw [if_pos rfl, if_pos rfl, if_pos rfl, if_pos rfl, if_pos rfl, if_pos rfl, if_pos rfl, if_pos rfl, if_pos rfl, if_pos rfl]
  rw [cambiumref16_Same.j0, if_neg (by simp)]
  exact same_l0 a b c s o d e f A E L hA hE hL A.length k 0 (by omega) (by omega)
/-- What a span asks in rounds, and that its rows are no longer than a row may be. -/
def Fin1 (x : S27) (B : Nat) : Prop := x.f8.length ≤ 9223372036854775807 ∧ x.f9.length ≤ 9223372036854775807 ∧ x.f10.length ≤ 9223372036854775807 ∧ x.f8.length + x.f9.length + x.f10.length + 3 < B
theorem spans_refl (xs : List S27) (hl : xs.length ≤ 1000000) (B : Nat) (hB : ∀ i : Nat, i < xs.length → Fin1 (rd_T27 xs i) B) : cambiumref16_Spans.f (xs.length + B + 1) xs xs = some true := by
  unfold cambiumref16_Spans.f
  rw [if_pos rfl]
  have go : ∀ (n k i : Nat), xs.length - i ≤ n → n + B < k → cambiumref16_Spans.l0 k xs xs (i : Int) = some true := by
    intro n
    induction n with
    | zero =>
      intro k i h hk
      obtain ⟨k, rfl⟩ : ∃ j, k = j + 1 := ⟨k - 1, by omega⟩
      rw [cambiumref16_Spans.l0, if_neg (by omega)]
    | succ n ih =>
      intro k i h hk
      obtain ⟨k, rfl⟩ : ∃ j, k = j + 1 := ⟨k - 1, by omega⟩
      by_cases hlt : i < xs.length
      · obtain ⟨h8, h9, h10, h11⟩ := hB i hlt
        rw [cambiumref16_Spans.l0, if_pos (by omega), if_pos (by omega), if_pos (by omega), same_refl _ _ _ _ _ _ _ _ _ _ _ h8 h9 h10 k (by omega), Option.bind_some, if_pos rfl, wsucR i (by omega)]
        exact ih k (i + 1) (by omega) (by omega)
      · rw [cambiumref16_Spans.l0, if_neg (by omega)]
  exact go xs.length _ 0 (by omega) (by omega)

theorem spans_self {w : World} {A B : Option Addr} {c d n : Nat} {x : S27} (f : Few x) (h1 : Kd.C k27 w A (List.replicate n x).length (List.replicate n x)) (hc : (List.replicate n x).length ≤ c) (h2 : Kd.C k27 w B (List.replicate n x).length (List.replicate n x)) (hd : (List.replicate n x).length ≤ d) (hn : n ≤ 70) :
    Calls Tryd.prog 19 #[.slice A (List.replicate n x).length c, .slice B (List.replicate n x).length d] w fun e w' => e = .returned (.bool true) ∧ Below w.heap.size w w' := by
  refine cambiumref16_Spans.calls _ A c _ B d _ true w h1 hc h2 hd (spans_refl (List.replicate n x) (by rw [List.length_replicate]; omega) (x.f8.length + x.f9.length + x.f10.length + 4) (fun i hi => ?_))
  have e : rd_T27 (List.replicate n x) i = x := by
    show (List.replicate n x).getD (Int.toNat (i : Int)) _ = x
    rw [Int.toNat_natCast, List.getD_eq_getElem?_getD, List.getElem?_eq_getElem hi, List.getElem_replicate]
    rfl
  rw [e]
  exact ⟨by have := f.a; omega, by have := f.b; omega, by have := f.c; omega, by omega⟩
/-- A row stays where another one, of other cells, is written. -/
theorem keep_other {α β : Type} {d : Kd α} {d2 : Kd β} {e e2 : Nat} {w w1 : World} {base : Nat} {v v2 : Value} {xs : List α} {ys : List β} (h : d.R e w base (fun _ => True) v xs) (h2 : d2.R e2 w base (fun _ => True) v2 ys) (hg : w.grownBy w1 v2.ownBlock) (hs : ∀ q ∈ e :: d.E, q ≠ e2) : d.R e w1 base (fun _ => True) v xs := by
  have key : ∀ k, some k = v2.ownBlock → ∃ c, w.heap[k]? = some (.cells c e2 (0, 0)) := by
    intro k hk
    obtain ⟨_, i1, ho1, _⟩ := h2
    rcases ho1.2 with ⟨h3, _⟩ | ⟨g, cap, cur, h3, hg, hh, _⟩
    · rw [h3] at hk; cases hk
    · rw [h3] at hk
      injection hk with hk
      have hk : k = g := hk
      subst hk
      exact ⟨cur, hh⟩
  refine Kd.R_mono (Kd.R_move (Kd.R_bound h) (fun k hk => hg.block k hk.2.2.1 (fun hv => ?_))) (fun _ _ => trivial)
  obtain ⟨q, hq, c1, h1⟩ := hk.2.2.2
  obtain ⟨c2, hh2⟩ := key k (by first | exact hv | exact hv.symm)
  rw [h1] at hh2
  injection hh2 with hh2
  injection hh2 with _ hh2
  exact hs q hq hh2
end Go.Proofs.YtkgpnfjmahjlcaaDoor.Wi
