/- How what comes in reads: out of the form's own reading of a value of a type (numbers, texts, rows, structs, arrays, nested) the facts that the print's contracts ask. No program in sight. -/
import Derived.Test.YtkgpnfjmahjlcaaDoorWMore
import Derived.SizedLaws
import Derived.ChangeArms
import Derived.OpenShut
import Derived.ChangeOld
import Derived.WideShapes
import Derived.Test.YtkgpnfjmahjlcaaDoorWShare
import Derived.Lib.ConvBytes
import Derived.Laws.BitsAllLaws
import Derived.RowKit
import Derived.Test.YtkgpnfjmahjlcaaDoorWWords
import Derived.Test.YtkgpnfjmahjlcaaDoorPAllx0
import Derived.Lib.Hide
import Derived.Laws.CopyOwn
import Derived.WalkLawsBesides
import Derived.Test.YtkgpnfjmahjlcaaDoorPAllx7
import Derived.Test.YtkgpnfjmahjlcaaDoorPAllx11
import Derived.Test.YtkgpnfjmahjlcaaDoorPAllx16
import Derived.Lib.SliceRun
import Derived.Lib.DecodeN
import Derived.Lib.OthersKept
import Derived.Laws.DeepStrings4
import Derived.Outline
import Derived.Test.YtkgpnfjmahjlcaaDoorLays
import Derived.Test.YtkgpnfjmahjlcaaDoorPAllx14
import Derived.Test.YtkgpnfjmahjlcaaDoorPAllx12
import Derived.Lib.ValidLaws
import Derived.Test.YtkgpnfjmahjlcaaDoorPAllx13
import Derived.Test.YtkgpnfjmahjlcaaDoorWLast
import Derived.Test.YtkgpnfjmahjlcaaDoorRows
import Derived.Lib.LaidU8T
import Derived.Lib.LaidIn
import Derived.Lib.Zigzag
import Derived.Test.YtkgpnfjmahjlcaaDoorPAllx17
import Derived.Lib.Strings
namespace Go.Proofs.YtkgpnfjmahjlcaaDoor.Open
open Go.RowKit Go.Proofs.YtkgpnfjmahjlcaaDoorW.PrintWords Go.ChangeShapes Go.WideShapes

/-- A type's values read as things of a kind, and what else is known of these. -/
def Reads {α : Type} (P : Program) (T : TypeId) (d : Kd α) (G : α → Prop) : Prop :=
  ∀ (H : Type) (enc : TypeId × Value → H) (W : World) (fuel : Nat) (cs : List Value) (D : DataW H) (ps : List MemPlace),
    DataW.trod enc P W 0 (fun _ => true) true fuel T cs = some (D, ps) → (∀ n ∈ D.weights P T, n ≤ reachBytes) → ∃ a, d.K W a cs ∧ G a

variable {P : Program} {T : TypeId}

theorem reads_int {k : IntKind} (hu : P.underlying T = some (.int k)) : Reads P T (Kd.int k) (fun x => (Lit.int k x).wf = true) := by
  intro H enc W fuel cs D ps h _
  obtain ⟨n, rfl, hx, hw⟩ := DataW.trod_int hu h
  exact ⟨n, rfl, hw⟩
theorem reads_bool (hu : P.underlying T = some .bool) : Reads P T Kd.bool (fun _ => True) := by
  intro H enc W fuel cs D ps h _
  obtain ⟨b, rfl, _⟩ := DataW.trod_bool hu h
  exact ⟨b, rfl, trivial⟩
theorem reads_string (hu : P.underlying T = some .string) : Reads P T Kd.string (fun s => s.size ≤ 140737488351232) := by
  intro H enc W fuel cs D ps h hz
  obtain ⟨s, rfl, hx, _⟩ := DataW.trod_string hu h
  refine ⟨s, rfl, ?_⟩
  obtain ⟨rfl, _⟩ := Prod.mk.inj hx
  have := hz s.data.toList.length (by simp [DataW.weights])
  rw [Array.length_toList] at this
  exact this

theorem mem_weightsAll {H : Type} {e : TypeId} : ∀ {l : List (DataW H)} {d : DataW H}, d ∈ l → ∀ n ∈ d.weights P e, n ∈ DataW.weightsAll P e l
  | [], _, h => by cases h
  | x :: r, d, h => by
    intro n hn
    unfold DataW.weightsAll
    rcases List.mem_cons.1 h with rfl | h
    · exact List.mem_append_left _ hn
    · exact List.mem_append_right _ (mem_weightsAll h n hn)

theorem mapM_some_length' {α β : Type} {f : α → Option β} : ∀ {l : List α} {r : List β}, l.mapM f = some r → r.length = l.length := by
  intro l
  induction l with
  | nil => intro r h; simp at h; subst h; rfl
  | cons a l ih =>
    intro r h
    rw [List.mapM_cons] at h
    simp only [Option.bind_eq_bind, Option.bind_eq_some_iff] at h
    obtain ⟨b, _, bs, hbs, hr⟩ := h
    have := ih hbs
    simp at hr
    rw [← hr]; simp [this]
theorem mapM_some_get' {α β : Type} {f : α → Option β} : ∀ {l : List α} {r : List β}, l.mapM f = some r → ∀ (i : Nat) (a : α), l[i]? = some a → f a = r[i]? := by
  intro l
  induction l with
  | nil => intro r h i a hi; simp at hi
  | cons a l ih =>
    intro r h i x hi
    rw [List.mapM_cons] at h
    simp only [Option.bind_eq_bind, Option.bind_eq_some_iff] at h
    obtain ⟨b, hb, bs, hbs, hr⟩ := h
    simp at hr
    rw [← hr]
    cases i with
    | zero => simp at hi; subst hi; simpa using hb
    | succ i => simp at hi; simpa using ih hbs i x hi

theorem cells_some {W : World} {ad : Addr} {n : Nat} {c : List Value} (h : W.cells? 0 ad n = some c) : c.length = n ∧ ∀ i u, c[i]? = some u → W.cell? (ad.add i) = some u := by
  unfold World.cells? at h
  rw [if_pos (Nat.zero_le _)] at h
  have hl := mapM_some_length' h
  rw [List.length_range] at hl
  refine ⟨hl, fun i u hu => ?_⟩
  have hi : i < n := by
    have := (List.getElem?_eq_some_iff.1 hu).1
    omega
  have := mapM_some_get' h i i (List.getElem?_range hi)
  rw [this, hu]

/-- An address taken twice. -/
theorem add_add (ad : Addr) (m j : Nat) : (ad.add m).add j = ad.add (m + j) := by
  unfold Addr.add
  by_cases hm : m = 0
  · subst hm; simp
  · by_cases hj : j = 0
    · subst hj; simp
    · simp [hm, hj, Nat.add_assoc]

theorem reads_slice {α : Type} {e : TypeId} {d : Kd α} {G : α → Prop} (hu : P.underlying T = some (.slice e)) (hr : Reads P e d G) (hs : P.cellsOf e = d.sz) :
    Reads P T (Kd.slice e d) (fun l => (∀ x ∈ l, G x) ∧ l.length * P.bytesOf e ≤ 140737488351232) := by
  intro H enc W fuel cs D ps h hz
  rcases DataW.trod_slice hu h with ⟨rfl, _⟩ | ⟨a, len, cap, elems, rest, n, rfl, rfl, hx, _, hlc, hcm, hel, hget, _, _⟩
  · refine ⟨[], ⟨none, 0, rfl, Nat.le_refl _, Kd.C_nil d W⟩, fun x hx => (by cases hx), by simp⟩
  · obtain ⟨rfl, _⟩ := Prod.mk.inj hx
    have hw : ∀ x ∈ elems, ∀ m ∈ x.1.weights P e, m ≤ reachBytes := by
      intro x hxm m hm
      refine hz m ?_
      unfold DataW.weights
      rw [hu]
      exact List.mem_cons_of_mem _ (List.mem_append_left _ (mem_weightsAll (List.mem_map_of_mem hxm) m hm))
    have key : ∀ i, i < len → ∃ x c, elems[i]? = some x ∧ W.cells? 0 (a.add (i * P.cellsOf e)) (P.cellsOf e) = some c ∧ ∃ y, d.K W y c ∧ G y := by
      intro i hi
      have h1 := hget i hi
      have h2 : i < elems.length := by omega
      rw [List.getElem?_eq_getElem h2, Option.bind_eq_some_iff] at h1
      obtain ⟨c, hc, ht⟩ := h1
      obtain ⟨y, hy⟩ := hr H enc W n c elems[i].1 elems[i].2 ht (hw _ (List.getElem_mem h2))
      exact ⟨_, c, List.getElem?_eq_getElem h2, hc, y, hy⟩
    have hlist : ∀ m, m ≤ len → ∃ ys : List α, ys.length = m ∧ ∀ j y, ys[j]? = some y → G y ∧ ∃ c, W.cells? 0 (a.add (j * P.cellsOf e)) (P.cellsOf e) = some c ∧ d.K W y c := by
      intro m
      induction m with
      | zero => intro _; exact ⟨[], rfl, fun j y hj => by simp at hj⟩
      | succ m ih =>
        intro hm
        obtain ⟨ys, hl, hys⟩ := ih (by omega)
        obtain ⟨_, c, _, hc, y, hk, hg⟩ := key m (by omega)
        refine ⟨ys ++ [y], by simp [hl], fun j z hj => ?_⟩
        rcases Nat.lt_or_ge j ys.length with h1 | h1
        · rw [List.getElem?_append_left h1] at hj
          exact hys j z hj
        · rw [List.getElem?_append_right h1] at hj
          have hj0 : j - ys.length = 0 := by
            have := (List.getElem?_eq_some_iff.1 hj).1
            simpa using this
          rw [hj0] at hj
          simp at hj
          subst hj
          have : j = m := by omega
          subst this
          exact ⟨hg, c, hc, hk⟩
    obtain ⟨ys, hl, hys⟩ := hlist len (Nat.le_refl _)
    have hcap : len ≤ 9223372036854775807 := by have : maxLen = 9223372036854775807 := rfl; omega
    refine ⟨ys, ⟨some a, cap, by rw [hl], by rw [hl]; exact hlc, ?_⟩, ?_, ?_⟩
    · rw [hl]
      refine ⟨hl, hcap, fun _ => ⟨a, rfl, fun j y hj => ?_⟩⟩
      obtain ⟨_, c, hc, hk⟩ := hys j y hj
      obtain ⟨hcl, hcc⟩ := cells_some hc
      refine ⟨c, by rw [hcl, hs], hk, fun i u hu => ?_⟩
      have := hcc i u hu
      rw [add_add, hs] at this
      exact this
    · intro x hx
      obtain ⟨j, hj⟩ := List.mem_iff_getElem?.1 hx
      exact (hys j x hj).1
    · have := hz ((elems.map (·.1)).length * P.bytesOf e + (rest.map (·.1)).length * P.bytesOf e) (by
        unfold DataW.weights
        rw [hu, ← Nat.add_mul]
        exact List.mem_cons_self)
      rw [hl]
      have h3 : (elems.map (·.1)).length = len := by simp [hel]
      rw [h3] at this
      exact Nat.le_trans (Nat.le_add_right _ _) this

/-- A struct's fields, from one place on. -/
def FieldsRead {α : Type} (P : Program) (fs : List Field) (o : Nat) (d : Kd α) (G : α → Prop) : Prop :=
  ∀ (H : Type) (enc : TypeId × Value → H) (W : World) (n : Nat) (cs : List Value) (xs : List (DataW H × List MemPlace)), cs.length = o + d.sz → xs.length = fs.length →
    (∀ (i : Nat) (f : Field), fs[i]? = some f → DataW.trod enc P W 0 (fun _ => true) true n f.type ((cs.drop f.offset).take (P.cellsOf f.type)) = xs[i]?) →
    (∀ m ∈ DataW.weightsEach P (fs.map (·.type)) (xs.map (·.1)), m ≤ reachBytes) → ∃ a, d.K W a (cs.drop o) ∧ G a

theorem fields_one {α : Type} {f : Field} {o : Nat} {d : Kd α} {G : α → Prop} (ho : f.offset = o) (hs : P.cellsOf f.type = d.sz) (hr : Reads P f.type d G) : FieldsRead P [f] o d G := by
  intro H enc W n cs xs hl hx hg hz
  match xs, hx with
  | [x], _ =>
    have h1 := hg 0 f rfl
    rw [ho, hs, List.take_of_length_le (by rw [List.length_drop]; omega)] at h1
    exact hr H enc W n _ x.1 x.2 (by simpa using h1) (fun m hm => hz m (by simp [DataW.weightsEach, hm]))

theorem fields_cons {α β : Type} {f : Field} {fs : List Field} {o : Nat} {a : Kd α} {b : Kd β} {G : α → Prop} {K : β → Prop} (ho : f.offset = o) (hs : P.cellsOf f.type = a.sz) (hr : Reads P f.type a G)
    (hfs : FieldsRead P fs (o + a.sz) b K) : FieldsRead P (f :: fs) o (Kd.pair a b) (fun x => G x.1 ∧ K x.2) := by
  intro H enc W n cs xs hl hx hg hz
  match xs, hx with
  | x :: r, hx =>
    have hl' : cs.length = o + a.sz + b.sz := by rw [hl, show (Kd.pair a b).sz = a.sz + b.sz from rfl, Nat.add_assoc]
    have h1 := hg 0 f rfl
    rw [ho, hs] at h1
    obtain ⟨y, hy, gy⟩ := hr H enc W n _ x.1 x.2 (by simpa using h1) (fun m hm => hz m (by simp [DataW.weightsEach, hm]))
    obtain ⟨z, hk, gz⟩ := hfs H enc W n cs r hl' (by simpa using hx) (fun i g hi => by have := hg (i + 1) g (by simpa using hi); simpa using this) (fun m hm => hz m (by simp [DataW.weightsEach, hm]))
    refine ⟨(y, z), ⟨_, _, ?_, hy, hk⟩, gy, gz⟩
    rw [← List.drop_drop]
    exact (List.take_append_drop _ _).symm

theorem reads_struct {α : Type} {fs : Array Field} {d : Kd α} {G : α → Prop} (hu : P.underlying T = some (.struct fs)) (hc : P.cellsOf T = d.sz) (hr : FieldsRead P fs.toList 0 d G) : Reads P T d G := by
  intro H enc W fuel cs D ps h hz
  obtain ⟨xs, n, rfl, hx, hl, hxs, hg⟩ := DataW.trod_struct hu h
  obtain ⟨rfl, _⟩ := Prod.mk.inj hx
  have := hr H enc W n cs xs (by rw [hl, hc, Nat.zero_add]) (by simpa using hxs) (fun i f hi => hg i f (by simpa using hi)) (fun m hm => hz m (by
    unfold DataW.weights
    rw [hu]
    exact hm))
  simpa using this

theorem reads_iso {α β : Type} {d : Kd α} {G : α → Prop} (f : β → α) (g : α → β) (hfg : ∀ a, f (g a) = a) (hr : Reads P T d G) : Reads P T (Kd.iso d f) (fun x => G (f x)) := by
  intro H enc W fuel cs D ps h hz
  obtain ⟨a, hk, ga⟩ := hr H enc W fuel cs D ps h hz
  exact ⟨g a, by show d.K W (f (g a)) cs; rw [hfg]; exact hk, by show G (f (g a)); rw [hfg]; exact ga⟩

theorem reads_imp {α : Type} {d : Kd α} {G K : α → Prop} (hr : Reads P T d G) (h : ∀ a, G a → K a) : Reads P T d K := by
  intro H enc W fuel cs D ps ht hz
  obtain ⟨a, hk, ga⟩ := hr H enc W fuel cs D ps ht hz
  exact ⟨a, hk, h a ga⟩

theorem int_pos (k : IntKind) : 0 < (Kd.int k).sz := Nat.one_pos
/-- An array of whole numbers. -/
theorem reads_ints {e : TypeId} {n : Nat} {k : IntKind} (hu : P.underlying T = some (.array n e)) (he : P.underlying e = some (.int k)) (hc : P.cellsOf e = 1) (hT : P.cellsOf T = n) :
    Reads P T (Kd.arr n (Kd.int k) (int_pos k)) (fun l => l.length = n ∧ ∀ x ∈ l, (Lit.int k x).wf = true) := by
  intro H enc W fuel cs D ps h hz
  obtain ⟨xs, m, rfl, hx, hl, hxs, hg⟩ := DataW.trod_array hu h
  rw [hc] at hg
  have hl' : cs.length = n := by rw [hl, hT]
  have key : ∀ j, j ≤ n → ∃ ys : List Int, ys.length = j ∧ cs.take j = ys.map (Value.int k) ∧ ∀ x ∈ ys, (Lit.int k x).wf = true := by
    intro j
    induction j with
    | zero => intro _; exact ⟨[], rfl, by simp, fun x hx => by cases hx⟩
    | succ j ih =>
      intro hj
      obtain ⟨ys, h1, h2, h3⟩ := ih (by omega)
      have ht := hg j (by omega)
      rw [List.getElem?_eq_getElem (by omega)] at ht
      obtain ⟨x, hcs, _, hw⟩ := DataW.trod_int he ht
      refine ⟨ys ++ [x], by simp [h1], ?_, ?_⟩
      · rw [List.take_succ_eq_append_getElem (by omega), h2, List.map_append]
        rw [Nat.mul_one, List.drop_eq_getElem_cons (by omega), List.take_succ_cons, List.take_zero] at hcs
        rw [hcs]; rfl
      · intro y hy
        rcases List.mem_append.1 hy with hy | hy
        · exact h3 y hy
        · rw [List.mem_singleton.1 hy]; exact hw
  obtain ⟨ys, h1, h2, h3⟩ := key n (Nat.le_refl _)
  rw [List.take_of_length_le (by omega)] at h2
  refine ⟨ys, ?_, h1, h3⟩
  rw [h2]
  exact Kd.K_of_M (ok := fun _ => True) (base := 0) (Kd.arr n (Kd.int k) (int_pos k)) (Kd.arr_of_cells (enc := Value.int k) h1)

/-- The weights of an argument. -/
theorem weights_arg {H : Type} {ts : List TypeId} {ds : List (DataW H)} {j : Nat} {t : TypeId} {d : DataW H} (hsz : (DataW.weightsEach P ts ds).all (· ≤ reachBytes) = true) (ht : ts[j]? = some t) (hd : ds[j]? = some d) :
    ∀ n ∈ d.weights P t, n ≤ reachBytes := by
  intro n hn
  have := List.all_eq_true.1 hsz n (DataW.weights_mem_each ht hd n hn)
  simpa using this

/-- A row that came in: its elements. -/
theorem slice_arg {α : Type} {e : TypeId} {d : Kd α} {W : World} {l : List α} {a : Option Addr} {len cap : Nat} (h : (Kd.slice e d).K W l [.slice a len cap]) : len = l.length ∧ l.length ≤ cap ∧ d.C W a l.length l := by
  obtain ⟨A, c, hcs, hl, hc⟩ := h
  simp only [List.cons.injEq, Value.slice.injEq, and_true] at hcs
  obtain ⟨rfl, rfl, rfl⟩ := hcs
  exact ⟨rfl, hl, hc⟩

theorem okWide_array {n : Nat} {e : TypeId} {w : World} {r : Reach} {base : Nat} {v : Value} (ht : P.underlying T = some (.array n e)) (h : Value.okWide P w r base T v) : ∃ cs, v = .agg cs := by
  unfold Value.okWide at h
  rw [ht] at h
  cases v <;> simp_all

/-- An array of things that read. -/
theorem reads_arr {α : Type} {e : TypeId} {n : Nat} {d : Kd α} {G : α → Prop} (hs : 0 < d.sz) (hu : P.underlying T = some (.array n e)) (hr : Reads P e d G) (hc : P.cellsOf e = d.sz) (hT : P.cellsOf T = n * d.sz) :
    Reads P T (Kd.arr n d hs) (fun l => l.length = n ∧ ∀ x ∈ l, G x) := by
  intro H enc W fuel cs D ps h hz
  obtain ⟨xs, m, rfl, hx, hl, hxs, hg⟩ := DataW.trod_array hu h
  obtain ⟨rfl, _⟩ := Prod.mk.inj hx
  rw [hc] at hg
  rw [hT] at hl
  have hw : ∀ j, (hj : j < xs.length) → ∀ q ∈ (xs[j]).1.weights P e, q ≤ reachBytes := by
    intro j hj q hq
    refine hz q ?_
    unfold DataW.weights
    rw [hu]
    exact mem_weightsAll (List.mem_map_of_mem (List.getElem_mem hj)) q hq
  have key : ∀ j, j ≤ n → ∃ ys : List α, ys.length = j ∧ Reps (d.K W) d.sz ys (cs.take (j * d.sz)) ∧ ∀ x ∈ ys, G x := by
    intro j
    induction j with
    | zero => intro _; exact ⟨[], rfl, by rw [Nat.zero_mul, List.take_zero]; exact Reps.none _ _, fun x hx => by cases hx⟩
    | succ j ih =>
      intro hj
      obtain ⟨ys, h1, h2, h3⟩ := ih (by omega)
      have ht := hg j (by omega)
      have hxj : xs[j]? = some (xs[j]'(by omega)) := List.getElem?_eq_getElem (by omega)
      have hwj := hw j (by omega)
      rw [hxj] at ht
      obtain ⟨x, hk, hgx⟩ := hr H enc W m _ _ _ ht hwj
      refine ⟨ys ++ [x], by simp [h1], ?_, ?_⟩
      · have hlen : ((cs.drop (j * d.sz)).take d.sz).length = d.sz := d.K_len hk
        rw [Nat.succ_mul, List.take_add]
        exact Reps.snoc h2 hk hlen
      · intro y hy
        rcases List.mem_append.1 hy with hy | hy
        · exact h3 y hy
        · rw [List.mem_singleton.1 hy]; exact hgx
  obtain ⟨ys, h1, h2, h3⟩ := key n (Nat.le_refl _)
  rw [List.take_of_length_le (by omega)] at h2
  exact ⟨ys, ⟨h1, h2⟩, h1, h3⟩
end Go.Proofs.YtkgpnfjmahjlcaaDoor.Open

namespace Go.Proofs.YtkgpnfjmahjlcaaDoor.Conv
open Go.RowKit Go.Proofs.YtkgpnfjmahjlcaaDoorW.PrintWords Go.Proofs.YtkgpnfjmahjlcaaDoorW.PrintLast Go.Proofs.YtkgpnfjmahjlcaaDoorW.PrintMore
set_option linter.unusedVariables false
variable {P : Program} {ops : Array Oper} {rest : List Oper} {o : Oper} {a : Act} {Q : Exit → Act → World → Prop} {K Kc : Act → World → Prop}

theorem bytes_V (W : World) (base e : Nat) (s : ByteArray) (hs : s.size ≤ 140737488355328) :
    Kd.V (Kd.int .u8) e (Lib.bytesWorld W e s) base (fun k => W.heap.size ≤ k) (.slice (some ⟨W.heap.size, 0, none⟩) s.size (grownCap W s.size 0 e)) (bytesOf s) := by
  have hl := bytesOf_length s
  refine ⟨some ⟨W.heap.size, 0, none⟩, grownCap W s.size 0 e, by rw [hl], by rw [hl]; exact grownCap_ge _ _ _ _, ?_⟩
  intro W' hW
  have hb := hW W.heap.size (Nat.le_refl _) (by rw [Lib.bytesWorld_size]; omega)
  have hr := bytes_reads W e s (by omega)
  rw [hl]
  refine Kd.C_of_reads (d := (0 : Int)) ⟨hl, by omega, fun hp => ?_⟩
  obtain ⟨ad, he, hc⟩ := hr.2.2 hp
  refine ⟨ad, he, fun i hi => ?_⟩
  injection he with he
  subst he
  rw [← hc i hi, add_plain]
  exact World.cell?_of_block hb

theorem conv_wp {w0 W : World} (base e : Nat) (src dst : TypeId) (x : Operand) (ho : o.op = .convert src dst x) {u : TypeDesc} (hs : P.underlying src = some u) (hd : P.underlying dst = some (.slice e)) (he : P.underlying e = some (.int .u8))
    (s : ByteArray) (hx : a.eval x = .string s) (hm : (s.size : Int) ≤ 140737488355328) (HB : Below base w0 W) (hbase : base ≤ W.heap.size)
    (h : ∀ v1 w1, Kd.V (Kd.int .u8) e w1 base (fun k => W.heap.size ≤ k) v1 (bytesOf s) → Below base w0 w1 → W.grownBy w1 none → (∃ b, v1.ownBlock = some b ∧ W.heap.size ≤ b) → K (a.put o.dst v1) w1) : Oper.wp P o a W K Q := by
  have hrun := print_bytes (P := P) src dst e hs hd he s W
  have h2 := h _ _ (bytes_V W base e s (by omega)) (bytes_below HB hbase e s) ⟨rfl, rfl, rfl, by rw [Lib.bytesWorld_size]; omega, fun k hk _ => Lib.bytesWorld_at_old W e s k hk⟩ ⟨_, rfl, Nat.le_refl _⟩
  unfold Oper.wp
  simp [execOp, ho, hx, hrun, Result.andThen]
  exact h2

theorem V_conv {w0 W : World} (base e : Nat) (hgd : o.guard = none) {N' : Tmp} (hdst : o.dst = some N') (src dst : TypeId) (x : Operand) (ho : o.op = .convert src dst x) {u : TypeDesc} (hs : P.underlying src = some u) (hd : P.underlying dst = some (.slice e)) (he : P.underlying e = some (.int .u8))
    (s : ByteArray) (hx : a.eval x = .string s) (hm : (s.size : Int) ≤ 140737488355328) (HB : Below base w0 W) (hbase : base ≤ W.heap.size)
    (h : ∀ v1 w1, Kd.V (Kd.int .u8) e w1 base (fun k => W.heap.size ≤ k) v1 (bytesOf s) → Below base w0 w1 → W.grownBy w1 none → (∃ b, v1.ownBlock = some b ∧ W.heap.size ≤ b) → wpList P ops Q rest (a.put o.dst v1) w1) : wpList P ops Q (o :: rest) a W :=
  wpList_plain hgd fun K hK => conv_wp base e src dst x ho hs hd he s hx hm HB hbase (fun v1 w1 h1 h2 h3 h4 => hK _ _ (h v1 w1 h1 h2 h3 h4))

theorem V_conv_on {w0 W : World} (base e : Nat) (hw : Region.wanted o (yielded ops a.tmps) = true) {N' : Tmp} (hdst : o.dst = some N') (src dst : TypeId) (x : Operand) (ho : o.op = .convert src dst x) {u : TypeDesc} (hs : P.underlying src = some u) (hd : P.underlying dst = some (.slice e)) (he : P.underlying e = some (.int .u8))
    (s : ByteArray) (hx : a.eval x = .string s) (hm : (s.size : Int) ≤ 140737488355328) (HB : Below base w0 W) (hbase : base ≤ W.heap.size)
    (h : ∀ v1 w1, Kd.V (Kd.int .u8) e w1 base (fun k => W.heap.size ≤ k) v1 (bytesOf s) → Below base w0 w1 → W.grownBy w1 none → (∃ b, v1.ownBlock = some b ∧ W.heap.size ≤ b) → wpList P ops Q rest (a.put o.dst v1) w1) : wpList P ops Q (o :: rest) a W := by
  rw [wpList, if_pos hw]
  exact Or.inl (conv_wp base e src dst x ho hs hd he s hx hm HB hbase h)

theorem V_conv_step {w0 W : World} (base e : Nat) (hw : Region.wanted o (yielded ops a.tmps) = true) {N' : Tmp} (hdst : o.dst = some N') (src dst : TypeId) (x : Operand) (ho : o.op = .convert src dst x) {u : TypeDesc} (hs : P.underlying src = some u) (hd : P.underlying dst = some (.slice e)) (he : P.underlying e = some (.int .u8))
    (s : ByteArray) (hx : a.eval x = .string s) (hm : (s.size : Int) ≤ 140737488355328) (HB : Below base w0 W) (hbase : base ≤ W.heap.size)
    (h : ∀ v1 w1, Kd.V (Kd.int .u8) e w1 base (fun k => W.heap.size ≤ k) v1 (bytesOf s) → Below base w0 w1 → W.grownBy w1 none → (∃ b, v1.ownBlock = some b ∧ W.heap.size ≤ b) → Kc (a.put o.dst v1) w1) :
    if Region.wanted o (yielded ops a.tmps) = true then Oper.wp P o a W Kc Q else Kc (a.put o.dst undef) W := by
  rw [if_pos hw]
  exact conv_wp base e src dst x ho hs hd he s hx hm HB hbase h

end Go.Proofs.YtkgpnfjmahjlcaaDoor.Conv

namespace Go.Proofs.YtkgpnfjmahjlcaaDoor.Math
open Go.RowKit

theorem snoc_ind {α : Type} {P : List α → Prop} (h0 : P []) (h1 : ∀ l b, P l → P (l ++ [b])) (l : List α) : P l := by
  rw [← List.reverse_reverse l]
  induction l.reverse with
  | nil => exact h0
  | cons b r ih => rw [List.reverse_cons]; exact h1 _ _ ih

/-- All are bytes. -/
def IsB (l : List Int) : Prop := ∀ x ∈ l, 0 ≤ x ∧ x < 256

instance decIsB : DecidablePred IsB := fun l => by unfold IsB; infer_instance

theorem isB_nil : IsB [] := by intro x h; cases h
theorem isB_cons {x : Int} {l : List Int} (hx : 0 ≤ x ∧ x < 256) (h : IsB l) : IsB (x :: l) := by
  intro y hy
  rcases List.mem_cons.1 hy with rfl | hy
  · exact hx
  · exact h y hy
theorem isB_append {a b : List Int} (ha : IsB a) (hb : IsB b) : IsB (a ++ b) := by
  intro y hy
  rcases List.mem_append.1 hy with h | h
  · exact ha y h
  · exact hb y h
theorem isB_take {l : List Int} (h : IsB l) (n : Nat) : IsB (l.take n) := fun x hx => h x (List.mem_of_mem_take hx)
theorem isB_drop {l : List Int} (h : IsB l) (n : Nat) : IsB (l.drop n) := fun x hx => h x (List.mem_of_mem_drop hx)
theorem isB_head {x : Int} {l : List Int} (h : IsB (x :: l)) : 0 ≤ x ∧ x < 256 := h x (List.mem_cons_self)
theorem isB_tail {x : Int} {l : List Int} (h : IsB (x :: l)) : IsB l := fun y hy => h y (List.mem_cons_of_mem _ hy)
theorem isB_of_wf {l : List Int} (h : ∀ x ∈ l, (Lit.int .u8 x).wf = true) : IsB l := by
  intro x hx
  have := h x hx
  simp [Lit.wf, IntKind.min, IntKind.max, IntKind.bits, IntKind.signed] at this
  omega

theorem pow_le {a b : Nat} (h : a ≤ b) : (128 : Int) ^ a ≤ 128 ^ b := by
  have := Nat.pow_le_pow_right (n := 128) (by decide) h
  exact_mod_cast this

/-- A short number's bytes. -/
def vput (v : Int) : List Int := if 128 ≤ v then (v % 128 + 128) :: vput (v / 128) else [v]
termination_by v.toNat
decreasing_by omega

theorem vput_lt {v : Int} (h : v < 128) : vput v = [v] := by rw [vput, if_neg (by omega)]
theorem vput_ge {v : Int} (h : 128 ≤ v) : vput v = (v % 128 + 128) :: vput (v / 128) := by rw [vput, if_pos h]

/-- What short bytes come to. -/
def vval : List Int → Int
  | [] => 0
  | c :: r => c % 128 + 128 * vval r

/-- Short bytes as they must be: all but the last with the high bit, the last without it, and not 0 unless it is alone. -/
def Canon : List Int → Prop
  | [] => False
  | [c] => 0 ≤ c ∧ c < 128
  | c :: d :: r => (128 ≤ c ∧ c < 256) ∧ Canon (d :: r) ∧ (r = [] → d ≠ 0)

theorem vput_ne (v : Int) : vput v ≠ [] := by
  rw [vput]; split <;> simp

theorem vval_vput (v : Int) (h : 0 ≤ v) : vval (vput v) = v := by
  induction hn : v.toNat using Nat.strongRecOn generalizing v with
  | _ n ih =>
    by_cases h1 : 128 ≤ v
    · rw [vput_ge h1, vval, ih (v / 128).toNat (by omega) _ (by omega) rfl]; omega
    · rw [vput_lt (by omega)]; simp [vval]; omega

theorem vput_isB (v : Int) (h : 0 ≤ v) : IsB (vput v) := by
  induction hn : v.toNat using Nat.strongRecOn generalizing v with
  | _ n ih =>
    by_cases h1 : 128 ≤ v
    · rw [vput_ge h1]
      exact isB_cons (by omega) (ih (v / 128).toNat (by omega) _ (by omega) rfl)
    · rw [vput_lt (by omega)]
      exact isB_cons (by omega) isB_nil

/-- Its last byte is 0 only for 0. -/
theorem vput_canon (v : Int) (h : 0 ≤ v) : Canon (vput v) := by
  induction hn : v.toNat using Nat.strongRecOn generalizing v with
  | _ n ih =>
    by_cases h1 : 128 ≤ v
    · have hc := ih (v / 128).toNat (by omega) _ (by omega) rfl
      rw [vput_ge h1]
      cases hv : vput (v / 128) with
      | nil => exact absurd hv (vput_ne _)
      | cons d r =>
        rw [hv] at hc
        refine ⟨by omega, hc, ?_⟩
        rintro rfl rfl
        have := vval_vput (v / 128) (by omega)
        rw [hv] at this
        simp [vval] at this
        omega
    · rw [vput_lt (by omega)]
      exact ⟨h, by omega⟩

theorem canon_nonneg : ∀ {l : List Int}, Canon l → 0 ≤ vval l
  | [], h => by cases h
  | [c], h => by simp [vval]; omega
  | c :: d :: r, h => by
    have := canon_nonneg h.2.1
    rw [vval]; omega

theorem canon_pos : ∀ {l : List Int}, Canon l → (1 < l.length ∨ l ≠ [0]) → 0 < vval l
  | [], h, _ => by cases h
  | [c], h, k => by
    simp [Canon] at h
    simp at k
    simp [vval]; omega
  | c :: d :: r, h, _ => by
    have h2 := h.2.1
    have : 0 < vval (d :: r) := by
      refine canon_pos h2 ?_
      cases r with
      | nil => right; intro e; injection e with e _; exact h.2.2 rfl e
      | cons _ _ => left; simp
    rw [vval]; omega

theorem vput_vval : ∀ {l : List Int}, Canon l → vput (vval l) = l
  | [], h => by cases h
  | [c], h => by
    simp [Canon] at h
    have : vval [c] = c := by simp [vval]; omega
    rw [this, vput_lt (by omega)]
  | c :: d :: r, h => by
    have h2 := h.2.1
    have hp : 0 < vval (d :: r) := by
      refine canon_pos h2 ?_
      cases r with
      | nil => right; intro e; injection e with e _; exact h.2.2 rfl e
      | cons _ _ => left; simp
    have h1 := h.1
    have e : vval (c :: d :: r) = c % 128 + 128 * vval (d :: r) := rfl
    rw [vput_ge (by rw [e]; omega)]
    have e1 : vval (c :: d :: r) % 128 + 128 = c := by rw [e]; omega
    have e2 : vval (c :: d :: r) / 128 = vval (d :: r) := by rw [e]; omega
    rw [e1, e2, vput_vval h2]

theorem vput_len (n : Nat) : ∀ v : Int, v < 128 ^ (n + 1) → (vput v).length ≤ n + 1 := by
  induction n with
  | zero => intro v h; rw [vput_lt (by omega)]; simp
  | succ n ih =>
    intro v h
    by_cases h1 : 128 ≤ v
    · rw [vput_ge h1]
      have h' : v < 128 * (128 : Int) ^ (n + 1) := by rw [Int.pow_succ] at h; omega
      have := ih (v / 128) (by omega)
      simp only [List.length_cons]; omega
    · rw [vput_lt (by omega)]; simp

theorem vput_len10 {v : Int} (h : v < 18446744073709551616) : (vput v).length ≤ 10 := vput_len 9 v (by omega)

theorem vput_len_pos (v : Int) : 1 ≤ (vput v).length := by
  cases h : vput v with
  | nil => exact absurd h (vput_ne v)
  | cons _ _ => simp

theorem vput_inj {a b : Int} (ha : 0 ≤ a) (hb : 0 ≤ b) (h : vput a = vput b) : a = b := by
  rw [← vval_vput a ha, h, vval_vput b hb]

/-- Reading a short number: from place i on, what came before being v. -/
def vgo : Nat → Int → List Int → Int × Int
  | _, _, [] => (0, 0)
  | i, v, c :: r => if 10 ≤ i then (0, 0) else if i = 9 ∧ 1 < c then (0, 0) else
      if c < 128 then (if c = 0 ∧ 0 < i then (0, 0) else (v + c * 128 ^ i, (i : Int) + 1)) else vgo (i + 1) (v + (c - 128) * 128 ^ i) r

/-- The short number with which bytes begin, and how many it has. -/
def vget (l : List Int) : Int × Int := vgo 0 0 l

theorem vgo_put (r : List Int) : ∀ (v : Int) (i : Nat) (a : Int), 0 ≤ v → a + v * 128 ^ i < 18446744073709551616 → 0 ≤ a → (0 < i → 0 < v) →
    vgo i a (vput v ++ r) = (a + v * 128 ^ i, (i : Int) + (vput v).length) := by
  intro v
  induction hn : v.toNat using Nat.strongRecOn generalizing v with
  | _ n ih =>
    intro i a h0 hlt ha hpos
    have hp : (0 : Int) < 128 ^ i := Int.pow_pos (by omega)
    have hi : i ≤ 9 := by
      rcases Nat.lt_or_ge i 10 with h | h
      · omega
      · exfalso
        have h1 : 0 < v := hpos (by omega)
        have : (128 : Int) ^ 10 ≤ 128 ^ i := pow_le h
        have h2 : 128 ^ i * 1 ≤ 128 ^ i * v := Int.mul_le_mul_of_nonneg_left (by omega) (by omega)
        rw [Int.mul_comm v] at hlt
        have h3 : (128 : Int) ^ 10 = 1180591620717411303424 := by decide
        omega
    have h9 : i = 9 → v ≤ 1 := by
      rintro rfl
      have h3 : (128 : Int) ^ 9 = 9223372036854775808 := by decide
      rw [h3] at hlt
      omega
    by_cases h1 : 128 ≤ v
    · rw [vput_ge h1]
      simp only [List.cons_append, vgo]
      rw [if_neg (by omega), if_neg (by omega), if_neg (by omega)]
      have e : (v % 128 + 128 - 128) * 128 ^ i + v / 128 * 128 ^ (i + 1) = v * 128 ^ i := by
        have e1 : (128 : Int) ^ (i + 1) = 128 * 128 ^ i := by rw [Int.pow_succ, Int.mul_comm]
        have e2 : v = v % 128 + 128 * (v / 128) := by omega
        rw [e1]
        conv => rhs; rw [e2]
        rw [Int.add_mul, show v % 128 + 128 - 128 = v % 128 by omega, ← Int.mul_assoc, Int.mul_comm (v / 128) 128]
      have hge : 0 ≤ (v % 128 + 128 - 128) * 128 ^ i := Int.mul_nonneg (by omega) (by omega)
      rw [ih (v / 128).toNat (by omega) (v / 128) rfl (i + 1) _ (by omega) (by rw [Int.add_assoc, e]; exact hlt) (by omega) (by intro _; omega)]
      rw [Int.add_assoc, e]
      simp only [List.length_cons, Prod.mk.injEq, true_and]
      omega
    · rw [vput_lt (by omega)]
      simp only [List.cons_append, List.nil_append, vgo]
      rw [if_neg (by omega), if_neg (by omega), if_pos (by omega), if_neg (by omega)]
      simp

theorem vget_put (r : List Int) {v : Int} (h0 : 0 ≤ v) (h : v < 18446744073709551616) : vget (vput v ++ r) = (v, ((vput v).length : Int)) := by
  unfold vget
  rw [vgo_put r v 0 0 h0 (by simp; omega) (by omega) (by omega)]
  simp

theorem vget_put' {v : Int} (h0 : 0 ≤ v) (h : v < 18446744073709551616) : vget (vput v) = (v, ((vput v).length : Int)) := by
  have := vget_put [] h0 h
  rwa [List.append_nil] at this

/-- What is read: nothing, or a short number as it must be. -/
theorem vgo_cases : ∀ (l : List Int) (i : Nat) (a : Int), IsB l → vgo i a l = (0, 0) ∨
    ∃ p r, l = p ++ r ∧ Canon p ∧ p.length + i ≤ 10 ∧ (p = [0] → i = 0) ∧ (p.length + i = 10 → p.getLast? = some 1) ∧ vgo i a l = (a + vval p * 128 ^ i, (p.length : Int) + i)
  | [], i, a, _ => .inl rfl
  | c :: r, i, a, hb => by
    have hc := isB_head hb
    unfold vgo
    by_cases h1 : 10 ≤ i
    · rw [if_pos h1]; exact .inl rfl
    rw [if_neg h1]
    by_cases h2 : i = 9 ∧ 1 < c
    · rw [if_pos h2]; exact .inl rfl
    rw [if_neg h2]
    by_cases h3 : c < 128
    · rw [if_pos h3]
      by_cases h4 : c = 0 ∧ 0 < i
      · rw [if_pos h4]; exact .inl rfl
      · rw [if_neg h4]
        refine .inr ⟨[c], r, rfl, ⟨by omega, h3⟩, by simp; omega, ?_, ?_, ?_⟩
        · intro e; injection e with e _; omega
        · intro e; simp at e; simp; omega
        · have : vval [c] = c := by simp [vval]; omega
          rw [this]; simp; omega
    · rw [if_neg h3]
      rcases vgo_cases r (i + 1) (a + (c - 128) * 128 ^ i) (isB_tail hb) with h | ⟨p, q, rfl, hp, hl, hz, h10, h⟩
      · exact .inl h
      · refine .inr ⟨c :: p, q, rfl, ?_, by simp; omega, ?_, ?_, ?_⟩
        · cases p with
          | nil => cases hp
          | cons d s =>
            refine ⟨by omega, hp, ?_⟩
            rintro rfl rfl
            have := hz rfl
            omega
        · intro e; injection e with e _; omega
        · intro e
          cases p with
          | nil => cases hp
          | cons d s => rw [List.getLast?_cons_cons]; exact h10 (by simp at e ⊢; omega)
        · rw [h]
          have e1 : (128 : Int) ^ (i + 1) = 128 * 128 ^ i := by rw [Int.pow_succ, Int.mul_comm]
          have e2 : vval (c :: p) = (c - 128) + 128 * vval p := by rw [vval]; omega
          rw [e1, e2, Int.add_mul, Int.add_assoc, ← Int.mul_assoc, Int.mul_comm (vval p) 128]
          simp only [List.length_cons, Prod.mk.injEq, true_and]
          omega

theorem vval_lt : ∀ {p : List Int}, IsB p → vval p < 128 ^ p.length ∧ 0 ≤ vval p
  | [], _ => by simp [vval]
  | c :: r, h => by
    have ⟨h1, h2⟩ := vval_lt (isB_tail h)
    rw [vval, List.length_cons, Int.pow_succ]
    omega

theorem canon_lt : ∀ {p : List Int}, Canon p → p.length ≤ 10 → (p.length = 10 → p.getLast? = some 1) → IsB p → vval p < 18446744073709551616 := by
  intro p hp hl h10 hb
  have h9 : ∀ {q : List Int}, IsB q → q.length ≤ 9 → vval q < 9223372036854775808 := by
    intro q hq hq9
    have := (vval_lt hq).1
    have h : (128 : Int) ^ q.length ≤ 128 ^ 9 := pow_le hq9
    have h3 : (128 : Int) ^ 9 = 9223372036854775808 := by decide
    omega
  rcases Nat.lt_or_ge p.length 10 with h | h
  · have := h9 hb (by omega); omega
  · have h10' := h10 (by omega)
    have key : ∀ {n : Nat} {q : List Int}, IsB q → q.length = n + 1 → q.getLast? = some 1 → vval q < 2 * 128 ^ n := by
      intro n
      induction n with
      | zero =>
        intro q hq hn hg
        match q, hn with
        | [c], _ => simp at hg; simp [vval]; omega
      | succ n ih =>
        intro q hq hn hg
        match q, hn with
        | c :: d :: r, hn =>
          rw [List.getLast?_cons_cons] at hg
          have := ih (isB_tail hq) (by simpa using hn) hg
          rw [vval, Int.pow_succ]; omega
    have := key (n := 9) hb (by omega) h10'
    have h3 : (128 : Int) ^ 9 = 9223372036854775808 := by decide
    rw [h3] at this; omega

/-- What is read: nothing, or the number whose bytes stand ahead. -/
theorem vget_cases {l : List Int} (hb : IsB l) : vget l = (0, 0) ∨ ∃ v r, 0 ≤ v ∧ v < 18446744073709551616 ∧ l = vput v ++ r ∧ vget l = (v, ((vput v).length : Int)) := by
  unfold vget
  rcases vgo_cases l 0 0 hb with h | ⟨p, r, rfl, hp, hl, hz, h10, h⟩
  · exact .inl h
  · have hpb : IsB p := fun x hx => hb x (List.mem_append_left _ hx)
    refine .inr ⟨vval p, r, canon_nonneg hp, canon_lt hp (by omega) (by simpa using h10) hpb, by rw [vput_vval hp], ?_⟩
    rw [h, vput_vval hp]; simp

theorem vget_bounds {l : List Int} (hb : IsB l) : 0 ≤ (vget l).1 ∧ (vget l).1 < 18446744073709551616 ∧ 0 ≤ (vget l).2 ∧ (vget l).2 ≤ 10 ∧ (vget l).2 ≤ l.length := by
  rcases vget_cases hb with h | ⟨v, r, h0, h1, e, h⟩
  · rw [h]; simp
  · have := vput_len10 h1
    rw [h, e]; simp; omega

/-- Nothing is read, or the number is got whose bytes stand ahead, and no other. -/
theorem vget_zero {l : List Int} (hb : IsB l) (h : (vget l).2 = 0) : vget l = (0, 0) := by
  rcases vget_cases hb with e | ⟨v, r, h0, h1, e, k⟩
  · exact e
  · rw [k] at h
    have := vput_len_pos v
    have h' : ((vput v).length : Int) = 0 := h
    omega

end Go.Proofs.YtkgpnfjmahjlcaaDoor.Math

namespace Go.Proofs.YtkgpnfjmahjlcaaDoor.Math
open Go.RowKit Go.Proofs.YtkgpnfjmahjlcaaDoorW.PrintWords

theorem wrap_id {x : Int} (h0 : -9223372036854775808 ≤ x) (h1 : x < 9223372036854775808) : wrap64 x = x := by unfold wrap64; omega

theorem rd_take_succ {l : List Int} {k : Nat} (h : k < l.length) : l.take (k + 1) = l.take k ++ [rd l (k : Int)] := by
  rw [List.take_succ_eq_append_getElem h]
  simp [rd, List.getD_eq_getElem?_getD, List.getElem?_eq_getElem h]
theorem rd_mem {l : List Int} {k : Nat} (h : k < l.length) : rd l (k : Int) ∈ l := by
  simp only [rd, Int.toNat_natCast, List.getD_eq_getElem?_getD, List.getElem?_eq_getElem h, Option.getD_some]
  exact List.getElem_mem h
theorem rd_drop {l : List Int} {i : Nat} (h : i < l.length) : l.drop i = rd l (i : Int) :: l.drop (i + 1) := by
  rw [List.drop_eq_getElem_cons h]
  simp [rd, List.getD_eq_getElem?_getD, List.getElem?_eq_getElem h]
theorem rd_isB {l : List Int} (h : IsB l) (i : Nat) : 0 ≤ rd l (i : Int) ∧ rd l (i : Int) < 256 := by
  by_cases hi : i < l.length
  · exact h _ (rd_mem hi)
  · have : rd l (i : Int) = 0 := by
      simp only [rd, Int.toNat_natCast, List.getD_eq_getElem?_getD]
      rw [List.getElem?_eq_none (by omega)]; rfl
    rw [this]; omega
theorem rd_append {a b : List Int} {j : Nat} (h : j < a.length) : rd (a ++ b) (j : Int) = rd a (j : Int) := by
  simp [rd, List.getD_eq_getElem?_getD, List.getElem?_append_left h]

/-- A block that is known whole reads as its numbers. -/
theorem C_block {k : IntKind} {w : World} {g : Nat} {t : TypeId} {fr : Nat × Nat} (xs : List Int) (hn : xs.length ≤ 9223372036854775807) (h : w.heap[g]? = some (.cells (xs.map (Value.int k)).toArray t fr)) :
    Kd.C (Kd.int k) w (some ⟨g, 0, none⟩) xs.length xs := by
  refine Kd.C_of_reads (d := (0 : Int)) ⟨rfl, hn, fun _ => ⟨_, rfl, ?_⟩⟩
  intro i hi
  rw [add_plain, cell_of_row w g i _ t fr h]
  simp [List.getElem?_eq_getElem hi]

end Go.Proofs.YtkgpnfjmahjlcaaDoor.Math

namespace Go.Proofs.YtkgpnfjmahjlcaaDoor.Math
open Go.RowKit Go.Proofs.YtkgpnfjmahjlcaaDoorW.PrintWords Go.Proofs.YtkgpnfjmahjlcaaDoorW.PrintLast Go.Proofs.YtkgpnfjmahjlcaaDoorW.PrintMore
set_option linter.unusedVariables false

/-- The cells from which a row is read. -/
theorem C_src {k : IntKind} {w : World} {A : Option Addr} {l : List Int} (h : Kd.C (Kd.int k) w A l.length l) (hp : 0 < l.length) :
    ∃ ad, A = some ad ∧ ∀ (j : Nat) v, (l.map (Value.int k))[j]? = some v → w.cell? (ad.add j) = some v := by
  obtain ⟨ad, rfl, _⟩ := Kd.at_int h 0 (by omega) (by omega)
  refine ⟨ad, rfl, ?_⟩
  intro j v hv
  rw [List.getElem?_map] at hv
  have hj : j < l.length := by
    rcases Nat.lt_or_ge j l.length with h1 | h1
    · exact h1
    · rw [List.getElem?_eq_none h1] at hv; cases hv
  obtain ⟨ad', hA, hc⟩ := Kd.at_int h (j : Int) (by omega) (by omega)
  injection hA with hA
  subst hA
  rw [Int.toNat_natCast] at hc
  rw [List.getElem?_eq_getElem hj] at hv
  simp only [Option.map_some, Option.some.injEq] at hv
  subst hv
  have e : rd l (j : Int) = l[j] := by simp [rd, List.getD_eq_getElem?_getD, List.getElem?_eq_getElem hj]
  rw [e] at hc
  exact hc

theorem C_none {k : IntKind} {w : World} {l : List Int} (h : Kd.C (Kd.int k) w none l.length l) : l = [] := by
  rcases Nat.eq_zero_or_pos l.length with h0 | h0
  · exact List.eq_nil_of_length_eq_zero h0
  · obtain ⟨ad, h1, _⟩ := C_src h h0; cases h1

/-- A block that is known whole is a row of one's own. -/
theorem R_block {k : IntKind} {w : World} {g base : Nat} {t : TypeId} (xs : List Int) {n : Nat} (hl : xs.length = n) (hn : n ≤ 9223372036854775807) (hb : base ≤ g) (h : w.heap[g]? = some (.cells (xs.map (Value.int k)).toArray t (0, 0))) :
    Kd.R (Kd.int k) t w base (fun _ => True) (.slice (some ⟨g, 0, none⟩) n n) xs := by
  subst hl
  refine Kd.R_of_own (enc := Value.int k) (h1 := fun _ => rfl) ⟨by simp [encs], .inr ⟨g, xs.length, (xs.map (Value.int k)).toArray, rfl, hb, h, Nat.le_refl _, hn, by simp, ?_⟩⟩ (fun _ _ => trivial)
  have e : ∀ ys : List Value, xs.length * 1 = ys.length → ys.take (xs.length * 1) = ys := fun ys he => by rw [he, List.take_length]
  exact e _ (by simp)

theorem splice_map {k : IntKind} (l : List Int) (off : Nat) (c : List Int) : splice (l.map (Value.int k)) off (c.map (Value.int k)) = (splice l off c).map (Value.int k) := by
  simp [splice]

theorem made_zeros (k : IntKind) (n : Nat) : (madeCells #[Value.int k 0] n).toList = (List.replicate n (0 : Int)).map (Value.int k) := by
  apply List.ext_getElem
  · simp [madeCells]
  · intro i h1 h2
    simp [madeCells, Nat.mod_one]

/-- make, of zeros, with its cells named. -/
theorem run_make_zeros {P : Program} (t e : TypeId) (k : IntKind) (ht : P.underlying t = some (.slice e)) (hinfo : (P.info? e).map (fun i => (i.zero, i.size, i.bytes)) = some (some (.int k 0), 1, 1))
    (m : Nat) (hm : m ≤ 281474976710656) (i : Int) (hi : i = (m : Int)) (ZV : List Value) (hz : ZV = (List.replicate m (0 : Int)).map (Value.int k)) :
    ∀ W : World, (Instr.makeSlice t (.int .i64 i) (.int .i64 i)).run P W = .ok (.slice (some ⟨W.heap.size, 0, none⟩) m m) (W.alloc (.cells ZV.toArray e)) := by
  intro W
  subst hi
  rw [print_make (P := P) t e k 1 ht hinfo (by decide) m (by omega) W, hz, ← made_zeros]

theorem C_block_pre {k : IntKind} {w : World} {g : Nat} {t : TypeId} {fr : Nat × Nat} (xs ys : List Int) (hn : xs.length ≤ 9223372036854775807) (h : w.heap[g]? = some (.cells ((xs ++ ys).map (Value.int k)).toArray t fr)) :
    Kd.C (Kd.int k) w (some ⟨g, 0, none⟩) xs.length xs := by
  refine Kd.C_of_reads (d := (0 : Int)) ⟨rfl, hn, fun _ => ⟨_, rfl, ?_⟩⟩
  intro i hi
  rw [add_plain, cell_of_row w g i _ t fr h]
  rw [List.getElem?_toArray, List.getElem?_map, List.getElem?_append_left hi, List.getElem?_eq_getElem hi]
  simp [List.getElem?_eq_getElem hi]

/-! cuts with a capacity -/
theorem cut_to3 {P : Program} (t e : TypeId) (kh km : IntKind) {i : TypeInfo} (ht : P.underlying t = some (.slice e)) (hi : P.info? e = some i) (A : Option Addr) (n c : Nat) (j m : Int) (h0 : 0 ≤ j) (h1 : j ≤ m) (hm : m ≤ c) :
    ∀ W : World, (Instr.slice t (.slice A n c) none (some (.int kh j)) (some (.int km m))).run P W = .ok (.slice A j.toNat m.toNat) W := by
  intro W
  have hel : P.elem t = e := by simp [Program.elem, ht]
  have hu : P.underlying t = some (.slice (P.elem t)) := by rw [hel]; exact ht
  have ha : (A.map fun x => x.add 0) = A := by cases A <;> simp [Addr.add]
  rw [run_slice_hm W t A n c hu kh km j m h0 h1 (by omega), hel]
  simp [sizeOf, typeInfo, hi, sliced, Result.andThen, ha]
theorem cut_mid3 {P : Program} (t e : TypeId) (kl kh km : IntKind) {i : TypeInfo} (ht : P.underlying t = some (.slice e)) (hi : P.info? e = some i) (size : Nat) (hsz : i.size = size) (ad : Addr) (n c : Nat) (lo j m : Int) (h0 : 0 ≤ lo) (h1 : lo ≤ j) (h2 : j ≤ m) (hm : m ≤ c) (hne : lo < m) :
    ∀ W : World, (Instr.slice t (.slice (some ad) n c) (some (.int kl lo)) (some (.int kh j)) (some (.int km m))).run P W = .ok (.slice (some (ad.add (lo.toNat * size))) (j.toNat - lo.toNat) (m.toNat - lo.toNat)) W := by
  intro W
  have hel : P.elem t = e := by simp [Program.elem, ht]
  have hu : P.underlying t = some (.slice (P.elem t)) := by rw [hel]; exact ht
  rw [run_slice_lhm W t (some ad) n c hu kl kh km lo j m h0 h1 h2 (by omega), hel]
  have : m.toNat ≠ lo.toNat := by omega
  simp [sizeOf, typeInfo, hi, hsz, sliced, Result.andThen, this]

theorem block_below {w w1 : World} {g : Nat} {o : Obj} (h : w.heap[g]? = some o) (hb : Below w.heap.size w w1) : w1.heap[g]? = some o := by
  refine (hb.block g ?_).trans h
  rcases Nat.lt_or_ge g w.heap.size with h1 | h1
  · exact h1
  · rw [Array.getElem?_eq_none h1] at h; cases h

end Go.Proofs.YtkgpnfjmahjlcaaDoor.Math

namespace Go.Proofs.YtkgpnfjmahjlcaaDoor.Cuts
open Go.RowKit Go.Proofs.YtkgpnfjmahjlcaaDoorW.PrintWords
variable {P : Program} {α : Type}

theorem take3_of (enc : α → Value) (d : α) (t e : TypeId) (kl km : IntKind) {i : TypeInfo} (ht : P.underlying t = some (.slice e)) (hi : P.info? e = some i) (hsz : i.size = 1) (A : Option Addr) (c : Nat) (xs : List α) (j : Int) (h0 : 0 ≤ j) (hm : j ≤ xs.length) (hc : xs.length ≤ c) :
    (∀ W : World, (Instr.slice t (.slice A xs.length c) none (some (.int kl j)) (some (.int km j))).run P W = .ok (.slice A (xs.take j.toNat).length j.toNat) W) ∧
      (∀ w : World, ReadsOf enc d w A xs.length xs → ReadsOf enc d w A (xs.take j.toNat).length (xs.take j.toNat)) ∧ (xs.take j.toNat).length ≤ j.toNat := by
  have hl : (xs.take j.toNat).length = j.toNat := by rw [List.length_take]; omega
  refine ⟨fun W => ?_, fun w h => by rw [hl]; exact h.take_ j.toNat (by omega), by rw [hl]; omega⟩
  have hel : P.elem t = e := by simp [Program.elem, ht]
  have hu : P.underlying t = some (.slice (P.elem t)) := by rw [hel]; exact ht
  have ha : (A.map fun x => x.add 0) = A := by cases A <;> simp [Addr.add]
  rw [run_slice_hm W t A xs.length c hu kl km j j h0 (by omega) (by omega), hel, hl]
  simp [sizeOf, typeInfo, hi, hsz, sliced, Result.andThen, ha]

theorem mid3_of (enc : α → Value) (d : α) (t e : TypeId) (kl kh km : IntKind) {i : TypeInfo} (ht : P.underlying t = some (.slice e)) (hi : P.info? e = some i) (hsz : i.size = 1) (A : Option Addr) (c : Nat) (xs : List α) (a b : Int) (h0 : 0 ≤ a) (h1 : a ≤ b) (hm : b ≤ xs.length) (hc : xs.length ≤ c) :
    ∃ A' : Option Addr, (∀ W : World, (Instr.slice t (.slice A xs.length c) (some (.int kl a)) (some (.int kh b)) (some (.int km b))).run P W = .ok (.slice A' ((xs.take b.toNat).drop a.toNat).length (b.toNat - a.toNat)) W) ∧
      (∀ w : World, ReadsOf enc d w A xs.length xs → ReadsOf enc d w A' ((xs.take b.toNat).drop a.toNat).length ((xs.take b.toNat).drop a.toNat)) ∧ ((xs.take b.toNat).drop a.toNat).length ≤ b.toNat - a.toNat := by
  have hlt : (xs.take b.toNat).length = b.toNat := by rw [List.length_take]; omega
  have hl : ((xs.take b.toNat).drop a.toNat).length = b.toNat - a.toNat := by rw [List.length_drop, hlt]
  refine ⟨if b.toNat = a.toNat then A else A.map (·.add a.toNat), fun W => ?_, fun w h => ?_, by rw [hl]; omega⟩
  · have hel : P.elem t = e := by simp [Program.elem, ht]
    have hu : P.underlying t = some (.slice (P.elem t)) := by rw [hel]; exact ht
    rw [run_slice_lhm W t A xs.length c hu kl kh km a b b h0 h1 (by omega) (by omega), hel, hl]
    simp [sizeOf, typeInfo, hi, hsz, sliced, Result.andThen]
  · have h2 := (h.take_ b.toNat (by omega)).drop_ (c := b.toNat) a.toNat (by omega) (by omega)
    rw [hl]
    exact h2

end Go.Proofs.YtkgpnfjmahjlcaaDoor.Cuts

namespace Go.Proofs.YtkgpnfjmahjlcaaDoor.NumFacts
open Go.RowKit Go.Proofs.YtkgpnfjmahjlcaaDoor.PAll Go.Proofs.YtkgpnfjmahjlcaaDoorW.PrintWords Go.Proofs.YtkgpnfjmahjlcaaDoorW.PrintLast Go.Proofs.YtkgpnfjmahjlcaaDoorW.PrintMore Go.Proofs.YtkgpnfjmahjlcaaDoor.Math

theorem same_l0 (a b : List Int) (hab : a.length = b.length) (hn : a.length ≤ 140737488355328) (d : Nat) : ∀ (k i : Nat), i ≤ a.length → a.length - i = d → d < k →
    cambiumref01_Same.l0 k a b (i : Int) = some (decide (a.drop i = b.drop i)) := by
  induction d with
  | zero =>
    intro k i h1 hd hk
    obtain ⟨k, rfl⟩ : ∃ m, k = m + 1 := ⟨k - 1, by omega⟩
    simp only [cambiumref01_Same.l0]
    rw [if_neg (by omega)]
    have : i = a.length := by omega
    subst this
    rw [List.drop_length, hab, List.drop_length]; simp
  | succ d ih =>
    intro k i h1 hd hk
    obtain ⟨k, rfl⟩ : ∃ m, k = m + 1 := ⟨k - 1, by omega⟩
    simp only [cambiumref01_Same.l0]
    rw [if_pos (by omega), if_pos (by omega), if_pos (by omega)]
    rw [rd_drop (l := a) (i := i) (by omega), rd_drop (l := b) (i := i) (by omega)]
    by_cases e : rd a (i : Int) = rd b (i : Int)
    · rw [if_pos e, wrap_id (by omega) (by omega)]
      have := ih k (i + 1) (by omega) (by omega) (by omega)
      rw [show (i : Int) + 1 = ((i + 1 : Nat) : Int) from rfl, this, e]
      simp
    · rw [if_neg e]
      simp [e]

/-- Same: whether two rows are one. -/
theorem same_eq (k : Nat) (a b : List Int) (hn : a.length ≤ 140737488355328) (hk : a.length < k) : cambiumref01_Same.f k a b = some (decide (a = b)) := by
  unfold cambiumref01_Same.f
  by_cases h : a.length = b.length
  · rw [if_pos (by omega)]
    have := same_l0 a b h hn a.length k 0 (by omega) (by omega) hk
    simpa using this
  · rw [if_neg (by omega)]
    have : ¬ a = b := fun e => h (by rw [e])
    simp [this]

theorem and128 {c : Int} (h0 : 0 ≤ c) (h1 : c < 256) : (Go.bits .and .u8 c 128 = 0) ↔ c < 128 := by
  rw [u8_and c 128 h0 h1 (by omega) (by omega)]
  have := nat_bit 7 c.toNat
  have e : (2 : Nat) ^ 7 = 128 := rfl
  rw [e] at this
  have e2 : (128 : Int).toNat = 128 := rfl
  rw [e2, this]
  omega

theorem and127 {c : Int} (h0 : 0 ≤ c) (h1 : c < 256) : Go.bits .and .u8 c 127 = c % 128 := by
  rw [u8_and c 127 h0 h1 (by omega) (by omega)]
  have e2 : (127 : Int).toNat = 127 := rfl
  rw [e2, nat_mask7]
  omega

theorem or128 {c : Int} (h0 : 0 ≤ c) (h1 : c < 256) : Go.bits .or .u8 c 128 = c % 128 + 128 := by
  rw [u8_or c 128 h0 h1 (by omega) (by omega)]
  have e2 : (128 : Int).toNat = 128 := rfl
  rw [e2]
  by_cases h : c < 128
  · rw [Nat.or_comm, nat_join 7 128 c.toNat (by decide) (by omega)]; omega
  · have hc : c.toNat = 128 + (c.toNat - 128) := by omega
    have h3 : c.toNat = 128 ||| (c.toNat - 128) := by rw [nat_join 7 128 (c.toNat - 128) (by decide) (by omega)]; omega
    rw [h3, Nat.or_comm, ← Nat.or_assoc, Nat.or_self, ← h3]
    omega

theorem pow128 (i : Nat) : (128 : Int) ^ i = 2 ^ (7 * i) := by
  rw [Int.pow_mul]; rfl

/-- A part that is laid above what was read. -/
theorem or_part {v c : Int} {i : Nat} (hv : 0 ≤ v) (hv1 : v < 128 ^ i) (hc0 : 0 ≤ c) (hc1 : c < 128) (hi : i ≤ 9) (h9 : i = 9 → c ≤ 1) :
    Go.bits .or .u64 v (shl .u64 (IntKind.u64.wrap c) (wrap64 (7 * (i : Int)))) = v + c * 128 ^ i := by
  have e2 : IntKind.u64.wrap c = c := by rw [IntKind.wrap_u64]; omega
  have hp : (0 : Int) < 128 ^ i := Int.pow_pos (by omega)
  have h8 : (128 : Int) ^ 8 = 72057594037927936 := by decide
  have h99 : (128 : Int) ^ 9 = 9223372036854775808 := by decide
  have hb : c * 128 ^ i < 18446744073709551616 := by
    rcases Nat.lt_or_ge i 9 with h | h
    · have : (128 : Int) ^ i ≤ 128 ^ 8 := pow_le (by omega)
      have h2 : c * 128 ^ i ≤ 127 * 128 ^ i := Int.mul_le_mul_of_nonneg_right (by omega) (by omega)
      omega
    · have : i = 9 := by omega
      subst this
      have := h9 rfl
      rw [h99]; omega
  have hv2 : v < 18446744073709551616 := by
    have : (128 : Int) ^ i ≤ 128 ^ 9 := pow_le hi
    omega
  have hm : 0 ≤ c * 128 ^ i := Int.mul_nonneg hc0 (by omega)
  rw [wrap_id (x := 7 * (i : Int)) (by omega) (by omega), e2]
  clear e2
  unfold shl
  have e3 : min (7 * (i : Int)).toNat (IntKind.bits .u64) = 7 * i := by
    show min (7 * (i : Int)).toNat 64 = 7 * i
    omega
  rw [e3, ← pow128, IntKind.wrap_u64]
  have e4 : c * 128 ^ i % 18446744073709551616 = c * 128 ^ i := by omega
  rw [e4, u64_or _ _ hv hv2 hm hb, Nat.or_comm]
  have e5 : (c * 128 ^ i).toNat = c.toNat * 2 ^ (7 * i) := by
    have : c * 128 ^ i = ((c.toNat * 2 ^ (7 * i) : Nat) : Int) := by
      rw [pow128]; push_cast; rw [Int.toNat_of_nonneg hc0]
    rw [this, Int.toNat_natCast]
  have e6 : v.toNat < 2 ^ (7 * i) := by
    have : ((2 ^ (7 * i) : Nat) : Int) = 128 ^ i := by rw [pow128]; push_cast; rfl
    omega
  rw [nat_join (7 * i) _ _ (by rw [e5]; exact Nat.mul_mod_left _ _) e6]
  omega

theorem mn10 (l : List Int) : mn (l.length : Int) 10 = ((min l.length 10 : Nat) : Int) := by
  unfold mn; split <;> omega

theorem get_l0 (l : List Int) (hb : IsB l) (d : Nat) : ∀ (k i : Nat) (v : Int), i ≤ min l.length 10 → min l.length 10 - i = d → 2 * d < k → 0 ≤ v → v < 128 ^ i →
    num_Get.l0 k l v (mn (l.length : Int) 10) (i : Int) = some (vgo i v (l.drop i)) := by
  rw [mn10]
  induction d with
  | zero =>
    intro k i v h1 hd hk h0 hv
    obtain ⟨k, rfl⟩ : ∃ m, k = m + 1 := ⟨k - 1, by omega⟩
    simp only [num_Get.l0]
    rw [if_neg (by omega)]
    by_cases h : i < l.length
    · rw [rd_drop h, vgo, if_pos (by omega)]
    · rw [List.drop_of_length_le (by omega), vgo]
  | succ d ih =>
    intro k i v h1 hd hk h0 hv
    obtain ⟨k, rfl⟩ : ∃ m, k = m + 1 + 1 := ⟨k - 2, by omega⟩
    have hil : i < l.length := by omega
    have hi10 : i < 10 := by omega
    have hr := rd_isB hb i
    have e9 : num_Get.l0 (k + 1 + 1) l v ((min l.length 10 : Nat) : Int) (i : Int) = num_Get.j1 (k + 1) l v (i : Int) (rd l (i : Int)) ((min l.length 10 : Nat) : Int) (i : Int) (decide (i = 9 ∧ 1 < rd l (i : Int))) := by
      conv => lhs; unfold num_Get.l0
      rw [if_pos (by omega), if_pos (by omega), if_pos (by omega)]
      by_cases h : i = 9
      · rw [if_pos (by omega)]
        congr 1
        simp [h]
      · rw [if_neg (by omega)]
        congr 1
        simp [h]
    rw [e9, rd_drop hil]
    have hs := rd_isB hb i
    generalize rd l (i : Int) = c at hr hs ⊢
    unfold num_Get.j1 vgo
    rw [if_neg (by omega : ¬ 10 ≤ i)]
    by_cases h2 : i = 9 ∧ 1 < c
    · rw [if_pos (by simpa using h2), if_pos h2]
    rw [if_neg (by simpa using h2), if_neg h2]
    have e0 : 0 ≤ wrap64 (7 * (i : Int)) := by rw [wrap_id (by omega) (by omega)]; omega
    rw [if_pos e0, and127 hr.1 hr.2, or_part (c := c % 128) (i := i) h0 hv (by omega) (by omega) (by omega) (by omega), wrap_id (x := (i : Int) + 1) (by omega) (by omega)]
    clear e0
    by_cases h3 : c < 128
    · rw [if_pos ((and128 hr.1 hr.2).2 h3), if_pos h3]
      rw [show c % 128 = c by omega]
      by_cases h4 : c = 0
      · rw [if_pos h4]
        by_cases h5 : 0 < i
        · rw [if_pos (by omega), if_pos ⟨h4, h5⟩]
        · rw [if_neg (by omega), if_neg (by omega)]
      · rw [if_neg h4, if_neg (by omega)]
    · rw [if_neg (by rw [and128 hr.1 hr.2]; exact h3), if_neg h3]
      rw [show c - 128 = c % 128 by omega]
      refine ih k (i + 1) _ (by omega) (by omega) (by omega) ?_ ?_
      · have : 0 ≤ c % 128 * 128 ^ i := Int.mul_nonneg (by omega) (by have : (0 : Int) < 128 ^ i := Int.pow_pos (by omega); omega)
        omega
      · rw [Int.pow_succ]
        have hp : (0 : Int) < 128 ^ i := Int.pow_pos (by omega)
        have : c % 128 * 128 ^ i ≤ 127 * 128 ^ i := Int.mul_le_mul_of_nonneg_right (by omega) (by omega)
        omega

/-- Get: the short number with which bytes begin. -/
theorem get_eq (k : Nat) (l : List Int) (hb : IsB l) (hk : 20 < k) : num_Get.f k l = some (vget l) := by
  unfold num_Get.f
  have := get_l0 l hb (min l.length 10) k 0 0 (by omega) (by omega) (by omega) (by omega) (by simp)
  simpa [vget] using this

end Go.Proofs.YtkgpnfjmahjlcaaDoor.NumFacts

namespace Go.Proofs.YtkgpnfjmahjlcaaDoor.PAll
open Go.RowKit Go.Proofs.YtkgpnfjmahjlcaaDoorW.PrintWords Go.Proofs.YtkgpnfjmahjlcaaDoorW.PrintLast Go.Proofs.YtkgpnfjmahjlcaaDoorW.PrintMore Go.Proofs.YtkgpnfjmahjlcaaDoor.Math
set_option linter.unusedVariables false
set_option linter.unusedSimpArgs false

def bytes_Clone.f (l0 : List Int) : Option (List Int) := if l0.length < 140737488355328 then some l0 else none

set_option maxHeartbeats 400000 in
theorem bytes_Clone.calls (A0 : Option Addr) (c0 : Nat) (l0 : List Int) (r : List Int) (w : World) (hr0 : Kd.C (Kd.int .u8) w A0 l0.length l0) (hc0 : l0.length ≤ c0) (h : bytes_Clone.f l0 = some r) :
    Calls Tryd.prog 79 #[.slice A0 l0.length c0] w fun e w' => ∃ v0_ : Value, e = .returned (v0_) ∧ Kd.R (Kd.int .u8) 5 w' w.heap.size (fun _ => True) v0_ r ∧ Below w.heap.size w w' := by
  have q : ∀ (w : World) (a : Option Addr) (n c n' c' : Nat), (binOp .eql 30 (.slice a n c) (.slice none n' c')).run Tryd.prog w = .ok (.bool a.isNone) w := fun w a n c n' c' => Lib.run_eql_slice_nil w _ _ a n c n' c' Tryd.underlying30
  unfold bytes_Clone.f at h
  split at h
  · rename_i hl
    injection h with h
    subst h
    rcases A0 with _ | ad
    · have h0 := C_none hr0
      subst h0
      go_enter Tryd.func79, Tryd.ntmps79
      go_wp2
      go_ret
      exact ⟨_, rfl, Kd.R_nil _ _ _ _ _, Below.refl _ _⟩
    · have HR := Aside0.mk hr0
      have HL := Aside0.mk hl
      clear hr0 hl
      go_enter Tryd.func79, Tryd.ntmps79
      go_wp2_with (first | ((with_reducible refine gate_dst (N := 5) rfl ?_); refine Kd.R_lit (Kd.int .u8) _ 5 ?hg (N := 5) ?hd (xs := ([] : List Int)) (inner := []) (ok := fun _ => True) (okp := fun _ => True) ?hr ?hp (fun _ hk => hk) trivial (Below.refl _ _) (Nat.le_refl _) (by simp) ?_; (case hd => rfl); (case hg => rfl); (case hr => first | (go_simp; done) | (go_simp; rfl)); (case hp => exact (Reps.none _ _)); intro v1 w1 ho hb hg_ hnew_; clear hg_ hnew_; have HO := Aside0.mk ho; have HB := Aside0.mk hb; clear ho hb) | ((with_reducible refine gate_builtin (b := .append) (xs := #[.tmp 5, .tmp 6]) rfl ?_); at_builtin; refine Kd.R_append_rows (Kd.int .u8) (w0 := w) w.heap.size rfl (.tmp 5) (.tmp 6) 30 5 (.int .u8 0) 1 rfl Tryd.underlying30 info5 rfl (by decide) (by omega) v1 [] l0 _ _ _ (fun _ => True) (fun _ => False) rfl rfl ?aO ?aR (fun _ _ h => h) (fun _ h => h.elim) ?aF ?aB ?aS ?aL ?_; (case aR => exact Kd.C_below HR.out HB.out); (case aB => exact HB.out); (case aF => exact (fun _ _ => trivial)); (case aO => exact HO.out); (case aS => exact below_size HB.out); (case aL => have := HL.out; simp; omega); intro v2 w2 ho hb hg hat; have HO2 := Aside0.mk ho; have HB2 := Aside0.mk hb; clear ho hb hg hat))
      go_ret
      exact ⟨_, rfl, by simpa using HO2.out, HB2.out⟩
  · cases h

end Go.Proofs.YtkgpnfjmahjlcaaDoor.PAll

namespace Go.Proofs.YtkgpnfjmahjlcaaDoor.Runes
open Go.RowKit Go.Proofs.YtkgpnfjmahjlcaaDoorW.PrintWords Go.Proofs.YtkgpnfjmahjlcaaDoor.Math
set_option linter.unusedVariables false

/-- A byte, as a natural number. -/
def nb (s : ByteArray) (i : Nat) : Nat := (s.get! i).toNat
theorem nb_lt (s : ByteArray) (i : Nat) : nb s i < 256 := by unfold nb; exact (s.get! i).toNat_lt
def rn (s : ByteArray) (i : Nat) : Nat := (Utf8.decode s i).1
def wd (s : ByteArray) (i : Nat) : Nat := (Utf8.decode s i).2

theorem data_size (s : ByteArray) : s.data.size = s.size := rfl
theorem extract_size (s : ByteArray) (i : Nat) : (s.extract i s.size).size = s.size - i := by
  rw [ByteArray.size_extract]; omega
theorem nb_extract (s : ByteArray) (i j : Nat) : nb (s.extract i s.size) j = nb s (i + j) := by
  have hg : ∀ (t : ByteArray) (k : Nat), t.get! k = t.data[k]! := fun t k => rfl
  unfold nb
  rw [hg, hg]
  congr 1
  rw [ByteArray.data_extract, getElem!_def, getElem!_def, Array.getElem?_extract, data_size]
  by_cases h : j < min s.size s.size - i
  · rw [if_pos h]
  · rw [if_neg h, Array.getElem?_eq_none (by rw [data_size]; omega)]
theorem dec_extract (s : ByteArray) (i : Nat) : Utf8.decode (s.extract i s.size) 0 = Utf8.decode s i := by
  rw [Lib.decode_at, Lib.decode_at, extract_size]
  have e : ∀ j, ((s.extract i s.size).get! j).toNat = (s.get! (i + j)).toNat := fun j => nb_extract s i j
  rw [e, e, e, e]
  rfl
theorem dec_bounds (s : ByteArray) (i : Nat) (h : i < s.size) : 1 ≤ wd s i ∧ i + wd s i ≤ s.size ∧ wd s i ≤ 4 ∧ rn s i ≤ 1114111 := by
  unfold wd rn
  rw [Lib.decode_at]
  unfold Lib.decodeN
  have b0 := (s.get! i).toNat_lt
  have b1 := (s.get! (i + 1)).toNat_lt
  have b2 := (s.get! (i + 2)).toNat_lt
  have b3 := (s.get! (i + 3)).toNat_lt
  generalize (s.get! i).toNat = c0 at *
  generalize (s.get! (i + 1)).toNat = c1 at *
  generalize (s.get! (i + 2)).toNat = c2 at *
  generalize (s.get! (i + 3)).toNat = c3 at *
  split
  · simp only; omega
  split
  · split <;> (simp only; omega)
  split
  · split <;> (simp only; omega)
  split
  · split <;> (simp only; omega)
  · simp only; omega

/-- Where each rune begins, from a place on. -/
def starts (s : ByteArray) : Nat → Nat → List Nat
  | 0, _ => []
  | f + 1, i => if i < s.size then i :: starts s f (i + wd s i) else []
def pos (s : ByteArray) : List Nat := starts s s.size 0
theorem starts_fuel (s : ByteArray) : ∀ (f f' i : Nat), s.size - i ≤ f → s.size - i ≤ f' → starts s f i = starts s f' i
  | 0, 0, _, _, _ => rfl
  | 0, f' + 1, i, h, _ => by rw [starts, starts, if_neg (by omega)]
  | f + 1, 0, i, _, h => by rw [starts, starts, if_neg (by omega)]
  | f + 1, f' + 1, i, h, h' => by
    rw [starts, starts]
    by_cases hi : i < s.size
    · have := dec_bounds s i hi
      rw [if_pos hi, if_pos hi, starts_fuel s f f' (i + wd s i) (by omega) (by omega)]
    · rw [if_neg hi, if_neg hi]
/-- From a place on, by as much fuel as is needed. -/
def from_ (s : ByteArray) (i : Nat) : List Nat := starts s s.size i
theorem from_lt {s : ByteArray} {i : Nat} (h : i < s.size) : from_ s i = i :: from_ s (i + wd s i) := by
  unfold from_
  have hb := dec_bounds s i h
  obtain ⟨m, hm⟩ : ∃ m, s.size = m + 1 := ⟨s.size - 1, by omega⟩
  have e : starts s s.size (i + wd s i) = starts s m (i + wd s i) := starts_fuel s _ _ _ (by omega) (by omega)
  rw [e]
  conv => lhs; rw [hm]
  rw [starts, if_pos h]
theorem from_ge {s : ByteArray} {i : Nat} (h : ¬ i < s.size) : from_ s i = [] := by
  unfold from_
  cases hs : s.size with
  | zero => rfl
  | succ m => rw [starts, if_neg h]
def runesI (s : ByteArray) : List Int := (from_ s 0).map fun i => (rn s i : Int)
def posI (s : ByteArray) : List Int := (from_ s 0).map fun (i : Nat) => (i : Int)
theorem from_len (s : ByteArray) : ∀ (d i : Nat), s.size - i ≤ d → (from_ s i).length ≤ s.size - i := by
  intro d
  induction d with
  | zero => intro i h; rw [from_ge (by omega)]; simp
  | succ d ih =>
    intro i h
    by_cases hi : i < s.size
    · have := dec_bounds s i hi
      rw [from_lt hi]
      have := ih (i + wd s i) (by omega)
      simp only [List.length_cons]; omega
    · rw [from_ge hi]; simp

/-- May a rune stand in a right text? -/
def okI (r : Int) : Bool := !(decide (r < 32) || (decide (r ≥ 127) && decide (r ≤ 159)))

end Go.Proofs.YtkgpnfjmahjlcaaDoor.Runes

namespace Go.Proofs.YtkgpnfjmahjlcaaDoor.Text
open Go.RowKit Go.Proofs.YtkgpnfjmahjlcaaDoorW.PrintWords Go.Proofs.YtkgpnfjmahjlcaaDoorW.PrintLast Go.Proofs.YtkgpnfjmahjlcaaDoorW.PrintMore Go.Proofs.YtkgpnfjmahjlcaaDoor.Math Go.Proofs.YtkgpnfjmahjlcaaDoor.Runes
set_option linter.unusedVariables false
set_option linter.unusedSimpArgs false

/-- The world of a range over a string: an iterator's block of the call's own. -/
structure It (w wr : World) (N : Nat) (s : ByteArray) (p : Nat) : Prop where
  it : wr.heap[N]? = some (.stringIter s p)
  bw : Below w.heap.size w wr
  n0 : w.heap.size ≤ N
section
variable {w wr w1 : World} {N p : Nat} {s : ByteArray}
theorem It.start (w wr : World) (hb : Below w.heap.size w wr) (s : ByteArray) : It w (wr.iter s 0) wr.heap.size s 0 := ⟨World.iter_heap wr s 0, below_alloc hb _, hb.size⟩
theorem It.step (h : It w wr N s p) (q : Nat) : It w (wr.iterAt N s q) N s q := ⟨Lib.iterAt_heap wr N s p q h.it, Lib.below_iterAt h.bw h.n0 s q, h.n0⟩
theorem It.next (h : It w wr N s p) (hb : Below wr.heap.size wr w1) : It w w1 N s p := ⟨block_below h.it hb, below_step h.bw hb, h.n0⟩
theorem It.pos (h : It w wr N s p) : wr.iterPos N = p := by simp [World.iterPos, h.it]
theorem It.more {P : Program} (h : It w wr N s p) (hp : p < s.size) (ty : TypeId) : (Instr.next (.pointer (some ⟨N, 0, none⟩)) true ty).run P wr = .ok (.tuple #[.bool true, .int .i64 p, .int .i32 (rn s p)]) (wr.iterAt N s (p + wd s p)) := Lib.run_next_any_at wr N s p ty h.it hp
theorem It.done {P : Program} (h : It w wr N s p) (hp : ¬ p < s.size) (ty : TypeId) : (Instr.next (.pointer (some ⟨N, 0, none⟩)) true ty).run P wr = .ok (.tuple #[.bool false]) wr := Lib.run_next_end_at wr N s p ty h.it hp
end

theorem R_iterAt {α : Type} {d : Kd α} {e : TypeId} {wr : World} {N base q : Nat} {s : ByteArray} {ok : Nat → Prop} {v : Value} {xs : List α} (h : d.R e wr base ok v xs) (hN : N < base) : d.R e (wr.iterAt N s q) base ok v xs :=
  Kd.R_mono (Kd.R_step (Kd.R_bound h) (fun k hk _ => Lib.iterAt_other wr N k s q (by have := hk.2.1; omega))) (fun _ hk => hk.1)

end Go.Proofs.YtkgpnfjmahjlcaaDoor.Text

namespace Go.Proofs.YtkgpnfjmahjlcaaDoor
open Go.RowKit
/-- The two tables of unicode/utf8 lie in w. -/
def Tabs (w : World) : Prop := Lib.Utf8Tabs (Tryd.laysValid_ren.g 3) (Tryd.laysValid_ren.g 4) w
theorem tabs_below {w w1 : World} (h : Tabs w) (hb : Below w.heap.size w w1) : Tabs w1 := by
  refine ⟨fun c hc => ?_, fun i hi => ⟨?_, ?_⟩⟩
  · have h1 := h.1 c hc
    exact (hb.cell (World.block_lt_of_cell? w _ h1)).trans h1
  · have h1 := (h.2 i hi).1
    exact (hb.cell (World.block_lt_of_cell? w _ h1)).trans h1
  · have h1 := (h.2 i hi).2
    exact (hb.cell (World.block_lt_of_cell? w _ h1)).trans h1
theorem valid_calls (s : ByteArray) (w : World) (hs : s.size ≤ 9223372036854775807) (hT : Tabs w) :
    Calls Tryd.prog 81 #[.string s] w fun e w' => e = .returned (.bool (Lib.validD s.data.toList)) ∧ Below w.heap.size w w' := Any.utf8_ValidString Tryd.laysValid s w hs hT
end Go.Proofs.YtkgpnfjmahjlcaaDoor

namespace Go.Proofs.YtkgpnfjmahjlcaaDoor.Text
open Go.RowKit Go.Proofs.YtkgpnfjmahjlcaaDoorW.PrintWords Go.Proofs.YtkgpnfjmahjlcaaDoorW.PrintLast Go.Proofs.YtkgpnfjmahjlcaaDoorW.PrintMore Go.Proofs.YtkgpnfjmahjlcaaDoor.Math Go.Proofs.YtkgpnfjmahjlcaaDoor.Runes
set_option linter.unusedVariables false
set_option linter.unusedSimpArgs false

set_option maxHeartbeats 1000000 in
theorem right_calls (s : ByteArray) (w : World) (hs : s.size ≤ 1000000) (hT : Tabs w) :
    Calls Tryd.prog 71 #[.string s] w fun e w' => e = .returned (.bool (Lib.validD s.data.toList && (runesI s).all okI)) ∧ Below w.heap.size w w' := by
  have HSs := Lib.hid hs
  have HT := Lib.hid hT
  obtain ⟨V, hV⟩ : ∃ V, V = Lib.validD s.data.toList := ⟨_, rfl⟩
  have hv := valid_calls s w (by omega) hT
  rw [← hV] at hv ⊢
  have HV := Lib.hid hv
  clear hs hT hV hv
  go_enter Tryd.func71, Tryd.ntmps71
  go_wp2_with fail
  refine HV.out.mono ?_
  rintro e w1 ⟨rfl, hb⟩
  have HB1 := Lib.hid hb
  clear hb
  cases V with
  | false =>
    go_wp2
    go_ret
    exact ⟨rfl, HB1.out⟩
  | true =>
    go_wp2
    go_loopw [] (fun wr => ∃ (p : Nat), p ≤ s.size ∧ Hid ((runesI s).all okI = ((from_ s p).map (fun i => (rn s i : Int))).all okI) ∧ It w wr w1.heap.size s p) (fun wr => s.size - wr.iterPos w1.heap.size)
    case atStart => exact ⟨0, by omega, Lib.hid rfl, It.start w w1 HB1.out s⟩
    case round =>
      obtain ⟨p, hp, HA, HI⟩ := hrel
      by_cases hlt : p < s.size
      · have hnx := HI.more (P := Tryd.prog) hlt
        have HS := Lib.hid (HI.step (p + wd s p))
        have HW := Lib.hid (dec_bounds s p hlt)
        have HF := Lib.hid (from_lt hlt)
        have HPos := Lib.hid HI.pos
        have HB2 := Lib.hid HS.out.bw
        generalize wr.iterAt w1.heap.size s (p + wd s p) = wr2 at *
        by_cases r1 : rn s p < 32
        · have d1 : decide ((rn s p : Int) < 32) = true := decide_eq_true (by omega)
          have HR := Lib.hid (show (runesI s).all okI = false by rw [HA.out, HF.out, List.map_cons, List.all_cons]; unfold okI; rw [d1]; rfl)
          clear r1
          go_wp2
          go_ret
          exact ⟨by rw [HR.out]; rfl, HB2.out⟩
        · have d1 : decide ((rn s p : Int) < 32) = false := decide_eq_false (by omega)
          by_cases r2 : 127 ≤ rn s p
          · have d2 : decide ((127 : Int) ≤ (rn s p : Int)) = true := decide_eq_true (by omega)
            by_cases r3 : rn s p ≤ 159
            · have d3 : decide ((rn s p : Int) ≤ 159) = true := decide_eq_true (by omega)
              have HR := Lib.hid (show (runesI s).all okI = false by
                rw [HA.out, HF.out, List.map_cons, List.all_cons]
                have : okI (rn s p : Int) = false := by unfold okI; simp; omega
                rw [this]; rfl)
              clear r1 r2 r3
              go_wp2
              go_ret
              exact ⟨by rw [HR.out]; rfl, HB2.out⟩
            · have d3 : decide ((rn s p : Int) ≤ 159) = false := decide_eq_false (by omega)
              have HR := Lib.hid (show okI (rn s p : Int) = true by unfold okI; simp; omega)
              clear r1 r2 r3
              go_wp2
              go_roundw
              case rel => exact ⟨p + wd s p, HW.out.2.1, Lib.hid (by rw [HA.out, HF.out, List.map_cons, List.all_cons, HR.out]; rfl), HS.out⟩
              case measure => rw [HS.out.pos, HPos.out]; have := HW.out; omega
          · have d2 : decide ((127 : Int) ≤ (rn s p : Int)) = false := decide_eq_false (by omega)
            have HR := Lib.hid (show okI (rn s p : Int) = true by unfold okI; simp; omega)
            clear r1 r2
            go_wp2
            go_roundw
            case rel => exact ⟨p + wd s p, HW.out.2.1, Lib.hid (by rw [HA.out, HF.out, List.map_cons, List.all_cons, HR.out]; rfl), HS.out⟩
            case measure => rw [HS.out.pos, HPos.out]; have := HW.out; omega
      · have hnx := HI.done (P := Tryd.prog) hlt
        have HE := Lib.hid (from_ge hlt)
        have HB := Lib.hid HI.bw
        go_wp2
        go_ret
        refine ⟨?_, HB.out⟩
        rw [HA.out, HE.out]; rfl

end Go.Proofs.YtkgpnfjmahjlcaaDoor.Text

namespace Go.Proofs.YtkgpnfjmahjlcaaDoor.Text
open Go.RowKit Go.Proofs.YtkgpnfjmahjlcaaDoorW.PrintWords Go.Proofs.YtkgpnfjmahjlcaaDoorW.PrintLast Go.Proofs.YtkgpnfjmahjlcaaDoorW.PrintMore Go.Proofs.YtkgpnfjmahjlcaaDoor.Math Go.Proofs.YtkgpnfjmahjlcaaDoor.Runes
set_option linter.unusedVariables false

theorem guard_some {α : Type} {c : Prop} [Decidable c] {x r : α} (h : (if c then some x else none) = some r) : c ∧ x = r := by
  by_cases hc : c
  · rw [if_pos hc] at h; exact ⟨hc, Option.some.inj h⟩
  · rw [if_neg hc] at h; cases h

def text_Right.f (a0 : ByteArray) : Option Bool := if a0.size ≤ 1000000 then some (Lib.validD a0.data.toList && (runesI a0).all okI) else none
theorem text_Right.calls (a0 : ByteArray) (r : Bool) (w : World) (h : text_Right.f a0 = some r) (hT_ : Tabs w) :
    Calls Tryd.prog 71 #[.string a0] w fun e w' => e = .returned (.bool r) ∧ Below w.heap.size w w' := by
  obtain ⟨h1, rfl⟩ := guard_some h
  exact right_calls a0 w h1 hT_
end Go.Proofs.YtkgpnfjmahjlcaaDoor.Text

namespace Go.Proofs.YtkgpnfjmahjlcaaDoor.Math
open Go.RowKit Go.Proofs.YtkgpnfjmahjlcaaDoorW.PrintWords
set_option linter.unusedVariables false

/-- Does one row come ahead of another one? -/
def lexLt : List Int → List Int → Bool
  | [], [] => false
  | [], _ :: _ => true
  | _ :: _, [] => false
  | a :: s, b :: t => if a = b then lexLt s t else decide (a < b)
theorem lexLt_nil_right (a : List Int) : lexLt a [] = false := by cases a <;> rfl
theorem lexLt_irrefl : ∀ a : List Int, lexLt a a = false
  | [] => rfl
  | x :: s => by simp only [lexLt, if_true]; exact lexLt_irrefl s
theorem lexLt_app : ∀ (p a b : List Int), lexLt (p ++ a) (p ++ b) = lexLt a b
  | [], _, _ => rfl
  | x :: p, a, b => by simp only [List.cons_append, lexLt, if_true]; exact lexLt_app p a b
theorem lexLt_tri : ∀ a b : List Int, lexLt a b = true ∨ a = b ∨ lexLt b a = true
  | [], [] => .inr (.inl rfl)
  | [], _ :: _ => .inl rfl
  | _ :: _, [] => .inr (.inr rfl)
  | a :: s, b :: t => by
    simp only [lexLt]
    by_cases h : a = b
    · subst h
      rw [if_pos rfl, if_pos rfl]
      rcases lexLt_tri s t with h | h | h
      · exact .inl h
      · exact .inr (.inl (by rw [h]))
      · exact .inr (.inr h)
    · rw [if_neg h, if_neg (fun e => h e.symm)]
      rcases Int.lt_or_lt_of_ne h with h1 | h1
      · exact .inl (decide_eq_true h1)
      · exact .inr (.inr (decide_eq_true h1))
theorem lexLt_asymm : ∀ a b : List Int, lexLt a b = true → lexLt b a = false
  | [], [] => fun h => by cases h
  | [], _ :: _ => fun _ => rfl
  | _ :: _, [] => fun h => by cases h
  | a :: s, b :: t => by
    simp only [lexLt]
    by_cases h : a = b
    · subst h
      rw [if_pos rfl, if_pos rfl]
      exact lexLt_asymm s t
    · rw [if_neg h, if_neg (fun e => h e.symm)]
      intro h1
      have := of_decide_eq_true h1
      exact decide_eq_false (by omega)
theorem lexLt_trans : ∀ a b c : List Int, lexLt a b = true → lexLt b c = true → lexLt a c = true
  | [], [], c => fun h _ => by cases h
  | [], _ :: _, [] => fun _ h => by cases h
  | [], _ :: _, _ :: _ => fun _ _ => rfl
  | _ :: _, [], c => fun h _ => by cases h
  | _ :: _, _ :: _, [] => fun _ h => by cases h
  | a :: s, b :: t, c :: u => by
    simp only [lexLt]
    by_cases h : a = b
    · subst h
      rw [if_pos rfl]
      by_cases h2 : a = c
      · subst h2; rw [if_pos rfl, if_pos rfl]; exact lexLt_trans s t u
      · rw [if_neg h2, if_neg h2]; exact fun _ h => h
    · rw [if_neg h]
      intro h1
      by_cases h2 : b = c
      · subst h2; rw [if_pos rfl, if_neg h]; exact fun _ => h1
      · rw [if_neg h2]
        intro h3
        have a1 := of_decide_eq_true h1
        have a2 := of_decide_eq_true h3
        rw [if_neg (by omega)]
        exact decide_eq_true (by omega)
/-- Rows that part at a place are told by what stands there. -/
theorem lexLt_diff (p a b : List Int) (x y : Int) (h : ¬ x = y) : lexLt (p ++ x :: a) (p ++ y :: b) = decide (x < y) := by
  rw [lexLt_app]; simp only [lexLt]; rw [if_neg h]
theorem lexLt_append_eq_len : ∀ (a b c d : List Int), a.length = b.length → lexLt (a ++ c) (b ++ d) = if a = b then lexLt c d else lexLt a b
  | [], [], c, d, _ => by simp
  | [], _ :: _, _, _, h => by simp at h
  | _ :: _, [], _, _, h => by simp at h
  | x :: a, y :: b, c, d, h => by
    simp only [List.cons_append, lexLt]
    by_cases e : x = y
    · subst e
      rw [if_pos rfl, if_pos rfl, lexLt_append_eq_len a b c d (by simpa using h)]
      by_cases e2 : a = b
      · subst e2; simp
      · simp [e2]
    · rw [if_neg e, if_neg e, if_neg (by simp [e])]

end Go.Proofs.YtkgpnfjmahjlcaaDoor.Math

namespace Go.Proofs.YtkgpnfjmahjlcaaDoor.NumFacts
open Go.RowKit Go.Proofs.YtkgpnfjmahjlcaaDoor.PAll Go.Proofs.YtkgpnfjmahjlcaaDoorW.PrintWords Go.Proofs.YtkgpnfjmahjlcaaDoorW.PrintLast Go.Proofs.YtkgpnfjmahjlcaaDoorW.PrintMore Go.Proofs.YtkgpnfjmahjlcaaDoor.Math
set_option linter.unusedVariables false

theorem less_l0 (a b : List Int) (ha : a.length ≤ 140737488355328) (d : Nat) : ∀ (k i : Nat), i ≤ a.length → i ≤ b.length → a.length - i = d → 2 * d + 1 < k →
    cambiumref01_Less.l0 k a b (i : Int) = some (lexLt (a.drop i) (b.drop i)) := by
  induction d with
  | zero =>
    intro k i h1 h2 hd hk
    obtain ⟨k, rfl⟩ : ∃ m, k = m + 1 + 1 := ⟨k - 2, by omega⟩
    have hi : i = a.length := by omega
    subst hi
    rw [cambiumref01_Less.l0, if_neg (by omega), cambiumref01_Less.j1, if_neg (by simp), List.drop_length]
    by_cases hb : a.length < b.length
    · rw [rd_drop hb]
      simp only [lexLt]
      rw [decide_eq_true (by omega)]
    · rw [List.drop_of_length_le (by omega)]
      simp only [lexLt]
      rw [decide_eq_false (by omega)]
  | succ d ih =>
    intro k i h1 h2 hd hk
    obtain ⟨k, rfl⟩ : ∃ m, k = m + 1 + 1 := ⟨k - 2, by omega⟩
    rw [cambiumref01_Less.l0, if_pos (by omega), cambiumref01_Less.j1]
    rw [rd_drop (l := a) (i := i) (by omega)]
    by_cases hb : i < b.length
    · rw [rd_drop hb, if_pos (by simpa using (by omega : (i : Int) < (b.length : Int))), if_pos (by omega), if_pos (by omega), if_pos (by omega)]
      simp only [lexLt]
      by_cases e : rd a (i : Int) = rd b (i : Int)
      · rw [if_pos e, if_pos e, wrap_id (by omega) (by omega)]
        exact ih k (i + 1) (by omega) (by omega) (by omega) (by omega)
      · rw [if_neg e, if_neg e]
    · rw [List.drop_of_length_le (l := b) (by omega), if_neg (by simpa using (by omega : (b.length : Int) ≤ (i : Int)))]
      simp only [lexLt]
      rw [decide_eq_false (by omega)]
theorem less_eq (k : Nat) (a b : List Int) (ha : a.length ≤ 140737488355328) (hk : 2 * a.length + 1 < k) : cambiumref01_Less.f k a b = some (lexLt a b) := by
  unfold cambiumref01_Less.f
  have := less_l0 a b ha a.length k 0 (by omega) (by omega) (by omega) hk
  simpa using this

end Go.Proofs.YtkgpnfjmahjlcaaDoor.NumFacts

namespace Go.Proofs.YtkgpnfjmahjlcaaDoor.Runes
open Go.RowKit Go.Proofs.YtkgpnfjmahjlcaaDoor.PAll Go.Proofs.YtkgpnfjmahjlcaaDoorW.PrintWords Go.Proofs.YtkgpnfjmahjlcaaDoorW.PrintLast Go.Proofs.YtkgpnfjmahjlcaaDoorW.PrintMore Go.Proofs.YtkgpnfjmahjlcaaDoor.Math
set_option linter.unusedVariables false

theorem bt_nb (s : ByteArray) (i : Nat) (h : i < s.size) : bt s (i : Int) = (nb s i : Int) := by
  unfold bt nb
  rw [dif_pos (by simpa using h)]
  simp only [Int.toNat_natCast]
  rw [ByteArray.get!, getElem!_pos s.data i h]
  rfl

theorem tdiv64 {x : Int} (h : 0 ≤ x) (h1 : x < 256) : Int.tdiv x 64 % 256 = x / 64 := by rw [Int.tdiv_eq_ediv_of_nonneg h]; omega
theorem l0_step (k : Nat) (t : ByteArray) (n : Nat) (v least : Int) (i : Nat) (hi : i < n) (hsz : n ≤ t.size) (hn : n ≤ 4) (h0 : 0 ≤ v) (h1 : v ≤ 16777216) :
    cambiumref02_Rune.l0 (k + 1) t (n : Int) v least (i : Int) = if nb t i / 64 = 2 then cambiumref02_Rune.l0 k t (n : Int) (v * 64 + ((nb t i % 64 : Nat) : Int)) least ((i + 1 : Nat) : Int) else some (65533, 1) := by
  have hb := nb_lt t i
  rw [cambiumref02_Rune.l0, if_pos (by omega), if_pos (by omega), if_pos (by omega), bt_nb t i (by omega), tdiv64 (by omega) (by omega), wrap_id (x := (nb t i : Int)) (by omega) (by omega), Int.tmod_eq_emod_of_nonneg (by omega), wrap_id (x := v * 64) (by omega) (by omega), wrap_id (x := (i : Int) + 1) (by omega) (by omega), wrap_id (by omega) (by omega)]
  by_cases h : nb t i / 64 = 2
  · rw [if_pos (by omega), if_pos h]; congr 1
  · rw [if_neg (by omega), if_neg h]
def okRune (v least : Int) : Bool := decide (least ≤ v ∧ v ≤ 1114111 ∧ ¬ (55296 ≤ v ∧ v < 57344))
theorem l0_end (k : Nat) (t : ByteArray) (n : Nat) (v least : Int) : cambiumref02_Rune.l0 (k + 1) t (n : Int) v least (n : Int) = if okRune v least = true then some (v, (n : Int)) else some (65533, 1) := by
  rw [cambiumref02_Rune.l0, if_neg (by omega)]
  unfold okRune
  by_cases h1 : v < least
  · rw [if_pos h1, if_neg (by simp; omega)]
  · by_cases h2 : v > 1114111
    · rw [if_neg h1, if_pos h2, if_neg (by simp; omega)]
    · by_cases h3 : v ≥ 55296
      · by_cases h4 : v < 57344
        · rw [if_neg h1, if_neg h2, if_pos h3, if_pos h4, if_neg (by simp; omega)]
        · rw [if_neg h1, if_neg h2, if_pos h3, if_neg h4, if_pos (by simp; omega)]
      · rw [if_neg h1, if_neg h2, if_neg h3, if_pos (by simp; omega)]
theorem j3_eq (k : Nat) (t : ByteArray) (n : Nat) (v least : Int) : cambiumref02_Rune.j3 (k + 1) t (n : Int) v least = if t.size < n then some (65533, 1) else cambiumref02_Rune.l0 k t (n : Int) v least 1 := by
  rw [cambiumref02_Rune.j3]
  by_cases h : t.size < n
  · rw [if_pos (by omega), if_pos h]
  · rw [if_neg (by omega), if_neg h]

theorem rune_byte (k : Nat) (t : ByteArray) (h0 : 0 < t.size) : cambiumref02_Rune.f (k + 12) t =
    (if nb t 0 < 128 then some ((nb t 0 : Int), 1)
     else if nb t 0 < 194 ∨ 245 ≤ nb t 0 then some (65533, 1)
     else if nb t 0 < 224 then cambiumref02_Rune.j3 (k + 11) t ((2 : Nat) : Int) ((nb t 0 % 32 : Nat) : Int) 128
     else if nb t 0 < 240 then cambiumref02_Rune.j3 (k + 10) t ((3 : Nat) : Int) ((nb t 0 % 16 : Nat) : Int) 2048
     else cambiumref02_Rune.j3 (k + 9) t ((4 : Nat) : Int) ((nb t 0 % 8 : Nat) : Int) 65536) := by
  have hb := nb_lt t 0
  have hbt := bt_nb t 0 h0
  rw [show ((0 : Nat) : Int) = 0 from rfl] at hbt
  unfold cambiumref02_Rune.f
  rw [if_pos (by omega), hbt, wrap_id (by omega) (by omega)]
  generalize hc : nb t 0 = c at *
  have m32 : Int.tmod (c : Int) 32 = ((c % 32 : Nat) : Int) := by rw [Int.tmod_eq_emod_of_nonneg (by omega)]; omega
  have m16 : Int.tmod (c : Int) 16 = ((c % 16 : Nat) : Int) := by rw [Int.tmod_eq_emod_of_nonneg (by omega)]; omega
  have m8 : Int.tmod (c : Int) 8 = ((c % 8 : Nat) : Int) := by rw [Int.tmod_eq_emod_of_nonneg (by omega)]; omega
  by_cases h1 : c < 128
  · rw [if_neg (by omega), if_pos h1, cambiumref02_Rune.j0, if_neg (by simp), if_neg (by omega), cambiumref02_Rune.j1, if_neg (by simp), if_neg (by omega), cambiumref02_Rune.j2, if_neg (by simp), if_neg (by omega)]
    have e := j3_eq (k + 8) t 1 (c : Int) 0
    rw [show ((1 : Nat) : Int) = 1 from rfl] at e
    rw [e, if_neg (by omega)]
    have e2 := l0_end (k + 7) t 1 (c : Int) 0
    rw [show ((1 : Nat) : Int) = 1 from rfl] at e2
    rw [e2, if_pos (by unfold okRune; simp; omega)]
  rw [if_neg h1]
  by_cases h2 : c < 194
  · rw [if_neg (show ¬ (c : Int) ≥ 194 by omega), if_pos (show c < 194 ∨ 245 ≤ c from .inl h2), cambiumref02_Rune.j0, if_neg (by simp), if_neg (by omega), cambiumref02_Rune.j1, if_neg (by simp), if_neg (by omega), cambiumref02_Rune.j2, if_neg (by simp), if_pos (by omega)]
  rw [if_pos (show (c : Int) ≥ 194 by omega)]
  by_cases h3 : c < 224
  · rw [if_neg (show ¬ (c < 194 ∨ 245 ≤ c) by omega), if_pos h3, cambiumref02_Rune.j0, if_pos (by simpa using (by omega : (c : Int) < 224)), m32]; rfl
  rw [cambiumref02_Rune.j0, if_neg (show ¬ decide ((c : Int) < 224) = true by simp; omega), if_pos (show (c : Int) ≥ 224 by omega)]
  by_cases h4 : c < 240
  · rw [if_neg (show ¬ (c < 194 ∨ 245 ≤ c) by omega), if_neg h3, if_pos h4, cambiumref02_Rune.j1, if_pos (by simpa using (by omega : (c : Int) < 240)), m16]; rfl
  rw [cambiumref02_Rune.j1, if_neg (show ¬ decide ((c : Int) < 240) = true by simp; omega), if_pos (show (c : Int) ≥ 240 by omega)]
  by_cases h5 : c < 245
  · rw [if_neg (show ¬ (c < 194 ∨ 245 ≤ c) by omega), if_neg h3, if_neg h4, cambiumref02_Rune.j2, if_pos (by simpa using (by omega : (c : Int) < 245)), m8]; rfl
  · rw [if_pos (show c < 194 ∨ 245 ≤ c by omega), cambiumref02_Rune.j2, if_neg (show ¬ decide ((c : Int) < 245) = true by simp; omega), if_pos (by omega)]

theorem rune_eq (k : Nat) (t : ByteArray) (h0 : 0 < t.size) (hk : 12 ≤ k) : cambiumref02_Rune.f k t = some (((Utf8.decode t 0).1 : Int), ((Utf8.decode t 0).2 : Int)) := by
  obtain ⟨k, rfl⟩ : ∃ m, k = m + 12 := ⟨k - 12, by omega⟩
  rw [rune_byte k t h0, Lib.decode_at]
  change _ = some (((Lib.decodeN (t.size - 0) (nb t 0) (nb t (0 + 1)) (nb t (0 + 2)) (nb t (0 + 3))).1 : Int), ((Lib.decodeN (t.size - 0) (nb t 0) (nb t (0 + 1)) (nb t (0 + 2)) (nb t (0 + 3))).2 : Int))
  rw [show t.size - 0 = t.size from rfl, show 0 + 1 = 1 from rfl, show 0 + 2 = 2 from rfl, show 0 + 3 = 3 from rfl]
  have b0 := nb_lt t 0
  have b1 := nb_lt t 1
  have b2 := nb_lt t 2
  have b3 := nb_lt t 3
  have s1 := fun (kk n : Nat) (v least : Int) (hi : 1 < n) (hsz : n ≤ t.size) (hn : n ≤ 4) (h0 : 0 ≤ v) (h1 : v ≤ 16777216) => l0_step kk t n v least 1 hi hsz hn h0 h1
  have s2 := fun (kk n : Nat) (v least : Int) (hi : 2 < n) (hsz : n ≤ t.size) (hn : n ≤ 4) (h0 : 0 ≤ v) (h1 : v ≤ 16777216) => l0_step kk t n v least 2 hi hsz hn h0 h1
  have s3 := fun (kk n : Nat) (v least : Int) (hi : 3 < n) (hsz : n ≤ t.size) (hn : n ≤ 4) (h0 : 0 ≤ v) (h1 : v ≤ 16777216) => l0_step kk t n v least 3 hi hsz hn h0 h1
  have e2 := fun (kk : Nat) (v least : Int) => l0_end kk t 2 v least
  have e3 := fun (kk : Nat) (v least : Int) => l0_end kk t 3 v least
  have e4 := fun (kk : Nat) (v least : Int) => l0_end kk t 4 v least
  simp only [Int.natCast_one] at s1
  generalize nb t 0 = c0 at *
  generalize nb t 1 = c1 at *
  generalize nb t 2 = c2 at *
  generalize nb t 3 = c3 at *
  unfold Lib.decodeN
  by_cases h1 : c0 < 128
  · rw [if_pos h1, if_pos h1]; rfl
  rw [if_neg h1, if_neg h1]
  by_cases h2 : c0 < 194 ∨ 245 ≤ c0
  · rw [if_pos h2]
    by_cases g1 : c0 / 32 = 6 ∧ (1 < t.size ∧ c1 / 64 = 2)
    · rw [if_pos g1, if_neg (by omega)]; rfl
    rw [if_neg g1, if_neg (by omega)]
    by_cases g3 : c0 / 8 = 30 ∧ (1 < t.size ∧ c1 / 64 = 2) ∧ (2 < t.size ∧ c2 / 64 = 2) ∧ (3 < t.size ∧ c3 / 64 = 2)
    · rw [if_pos g3, if_neg (by omega)]; rfl
    · rw [if_neg g3]; rfl
  rw [if_neg h2]
  by_cases h3 : c0 < 224
  · rw [if_pos h3, j3_eq]
    by_cases g2 : t.size < 2
    · rw [if_pos g2, if_neg (by omega), if_neg (by omega), if_neg (by omega)]; rfl
    rw [if_neg g2, s1 _ 2 _ _ (by omega) (by omega) (by omega) (by omega) (by omega)]
    by_cases g1 : c1 / 64 = 2
    · rw [if_pos g1, show ((1 + 1 : Nat) : Int) = ((2 : Nat) : Int) from rfl, e2, if_pos (by unfold okRune; simp; omega), if_pos (show c0 / 32 = 6 ∧ (1 < t.size ∧ c1 / 64 = 2) from ⟨by omega, by omega, g1⟩), if_pos (by omega)]
      simp
    · rw [if_neg g1, if_neg (by omega), if_neg (by omega), if_neg (by omega)]; rfl
  rw [if_neg h3]
  by_cases h4 : c0 < 240
  · rw [if_pos h4, j3_eq]
    by_cases g0 : t.size < 3
    · rw [if_pos g0, if_neg (by omega), if_neg (by omega), if_neg (by omega)]; rfl
    rw [if_neg g0, s1 _ 3 _ _ (by omega) (by omega) (by omega) (by omega) (by omega)]
    by_cases g1 : c1 / 64 = 2
    · rw [if_pos g1]
      have := s2 (k + 7) 3 (((c0 % 16 : Nat) : Int) * 64 + ((c1 % 64 : Nat) : Int)) 2048 (by omega) (by omega) (by omega) (by omega) (by omega)
      rw [show ((1 + 1 : Nat) : Int) = ((2 : Nat) : Int) from rfl, this]
      by_cases g2 : c2 / 64 = 2
      · rw [if_pos g2, show ((2 + 1 : Nat) : Int) = ((3 : Nat) : Int) from rfl, e3]
        by_cases g3 : c0 % 16 * 4096 + c1 % 64 * 64 + c2 % 64 ≥ 2048 ∧ (c0 % 16 * 4096 + c1 % 64 * 64 + c2 % 64 < 55296 ∨ (57344 ≤ c0 % 16 * 4096 + c1 % 64 * 64 + c2 % 64 ∧ c0 % 16 * 4096 + c1 % 64 * 64 + c2 % 64 ≤ 1114111))
        · rw [if_pos (by unfold okRune; simp; omega), if_neg (by omega), if_pos (show c0 / 16 = 14 ∧ (1 < t.size ∧ c1 / 64 = 2) ∧ (2 < t.size ∧ c2 / 64 = 2) from ⟨by omega, ⟨by omega, g1⟩, by omega, g2⟩), if_pos g3]
          simp; omega
        · rw [if_neg (by unfold okRune; simp; omega), if_neg (by omega), if_pos (show c0 / 16 = 14 ∧ (1 < t.size ∧ c1 / 64 = 2) ∧ (2 < t.size ∧ c2 / 64 = 2) from ⟨by omega, ⟨by omega, g1⟩, by omega, g2⟩), if_neg g3]; rfl
      · rw [if_neg g2, if_neg (by omega), if_neg (by omega), if_neg (by omega)]; rfl
    · rw [if_neg g1, if_neg (by omega), if_neg (by omega), if_neg (by omega)]; rfl
  rw [if_neg h4, j3_eq]
  by_cases g0 : t.size < 4
  · rw [if_pos g0, if_neg (by omega), if_neg (by omega), if_neg (by omega)]; rfl
  rw [if_neg g0, s1 _ 4 _ _ (by omega) (by omega) (by omega) (by omega) (by omega)]
  by_cases g1 : c1 / 64 = 2
  · rw [if_pos g1]
    have := s2 (k + 6) 4 (((c0 % 8 : Nat) : Int) * 64 + ((c1 % 64 : Nat) : Int)) 65536 (by omega) (by omega) (by omega) (by omega) (by omega)
    rw [show ((1 + 1 : Nat) : Int) = ((2 : Nat) : Int) from rfl, this]
    by_cases g2 : c2 / 64 = 2
    · rw [if_pos g2]
      have := s3 (k + 5) 4 ((((c0 % 8 : Nat) : Int) * 64 + ((c1 % 64 : Nat) : Int)) * 64 + ((c2 % 64 : Nat) : Int)) 65536 (by omega) (by omega) (by omega) (by omega) (by omega)
      rw [show ((2 + 1 : Nat) : Int) = ((3 : Nat) : Int) from rfl, this]
      by_cases g3 : c3 / 64 = 2
      · rw [if_pos g3, show ((3 + 1 : Nat) : Int) = ((4 : Nat) : Int) from rfl, e4]
        by_cases g4 : c0 % 8 * 262144 + c1 % 64 * 4096 + c2 % 64 * 64 + c3 % 64 ≥ 65536 ∧ (c0 % 8 * 262144 + c1 % 64 * 4096 + c2 % 64 * 64 + c3 % 64 < 55296 ∨ (57344 ≤ c0 % 8 * 262144 + c1 % 64 * 4096 + c2 % 64 * 64 + c3 % 64 ∧ c0 % 8 * 262144 + c1 % 64 * 4096 + c2 % 64 * 64 + c3 % 64 ≤ 1114111))
        · rw [if_pos (by unfold okRune; simp; omega), if_neg (by omega), if_neg (by omega), if_pos (show c0 / 8 = 30 ∧ (1 < t.size ∧ c1 / 64 = 2) ∧ (2 < t.size ∧ c2 / 64 = 2) ∧ (3 < t.size ∧ c3 / 64 = 2) from ⟨by omega, ⟨by omega, g1⟩, ⟨by omega, g2⟩, by omega, g3⟩), if_pos g4]
          simp; omega
        · rw [if_neg (by unfold okRune; simp; omega), if_neg (by omega), if_neg (by omega), if_pos (show c0 / 8 = 30 ∧ (1 < t.size ∧ c1 / 64 = 2) ∧ (2 < t.size ∧ c2 / 64 = 2) ∧ (3 < t.size ∧ c3 / 64 = 2) from ⟨by omega, ⟨by omega, g1⟩, ⟨by omega, g2⟩, by omega, g3⟩), if_neg g4]; rfl
      · rw [if_neg g3, if_neg (by omega), if_neg (by omega), if_neg (by omega)]; rfl
    · rw [if_neg g2, if_neg (by omega), if_neg (by omega), if_neg (by omega)]; rfl
  · rw [if_neg g1, if_neg (by omega), if_neg (by omega), if_neg (by omega)]; rfl

end Go.Proofs.YtkgpnfjmahjlcaaDoor.Runes

namespace Go.Proofs.YtkgpnfjmahjlcaaDoor.Runes
open Go.RowKit Go.Proofs.YtkgpnfjmahjlcaaDoor.PAll Go.Proofs.YtkgpnfjmahjlcaaDoorW.PrintWords Go.Proofs.YtkgpnfjmahjlcaaDoorW.PrintLast Go.Proofs.YtkgpnfjmahjlcaaDoorW.PrintMore Go.Proofs.YtkgpnfjmahjlcaaDoor.Math
set_option linter.unusedVariables false

theorem rune_at (k : Nat) (s : ByteArray) (i : Nat) (h : i < s.size) (hk : 12 ≤ k) : cambiumref02_Rune.f k (s.extract i s.size) = some ((rn s i : Int), (wd s i : Int)) := by
  rw [rune_eq k _ (by rw [extract_size]; omega) hk, dec_extract]; rfl

theorem runes_l0 (s : ByteArray) (hs : s.size ≤ 1000000) (d : Nat) : ∀ (k i : Nat) (a b : List Int), s.size - i ≤ d → i ≤ s.size → a.length ≤ i → b.length ≤ i → d + 13 < k →
    cambiumref02_Runes.l0 k s a b (i : Int) = some (a ++ (from_ s i).map (fun j => (rn s j : Int)), b ++ (from_ s i).map (fun (j : Nat) => (j : Int))) := by
  induction d with
  | zero =>
    intro k i a b h1 h2 ha hb hk
    obtain ⟨k, rfl⟩ : ∃ m, k = m + 1 := ⟨k - 1, by omega⟩
    rw [cambiumref02_Runes.l0, if_neg (by omega), from_ge (by omega)]; simp
  | succ d ih =>
    intro k i a b h1 h2 ha hb hk
    obtain ⟨k, rfl⟩ : ∃ m, k = m + 1 := ⟨k - 1, by omega⟩
    by_cases hi : i < s.size
    · have hw := dec_bounds s i hi
      rw [cambiumref02_Runes.l0, if_pos (by omega), if_pos (by omega), if_pos (by omega), Int.toNat_natCast, rune_at k s i hi (by omega), Option.bind_some, if_pos (by omega), if_pos (by omega), wrap_id (by omega) (by omega)]
      have := ih k (i + wd s i) (a ++ [(rn s i : Int)]) (b ++ [(i : Int)]) (by omega) (by omega) (by simp; omega) (by simp; omega) (by omega)
      rw [show ((i : Int) + (wd s i : Int)) = ((i + wd s i : Nat) : Int) by omega, this, from_lt hi]
      simp
    · rw [cambiumref02_Runes.l0, if_neg (by omega), from_ge hi]; simp
theorem runes_eq (k : Nat) (s : ByteArray) (hs : s.size ≤ 1000000) (hk : s.size + 13 < k) : cambiumref02_Runes.f k s = some (runesI s, posI s) := by
  unfold cambiumref02_Runes.f
  have := runes_l0 s hs s.size k 0 [] [] (by omega) (by omega) (by simp) (by simp) hk
  simpa [runesI, posI] using this

/-- Is a text UTF-8, from a place on? -/
def utfFrom (s : ByteArray) (i : Nat) : Bool := (from_ s i).all fun j => !(rn s j == 65533 && wd s j == 1)
theorem utf_l0 (s : ByteArray) (hs : s.size ≤ 1000000) (d : Nat) : ∀ (k i : Nat), s.size - i ≤ d → i ≤ s.size → d + 13 < k → cambiumref02_Utf.l0 k s (i : Int) = some (utfFrom s i) := by
  induction d with
  | zero =>
    intro k i h1 h2 hk
    obtain ⟨k, rfl⟩ : ∃ m, k = m + 1 := ⟨k - 1, by omega⟩
    rw [cambiumref02_Utf.l0, if_neg (by omega)]
    unfold utfFrom
    rw [from_ge (by omega)]; rfl
  | succ d ih =>
    intro k i h1 h2 hk
    obtain ⟨k, rfl⟩ : ∃ m, k = m + 1 := ⟨k - 1, by omega⟩
    by_cases hi : i < s.size
    · have hw := dec_bounds s i hi
      have hr := ih k (i + wd s i) (by omega) (by omega) (by omega)
      rw [show ((i + wd s i : Nat) : Int) = (i : Int) + (wd s i : Int) by omega] at hr
      rw [cambiumref02_Utf.l0, if_pos (by omega), if_pos (by omega), if_pos (by omega), Int.toNat_natCast, rune_at k s i hi (by omega), Option.bind_some, wrap_id (by omega) (by omega), hr]
      have hu : utfFrom s i = (!(rn s i == 65533 && wd s i == 1) && utfFrom s (i + wd s i)) := by
        unfold utfFrom; rw [from_lt hi]; rfl
      rw [hu]
      by_cases h3 : rn s i = 65533
      · by_cases h4 : wd s i = 1
        · rw [if_pos (by omega), if_pos (by omega), h3, h4]; rfl
        · rw [if_pos (by omega), if_neg (by omega)]; simp [h4]
      · rw [if_neg (by omega)]; simp [h3]
    · rw [cambiumref02_Utf.l0, if_neg (by omega)]
      unfold utfFrom
      rw [from_ge hi]; rfl
theorem utf_eq (k : Nat) (s : ByteArray) (hs : s.size ≤ 1000000) (hk : s.size + 13 < k) : cambiumref02_Utf.f k s = some (utfFrom s 0) := by
  unfold cambiumref02_Utf.f
  exact utf_l0 s hs s.size k 0 (by omega) (by omega) hk

def rightB (s : ByteArray) : Bool := (runesI s).all okI && utfFrom s 0
theorem right_l0 (s : ByteArray) (l : List Int) (hs : s.size ≤ 1000000) (hl : l.length ≤ 1000000) (d : Nat) : ∀ (k i : Nat), l.length - i ≤ d → i ≤ l.length → d + s.size + 15 < k →
    cambiumref02_Right.l0 k s l (i : Int) = some ((l.drop i).all okI && utfFrom s 0) := by
  induction d with
  | zero =>
    intro k i h1 h2 hk
    obtain ⟨k, rfl⟩ : ∃ m, k = m + 1 := ⟨k - 1, by omega⟩
    rw [cambiumref02_Right.l0, if_neg (by omega), utf_eq k s hs (by omega), List.drop_of_length_le (by omega)]; rfl
  | succ d ih =>
    intro k i h1 h2 hk
    obtain ⟨k, rfl⟩ : ∃ m, k = m + 1 := ⟨k - 1, by omega⟩
    by_cases hi : i < l.length
    · have hr := ih k (i + 1) (by omega) (by omega) (by omega)
      rw [show ((i + 1 : Nat) : Int) = (i : Int) + 1 by omega] at hr
      rw [cambiumref02_Right.l0, if_pos (by omega), if_pos (by omega), wrap_id (by omega) (by omega), hr, rd_drop hi, List.all_cons]
      generalize rd l (i : Int) = r
      unfold okI
      by_cases h3 : r < 32
      · rw [if_pos h3]; simp [h3]
      · rw [if_neg h3]
        by_cases h4 : r ≥ 127
        · by_cases h5 : r ≤ 159
          · rw [if_pos h4, if_pos h5]; simp [h4, h5]
          · rw [if_pos h4, if_neg h5]; simp [h3, h5]
        · rw [if_neg h4]; simp [h3, h4]
    · rw [cambiumref02_Right.l0, if_neg (by omega), utf_eq k s hs (by omega), List.drop_of_length_le (by omega)]; rfl
theorem runesI_len (s : ByteArray) : (runesI s).length ≤ s.size := by
  unfold runesI
  rw [List.length_map]
  have := from_len s s.size 0 (by omega)
  omega
theorem right_eq (k : Nat) (s : ByteArray) (hs : s.size ≤ 1000000) (hk : 2 * s.size + 16 < k) : cambiumref02_Right.f k s = some (rightB s) := by
  unfold cambiumref02_Right.f
  have hl := runesI_len s
  rw [runes_eq k s hs (by omega), Option.bind_some]
  have := right_l0 s (runesI s) hs (by omega) (runesI s).length k 0 (by omega) (by omega) (by omega)
  simpa [rightB] using this

end Go.Proofs.YtkgpnfjmahjlcaaDoor.Runes

namespace Go.Proofs.YtkgpnfjmahjlcaaDoor.Tells
open Go.RowKit Go.Proofs.YtkgpnfjmahjlcaaDoorW.PrintWords Go.Proofs.YtkgpnfjmahjlcaaDoorW.PrintLast Go.Proofs.YtkgpnfjmahjlcaaDoorW.PrintMore Go.Proofs.YtkgpnfjmahjlcaaDoor.Math
open Go.Proofs.YtkgpnfjmahjlcaaDoor.PAll Go.Proofs.YtkgpnfjmahjlcaaDoor.Runes Go.Proofs.YtkgpnfjmahjlcaaDoor.Text
set_option linter.unusedVariables false
set_option linter.unusedSimpArgs false
theorem drop_ext (s : ByteArray) (i : Nat) : (⟨(s.data.toList.drop i).toArray⟩ : ByteArray) = s.extract i s.size := by
  ext1
  rw [ByteArray.data_extract]
  apply Array.ext'
  rw [Array.toList_extract]
  simp [List.extract_eq_take_drop, List.take_of_length_le]
theorem decL_drop (s : ByteArray) (i : Nat) : Lib.decodeL (s.data.toList.drop i) = (rn s i, wd s i) := by
  unfold Lib.decodeL
  rw [drop_ext, dec_extract]
  rfl
theorem valid_utf (s : ByteArray) : ∀ (d i : Nat), s.size - i ≤ d → Lib.validD (s.data.toList.drop i) = utfFrom s i := by
  intro d
  induction d with
  | zero =>
    intro i h
    have h0 : s.data.toList.drop i = [] := List.drop_eq_nil_of_le (by have := data_size s; rw [Array.length_toList]; omega)
    rw [h0, Lib.validD_nil]
    unfold utfFrom
    rw [from_ge (by omega)]
    rfl
  | succ d ih =>
    intro i h
    by_cases hlt : i < s.size
    · have hne : s.data.toList.drop i ≠ [] := by
        intro h0
        have := congrArg List.length h0
        rw [List.length_drop, Array.length_toList, data_size] at this
        simp at this
        omega
      have hb := dec_bounds s i hlt
      rw [Lib.validD_step _ hne, decL_drop, List.drop_drop, ih (i + wd s i) (by omega)]
      unfold utfFrom
      rw [from_lt hlt, List.all_cons]
      by_cases hc : rn s i = 65533 ∧ wd s i = 1
      · rw [if_pos hc]; simp [hc.1, hc.2]
      · rw [if_neg hc]
        have hc' : (rn s i == 65533 && wd s i == 1) = false := by
          rw [Bool.and_eq_false_iff, beq_eq_false_iff_ne, beq_eq_false_iff_ne]
          omega
        rw [hc']; rfl
    · have h0 : s.data.toList.drop i = [] := List.drop_eq_nil_of_le (by have := data_size s; rw [Array.length_toList]; omega)
      rw [h0, Lib.validD_nil]
      unfold utfFrom
      rw [from_ge hlt]
      rfl
theorem right_same (s : ByteArray) : (Lib.validD s.data.toList && (runesI s).all okI) = rightB s := by
  have h := valid_utf s s.size 0 (by omega)
  rw [List.drop_zero] at h
  rw [h]
  unfold rightB
  exact Bool.and_comm _ _
end Go.Proofs.YtkgpnfjmahjlcaaDoor.Tells

namespace Go.Proofs.YtkgpnfjmahjlcaaDoor.Sq
open Go.RowKit Go.Proofs.YtkgpnfjmahjlcaaDoorW.PrintWords Go.Proofs.YtkgpnfjmahjlcaaDoorW.PrintLast
set_option linter.unusedVariables false
variable {P : Program} {md : Region.Mode} {ops : Array Oper} {Q : Exit → Act → World → Prop} {S : World → Prop} {ds : List Nat}
/-- Which operations have run: the bits of a number. -/
def fl (n m : Nat) : Array Bool := ((List.range n).map (Nat.testBit m)).toArray
theorem pu (i : Nat) (N : Option Tmp) {oi : Oper} {v : Value} {fuel : Nat} {l : Array Bool} {a : Act} {w : World} (l' : Array Bool) {a' : Act}
    (h : wpAnyLast P md ops Q S ds fuel l' a' w) (hi : ops[i]? = some oi := by rfl) (hN : oi.dst = N := by rfl) (hc : anyB md ops l l' i = true := by kernel_rfl) (hQ : ∀ c a w, Q (.panic c) (a.put oi.dst v) w → Q (.panic c) a w := by exact fun _ _ _ h => h)
    (hw : Region.wanted oi (yielded ops a.tmps) = true := by rfl) (hy : ∀ w', (execOp a.eval oi).run P w' = .ok (.value v) w' := by intro w'; go_simp; with_reducible rfl)
    (ha : a.put N v = a' := by first | (simp only [Act.put, List.setIfInBounds_toArray, List.set_cons_zero, List.set_cons_succ, i64_w, i32_w]; rfl) | rfl) : wpAnyLast P md ops Q S ds (fuel + 1) l a w :=
  pure_ l' hi hN hc hQ (Or.inl ⟨hw, hy⟩) ha h
theorem off (i : Nat) (N : Option Tmp) {oi : Oper} {fuel : Nat} {l : Array Bool} {a : Act} {w : World} (l' : Array Bool) {a' : Act}
    (h : wpAnyLast P md ops Q S ds fuel l' a' w) (hi : ops[i]? = some oi := by rfl) (hN : oi.dst = N := by rfl) (hc : anyB md ops l l' i = true := by kernel_rfl) (hQ : ∀ c a w, Q (.panic c) (a.put oi.dst undef) w → Q (.panic c) a w := by exact fun _ _ _ h => h)
    (hw : Region.wanted oi (yielded ops a.tmps) = false := by rfl)
    (ha : a.put N undef = a' := by first | (simp only [Act.put, List.setIfInBounds_toArray, List.set_cons_zero, List.set_cons_succ, i64_w, i32_w]; rfl) | rfl) : wpAnyLast P md ops Q S ds (fuel + 1) l a w :=
  pure_ l' hi hN hc hQ (Or.inr ⟨hw, rfl⟩) ha h
theorem tk (i : Nat) (N : Option Tmp) {oi : Oper} {v : Value} {fuel : Nat} {l : Array Bool} {a : Act} {w : World} (l' : Array Bool) (hS : S w) {a' : Act}
    (h : wpAnyLast P md ops Q S ds fuel l' a' w) (hi : ops[i]? = some oi := by rfl) (hN : oi.dst = N := by rfl) (hc : takeB md ops ds l l' i = true := by kernel_rfl) (hQ : ∀ c a w, Q (.panic c) (a.put oi.dst v) w → Q (.panic c) a w := by exact fun _ _ _ h => h)
    (hw : Region.wanted oi (yielded ops a.tmps) = true := by rfl) (hy : ∀ w', S w' → (execOp a.eval oi).run P w' = .ok (.value v) w' := by intro w' hS_; (repeat (obtain ⟨_, hS_⟩ := hS_)); go_simp; with_reducible rfl)
    (ha : a.put N v = a' := by first | (simp only [Act.put, List.setIfInBounds_toArray, List.set_cons_zero, List.set_cons_succ, i64_w, i32_w]; rfl) | rfl) : wpAnyLast P md ops Q S ds (fuel + 1) l a w :=
  take_ l' hi hN hc hQ (Or.inl ⟨hw, hy⟩) hS ha h
theorem on_ (i : Nat) (N : Option Tmp) {oi : Oper} {fuel : Nat} {l : Array Bool} {a : Act} {w : World} (l' : Array Bool)
    (h : ∀ K : Act → World → Prop, Shut (∀ a' w', S w' → (S w' → wpAnyLast P md ops Q S ds fuel l' a' w') → K a' w') → if Region.wanted oi (yielded ops a.tmps) = true then Oper.wp P oi a w K Q else K (a.put N undef) w)
    (hi : ops[i]? = some oi := by rfl) (hN : oi.dst = N := by rfl) (hc : readyB md ops l l' i = true := by kernel_rfl) (hd : i ∉ ds := by decide) : wpAnyLast P md ops Q S ds (fuel + 1) l a w :=
  one_ l' hi hN hc hd h
theorem nm {fuel : Nat} {l : Array Bool} {a a' : Act} {w : World} (h : wpAnyLast P md ops Q S ds fuel l a' w) (ha : a = a' := by simp only [putAll, Act.put, List.setIfInBounds_toArray, List.set_cons_zero, List.set_cons_succ, i64_w, i32_w]; rfl) : wpAnyLast P md ops Q S ds fuel l a w := norm_ ha h
theorem gs {oi : Oper} {N : Option Tmp} {a : Act} {w : World} {K : Act → World → Prop} {f : FuncId} {fn : Func} (hf : P.funcs[f]? = some fn) {ags : Array Operand} {ts : Array TypeId} (args : Array Value)
    (h : Calls P f args w fun e w' => ∃ v, e = .returned v ∧ K (a.put N v) w') (hw : Region.wanted oi (yielded ops a.tmps) = true := by rfl) (hN : oi.dst = N := by rfl) (hop : oi.op = .call { callee := .value (.func f), args := ags, argTypes := ts } := by rfl)
    (hname : (fn.name == "runtime.NumGoroutine") = false := by kernel_rfl) (hb : fn.body.isSome = true := by rfl) (hargs : ags.map a.eval = args := by first | (simp only [List.map_toArray, List.map_cons, List.map_nil]; rfl) | simp only [List.map_toArray, List.map_nil]) :
    if Region.wanted oi (yielded ops a.tmps) = true then Oper.wp P oi a w K Q else K (a.put N undef) w := goes_ hf hname hb args hw hN hop hargs h
end Go.Proofs.YtkgpnfjmahjlcaaDoor.Sq

namespace Go.Proofs.YtkgpnfjmahjlcaaDoor.LaidW
open Go Go.Proofs.YtkgpnfjmahjlcaaDoor
set_option maxRecDepth 100000 in
noncomputable def laidWorld (os : Os) : World :=
  let w0 := World.holding Tryd.prog os ⟨#[], #[], []⟩
  let put (h : Array Obj) (g : Nat) (cs : Array Value) : Array Obj := h.modify g fun
    | .cells _ t frozen => .cells cs t frozen
    | o => o
  let h1 := put w0.heap (Tryd.laysValid_ren.g 3) (Lib.firstTab.map fun z => Value.int .u8 z).toArray
  let h2 := put h1 (Tryd.laysValid_ren.g 4) ((List.range 16).flatMap fun i => [Value.int .u8 (Lib.accLo i), Value.int .u8 (Lib.accHi i)]).toArray
  { w0 with heap := h2 }
abbrev laid : List (String × DataW Unit) := [("unicode/utf8.acceptRanges", Rows.laid_unicode_utf8_acceptRanges), ("unicode/utf8.first", Rows.laid_unicode_utf8_first)]
set_option maxRecDepth 100000 in
theorem laid_met (os : Os) (args : Array Value) : laidMet Tryd.prog laid ((laidWorld os).forCall (fun _ _ => 0) ⟨#[], args, []⟩).memory :=
  (LaidIn.of_run (l := [("unicode/utf8.acceptRanges", Lib.acceptData), ("unicode/utf8.first", Lib.firstData)]) [Tryd.laysValid_ren.g 4, Tryd.laysValid_ren.g 3] 8 (by kernel_rfl) (by kernel_rfl) (by kernel_rfl) (by kernel_rfl)).met
set_option maxRecDepth 100000 in
theorem tabs_of {W : World} (hL : laidMet Tryd.prog laid W) : Tabs W := by
  have h4 : Lib.VarReads Tryd.prog W "unicode/utf8.acceptRanges" Rows.laid_unicode_utf8_acceptRanges := Lib.laidMet.reads hL (.head _)
  have h3 : Lib.VarReads Tryd.prog W "unicode/utf8.first" Rows.laid_unicode_utf8_first := Lib.laidMet.reads hL (.tail _ (.head _))
  have e4 : (Rows.laid_unicode_utf8_acceptRanges : DataW Unit) = Lib.acceptData := by kernel_rfl
  have e3 : (Rows.laid_unicode_utf8_first : DataW Unit) = Lib.firstData := by kernel_rfl
  rw [e4] at h4
  rw [e3] at h3
  exact utf8Tabs_of_readsT (U8Types.of196 Tryd.laysValid) ⟨by kernel_rfl, by kernel_rfl, by kernel_rfl, by kernel_rfl, by kernel_rfl, by kernel_rfl, by kernel_rfl⟩ h3 h4
end Go.Proofs.YtkgpnfjmahjlcaaDoor.LaidW

namespace Go.Proofs.YtkgpnfjmahjlcaaDoor.Wi
open Go.RowKit Go.Proofs.YtkgpnfjmahjlcaaDoorW.PrintWords Go.Proofs.YtkgpnfjmahjlcaaDoor.Math Go.Proofs.YtkgpnfjmahjlcaaDoor.PAll
set_option linter.unusedVariables false
set_option linter.unusedSimpArgs false

/-! The bytes. -/
def zig (v : Int) : Int := if 0 ≤ v then 2 * v else -2 * v - 1
def zag (v : Int) : Int := if v % 2 = 1 then -(v / 2) - 1 else v / 2
theorem zag_zig (v : Int) : zag (zig v) = v := by unfold zag zig; split <;> split <;> omega
theorem zig_zag {v : Int} (h : 0 ≤ v) : zig (zag v) = v := by unfold zag zig; split <;> split <;> omega
theorem zig_bounds {v : Int} (h0 : -9223372036854775808 ≤ v) (h1 : v < 9223372036854775808) : 0 ≤ zig v ∧ zig v < 18446744073709551616 := by unfold zig; split <;> omega
theorem zag_bounds {v : Int} (h0 : 0 ≤ v) (h1 : v < 18446744073709551616) : -9223372036854775808 ≤ zag v ∧ zag v < 9223372036854775808 := by unfold zag; split <;> omega
/-- A row. -/
def rowE (b : List Int) : List Int := vput (b.length : Int) ++ b
def txtE (s : ByteArray) : List Int := rowE (bytesOf s)
def valE (v : S51) : List Int := if v.f0 = 0 then txtE v.f1 else if v.f0 = 1 then vput (zig v.f2) else [if v.f3 then 1 else 0]
def attE (a : S53) : List Int := txtE a.f0 ++ ([a.f1.f0] ++ valE a.f1)
def evE (e : S55) : List Int := vput (zig e.f0) ++ txtE e.f1
def lkE (l : S68) : List Int := vput l.f0 ++ vput l.f1
def listE {α : Type} (e : α → List Int) (l : List α) : List Int := vput (l.length : Int) ++ l.flatMap e
def enc (s : S27) : List Int :=
  vput s.f0 ++ (vput s.f1 ++ (vput s.f2 ++ (txtE s.f3 ++ (txtE s.f4 ++ (vput (zig s.f5) ++ (vput (zig s.f6) ++ (vput s.f7 ++ (listE attE s.f8 ++ (listE evE s.f9 ++ listE lkE s.f10)))))))))

/-! Reading, strictly. A state: what is left, and whether something was wrong. -/
abbrev St := List Int × Bool
def numS (q : St) : Int × St := ((vget q.1).1, if q.2 || (vget q.1).2 == 0 then (q.1, true) else (q.1.drop (vget q.1).2.toNat, false))
def sigS (q : St) : Int × St := (zag (numS q).1, (numS q).2)
def sizeS (most : Int) (q : St) : Int × St := if (numS q).1 > most then (0, ((numS q).2.1, true)) else numS q
def takeS (n : Int) (q : St) : List Int × St :=
  if q.2 = true ∨ n > (q.1.length : Int) then (List.replicate (min n 1).toNat 0, (q.1, true)) else (q.1.take n.toNat, (q.1.drop n.toNat, false))
def rowS (q : St) : List Int × St := takeS (sizeS (q.1.length : Int) q).1 (sizeS (q.1.length : Int) q).2
def txtS (q : St) : ByteArray × St := (strOfNums (rowS q).1, (rowS q).2)
def valS (k : Int) (q : St) : S51 × St :=
  if k = 0 then (⟨0, (txtS q).1, 0, false⟩, (txtS q).2)
  else if k = 1 then (⟨1, ⟨#[]⟩, (sigS q).1, false⟩, (sigS q).2)
  else (⟨k, ⟨#[]⟩, 0, !((takeS 1 q).2.2 || decide (rd (takeS 1 q).1 0 > 1)) && rd (takeS 1 q).1 0 == 1⟩, ((takeS 1 q).2.1, (takeS 1 q).2.2 || decide (rd (takeS 1 q).1 0 > 1)))
def attS (q : St) : S53 × St :=
  let n := txtS q
  let k := takeS 1 n.2
  if k.2.2 = true then (⟨n.1, ⟨0, ⟨#[]⟩, 0, false⟩⟩, k.2) else (⟨n.1, (valS (rd k.1 0) k.2).1⟩, (valS (rd k.1 0) k.2).2)
def evS (q : St) : S55 × St := (⟨(sigS q).1, (txtS (sigS q).2).1⟩, (txtS (sigS q).2).2)
def lkS (q : St) : S68 × St := (⟨(numS q).1, (numS (numS q).2).1⟩, (numS (numS q).2).2)
/-- So many, while nothing is wrong. -/
def manyS {α : Type} (p : St → α × St) : Nat → St → List α × St
  | 0, q => ([], q)
  | n + 1, q => if q.2 = true then ([], q) else ((p q).1 :: (manyS p n (p q).2).1, (manyS p n (p q).2).2)
def someS {α : Type} (p : St → α × St) (q : St) : List α × St := manyS p (sizeS (q.1.length : Int) q).1.toNat (sizeS (q.1.length : Int) q).2
/-- What a reader is worth: what is wrong stays wrong; what is read is what stood there; what may be is read. -/
structure Good {α : Type} (p : St → α × St) (e : α → List Int) (ok : α → Prop) : Prop where
  bad : ∀ q, q.2 = true → (p q).2.2 = true
  canon : ∀ l, IsB l → (p (l, false)).2.2 = false → l = e (p (l, false)).1 ++ (p (l, false)).2.1 ∧ ok (p (l, false)).1
  reads : ∀ x r, ok x → p (e x ++ r, false) = (x, (r, false))
theorem Good.isB {α : Type} {p : St → α × St} {e : α → List Int} {ok : α → Prop} (h : Good p e ok) {l : List Int} (hl : IsB l) (hb : (p (l, false)).2.2 = false) : IsB (p (l, false)).2.1 := by
  obtain ⟨he, _⟩ := h.canon l hl hb
  intro x hx
  exact hl x (by rw [he]; exact List.mem_append_right _ hx)
theorem Good.weaken {α : Type} {p : St → α × St} {e : α → List Int} {ok ok' : α → Prop} (h : Good p e ok) (hok : ∀ x, ok' x ↔ ok x) : Good p e ok' :=
  ⟨h.bad, fun l hl hb => ⟨(h.canon l hl hb).1, (hok _).2 (h.canon l hl hb).2⟩, fun x r hx => h.reads x r ((hok x).1 hx)⟩
/-- A state that is not wrong at the end was not wrong ahead. -/
theorem Good.was {α : Type} {p : St → α × St} {e : α → List Int} {ok : α → Prop} (h : Good p e ok) {q : St} (hb : (p q).2.2 = false) : q.2 = false := by
  cases hq : q.2 with
  | false => rfl
  | true => rw [h.bad q hq] at hb; cases hb
def u64 (v : Int) : Prop := 0 ≤ v ∧ v < 18446744073709551616
def i64 (v : Int) : Prop := -9223372036854775808 ≤ v ∧ v < 9223372036854775808
theorem num_good : Good numS vput u64 where
  bad := fun q hq => by unfold numS; rw [hq]; rfl
  canon := fun l hl hb => by
    unfold numS at hb ⊢
    rcases vget_cases hl with h | ⟨v, r, h0, h1, e, h⟩
    · rw [h] at hb; cases hb
    · rw [h]
      have hp := vput_len_pos v
      have hn : (((vput v).length : Int) == 0) = false := beq_eq_false_iff_ne.2 (by omega)
      simp only [Bool.false_or, hn, Bool.false_eq_true, if_false, Int.toNat_natCast]
      rw [e, List.drop_left]
      exact ⟨rfl, h0, h1⟩
  reads := fun x r hx => by
    unfold numS
    rw [vget_put r hx.1 hx.2]
    have hp := vput_len_pos x
    have hn : (((vput x).length : Int) == 0) = false := beq_eq_false_iff_ne.2 (by omega)
    simp only [Bool.false_or, hn, Bool.false_eq_true, if_false, Int.toNat_natCast, List.drop_left]
theorem sig_good : Good sigS (fun v => vput (zig v)) i64 where
  bad := fun q hq => num_good.bad q hq
  canon := fun l hl hb => by
    obtain ⟨h, hu⟩ := num_good.canon l hl hb
    unfold sigS
    exact ⟨by rw [zig_zag hu.1]; exact h, zag_bounds hu.1 hu.2⟩
  reads := fun x r hx => by
    unfold sigS
    rw [num_good.reads (zig x) r (zig_bounds hx.1 hx.2)]
    show (zag (zig x), _) = _
    rw [zag_zig]
theorem size_good (most : Int) (hm : most < 18446744073709551616) : Good (sizeS most) vput (fun v => 0 ≤ v ∧ v ≤ most) where
  bad := fun q hq => by
    unfold sizeS
    split
    · rfl
    · exact num_good.bad q hq
  canon := fun l hl hb => by
    unfold sizeS at hb ⊢
    split at hb
    · cases hb
    · rename_i h
      rw [if_neg h]
      obtain ⟨h1, h2⟩ := num_good.canon l hl hb
      exact ⟨h1, h2.1, by omega⟩
  reads := fun x r hx => by
    unfold sizeS
    rw [num_good.reads x r ⟨hx.1, by omega⟩, if_neg (by show ¬ x > most; omega)]
/-- One behind the other. -/
theorem seq_good {α β γ : Type} {p : St → α × St} {q : St → β × St} {e : α → List Int} {f : β → List Int} {ok : α → Prop} {ok' : β → Prop} (hp : Good p e ok) (hq : Good q f ok')
    (mk : α → β → γ) (a : γ → α) (b : γ → β) (ha : ∀ x y, a (mk x y) = x) (hb : ∀ x y, b (mk x y) = y) (hm : ∀ z, mk (a z) (b z) = z) :
    Good (fun s => (mk (p s).1 (q (p s).2).1, (q (p s).2).2)) (fun z => e (a z) ++ f (b z)) (fun z => ok (a z) ∧ ok' (b z)) where
  bad := fun s hs => hq.bad _ (hp.bad s hs)
  canon := fun l hl hbd => by
    have h0 : (p (l, false)).2.2 = false := hq.was hbd
    obtain ⟨h1, h2⟩ := hp.canon l hl h0
    have hB := hp.isB hl h0
    have e2 : (p (l, false)).2 = ((p (l, false)).2.1, false) := Prod.ext rfl h0
    show l = e (a (mk _ _)) ++ f (b (mk _ _)) ++ _ ∧ ok (a (mk _ _)) ∧ ok' (b (mk _ _))
    rw [ha, hb]
    rw [e2] at hbd ⊢
    obtain ⟨h3, h4⟩ := hq.canon _ hB hbd
    refine ⟨?_, h2, h4⟩
    rw [List.append_assoc, ← h3]
    exact h1
  reads := fun z r hz => by
    show (mk (p (e (a z) ++ f (b z) ++ r, false)).1 _, _) = _
    rw [List.append_assoc, hp.reads (a z) _ hz.1]
    show (mk (a z) (q (f (b z) ++ r, false)).1, (q (f (b z) ++ r, false)).2) = _
    rw [hq.reads (b z) r hz.2, hm]
theorem take_lt {l : List Int} {n : Int} (h0 : 0 ≤ n) (h1 : ¬ n > (l.length : Int)) : ((l.take n.toNat).length : Int) = n := by
  rw [List.length_take]; omega
theorem row_good : Good rowS rowE (fun b => (b.length : Int) < 18446744073709551616) where
  bad := fun q hq => by
    unfold rowS takeS
    have h : (sizeS (q.1.length : Int) q).2.2 = true := by
      unfold sizeS
      split
      · rfl
      · exact num_good.bad q hq
    rw [if_pos (Or.inl h)]
  canon := fun l hl hb => by
    unfold rowS takeS at hb ⊢
    split at hb
    · cases hb
    · rename_i h
      rw [if_neg h]
      have h1 : (sizeS (l.length : Int) (l, false)).2.2 = false := by
        cases hx : (sizeS (l.length : Int) (l, false)).2.2 with
        | false => rfl
        | true => exact absurd (Or.inl hx) h
      have h2 : ¬ (sizeS (l.length : Int) (l, false)).1 > ((sizeS (l.length : Int) (l, false)).2.1.length : Int) := fun hx => h (Or.inr hx)
      have key : (numS (l, false)).2.2 = false ∧ sizeS (l.length : Int) (l, false) = numS (l, false) := by
        unfold sizeS at h1 ⊢
        split at h1
        · cases h1
        · rename_i h3
          rw [if_neg h3]
          exact ⟨h1, rfl⟩
      obtain ⟨h3, h4⟩ := num_good.canon l hl key.1
      show l = rowE ((sizeS (l.length : Int) (l, false)).2.1.take _) ++ (sizeS (l.length : Int) (l, false)).2.1.drop _ ∧ ((((sizeS (l.length : Int) (l, false)).2.1.take _).length : Nat) : Int) < _
      rw [key.2] at h2 ⊢
      rw [take_lt h4.1 h2]
      refine ⟨?_, h4.2⟩
      unfold rowE
      rw [take_lt h4.1 h2, List.append_assoc, List.take_append_drop]
      exact h3
  reads := fun b r hb => by
    have hn : numS (rowE b ++ r, false) = ((b.length : Int), (b ++ r, false)) := by
      unfold rowE
      rw [List.append_assoc]
      exact num_good.reads _ _ ⟨by omega, hb⟩
    have hs : sizeS ((rowE b ++ r).length : Int) (rowE b ++ r, false) = ((b.length : Int), (b ++ r, false)) := by
      unfold sizeS
      rw [hn, if_neg]
      unfold rowE
      simp only [List.length_append]
      omega
    unfold rowS
    show takeS (sizeS ((rowE b ++ r).length : Int) (rowE b ++ r, false)).1 (sizeS ((rowE b ++ r).length : Int) (rowE b ++ r, false)).2 = _
    rw [hs]
    unfold takeS
    rw [if_neg (by simp only [List.length_append]; rintro (h | h); · cases h
                   · omega)]
    simp
theorem str_bytes (s : ByteArray) : strOfNums (bytesOf s) = s := by
  unfold strOfNums bytesOf
  apply ByteArray.ext
  rw [List.map_map]
  have : ((fun n : Int => UInt8.ofNat n.toNat) ∘ fun b : UInt8 => (b.toNat : Int)) = id := by funext b; simp
  rw [this, List.map_id]
theorem bytes_str {l : List Int} (h : IsB l) : bytesOf (strOfNums l) = l := by
  unfold strOfNums bytesOf
  simp only [List.map_map]
  conv => rhs; rw [← List.map_id l]
  apply List.map_congr_left
  intro x hx
  have := h x hx
  simp
  omega
theorem str_size (l : List Int) : (strOfNums l).size = l.length := by
  unfold strOfNums
  simp [ByteArray.size]
theorem txt_good : Good txtS txtE (fun s => (s.size : Int) < 18446744073709551616) where
  bad := fun q hq => row_good.bad q hq
  canon := fun l hl hb => by
    obtain ⟨h1, h2⟩ := row_good.canon l hl hb
    have hB : IsB (rowS (l, false)).1 := by
      intro x hx
      refine hl x ?_
      rw [h1]
      unfold rowE
      simp [hx]
    unfold txtS txtE
    rw [bytes_str hB, str_size]
    exact ⟨h1, h2⟩
  reads := fun s r hs => by
    unfold txtS txtE
    rw [row_good.reads _ r (by rw [bytesOf_length]; exact hs)]
    show (strOfNums (bytesOf s), _) = _
    rw [str_bytes]
/-- One byte. -/
theorem take1_good : Good (fun q => (rd (takeS 1 q).1 0, (takeS 1 q).2)) (fun v => [v]) (fun v => 0 ≤ v ∧ v < 256) where
  bad := fun q hq => by
    unfold takeS
    rw [if_pos (Or.inl hq)]
  canon := fun l hl hb => by
    unfold takeS at hb ⊢
    split at hb
    · cases hb
    · rename_i h
      rw [if_neg h]
      match l, hl, h with
      | [], _, h => exact absurd (Or.inr (by simp)) h
      | x :: l, hl, _ => exact ⟨rfl, isB_head hl⟩
  reads := fun v r hv => by
    unfold takeS
    rw [if_neg (by simp; omega)]
    simp [rd]
/-- What a value that is read may be. -/
def valOk (v : S51) : Prop := 0 ≤ v.f0 ∧ v.f0 < 256 ∧ (v.f1.size : Int) < 18446744073709551616 ∧ i64 v.f2 ∧ (v.f0 ≠ 0 → v.f1 = ⟨#[]⟩) ∧ (v.f0 ≠ 1 → v.f2 = 0) ∧ (v.f0 = 0 ∨ v.f0 = 1 → v.f3 = false)
theorem i64_0 : i64 0 := ⟨by omega, by omega⟩
theorem e0 : ((⟨#[]⟩ : ByteArray).size : Int) < 18446744073709551616 := by decide
theorem val_canon (k : Int) (hk : 0 ≤ k ∧ k < 256) (l : List Int) (hl : IsB l) (hb : (valS k (l, false)).2.2 = false) : l = valE (valS k (l, false)).1 ++ (valS k (l, false)).2.1 ∧ valOk (valS k (l, false)).1 ∧ (valS k (l, false)).1.f0 = k := by
  unfold valS at hb ⊢
  split at hb
  · rename_i h
    subst h
    obtain ⟨h1, h2⟩ := txt_good.canon l hl hb
    exact ⟨h1, ⟨Int.le_refl 0, (by decide : (0 : Int) < 256), h2, i64_0, fun h => absurd rfl h, fun _ => rfl, fun _ => rfl⟩, rfl⟩
  rename_i hk0
  split at hb
  · rename_i h
    subst h
    obtain ⟨h1, h2⟩ := sig_good.canon l hl hb
    exact ⟨h1, ⟨(by decide : (0 : Int) ≤ 1), (by decide : (1 : Int) < 256), e0, h2, fun _ => rfl, fun h => absurd rfl h, fun _ => rfl⟩, rfl⟩
  rename_i hk1
  rw [if_neg hk0, if_neg hk1]
  have hb : ((takeS 1 (l, false)).2.2 || decide (rd (takeS 1 (l, false)).1 0 > 1)) = false := hb
  obtain ⟨hb1, hb2⟩ := Bool.or_eq_false_iff.1 hb
  obtain ⟨h1, h2⟩ := take1_good.canon l hl hb1
  refine ⟨?_, ⟨hk.1, hk.2, e0, i64_0, fun _ => rfl, fun _ => rfl, fun h => ?_⟩, rfl⟩
  · show l = valE ⟨k, _, 0, !(_ || _) && _⟩ ++ (takeS 1 (l, false)).2.1
    rw [hb1, hb2]
    unfold valE
    rw [if_neg hk0, if_neg hk1]
    have h3 := of_decide_eq_false hb2
    have h4 : l = [rd (takeS 1 (l, false)).1 0] ++ (takeS 1 (l, false)).2.1 := h1
    generalize (takeS 1 (l, false)).2.1 = r at h4 ⊢
    have h5 : rd (takeS 1 (l, false)).1 0 = 0 ∨ rd (takeS 1 (l, false)).1 0 = 1 := by
      have h2 : 0 ≤ rd (takeS 1 (l, false)).1 0 ∧ _ := h2
      omega
    rcases h5 with h5 | h5
    · rw [h5] at h4 ⊢
      exact h4
    · rw [h5] at h4 ⊢
      exact h4
  · rcases h with h | h
    · exact absurd h hk0
    · exact absurd h hk1
theorem val_reads (v : S51) (r : List Int) (h : valOk v) : valS v.f0 (valE v ++ r, false) = (v, (r, false)) := by
  obtain ⟨k, s, n, b⟩ := v
  obtain ⟨h1, h2, h3, h4, h5, h6, h7⟩ := h
  unfold valS valE
  show (if k = 0 then _ else _) = _
  by_cases hk0 : k = 0
  · subst hk0
    rw [if_pos rfl, if_pos rfl, txt_good.reads _ r h3]
    have : n = 0 := h6 (show (0 : Int) ≠ 1 by decide)
    subst this
    have : b = false := h7 (Or.inl rfl)
    subst this
    rfl
  rw [if_neg hk0, if_neg hk0]
  by_cases hk1 : k = 1
  · subst hk1
    rw [if_pos rfl, if_pos rfl, sig_good.reads _ r h4]
    have : s = ⟨#[]⟩ := h5 (show (1 : Int) ≠ 0 by decide)
    subst this
    have : b = false := h7 (Or.inr rfl)
    subst this
    rfl
  rw [if_neg hk1, if_neg hk1]
  have : s = ⟨#[]⟩ := h5 hk0
  subst this
  have : n = 0 := h6 hk1
  subst this
  cases b
  · have ht : takeS 1 ([0] ++ r, false) = ([0], (r, false)) := by
      unfold takeS
      rw [if_neg (by simp; omega)]
      simp
    show (S51.mk k _ 0 (!((takeS 1 ([0] ++ r, false)).2.2 || _) && _), _) = _
    rw [ht]
    rfl
  · have ht : takeS 1 ([1] ++ r, false) = ([1], (r, false)) := by
      unfold takeS
      rw [if_neg (by simp; omega)]
      simp
    show (S51.mk k _ 0 (!((takeS 1 ([1] ++ r, false)).2.2 || _) && _), _) = _
    rw [ht]
    rfl
theorem att_good : Good attS attE (fun a => (a.f0.size : Int) < 18446744073709551616 ∧ valOk a.f1) where
  bad := fun q hq => by
    unfold attS
    have h : (takeS 1 (txtS q).2).2.2 = true := take1_good.bad _ (txt_good.bad q hq)
    simp only [h, if_true]
  canon := fun l hl hb => by
    unfold attS at hb ⊢
    dsimp only at hb ⊢
    split at hb
    · rename_i h
      rw [h] at hb
      cases hb
    · rename_i h
      rw [if_neg h]
      have h0 : (takeS 1 (txtS (l, false)).2).2.2 = false := Bool.eq_false_iff.2 h
      have h1 : (txtS (l, false)).2.2 = false := take1_good.was h0
      obtain ⟨c1, c2⟩ := txt_good.canon l hl h1
      have hB := txt_good.isB hl h1
      have e2 : (txtS (l, false)).2 = ((txtS (l, false)).2.1, false) := Prod.ext rfl h1
      rw [e2] at h0 hb ⊢
      obtain ⟨c3, c4⟩ := take1_good.canon _ hB h0
      have hB2 := take1_good.isB hB h0
      have e3 : (takeS 1 ((txtS (l, false)).2.1, false)).2 = ((takeS 1 ((txtS (l, false)).2.1, false)).2.1, false) := Prod.ext rfl h0
      rw [e3] at hb ⊢
      obtain ⟨c5, c6, c7⟩ := val_canon _ c4 _ hB2 hb
      refine ⟨?_, c2, c6⟩
      unfold attE
      show l = txtE _ ++ ([(valS _ _).1.f0] ++ valE (valS _ _).1) ++ _
      rw [c7, List.append_assoc, List.append_assoc, ← c5]
      exact c1.trans (congrArg _ c3)
  reads := fun a r ha => by
    obtain ⟨nm, v⟩ := a
    unfold attS attE
    dsimp only
    rw [List.append_assoc, txt_good.reads nm _ ha.1]
    have h := take1_good.reads v.f0 (valE v ++ r) ⟨ha.2.1, ha.2.2.1⟩
    dsimp only at h ⊢
    have h1 : rd (takeS 1 ([v.f0] ++ valE v ++ r, false)).1 0 = v.f0 := by rw [List.append_assoc]; exact congrArg Prod.fst h
    have h2 : (takeS 1 ([v.f0] ++ valE v ++ r, false)).2 = (valE v ++ r, false) := by rw [List.append_assoc]; exact congrArg Prod.snd h
    rw [h1, h2, if_neg (show ¬ false = true by decide), val_reads v r ha.2]
theorem ev_good : Good evS evE (fun e => i64 e.f0 ∧ (e.f1.size : Int) < 18446744073709551616) :=
  seq_good sig_good txt_good S55.mk (·.f0) (·.f1) (fun _ _ => rfl) (fun _ _ => rfl) (fun _ => rfl)
theorem lk_good : Good lkS lkE (fun l => u64 l.f0 ∧ u64 l.f1) :=
  seq_good num_good num_good S68.mk (·.f0) (·.f1) (fun _ _ => rfl) (fun _ _ => rfl) (fun _ => rfl)

theorem many_bad {α : Type} {p : St → α × St} {e : α → List Int} {ok : α → Prop} (hp : Good p e ok) : ∀ n q, q.2 = true → (manyS p n q).2.2 = true
  | 0, q, h => h
  | n + 1, q, h => by rw [manyS, if_pos h]; exact h
theorem many_was {α : Type} {p : St → α × St} {e : α → List Int} {ok : α → Prop} (hp : Good p e ok) {n : Nat} {q : St} (hb : (manyS p n q).2.2 = false) : q.2 = false := by
  cases hq : q.2 with
  | false => rfl
  | true => rw [many_bad hp n q hq] at hb; cases hb
theorem many_canon {α : Type} {p : St → α × St} {e : α → List Int} {ok : α → Prop} (hp : Good p e ok) : ∀ n l, IsB l → (manyS p n (l, false)).2.2 = false →
    l = (manyS p n (l, false)).1.flatMap e ++ (manyS p n (l, false)).2.1 ∧ (∀ x ∈ (manyS p n (l, false)).1, ok x) ∧ (manyS p n (l, false)).1.length = n
  | 0, l, _, _ => ⟨rfl, fun x hx => absurd hx List.not_mem_nil, rfl⟩
  | n + 1, l, hl, hb => by
    rw [manyS, if_neg (show ¬ false = true by decide)] at hb ⊢
    have h0 : (p (l, false)).2.2 = false := many_was hp hb
    obtain ⟨h1, h2⟩ := hp.canon l hl h0
    have hB := hp.isB hl h0
    have e2 : (p (l, false)).2 = ((p (l, false)).2.1, false) := Prod.ext rfl h0
    rw [e2] at hb ⊢
    obtain ⟨h3, h4, h5⟩ := many_canon hp n _ hB hb
    refine ⟨?_, ?_, by rw [List.length_cons, h5]⟩
    · rw [List.flatMap_cons, List.append_assoc, ← h3]
      exact h1
    · intro x hx
      rcases List.mem_cons.1 hx with rfl | hx
      · exact h2
      · exact h4 x hx
theorem many_reads {α : Type} {p : St → α × St} {e : α → List Int} {ok : α → Prop} (hp : Good p e ok) : ∀ (xs : List α) r, (∀ x ∈ xs, ok x) → manyS p xs.length (xs.flatMap e ++ r, false) = (xs, (r, false))
  | [], r, _ => rfl
  | x :: xs, r, h => by
    rw [List.length_cons, manyS, if_neg (show ¬ false = true by decide), List.flatMap_cons, List.append_assoc, hp.reads x _ (h x (by simp)), many_reads hp xs r (fun y hy => h y (by simp [hy]))]
theorem flat_len {α : Type} {e : α → List Int} (he : ∀ x, 1 ≤ (e x).length) : ∀ xs : List α, xs.length ≤ (xs.flatMap e).length
  | [] => Nat.zero_le _
  | x :: xs => by
    rw [List.flatMap_cons, List.length_append, List.length_cons]
    have := he x
    have := flat_len he xs
    omega
theorem some_good {α : Type} {p : St → α × St} {e : α → List Int} {ok : α → Prop} (hp : Good p e ok) (he : ∀ x, 1 ≤ (e x).length) : Good (someS p) (listE e) (fun xs => (xs.length : Int) < 18446744073709551616 ∧ ∀ x ∈ xs, ok x) where
  bad := fun q hq => by
    unfold someS
    refine many_bad hp _ _ ?_
    unfold sizeS
    split
    · rfl
    · exact num_good.bad q hq
  canon := fun l hl hb => by
    unfold someS at hb ⊢
    have h0 : (sizeS (l.length : Int) (l, false)).2.2 = false := many_was hp hb
    have key : (numS (l, false)).2.2 = false ∧ sizeS (l.length : Int) (l, false) = numS (l, false) := by
      unfold sizeS at h0 ⊢
      split at h0
      · cases h0
      · rename_i h3
        rw [if_neg h3]
        exact ⟨h0, rfl⟩
    obtain ⟨h1, h2⟩ := num_good.canon l hl key.1
    have hB := num_good.isB hl key.1
    have e2 : (numS (l, false)).2 = ((numS (l, false)).2.1, false) := Prod.ext rfl key.1
    show l = listE e (manyS p (sizeS (l.length : Int) (l, false)).1.toNat (sizeS (l.length : Int) (l, false)).2).1 ++ _ ∧ (((manyS p (sizeS (l.length : Int) (l, false)).1.toNat (sizeS (l.length : Int) (l, false)).2).1.length : Nat) : Int) < _ ∧ _
    have hb : (manyS p (sizeS (l.length : Int) (l, false)).1.toNat (sizeS (l.length : Int) (l, false)).2).2.2 = false := hb
    show l = _ ++ (manyS p (sizeS (l.length : Int) (l, false)).1.toNat (sizeS (l.length : Int) (l, false)).2).2.1 ∧ _
    rw [key.2, e2] at hb ⊢
    obtain ⟨h3, h4, h5⟩ := many_canon hp _ _ hB hb
    have h6 : (((numS (l, false)).1.toNat : Nat) : Int) = (numS (l, false)).1 := Int.toNat_of_nonneg h2.1
    refine ⟨?_, by rw [h5, h6]; exact h2.2, h4⟩
    unfold listE
    rw [h5, h6, List.append_assoc, ← h3]
    exact h1
  reads := fun xs r hx => by
    have hn : numS (listE e xs ++ r, false) = ((xs.length : Int), (xs.flatMap e ++ r, false)) := by
      unfold listE
      rw [List.append_assoc]
      exact num_good.reads _ _ ⟨by omega, hx.1⟩
    have hs : sizeS ((listE e xs ++ r).length : Int) (listE e xs ++ r, false) = ((xs.length : Int), (xs.flatMap e ++ r, false)) := by
      unfold sizeS
      rw [hn, if_neg]
      have := flat_len he xs
      unfold listE
      simp only [List.length_append]
      omega
    unfold someS
    show manyS p (sizeS ((listE e xs ++ r).length : Int) (listE e xs ++ r, false)).1.toNat (sizeS ((listE e xs ++ r).length : Int) (listE e xs ++ r, false)).2 = _
    rw [hs]
    exact many_reads hp xs r hx.2
theorem vlen (v : Int) : 1 ≤ (vput v).length := vput_len_pos v
theorem att_len (a : S53) : 1 ≤ (attE a).length := by unfold attE; simp only [List.length_append, List.length_cons]; omega
theorem ev_len (a : S55) : 1 ≤ (evE a).length := by unfold evE; have := vlen (zig a.f0); simp only [List.length_append]; omega
theorem lk_len (a : S68) : 1 ≤ (lkE a).length := by unfold lkE; have := vlen a.f0; simp only [List.length_append]; omega
end Go.Proofs.YtkgpnfjmahjlcaaDoor.Wi

namespace Go.Proofs.YtkgpnfjmahjlcaaDoor.Wi
open Go.RowKit Go.Proofs.YtkgpnfjmahjlcaaDoorW.PrintWords Go.Proofs.YtkgpnfjmahjlcaaDoorW.PrintLast Go.Proofs.YtkgpnfjmahjlcaaDoorW.PrintMore Go.Proofs.YtkgpnfjmahjlcaaDoor.Math Go.Proofs.YtkgpnfjmahjlcaaDoor.PAll
set_option linter.unusedVariables false
set_option linter.unusedSimpArgs false

/-- Nothing but the blocks of O has turned; new ones may be there. -/
structure Turn (O : Nat → Prop) (w w1 : World) : Prop where
  os : w1.os = w.os
  tape : w1.tape = w.tape
  output : w1.output = w.output
  size : w.heap.size ≤ w1.heap.size
  block : ∀ k, k < w.heap.size → ¬ O k → w1.heap[k]? = w.heap[k]?

theorem Turn.refl (O : Nat → Prop) (w : World) : Turn O w w := ⟨rfl, rfl, rfl, Nat.le_refl _, fun _ _ _ => rfl⟩
theorem Turn.of_below {O : Nat → Prop} {w w1 : World} (h : Below w.heap.size w w1) : Turn O w w1 := ⟨h.os, h.tape, h.output, h.size, fun k hk _ => h.block k hk⟩
theorem Turn.mono {O O' : Nat → Prop} {w w1 : World} (h : Turn O w w1) (ho : ∀ k, O k → k < w.heap.size → O' k) : Turn O' w w1 := ⟨h.os, h.tape, h.output, h.size, fun k hk hn => h.block k hk fun hO => hn (ho k hO hk)⟩
theorem Turn.trans {O O' : Nat → Prop} {w w1 w2 : World} (h : Turn O w w1) (h2 : Turn O' w1 w2) (ho : ∀ k, O' k → O k ∨ w.heap.size ≤ k) : Turn O w w2 :=
  ⟨h2.os.trans h.os, h2.tape.trans h.tape, h2.output.trans h.output, Nat.le_trans h.size h2.size, fun k hk hn => (h2.block k (Nat.lt_of_lt_of_le hk h.size) fun hO => (ho k hO).elim hn (by omega)).trans (h.block k hk hn)⟩
theorem Turn.of_grown {O : Nat → Prop} {w w1 : World} {row : Option Nat} (h : w.grownBy w1 row) (ho : ∀ k, row = some k → O k) : Turn O w w1 :=
  ⟨h.os, h.tape, h.output, h.size, fun k hk hn => h.block k hk fun e => hn (ho k e.symm)⟩
theorem Turn.set {O : Nat → Prop} (w : World) (p i : Nat) (v : Value) (h : O p) : Turn O w (w.setCell ⟨p, i, none⟩ v) :=
  ⟨rfl, rfl, rfl, by simp [World.setCell], fun k _ hn => Below.heap_setCell w ⟨p, i, none⟩ v k (fun e => hn (by rw [e]; exact h))⟩
theorem Turn.drew {O : Nat → Prop} {w w1 : World} (h : Turn O w w1) : Turn O w w1.drew := ⟨h.os, h.tape, h.output, h.size, h.block⟩
theorem Turn.alloc {O : Nat → Prop} {w w1 : World} (h : Turn O w w1) (o : Obj) : Turn O w (w1.alloc o) :=
  h.trans (Turn.of_below (O := fun _ => False) (below_alloc (Below.refl _ _) o)) (fun k hk => hk.elim)
theorem Turn.then_below {O : Nat → Prop} {w w1 w2 : World} (h : Turn O w w1) (hb : Below w1.heap.size w1 w2) : Turn O w w2 :=
  h.trans (Turn.of_below (O := fun _ => False) hb) (fun k hk => hk.elim)
/-- What lies below stands as it was. -/
theorem below_turn {O : Nat → Prop} {W w w1 : World} (hb : Below W.heap.size W w) (h : Turn O w w1) (ho : ∀ k, O k → W.heap.size ≤ k) : Below W.heap.size W w1 :=
  ⟨h.os.trans hb.os, h.tape.trans hb.tape, h.output.trans hb.output, Nat.le_trans hb.size h.size, fun k hk => (h.block k (Nat.lt_of_lt_of_le hk hb.size) fun hO => by have := ho k hO; omega).trans (hb.block k hk)⟩
theorem blk_turn {O : Nat → Prop} {w w1 : World} (h : Turn O w w1) {k : Nat} {o : Obj} (hk : w.heap[k]? = some o) (hn : ¬ O k) : w1.heap[k]? = some o := (h.block k (blk_lt hk) hn).trans hk
theorem info8 : ∃ i, Tryd.prog.info? 5 = some i ∧ i.size = 1 := by
  obtain ⟨i, hi, hz, hsz, hby⟩ := info_parts info5
  exact ⟨i, hi, hsz⟩
/-- A row that is read stays where its block stays. -/
theorem C_at {α : Type} {k : Kd α} {w w1 : World} {A : Option Addr} {n : Nat} {xs : List α} (h : Kd.C k w A n xs) (hk : ∀ ad, A = some ad → w1.heap[ad.block]? = w.heap[ad.block]?) (hE : k.E = []) (hK : ∀ x cs, k.K w x cs → k.K w1 x cs) : Kd.C k w1 A n xs := by
  obtain ⟨hn, hb, hc⟩ := h
  refine ⟨hn, hb, fun hp => ?_⟩
  obtain ⟨ad, rfl, hcc⟩ := hc hp
  refine ⟨ad, rfl, fun j p hj => ?_⟩
  obtain ⟨c, hcl, hKc, hce⟩ := hcc j p hj
  refine ⟨c, hcl, hK _ _ hKc, fun i u hi => ?_⟩
  rw [← hce i u hi]
  have e : (ad.add (j * k.sz + i)).block = ad.block := by unfold Addr.add; split <;> rfl
  have := hk ad rfl
  rw [← e] at this
  exact World.cell?_of_block this
theorem Ci_at {k : IntKind} {w w1 : World} {A : Option Addr} {n : Nat} {xs : List Int} (h : Kd.C (Kd.int k) w A n xs) (hk : 0 < xs.length → ∀ ad, A = some ad → w1.heap[ad.block]? = w.heap[ad.block]?) : Kd.C (Kd.int k) w1 A n xs := by
  rcases Nat.eq_zero_or_pos xs.length with h0 | h0
  · obtain ⟨hn, hb, hc⟩ := h
    exact ⟨hn, hb, fun hp => by omega⟩
  · exact C_at h (hk h0) rfl (fun _ _ h => h)
/-- A reader: what is left, and whether something was wrong. -/
structure RdS (w : World) (p : Nat) (q : St) (A : Option Addr) (c : Nat) : Prop where
  blk : w.heap[p]? = some (.cells #[.slice A q.1.length c, .bool q.2] 78 (0, 0))
  le : q.1.length ≤ c
  row : Kd.C (Kd.int .u8) w A q.1.length q.1
  off : 0 < q.1.length → ∀ ad, A = some ad → ad.block < p
  isb : IsB q.1
  len : q.1.length ≤ 1000000
def RdE (w : World) (p : Nat) (q : St) : Prop := ∃ A c, RdS w p q A c
/-- The box alone. -/
def RO (p : Nat) : Nat → Prop := fun k => k = p
theorem RdS.turn {w w1 : World} {p : Nat} {q : St} {A : Option Addr} {c : Nat} {O : Nat → Prop} (h : RdS w p q A c) (ht : Turn O w w1) (hp : ¬ O p) (ho : 0 < q.1.length → ∀ ad, A = some ad → ¬ O ad.block) : RdS w1 p q A c := by
  refine ⟨(ht.block p (blk_lt h.blk) hp).trans h.blk, h.le, Ci_at h.row (fun h0 ad hA => ?_), h.off, h.isb, h.len⟩
  obtain ⟨ad', hA', hc⟩ := C_src h.row h0
  rw [hA] at hA'
  injection hA' with hA'
  subst hA'
  have hl : 0 < (q.1.map (Value.int .u8)).length := by rw [List.length_map]; exact h0
  have h2 := hc 0 _ (List.getElem?_eq_getElem hl)
  have h3 := World.block_lt_of_cell? w _ h2
  have e : (ad.add 0).block = ad.block := by unfold Addr.add; split <;> rfl
  rw [e] at h3
  exact ht.block _ h3 (ho h0 ad hA)
theorem RdS.below {w w1 : World} {p : Nat} {q : St} {A : Option Addr} {c : Nat} (h : RdS w p q A c) (hb : Below w.heap.size w w1) : RdS w1 p q A c := h.turn (Turn.of_below (O := fun _ => False) hb) id (fun _ _ _ h => h)
theorem RdS.set {w : World} {p : Nat} {q q' : St} {A A' : Option Addr} {c c' : Nat} (h : RdS w p q A c) {w1 : World} (ht : Turn (RO p) w w1) (hb : w1.heap[p]? = some (.cells #[.slice A' q'.1.length c', .bool q'.2] 78 (0, 0)))
    (hr : Kd.C (Kd.int .u8) w A' q'.1.length q'.1) (hl : q'.1.length ≤ c') (ho : 0 < q'.1.length → ∀ ad, A' = some ad → ad.block < p) (hi : IsB q'.1) (hL : q'.1.length ≤ 1000000) : RdS w1 p q' A' c' := by
  refine ⟨hb, hl, Ci_at hr (fun h0 ad hA => ?_), ho, hi, hL⟩
  obtain ⟨ad', hA', hc⟩ := C_src hr h0
  rw [hA] at hA'
  injection hA' with hA'
  subst hA'
  have hl : 0 < (q'.1.map (Value.int .u8)).length := by rw [List.length_map]; exact h0
  have h2 := hc 0 _ (List.getElem?_eq_getElem hl)
  have h3 := World.block_lt_of_cell? w _ h2
  have e : (ad.add 0).block = ad.block := by unfold Addr.add; split <;> rfl
  rw [e] at h3
  exact ht.block _ h3 (Nat.ne_of_lt (ho h0 ad hA))
theorem RdS.bad {w : World} {p : Nat} {l : List Int} {b : Bool} {A : Option Addr} {c : Nat} (h : RdS w p (l, b) A c) (b' : Bool) : RdS (w.setCell ⟨p, 1, none⟩ (.bool b')) p (l, b') A c :=
  h.set (Turn.set w p 1 _ rfl) (blk_set h.blk 1 _) h.row h.le h.off h.isb h.len
/-- A row that is handed back: it lies in a block above N. -/
def RdV (w : World) (N : Nat) (v : Value) (l : List Int) : Prop := ∃ A c, v = .slice A l.length c ∧ l.length ≤ c ∧ Kd.C (Kd.int .u8) w A l.length l ∧ (0 < l.length → ∀ ad, A = some ad → N ≤ ad.block ∧ ad = ⟨ad.block, 0, none⟩)
theorem RdV.of_R {w : World} {N : Nat} {v : Value} {l : List Int} (h : Kd.R (Kd.int .u8) 5 w N (fun _ => True) v l) : RdV w N v l := by
  obtain ⟨A, c, rfl⟩ := Kd.R_slice h
  obtain ⟨_, hc, hC⟩ := Kd.R_reads' h
  refine ⟨A, c, rfl, hc, hC, fun h0 ad hA => ?_⟩
  subst hA
  obtain ⟨_, inner, ho, _⟩ := h
  refine ⟨own_base ho ad.block rfl, ?_⟩
  rcases ho.2 with ⟨h1, _⟩ | ⟨g, cap, cur, h1, _⟩
  · cases h1
  · injection h1 with h1 _ _
    injection h1 with h1
    rw [h1]
end Go.Proofs.YtkgpnfjmahjlcaaDoor.Wi

namespace Go.Proofs.YtkgpnfjmahjlcaaDoor.NumFacts
set_option linter.unusedVariables false
open Go.RowKit Go.Proofs.YtkgpnfjmahjlcaaDoor.PAll Go.Proofs.YtkgpnfjmahjlcaaDoorW.PrintWords Go.Proofs.YtkgpnfjmahjlcaaDoorW.PrintLast Go.Proofs.YtkgpnfjmahjlcaaDoorW.PrintMore Go.Proofs.YtkgpnfjmahjlcaaDoor.Math Go.Proofs.YtkgpnfjmahjlcaaDoor.Wi

theorem put_l0 (n : Nat) : ∀ (k : Nat) (v : Int) (acc : List Int), 0 ≤ v → v < 128 ^ (n + 1) → n + 1 < k → acc.length + n + 1 < 140737488355328 →
    num_Put.l0 k v acc = some (acc ++ vput v) := by
  induction n with
  | zero =>
    intro k v acc h0 h1 hk ha
    obtain ⟨k, rfl⟩ : ∃ m, k = m + 1 := ⟨k - 1, by omega⟩
    simp only [num_Put.l0]
    have h1' : v < 128 := by simpa using h1
    rw [if_neg (by omega), if_pos (by omega), vput_lt h1', show v % 256 = v by omega]
  | succ n ih =>
    intro k v acc h0 h1 hk ha
    obtain ⟨k, rfl⟩ : ∃ m, k = m + 1 := ⟨k - 1, by omega⟩
    simp only [num_Put.l0]
    by_cases h : 128 ≤ v
    · have h' : v < 128 * (128 : Int) ^ (n + 1) := by rw [Int.pow_succ] at h1; omega
      rw [if_pos (by omega), if_pos (by omega), or128 (by omega) (by omega), ih k (v / 128) _ (by omega) (by omega) (by omega) (by simp; omega), vput_ge h,
        show v % 256 % 128 = v % 128 by omega]
      simp
    · rw [if_neg (by omega), if_pos (by omega), vput_lt (by omega), show v % 256 = v by omega]

theorem put_eq (k : Nat) (v : Int) (h0 : 0 ≤ v) (h1 : v < 18446744073709551616) (hk : 11 ≤ k) : num_Put.f k v = some (vput v) := by
  unfold num_Put.f
  rw [put_l0 9 k v [] h0 (by omega) (by omega) (by simp)]; simp

theorem xor_i64 (a b : Int) : Go.bits .xor .i64 a b = IntKind.i64.wrap ((BitVec.ofInt 64 a ^^^ BitVec.ofInt 64 b).toNat : Int) := rfl
theorem xor_i64_comm (a b : Int) : Go.bits .xor .i64 a b = Go.bits .xor .i64 b a := by rw [xor_i64, xor_i64, BitVec.xor_comm]
theorem xor_i64_zero {x : Int} (h0 : 0 ≤ x) (h1 : x < 9223372036854775808) : Go.bits .xor .i64 x 0 = x := by
  obtain ⟨n, rfl⟩ := Int.eq_ofNat_of_zero_le h0
  rw [xor_i64]
  have h2 : (BitVec.ofInt 64 (n : Int)).toNat = n := by
    rw [BitVec.ofInt_natCast, BitVec.toNat_ofNat]; exact Nat.mod_eq_of_lt (by omega)
  have h3 : BitVec.ofInt 64 (0 : Int) = 0#64 := by decide
  rw [h3, BitVec.xor_zero, h2, IntKind.wrap_i64]; omega
theorem xor_i64_ones {x : Int} (h0 : 0 ≤ x) (h1 : x < 9223372036854775808) : Go.bits .xor .i64 x (-1) = -x - 1 := by
  obtain ⟨n, rfl⟩ := Int.eq_ofNat_of_zero_le h0
  rw [xor_i64_comm, Lib.i64_not n (by omega)]

theorem unsign {v : Int} (h0 : 0 ≤ v) (h1 : v < 18446744073709551616) :
    Go.bits .xor .i64 (wrap64 (v / 2)) (wrap64 (-(wrap64 (Go.bits .and .u64 v 1)))) = zag v := by
  rw [Lib.u64_and1 v h0 h1, wrap_id (x := v / 2) (by omega) (by omega), wrap_id (x := v % 2) (by omega) (by omega), wrap_id (x := -(v % 2)) (by omega) (by omega)]
  unfold zag
  by_cases h : v % 2 = 1
  · rw [if_pos h, h, xor_i64_ones (by omega) (by omega)]
  · rw [if_neg h, show v % 2 = 0 by omega]
    exact xor_i64_zero (by omega) (by omega)

theorem getint_eq (k : Nat) (l : List Int) (hb : IsB l) (hk : 20 < k) : num_GetInt.f k l = some (zag (vget l).1, (vget l).2) := by
  unfold num_GetInt.f
  have b := vget_bounds hb
  rw [get_eq k l hb hk, Option.bind_some, unsign b.1 b.2.1]

theorem sign {v : Int} (h0 : -9223372036854775808 ≤ v) (h1 : v < 9223372036854775808) :
    Go.bits .xor .u64 (IntKind.u64.wrap ((IntKind.u64.wrap v) * 2)) (IntKind.u64.wrap (v / 9223372036854775808)) = zig v := by
  rw [IntKind.wrap_u64, IntKind.wrap_u64, IntKind.wrap_u64]
  unfold zig
  by_cases h : 0 ≤ v
  · rw [if_pos h, u64_xor _ _ (by omega) (by omega) (by omega) (by omega)]
    have e : (v / 9223372036854775808 % 18446744073709551616).toNat = 0 := by omega
    rw [e, Nat.xor_zero]; omega
  · rw [if_neg h, u64_xor _ _ (by omega) (by omega) (by omega) (by omega), Nat.xor_comm]
    have e : (v / 9223372036854775808 % 18446744073709551616).toNat = 2 ^ 64 - 1 := by
      rw [show v / 9223372036854775808 = -1 by omega]; rfl
    rw [e, Lib.xor_ones64 _ (by omega)]; omega

theorem putint_eq (k : Nat) (v : Int) (h0 : -9223372036854775808 ≤ v) (h1 : v < 9223372036854775808) (hk : 11 ≤ k) : num_PutInt.f k v = some (vput (zig v)) := by
  unfold num_PutInt.f
  have b := zig_bounds h0 h1
  rw [sign h0 h1, put_eq k _ b.1 b.2 hk]; rfl

end Go.Proofs.YtkgpnfjmahjlcaaDoor.NumFacts

namespace Go.Proofs.YtkgpnfjmahjlcaaDoor.Wi
open Go.RowKit Go.Proofs.YtkgpnfjmahjlcaaDoorW.PrintWords Go.Proofs.YtkgpnfjmahjlcaaDoorW.PrintLast Go.Proofs.YtkgpnfjmahjlcaaDoorW.PrintMore Go.Proofs.YtkgpnfjmahjlcaaDoor.Math Go.Proofs.YtkgpnfjmahjlcaaDoor.PAll Go.Proofs.YtkgpnfjmahjlcaaDoor.NumFacts
set_option linter.unusedVariables false
set_option linter.unusedSimpArgs false
/-- Cut off ahead: the reader goes on. -/
theorem RdS.drop {w : World} {p : Nat} {l : List Int} {b : Bool} {A : Option Addr} {c n : Nat} (h : RdS w p (l, b) A c) (hn : n ≤ l.length) :
    RdS (w.setCell ⟨p, 0, none⟩ (.slice (if c = n then A else A.map (·.add (n * 1))) (l.length - n) (c - n))) p (l.drop n, b) (if c = n then A else A.map (·.add (n * 1))) (c - n) := by
  have hl : (l.drop n).length = l.length - n := by rw [List.length_drop]
  have hle : l.length ≤ c := h.le
  rw [← hl]
  refine h.set (Turn.set w p 0 _ rfl) (blk_set h.blk 0 _) (Kd.C_drop h.row hn h.le) (by show (l.drop n).length ≤ _; omega) (fun h0 ad hA => ?_) (isB_drop h.isb n) (by show (l.drop n).length ≤ _; have : l.length ≤ 1000000 := h.len; omega)
  split at hA
  · rename_i hc
    have h0 : 0 < (l.drop n).length := h0
    omega
  · cases A with
    | none => cases hA
    | some a =>
      injection hA with hA
      have h0 : 0 < (l.drop n).length := h0
      have := h.off (show 0 < l.length by omega) a rfl
      rw [← hA]
      unfold Addr.add
      split <;> exact this
set_option maxHeartbeats 1000000 in
theorem rnum_calls {w : World} {p : Nat} {q : St} (h : RdE w p q) :
    Calls Tryd.prog 40 #[.pointer (some ⟨p, 0, none⟩)] w fun e w' => e = .returned (.int .u64 (numS q).1) ∧ RdE w' p (numS q).2 ∧ Turn (RO p) w w' := by
  obtain ⟨A, c, h⟩ := h
  obtain ⟨l, b⟩ := q
  have k0 : w.cell? ⟨p, 0, none⟩ = some (.slice A l.length c) := (blk_cell h.blk 0).trans rfl
  have HG := Lib.hid (num_Get.calls 30 A c l (vget l).1 (vget l).2 w h.row h.le (get_eq 30 l h.isb (by decide)))
  have hB : IsB l := h.isb
  obtain ⟨n, hn⟩ : ∃ n : Nat, (vget l).2 = (n : Int) := ⟨(vget l).2.toNat, by have := (vget_bounds hB).2.2.1; omega⟩
  have hnl : n ≤ l.length := by have := (vget_bounds hB).2.2.2.2; omega
  have HH := Lib.hid h
  have HNL := Lib.hid hnl
  have HE := Lib.hid (show numS (l, b) = ((vget l).1, if b || (n : Int) == 0 then (l, true) else (l.drop n, false)) by
    unfold numS
    rw [hn, Int.toNat_natCast])
  rw [hn] at HG
  rw [HE.out]
  generalize (vget l).1 = v at HG ⊢
  clear h hn hnl HE
  go_enter Tryd.func40, Tryd.ntmps40
  go_wp2_with fail
  refine HG.out.mono ?_
  rintro e w1 ⟨rfl, hb⟩
  have h1 := HH.out.below hb
  have ht1 : Turn (RO p) w w1 := Turn.of_below hb
  have k1 : w1.cell? ⟨p, 1, none⟩ = some (.bool b) := (blk_cell h1.blk 1).trans rfl
  have f1 := blk_frozen h1.blk 1
  have f0 := blk_frozen h1.blk 0
  obtain ⟨z, hz⟩ : ∃ z, (b || (n : Int) == 0) = z := ⟨_, rfl⟩
  have h2 := h1.bad z
  have ht2 : Turn (RO p) w (w1.setCell ⟨p, 1, none⟩ (.bool z)) := ht1.trans (Turn.set (O := RO p) _ p 1 _ rfl) (fun k hk => .inl hk)
  have k2 : (w1.setCell ⟨p, 1, none⟩ (.bool z)).cell? ⟨p, 1, none⟩ = some (.bool z) := (blk_cell h2.blk 1).trans rfl
  have k3 : (w1.setCell ⟨p, 1, none⟩ (.bool z)).cell? ⟨p, 0, none⟩ = some (.slice A l.length c) := (blk_cell h2.blk 0).trans rfl
  have f2 := blk_frozen h2.blk 0
  have hd := h2.drop HNL.out
  obtain ⟨A', hA'⟩ : ∃ A', (if c = n then A else A.map (·.add (n * 1))) = A' := ⟨_, rfl⟩
  have ht3 := ht2.trans (Turn.set (O := RO p) _ p 0 (.slice (if c = n then A else A.map (·.add (n * 1))) (l.length - n) (c - n)) rfl) (fun k hk => .inl hk)
  have HD := Lib.hid hd
  have HT3 := Lib.hid ht3
  have HT2 := Lib.hid ht2
  have H2 := Lib.hid h2
  obtain ⟨i, hi, hsz⟩ := info8
  have kc := cut_from (P := Tryd.prog) 30 5 .i64 Tryd.underlying30 hi 1 hsz A l.length c (n : Int) (by omega) (by have := HNL.out; omega)
  rw [Int.toNat_natCast, hA'] at kc
  rw [hA'] at HD HT3
  clear hA' hd ht3 ht2 h2 h1 ht1 hb hi hsz HH HG
  obtain ⟨y, hy⟩ : ∃ y, ((n : Int) == 0) = y := ⟨_, rfl⟩
  rw [hy] at hz
  cases b <;> cases y <;> simp only [Bool.false_or, Bool.true_or] at hz <;> subst hz
  all_goals go_wp2
  all_goals
    go_ret
    first
    | exact ⟨rfl, ⟨_, _, H2.out⟩, HT2.out⟩
    | exact ⟨rfl, ⟨_, _, HD.out⟩, HT3.out⟩
set_option maxHeartbeats 1000000 in
theorem rsig_calls {w : World} {p : Nat} {q : St} (h : RdE w p q) :
    Calls Tryd.prog 42 #[.pointer (some ⟨p, 0, none⟩)] w fun e w' => e = .returned (.int .i64 (sigS q).1) ∧ RdE w' p (sigS q).2 ∧ Turn (RO p) w w' := by
  obtain ⟨A, c, h⟩ := h
  obtain ⟨l, b⟩ := q
  have k0 : w.cell? ⟨p, 0, none⟩ = some (.slice A l.length c) := (blk_cell h.blk 0).trans rfl
  have HG := Lib.hid (num_GetInt.calls 30 A c l (zag (vget l).1) (vget l).2 w h.row h.le (getint_eq 30 l h.isb (by decide)))
  have hB : IsB l := h.isb
  obtain ⟨n, hn⟩ : ∃ n : Nat, (vget l).2 = (n : Int) := ⟨(vget l).2.toNat, by have := (vget_bounds hB).2.2.1; omega⟩
  have hnl : n ≤ l.length := by have := (vget_bounds hB).2.2.2.2; omega
  have HH := Lib.hid h
  have HNL := Lib.hid hnl
  have HE := Lib.hid (show sigS (l, b) = (zag (vget l).1, if b || (n : Int) == 0 then (l, true) else (l.drop n, false)) by
    unfold sigS numS
    rw [hn, Int.toNat_natCast])
  rw [hn] at HG
  rw [HE.out]
  generalize zag (vget l).1 = v at HG ⊢
  clear h hn hnl HE
  go_enter Tryd.func42, Tryd.ntmps42
  go_wp2_with fail
  refine HG.out.mono ?_
  rintro e w1 ⟨rfl, hb⟩
  have h1 := HH.out.below hb
  have ht1 : Turn (RO p) w w1 := Turn.of_below hb
  have k1 : w1.cell? ⟨p, 1, none⟩ = some (.bool b) := (blk_cell h1.blk 1).trans rfl
  have f1 := blk_frozen h1.blk 1
  have f0 := blk_frozen h1.blk 0
  obtain ⟨z, hz⟩ : ∃ z, (b || (n : Int) == 0) = z := ⟨_, rfl⟩
  have h2 := h1.bad z
  have ht2 : Turn (RO p) w (w1.setCell ⟨p, 1, none⟩ (.bool z)) := ht1.trans (Turn.set (O := RO p) _ p 1 _ rfl) (fun k hk => .inl hk)
  have k2 : (w1.setCell ⟨p, 1, none⟩ (.bool z)).cell? ⟨p, 1, none⟩ = some (.bool z) := (blk_cell h2.blk 1).trans rfl
  have k3 : (w1.setCell ⟨p, 1, none⟩ (.bool z)).cell? ⟨p, 0, none⟩ = some (.slice A l.length c) := (blk_cell h2.blk 0).trans rfl
  have f2 := blk_frozen h2.blk 0
  have hd := h2.drop HNL.out
  obtain ⟨A', hA'⟩ : ∃ A', (if c = n then A else A.map (·.add (n * 1))) = A' := ⟨_, rfl⟩
  have ht3 := ht2.trans (Turn.set (O := RO p) _ p 0 (.slice (if c = n then A else A.map (·.add (n * 1))) (l.length - n) (c - n)) rfl) (fun k hk => .inl hk)
  have HD := Lib.hid hd
  have HT3 := Lib.hid ht3
  have HT2 := Lib.hid ht2
  have H2 := Lib.hid h2
  obtain ⟨i, hi, hsz⟩ := info8
  have kc := cut_from (P := Tryd.prog) 30 5 .i64 Tryd.underlying30 hi 1 hsz A l.length c (n : Int) (by omega) (by have := HNL.out; omega)
  rw [Int.toNat_natCast, hA'] at kc
  rw [hA'] at HD HT3
  clear hA' hd ht3 ht2 h2 h1 ht1 hb hi hsz HH HG
  obtain ⟨y, hy⟩ : ∃ y, ((n : Int) == 0) = y := ⟨_, rfl⟩
  rw [hy] at hz
  cases b <;> cases y <;> simp only [Bool.false_or, Bool.true_or] at hz <;> subst hz
  all_goals go_wp2
  all_goals
    go_ret
    first
    | exact ⟨rfl, ⟨_, _, H2.out⟩, HT2.out⟩
    | exact ⟨rfl, ⟨_, _, HD.out⟩, HT3.out⟩
set_option maxHeartbeats 1000000 in
theorem rsize_calls {w : World} {p : Nat} {q : St} (h : RdE w p q) {most : Int} (h0 : 0 ≤ most) (h1 : most < 9223372036854775808) :
    Calls Tryd.prog 43 #[.pointer (some ⟨p, 0, none⟩), .int .i64 most] w fun e w' => e = .returned (.int .i64 (sizeS most q).1) ∧ RdE w' p (sizeS most q).2 ∧ Turn (RO p) w w' := by
  have hw : IntKind.u64.wrap most = most := by rw [IntKind.wrap_u64]; omega
  have HN := Lib.hid (rnum_calls h)
  have hi := h.choose_spec.choose_spec.isb
  have hv : 0 ≤ (numS q).1 := (vget_bounds hi).1
  by_cases hc : (numS q).1 > most
  · have HS := Lib.hid (show sizeS most q = (0, ((numS q).2.1, true)) by unfold sizeS; rw [if_pos hc])
    rw [HS.out]
    have d1 : decide ((numS q).1 > most) = true := decide_eq_true hc
    have d2 : decide (most < (numS q).1) = true := decide_eq_true hc
    obtain ⟨q2, hq2⟩ : ∃ q2, (numS q).2 = q2 := ⟨_, rfl⟩
    rw [hq2] at HN ⊢
    generalize (numS q).1 = v at HN d1 d2 hc hv ⊢
    clear h hi h0 h1 hv hc hq2 HS
    go_enter Tryd.func43, Tryd.ntmps43
    go_wp2_with fail
    refine HN.out.mono ?_
    rintro e w1 ⟨rfl, ⟨A, c, hr⟩, ht⟩
    obtain ⟨l, b⟩ := q2
    have k1 : w1.cell? ⟨p, 1, none⟩ = some (.bool b) := (blk_cell hr.blk 1).trans rfl
    have f1 := blk_frozen hr.blk 1
    have HR := Lib.hid (hr.bad true)
    have HT := Lib.hid (ht.trans (Turn.set (O := RO p) w1 p 1 (.bool true) rfl) (fun k hk => .inl hk))
    clear hr ht
    go_wp2
    go_ret
    exact ⟨rfl, ⟨_, _, HR.out⟩, HT.out⟩
  · have HS := Lib.hid (show sizeS most q = numS q by unfold sizeS; rw [if_neg hc])
    rw [HS.out]
    have d1 : decide ((numS q).1 > most) = false := decide_eq_false hc
    have d2 : decide (most < (numS q).1) = false := decide_eq_false hc
    have hw2 : wrap64 (numS q).1 = (numS q).1 := by unfold wrap64; omega
    generalize (numS q).1 = v at HN d1 d2 hc hv hw2 ⊢
    clear h hi h0 h1 hv hc
    go_enter Tryd.func43, Tryd.ntmps43
    go_wp2_with fail
    refine HN.out.mono ?_
    rintro e w1 ⟨rfl, hr, ht⟩
    have HR := Lib.hid hr
    have HT := Lib.hid ht
    clear hr ht
    go_wp2
    go_ret
    exact ⟨by rw [hw2]; rfl, HR.out, HT.out⟩
end Go.Proofs.YtkgpnfjmahjlcaaDoor.Wi

namespace Go.Proofs.YtkgpnfjmahjlcaaDoor.Wi
open Go.RowKit Go.Proofs.YtkgpnfjmahjlcaaDoorW.PrintWords Go.Proofs.YtkgpnfjmahjlcaaDoorW.PrintLast Go.Proofs.YtkgpnfjmahjlcaaDoorW.PrintMore Go.Proofs.YtkgpnfjmahjlcaaDoor.Math Go.Proofs.YtkgpnfjmahjlcaaDoor.PAll Go.Proofs.YtkgpnfjmahjlcaaDoor.NumFacts
attribute [local go_sem] min2_int min_two
set_option linter.unusedVariables false
set_option linter.unusedSimpArgs false
set_option maxHeartbeats 1000000 in
theorem take_bad {w : World} {p : Nat} {l : List Int} {b : Bool} (h : RdE w p (l, b)) {n : Int} (h0 : 0 ≤ n) (hb : b = true ∨ n > (l.length : Int)) :
    Calls Tryd.prog 65 #[.pointer (some ⟨p, 0, none⟩), .int .i64 n] w fun e w' => ∃ v, e = .returned v ∧ RdV w' w.heap.size v (List.replicate (min n 1).toNat 0) ∧ RdE w' p (l, true) ∧ Turn (RO p) w w' := by
  obtain ⟨A, c, h⟩ := h
  have k0 : w.cell? ⟨p, 0, none⟩ = some (.slice A l.length c) := (blk_cell h.blk 0).trans rfl
  have k1 : w.cell? ⟨p, 1, none⟩ = some (.bool b) := (blk_cell h.blk 1).trans rfl
  have f1 := blk_frozen h.blk 1
  have h2 := h.bad true
  have t2 : Turn (RO p) w (w.setCell ⟨p, 1, none⟩ (.bool true)) := Turn.set w p 1 _ rfl
  obtain ⟨m, hm⟩ : ∃ m : Nat, (if 1 < n then 1 else n) = (m : Int) := ⟨(if 1 < n then 1 else n).toNat, by split <;> omega⟩
  have hm2 : (min n 1).toNat = m := by split at hm <;> omega
  have hm1 : m ≤ 1 := by split at hm <;> omega
  rw [hm2]
  obtain ⟨ZV, hZV⟩ : ∃ ZV : List Value, ZV = (List.replicate m (0 : Int)).map (Value.int .u8) := ⟨_, rfl⟩
  have hmk := run_make_zeros (P := Tryd.prog) 30 5 .u8 Tryd.underlying30 info5 m (by omega) (m : Int) rfl ZV hZV
  have h3 := h2.below (below_alloc (Below.refl _ _) (.cells ZV.toArray 5))
  have t3 := t2.alloc (.cells ZV.toArray 5)
  have hv : RdV ((w.setCell ⟨p, 1, none⟩ (.bool true)).alloc (.cells ZV.toArray 5)) w.heap.size (.slice (some ⟨(w.setCell ⟨p, 1, none⟩ (.bool true)).heap.size, 0, none⟩) m m) (List.replicate m 0) := by
    have hb := heap_alloc_new (w.setCell ⟨p, 1, none⟩ (.bool true)) (.cells ZV.toArray 5)
    rw [hZV] at hb ⊢
    exact RdV.of_R (R_block (base := w.heap.size) (List.replicate m (0 : Int)) (n := m) List.length_replicate (by omega) t2.size hb)
  have HV := Lib.hid hv
  have H3 := Lib.hid h3
  have T3 := Lib.hid t3
  clear h h2 h3 t2 t3 hv hZV hm2 hm1 h0
  obtain ⟨g, hg⟩ : ∃ g, (w.setCell ⟨p, 1, none⟩ (.bool true)).heap.size = g := ⟨_, rfl⟩
  rw [hg] at HV
  rcases hb with rfl | hb
  · go_enter Tryd.func65, Tryd.ntmps65
    go_wp2
    all_goals
      go_ret
      exact ⟨_, rfl, HV.out, ⟨_, _, H3.out⟩, T3.out⟩
  · have d1 : decide (n > (l.length : Int)) = true := decide_eq_true hb
    have d2 : decide ((l.length : Int) < n) = true := decide_eq_true hb
    cases b
    all_goals
      go_enter Tryd.func65, Tryd.ntmps65
      go_wp2
      all_goals
        go_ret
        exact ⟨_, rfl, HV.out, ⟨_, _, H3.out⟩, T3.out⟩
set_option maxHeartbeats 1000000 in
theorem take_ok {w : World} {p : Nat} {l : List Int} (h : RdE w p (l, false)) {n : Nat} (hn : n ≤ l.length) :
    Calls Tryd.prog 65 #[.pointer (some ⟨p, 0, none⟩), .int .i64 n] w fun e w' => ∃ v, e = .returned v ∧ RdV w' w.heap.size v (l.take n) ∧ RdE w' p (l.drop n, false) ∧ Turn (RO p) w w' := by
  obtain ⟨A, c, h⟩ := h
  have hle : l.length ≤ c := h.le
  have hlen : l.length ≤ 1000000 := h.len
  have k0 : w.cell? ⟨p, 0, none⟩ = some (.slice A l.length c) := (blk_cell h.blk 0).trans rfl
  have k1 : w.cell? ⟨p, 1, none⟩ = some (.bool false) := (blk_cell h.blk 1).trans rfl
  have f0 := blk_frozen h.blk 0
  obtain ⟨i, hi, hsz⟩ := info8
  have kc := cut_to3 (P := Tryd.prog) 30 5 .i64 .i64 Tryd.underlying30 hi A l.length c (n : Int) (n : Int) (by omega) (by omega) (by omega)
  have kd := cut_from (P := Tryd.prog) 30 5 .i64 Tryd.underlying30 hi 1 hsz A l.length c (n : Int) (by omega) (by omega)
  rw [Int.toNat_natCast] at kc kd
  have h2 := h.drop hn
  have t2 : Turn (RO p) w (w.setCell ⟨p, 0, none⟩ (.slice (if c = n then A else A.map (·.add (n * 1))) (l.length - n) (c - n))) := Turn.set w p 0 _ rfl
  obtain ⟨A', hA'⟩ : ∃ A', (if c = n then A else A.map (·.add (n * 1))) = A' := ⟨_, rfl⟩
  rw [hA'] at kd h2 t2
  have hlt : (l.take n).length = n := by rw [List.length_take]; omega
  have hr : Kd.C (Kd.int .u8) (w.setCell ⟨p, 0, none⟩ (.slice A' (l.length - n) (c - n))) A (l.take n).length (l.take n) :=
    Kd.C_take (Ci_at h.row fun h0 ad hA => by
      have := h.off h0 ad hA
      exact Below.heap_setCell w ⟨p, 0, none⟩ _ _ (Nat.ne_of_lt this)) hn
  have HC := Lib.hid (bytes_Clone.calls A n (l.take n) (l.take n) _ hr (by omega) (by unfold bytes_Clone.f; rw [if_pos (by omega)]))
  rw [hlt] at HC
  have H2 := Lib.hid h2
  have T2 := Lib.hid t2
  have HS := Lib.hid (show w.heap.size ≤ (w.setCell ⟨p, 0, none⟩ (.slice A' (l.length - n) (c - n))).heap.size from t2.size)
  have d1 : decide ((n : Int) > (l.length : Int)) = false := decide_eq_false (by omega)
  have d2 : decide ((l.length : Int) < (n : Int)) = false := decide_eq_false (by omega)
  have d3 : decide (l.length < n) = false := decide_eq_false (by omega)
  clear h h2 t2 hA' hlt hr hi hsz hle hlen hn
  go_enter Tryd.func65, Tryd.ntmps65
  go_wp2_with fail
  refine HC.out.mono ?_
  rintro e w1 ⟨v, rfl, hR, hb⟩
  have H3 := Lib.hid (H2.out.below hb)
  have T3 := Lib.hid (T2.out.then_below hb)
  have HV := Lib.hid (RdV.of_R (Kd.R_lower hR HS.out))
  clear hR hb
  go_wp2
  go_ret
  exact ⟨_, rfl, HV.out, ⟨_, _, H3.out⟩, T3.out⟩
/-- So many bytes. -/
theorem rtake_calls {w : World} {p : Nat} {q : St} (h : RdE w p q) {n : Int} (h0 : 0 ≤ n) :
    Calls Tryd.prog 65 #[.pointer (some ⟨p, 0, none⟩), .int .i64 n] w fun e w' => ∃ v, e = .returned v ∧ RdV w' w.heap.size v (takeS n q).1 ∧ RdE w' p (takeS n q).2 ∧ Turn (RO p) w w' := by
  obtain ⟨l, b⟩ := q
  by_cases hc : b = true ∨ n > (l.length : Int)
  · have e : takeS n (l, b) = (List.replicate (min n 1).toNat 0, (l, true)) := by unfold takeS; rw [if_pos hc]
    rw [e]
    exact take_bad h h0 hc
  · have e : takeS n (l, b) = (l.take n.toNat, (l.drop n.toNat, false)) := by unfold takeS; rw [if_neg hc]
    rw [e]
    have hb : b = false := by
      cases b with
      | false => rfl
      | true => exact absurd (Or.inl rfl) hc
    subst hb
    obtain ⟨m, rfl⟩ : ∃ m : Nat, n = (m : Int) := ⟨n.toNat, by omega⟩
    rw [Int.toNat_natCast]
    exact take_ok h (by have := fun x => hc (Or.inr x); omega)
set_option maxHeartbeats 1000000 in
theorem rrow_calls {w : World} {p : Nat} {q : St} (h : RdE w p q) :
    Calls Tryd.prog 41 #[.pointer (some ⟨p, 0, none⟩)] w fun e w' => ∃ v, e = .returned v ∧ RdV w' w.heap.size v (rowS q).1 ∧ RdE w' p (rowS q).2 ∧ Turn (RO p) w w' := by
  obtain ⟨A, c, h'⟩ := id h
  obtain ⟨l, b⟩ := q
  have hlen : l.length ≤ 1000000 := h'.len
  have k0 : w.cell? ⟨p, 0, none⟩ = some (.slice A l.length c) := (blk_cell h'.blk 0).trans rfl
  have HS := Lib.hid (rsize_calls h (most := (l.length : Int)) (by omega) (by omega))
  have h0 : 0 ≤ (sizeS (l.length : Int) (l, b)).1 := by
    unfold sizeS
    split
    · exact Int.le_refl 0
    · exact (vget_bounds h'.isb).1
  have HE := Lib.hid (show rowS (l, b) = takeS (sizeS (l.length : Int) (l, b)).1 (sizeS (l.length : Int) (l, b)).2 from rfl)
  rw [HE.out]
  obtain ⟨q2, hq2⟩ : ∃ q2, (sizeS (l.length : Int) (l, b)).2 = q2 := ⟨_, rfl⟩
  rw [hq2] at HS ⊢
  generalize (sizeS (l.length : Int) (l, b)).1 = v at HS h0 ⊢
  have H0 := Lib.hid h0
  clear h h' hlen HE hq2 h0
  go_enter Tryd.func41, Tryd.ntmps41
  go_wp2_with fail
  refine HS.out.mono ?_
  rintro e w1 ⟨rfl, hr, ht⟩
  have HR := Lib.hid hr
  have HT := Lib.hid ht
  clear hr ht
  go_wp2_with fail
  refine (rtake_calls HR.out H0.out).mono ?_
  rintro e w2 ⟨u, rfl, hV, hr, ht⟩
  have HV := Lib.hid hV
  have HR2 := Lib.hid hr
  have HT2 := Lib.hid (HT.out.trans ht (fun k hk => .inl hk))
  clear hV hr ht
  go_wp2
  go_ret
  obtain ⟨A2, c2, rfl, hc2, hC2, ho2⟩ := HV.out
  exact ⟨_, rfl, ⟨A2, c2, rfl, hc2, hC2, fun h0 ad hA => ⟨Nat.le_trans HT.out.size (ho2 h0 ad hA).1, (ho2 h0 ad hA).2⟩⟩, HR2.out, HT2.out⟩
end Go.Proofs.YtkgpnfjmahjlcaaDoor.Wi

namespace Go.Proofs.YtkgpnfjmahjlcaaDoor.Wi
open Go.RowKit Go.Proofs.YtkgpnfjmahjlcaaDoorW.PrintWords Go.Proofs.YtkgpnfjmahjlcaaDoorW.PrintLast Go.Proofs.YtkgpnfjmahjlcaaDoorW.PrintMore Go.Proofs.YtkgpnfjmahjlcaaDoor.Math Go.Proofs.YtkgpnfjmahjlcaaDoor.PAll Go.Proofs.YtkgpnfjmahjlcaaDoor.NumFacts
set_option linter.unusedVariables false
set_option linter.unusedSimpArgs false
theorem run_str {w : World} {A : Option Addr} {n c : Nat} {xs : List Int} (h : (Kd.int .u8).C w A n xs) : (Go.convert 30 9 (.slice A n c)).run Tryd.prog w = .ok (.string (strOfNums xs)) w :=
  Kd.C_string Tryd.underlying30 Tryd.underlying5 Tryd.underlying9 h
/-- A box of one's own turned: the reader stays. -/
theorem RdE.keep {w w1 : World} {p g : Nat} {q : St} (h : RdE w p q) (hp : p < g) (ht : Turn (RO g) w w1) : RdE w1 p q := by
  obtain ⟨A, c, h⟩ := h
  exact ⟨A, c, h.turn ht (by unfold RO; omega) (fun h0 ad hA => by have := h.off h0 ad hA; unfold RO; omega)⟩
theorem Turn.keep {w w1 w2 : World} {p g : Nat} (h : Turn (RO p) w w1) (hg : w.heap.size ≤ g) (ht : Turn (RO g) w1 w2) : Turn (RO p) w w2 := h.trans ht (fun k hk => .inr (by unfold RO at hk; omega))
theorem box_out {w w2 : World} {p g : Nat} {q : St} (h : RdE w2 p q) (ht : Turn (RO p) w w2) (hg : w.heap.size = g) (hpg : p < g) (x y : Value) :
    RdE ((w2.setCell ⟨g, 0, none⟩ x).setCell ⟨g, 1, none⟩ y) p q ∧ Turn (RO p) w ((w2.setCell ⟨g, 0, none⟩ x).setCell ⟨g, 1, none⟩ y) := by
  have t2 : Turn (RO g) w2 ((w2.setCell ⟨g, 0, none⟩ x).setCell ⟨g, 1, none⟩ y) := (Turn.set (O := RO g) w2 g 0 x rfl).trans (Turn.set (O := RO g) _ g 1 y rfl) (fun k hk => .inl hk)
  exact ⟨h.keep hpg t2, Turn.keep ht (Nat.le_of_eq hg) t2⟩
set_option maxHeartbeats 1000000 in
theorem rev_calls {w : World} {p : Nat} {q : St} (h : RdE w p q) :
    Calls Tryd.prog 47 #[.pointer (some ⟨p, 0, none⟩)] w fun e w' => e = .returned (.agg #[.int .i64 (evS q).1.f0, .string (evS q).1.f1]) ∧ RdE w' p (evS q).2 ∧ Turn (RO p) w w' := by
  obtain ⟨g, hg⟩ : ∃ g, w.heap.size = g := ⟨_, rfl⟩
  have hpl : p < g := by
    obtain ⟨A, c, h'⟩ := h
    have := blk_lt h'.blk
    omega
  have hpg : ¬ RO p g := by unfold RO; omega
  have hb0 := below_alloc (Below.refl w.heap.size w) (.cells #[.int .i64 0, .string ⟨#[]⟩] 55)
  have k0 := heap_alloc_new w (.cells #[.int .i64 0, .string ⟨#[]⟩] 55)
  have hE : RdE (w.alloc (.cells #[.int .i64 0, .string ⟨#[]⟩] 55)) p q := by
    obtain ⟨A, c, h'⟩ := h
    exact ⟨A, c, h'.below hb0⟩
  have HT0 := Lib.hid (Turn.of_below (O := RO p) hb0)
  rw [hg] at k0
  have e : evS q = (⟨(sigS q).1, (strOfNums (rowS (sigS q).2).1)⟩, (rowS (sigS q).2).2) := rfl
  rw [e]
  obtain ⟨q2, hq2⟩ : ∃ q2, (sigS q).2 = q2 := ⟨_, rfl⟩
  have HS := Lib.hid (rsig_calls hE)
  rw [hq2] at HS ⊢
  generalize (sigS q).1 = v at HS ⊢
  clear h hq2 e hE hb0
  obtain ⟨w0, hw0⟩ : ∃ w0, w.alloc (.cells #[.int .i64 0, .string ⟨#[]⟩] 55) = w0 := ⟨_, rfl⟩
  rw [hw0] at HS HT0 k0
  go_enter Tryd.func47, Tryd.ntmps47
  go_wp2_with fail
  refine HS.out.mono ?_
  rintro e w1 ⟨rfl, hr, ht⟩
  have HR := Lib.hid hr
  have k1 := blk_turn ht k0 hpg
  have HT := Lib.hid (HT0.out.trans ht (fun k hk => .inl hk))
  clear hr ht k0
  go_wp2_with fail
  refine (rrow_calls HR.out).mono ?_
  rintro e w2 ⟨u, rfl, ⟨A2, c2, rfl, hc2, hC2, ho2⟩, hr, ht⟩
  have ks := run_str (c := c2) hC2
  have HR2 := Lib.hid hr
  have k2 := blk_turn ht k1 hpg
  have HT2 := Lib.hid (HT.out.trans ht (fun k hk => .inl hk))
  have a0 := (blk_cell k2 0).trans rfl
  have a1 := (blk_cell k2 1).trans rfl
  have f0 := blk_frozen k2 0
  have f1 := blk_frozen k2 1
  have k3 := blk_set k2 0 (.int .i64 v)
  have k4 := blk_set k3 1 (.string (strOfNums (rowS q2).1))
  have b1 := blk_frozen k3 1
  have c0 : ((w2.setCell ⟨g, 0, none⟩ (.int .i64 v)).setCell ⟨g, 1, none⟩ (.string (strOfNums (rowS q2).1))).cell? ⟨g, 0, none⟩ = some (.int .i64 v) := (blk_cell k4 0).trans rfl
  have c1 : ((w2.setCell ⟨g, 0, none⟩ (.int .i64 v)).setCell ⟨g, 1, none⟩ (.string (strOfNums (rowS q2).1))).cell? ⟨g, 1, none⟩ = some (.string (strOfNums (rowS q2).1)) := (blk_cell k4 1).trans rfl
  have HF := Lib.hid (box_out HR2.out HT2.out hg hpl (.int .i64 v) (.string (strOfNums (rowS q2).1)))
  have HK := Lib.hid k4
  clear hr ht hC2 ho2 hc2 k4
  go_wp2
  have hi : (Tryd.prog.info? 55).map (·.size) = some 2 := by kernel_rfl
  exact bodyPost_ret (v := .agg _) (results_cell_row rfl _ _ g 55 _ (0, 0) _ rfl HK.out Tryd.underlying55 rfl hi) rfl ⟨rfl, HF.out⟩
set_option maxHeartbeats 1000000 in
theorem rlk_calls {w : World} {p : Nat} {q : St} (h : RdE w p q) :
    Calls Tryd.prog 49 #[.pointer (some ⟨p, 0, none⟩)] w fun e w' => e = .returned (.agg #[.int .u64 (lkS q).1.f0, .int .u64 (lkS q).1.f1]) ∧ RdE w' p (lkS q).2 ∧ Turn (RO p) w w' := by
  obtain ⟨g, hg⟩ : ∃ g, w.heap.size = g := ⟨_, rfl⟩
  have hpl : p < g := by
    obtain ⟨A, c, h'⟩ := h
    have := blk_lt h'.blk
    omega
  have hpg : ¬ RO p g := by unfold RO; omega
  have hb0 := below_alloc (Below.refl w.heap.size w) (.cells #[.int .u64 0, .int .u64 0] 68)
  have k0 := heap_alloc_new w (.cells #[.int .u64 0, .int .u64 0] 68)
  have hE : RdE (w.alloc (.cells #[.int .u64 0, .int .u64 0] 68)) p q := by
    obtain ⟨A, c, h'⟩ := h
    exact ⟨A, c, h'.below hb0⟩
  have HT0 := Lib.hid (Turn.of_below (O := RO p) hb0)
  rw [hg] at k0
  have e : lkS q = (⟨(numS q).1, (numS (numS q).2).1⟩, (numS (numS q).2).2) := rfl
  rw [e]
  obtain ⟨q2, hq2⟩ : ∃ q2, (numS q).2 = q2 := ⟨_, rfl⟩
  have HS := Lib.hid (rnum_calls hE)
  rw [hq2] at HS ⊢
  generalize (numS q).1 = v at HS ⊢
  clear h hq2 e hE hb0
  obtain ⟨w0, hw0⟩ : ∃ w0, w.alloc (.cells #[.int .u64 0, .int .u64 0] 68) = w0 := ⟨_, rfl⟩
  rw [hw0] at HS HT0 k0
  go_enter Tryd.func49, Tryd.ntmps49
  go_wp2_with fail
  refine HS.out.mono ?_
  rintro e w1 ⟨rfl, hr, ht⟩
  have HR := Lib.hid hr
  have k1 := blk_turn ht k0 hpg
  have HT := Lib.hid (HT0.out.trans ht (fun k hk => .inl hk))
  clear hr ht k0
  go_wp2_with fail
  refine (rnum_calls HR.out).mono ?_
  rintro e w2 ⟨rfl, hr, ht⟩
  have HR2 := Lib.hid hr
  have k2 := blk_turn ht k1 hpg
  have HT2 := Lib.hid (HT.out.trans ht (fun k hk => .inl hk))
  have a0 := (blk_cell k2 0).trans rfl
  have a1 := (blk_cell k2 1).trans rfl
  have f0 := blk_frozen k2 0
  have f1 := blk_frozen k2 1
  have k3 := blk_set k2 0 (.int .u64 v)
  have k4 := blk_set k3 1 (.int .u64 (numS q2).1)
  have b1 := blk_frozen k3 1
  have c0 : ((w2.setCell ⟨g, 0, none⟩ (.int .u64 v)).setCell ⟨g, 1, none⟩ (.int .u64 (numS q2).1)).cell? ⟨g, 0, none⟩ = some (.int .u64 v) := (blk_cell k4 0).trans rfl
  have c1 : ((w2.setCell ⟨g, 0, none⟩ (.int .u64 v)).setCell ⟨g, 1, none⟩ (.int .u64 (numS q2).1)).cell? ⟨g, 1, none⟩ = some (.int .u64 (numS q2).1) := (blk_cell k4 1).trans rfl
  have HF := Lib.hid (box_out HR2.out HT2.out hg hpl (.int .u64 v) (.int .u64 (numS q2).1))
  have HK := Lib.hid k4
  clear hr ht k4
  go_wp2
  have hi : (Tryd.prog.info? 68).map (·.size) = some 2 := by kernel_rfl
  exact bodyPost_ret (v := .agg _) (results_cell_row rfl _ _ g 68 _ (0, 0) _ rfl HK.out Tryd.underlying68 rfl hi) rfl ⟨rfl, HF.out⟩
end Go.Proofs.YtkgpnfjmahjlcaaDoor.Wi

namespace Go.Proofs.YtkgpnfjmahjlcaaDoor.Wi
open Go.RowKit Go.Proofs.YtkgpnfjmahjlcaaDoorW.PrintWords Go.Proofs.YtkgpnfjmahjlcaaDoorW.PrintLast Go.Proofs.YtkgpnfjmahjlcaaDoorW.PrintMore Go.Proofs.YtkgpnfjmahjlcaaDoor.Math Go.Proofs.YtkgpnfjmahjlcaaDoor.PAll Go.Proofs.YtkgpnfjmahjlcaaDoor.NumFacts
set_option linter.unusedVariables false
set_option linter.unusedSimpArgs false
theorem cb5 {w : World} {g : Nat} {t : TypeId} {x0 x1 x2 x3 x4 : Value} (h : w.heap[g]? = some (.cells #[x0, x1, x2, x3, x4] t (0, 0))) : w.cell? ⟨g, 0, none⟩ = some x0 ∧ w.cell? ⟨g, 1, none⟩ = some x1 ∧ w.cell? ⟨g, 2, none⟩ = some x2 ∧ w.cell? ⟨g, 3, none⟩ = some x3 ∧ w.cell? ⟨g, 4, none⟩ = some x4 ∧ w.frozen? ⟨g, 0, none⟩ = false ∧ w.frozen? ⟨g, 1, none⟩ = false ∧ w.frozen? ⟨g, 2, none⟩ = false ∧ w.frozen? ⟨g, 3, none⟩ = false ∧ w.frozen? ⟨g, 4, none⟩ = false :=
  ⟨(blk_cell h 0).trans rfl, (blk_cell h 1).trans rfl, (blk_cell h 2).trans rfl, (blk_cell h 3).trans rfl, (blk_cell h 4).trans rfl, blk_frozen h 0, blk_frozen h 1, blk_frozen h 2, blk_frozen h 3, blk_frozen h 4⟩
/-- Five cells of a box turned. -/
abbrev put5 (w : World) (g : Nat) (x0 x1 x2 x3 x4 : Value) : World := ((((w.setCell ⟨g, 0, none⟩ x0).setCell ⟨g, 1, none⟩ x1).setCell ⟨g, 2, none⟩ x2).setCell ⟨g, 3, none⟩ x3).setCell ⟨g, 4, none⟩ x4
theorem put5_blk {w : World} {g : Nat} {t : TypeId} {y0 y1 y2 y3 y4 : Value} (h : w.heap[g]? = some (.cells #[y0, y1, y2, y3, y4] t (0, 0))) (x0 x1 x2 x3 x4 : Value) : (put5 w g x0 x1 x2 x3 x4).heap[g]? = some (.cells #[x0, x1, x2, x3, x4] t (0, 0)) :=
  blk_set (blk_set (blk_set (blk_set (blk_set h 0 x0) 1 x1) 2 x2) 3 x3) 4 x4
theorem put5_turn (w : World) (g : Nat) (x0 x1 x2 x3 x4 : Value) : Turn (RO g) w (put5 w g x0 x1 x2 x3 x4) :=
  ((((Turn.set (O := RO g) w g 0 x0 rfl).trans (Turn.set (O := RO g) _ g 1 x1 rfl) (fun k hk => .inl hk)).trans (Turn.set (O := RO g) _ g 2 x2 rfl) (fun k hk => .inl hk)).trans (Turn.set (O := RO g) _ g 3 x3 rfl) (fun k hk => .inl hk)).trans (Turn.set (O := RO g) _ g 4 x4 rfl) (fun k hk => .inl hk)
theorem take1_one (q : St) : ∃ x, (takeS 1 q).1 = [x] ∧ rd (takeS 1 q).1 0 = x := by
  unfold takeS
  split
  · exact ⟨0, rfl, rfl⟩
  · rename_i h
    match q, h with
    | ([], b), h => exact absurd (Or.inr (by show (1 : Int) > 0; decide)) h
    | (x :: l, b), _ => exact ⟨x, rfl, rfl⟩
/-- The two boxes of attr: what is handed back (g), and a (ga). -/
structure AtS (w0 w : World) (p g ga : Nat) (q : St) (x0 x2 : ByteArray) (x1 x3 : Int) (x4 : Bool) : Prop where
  rd : RdE w p q
  t : Turn (RO p) w0 w
  out : w.heap[g]? = some (.cells #[.string ⟨#[]⟩, .int .i64 0, .string ⟨#[]⟩, .int .i64 0, .bool false] 53 (0, 0))
  a : w.heap[ga]? = some (.cells #[.string x0, .int .i64 x1, .string x2, .int .i64 x3, .bool x4] 53 (0, 0))
  pg : p < g
  gg : g < ga
  g0 : w0.heap.size ≤ g
theorem AtS.next {w0 w w' : World} {p g ga : Nat} {q q' : St} {x0 x2 : ByteArray} {x1 x3 : Int} {x4 : Bool} (h : AtS w0 w p g ga q x0 x2 x1 x3 x4) (hr : RdE w' p q') (ht : Turn (RO p) w w') : AtS w0 w' p g ga q' x0 x2 x1 x3 x4 :=
  ⟨hr, h.t.trans ht (fun k hk => .inl hk), blk_turn ht h.out (by have := h.pg; unfold RO; omega), blk_turn ht h.a (by have := h.pg; have := h.gg; unfold RO; omega), h.pg, h.gg, h.g0⟩
theorem AtS.keep {w0 w w' : World} {p g ga : Nat} {q : St} {x0 x2 : ByteArray} {x1 x3 : Int} {x4 : Bool} {y0 y2 : ByteArray} {y1 y3 : Int} {y4 : Bool} (h : AtS w0 w p g ga q x0 x2 x1 x3 x4) (ht : Turn (RO ga) w w')
    (ha : w'.heap[ga]? = some (.cells #[.string y0, .int .i64 y1, .string y2, .int .i64 y3, .bool y4] 53 (0, 0))) : AtS w0 w' p g ga q y0 y2 y1 y3 y4 :=
  ⟨h.rd.keep (by have := h.pg; have := h.gg; omega) ht, Turn.keep h.t (by have := h.g0; have := h.gg; omega) ht, blk_turn ht h.out (by have := h.gg; unfold RO; omega), ha, h.pg, h.gg, h.g0⟩
/-- What is handed back, at the end. -/
theorem AtS.fin {w0 w : World} {p g ga : Nat} {q : St} {x0 x2 : ByteArray} {x1 x3 : Int} {x4 : Bool} (h : AtS w0 w p g ga q x0 x2 x1 x3 x4) :
    (RdE (put5 w g (.string x0) (.int .i64 x1) (.string x2) (.int .i64 x3) (.bool x4)) p q ∧ Turn (RO p) w0 (put5 w g (.string x0) (.int .i64 x1) (.string x2) (.int .i64 x3) (.bool x4))) ∧ (put5 w g (.string x0) (.int .i64 x1) (.string x2) (.int .i64 x3) (.bool x4)).heap[g]? = some (.cells #[.string x0, .int .i64 x1, .string x2, .int .i64 x3, .bool x4] 53 (0, 0)) :=
  ⟨⟨h.rd.keep h.pg (put5_turn _ _ _ _ _ _ _), Turn.keep h.t h.g0 (put5_turn _ _ _ _ _ _ _)⟩, put5_blk h.out _ _ _ _ _⟩
theorem AtS.set1 {w0 w : World} {p g ga : Nat} {q : St} {x0 x2 : ByteArray} {x1 x3 : Int} {x4 : Bool} (h : AtS w0 w p g ga q x0 x2 x1 x3 x4) (y : Int) : AtS w0 (w.setCell ⟨ga, 1, none⟩ (.int .i64 y)) p g ga q x0 x2 y x3 x4 := h.keep (Turn.set w _ 1 _ rfl) (blk_set h.a 1 _)
theorem AtS.set2 {w0 w : World} {p g ga : Nat} {q : St} {x0 x2 : ByteArray} {x1 x3 : Int} {x4 : Bool} (h : AtS w0 w p g ga q x0 x2 x1 x3 x4) (y : ByteArray) : AtS w0 (w.setCell ⟨ga, 2, none⟩ (.string y)) p g ga q x0 y x1 x3 x4 := h.keep (Turn.set w _ 2 _ rfl) (blk_set h.a 2 _)
theorem AtS.set3 {w0 w : World} {p g ga : Nat} {q : St} {x0 x2 : ByteArray} {x1 x3 : Int} {x4 : Bool} (h : AtS w0 w p g ga q x0 x2 x1 x3 x4) (y : Int) : AtS w0 (w.setCell ⟨ga, 3, none⟩ (.int .i64 y)) p g ga q x0 x2 x1 y x4 := h.keep (Turn.set w _ 3 _ rfl) (blk_set h.a 3 _)
theorem AtS.set4 {w0 w : World} {p g ga : Nat} {q : St} {x0 x2 : ByteArray} {x1 x3 : Int} {x4 : Bool} (h : AtS w0 w p g ga q x0 x2 x1 x3 x4) (y : Bool) : AtS w0 (w.setCell ⟨ga, 4, none⟩ (.bool y)) p g ga q x0 x2 x1 x3 y := h.keep (Turn.set w _ 4 _ rfl) (blk_set h.a 4 _)
theorem AtS.start {w0 w : World} {p g : Nat} {q : St} (hr : RdE w p q) (ht : Turn (RO p) w0 w) (ho : w.heap[g]? = some (.cells #[.string ⟨#[]⟩, .int .i64 0, .string ⟨#[]⟩, .int .i64 0, .bool false] 53 (0, 0))) (hp : p < g) (hg : w0.heap.size ≤ g) (nm : ByteArray) :
    AtS w0 (w.alloc (.cells #[.string nm, .int .i64 0, .string ⟨#[]⟩, .int .i64 0, .bool false] 53)) p g w.heap.size q nm ⟨#[]⟩ 0 0 false := by
  have hb := below_alloc (Below.refl w.heap.size w) (.cells #[.string nm, .int .i64 0, .string ⟨#[]⟩, .int .i64 0, .bool false] 53)
  have hk := heap_alloc_new w (.cells #[.string nm, .int .i64 0, .string ⟨#[]⟩, .int .i64 0, .bool false] 53)
  refine ⟨?_, ht.then_below hb, block_below ho hb, hk, hp, blk_lt ho, hg⟩
  obtain ⟨A, c, h'⟩ := hr
  exact ⟨A, c, h'.below hb⟩
set_option maxHeartbeats 4000000 in
set_option maxRecDepth 100000 in
theorem at_bad {w : World} {p : Nat} {q : St} (h : RdE w p q) {nm : ByteArray} {q1 q2 : St} {x : Int} (hnm : strOfNums (rowS q).1 = nm) (hq1 : (rowS q).2 = q1) (hx : (takeS 1 q1).1 = [x]) (hq2 : (takeS 1 q1).2 = q2) (hb : q2.2 = true) :
    Calls Tryd.prog 45 #[.pointer (some ⟨p, 0, none⟩)] w fun e w' => e = .returned (.agg #[.string nm, .int .i64 0, .string ⟨#[]⟩, .int .i64 0, .bool false]) ∧ RdE w' p q2 ∧ Turn (RO p) w w' := by
  have HI := Lib.hid (show (Tryd.prog.info? 53).map (·.size) = some 5 by kernel_rfl)
  have HB := Lib.hid hb
  clear hb
  obtain ⟨g, hg⟩ : ∃ g, w.heap.size = g := ⟨_, rfl⟩
  have hpl : p < g := by
    obtain ⟨A, c, h'⟩ := h
    have := blk_lt h'.blk
    omega
  have hpg : ¬ RO p g := by unfold RO; omega
  have hb0 := below_alloc (Below.refl w.heap.size w) (.cells #[.string ⟨#[]⟩, .int .i64 0, .string ⟨#[]⟩, .int .i64 0, .bool false] 53)
  have k0 := heap_alloc_new w (.cells #[.string ⟨#[]⟩, .int .i64 0, .string ⟨#[]⟩, .int .i64 0, .bool false] 53)
  have hE : RdE (w.alloc (.cells #[.string ⟨#[]⟩, .int .i64 0, .string ⟨#[]⟩, .int .i64 0, .bool false] 53)) p q := by
    obtain ⟨A, c, h'⟩ := h
    exact ⟨A, c, h'.below hb0⟩
  have HT0 := Lib.hid (Turn.of_below (O := RO p) hb0)
  rw [hg] at k0
  obtain ⟨w0, hw0⟩ : ∃ w0, w.alloc (.cells #[.string ⟨#[]⟩, .int .i64 0, .string ⟨#[]⟩, .int .i64 0, .bool false] 53) = w0 := ⟨_, rfl⟩
  rw [hw0] at hE HT0 k0
  have HR0 := Lib.hid (rrow_calls hE)
  rw [hq1] at HR0
  have HNM := Lib.hid hnm
  have HX := Lib.hid hx
  have HQ2 := Lib.hid hq2
  have K0 := Lib.hid k0
  have HP := Lib.hid hpg
  have HPL := Lib.hid hpl
  have HG := Lib.hid (Nat.le_of_eq hg)
  clear h hb0 hE hpg hpl hnm hq1 k0 hx hq2
  go_enter Tryd.func45, Tryd.ntmps45
  go_wp2_with fail
  refine HR0.out.mono ?_
  rintro e w2 ⟨u, rfl, ⟨A2, c2, rfl, hc2, hC2, ho2⟩, hr, ht⟩
  have ks := run_str (c := c2) hC2
  rw [HNM.out] at ks
  have hS := AtS.start hr (HT0.out.trans ht (fun k hk => .inl hk)) (blk_turn ht K0.out HP.out) HPL.out HG.out nm
  obtain ⟨ga, hga⟩ : ∃ ga, w2.heap.size = ga := ⟨_, rfl⟩
  rw [hga] at hS
  have HS := Lib.hid hS
  clear hr ht hC2 ho2 hc2 hS
  go_wp2_with fail
  refine (rtake_calls HS.out.rd (n := 1) (by decide)).mono ?_
  rintro e w4 ⟨u, rfl, ⟨A3, c3, rfl, hc3, hC3, ho3⟩, hr, ht⟩
  rw [HX.out] at hC3 ho3 hc3 ⊢
  rw [HQ2.out] at hr
  have H4 := Lib.hid (HS.out.next hr ht)
  obtain ⟨A, c, hR⟩ := hr
  have kb := (show w4.cell? ⟨p, 1, none⟩ = some (.bool q2.2) from (blk_cell hR.blk 1).trans rfl)
  have fb := blk_frozen hR.blk 1
  obtain ⟨ad3, hA3, hc3c⟩ := C_src hC3 (by simp)
  obtain ⟨_, hd3⟩ := ho3 (by simp) ad3 hA3
  have hkc := hc3c 0 (.int .u8 x) rfl
  have hkc : w4.cell? ⟨ad3.block, 0, none⟩ = some (.int .u8 x) := by rw [hd3] at hkc; exact hkc
  rw [hd3] at hA3
  subst hA3
  generalize ad3.block = gk at hkc
  obtain ⟨a0, a1, a2, a3, a4, f0, f1, f2, f3, f4⟩ := cb5 H4.out.a
  obtain ⟨b0, b1, b2, b3, b4, d0, d1, d2, d3, d4⟩ := cb5 H4.out.out
  clear ht hR hC3 ho3 hc3 hc3c hd3 HS
  rw [HB.out] at kb
  go_wp2
  have HF := Lib.hid H4.out.fin
  exact bodyPost_ret (v := .agg _) (results_cell_row rfl _ _ g 53 _ (0, 0) _ rfl HF.out.2 Tryd.underlying53 rfl HI.out) rfl ⟨rfl, HF.out.1⟩
set_option maxHeartbeats 4000000 in
set_option maxRecDepth 100000 in
theorem at_txt {w : World} {p : Nat} {q : St} (h : RdE w p q) {nm : ByteArray} {q1 q2 : St} {x : Int} (hnm : strOfNums (rowS q).1 = nm) (hq1 : (rowS q).2 = q1) (hx : (takeS 1 q1).1 = [x]) (hq2 : (takeS 1 q1).2 = q2) (hb : q2.2 = false) (h0 : x = 0) :
    Calls Tryd.prog 45 #[.pointer (some ⟨p, 0, none⟩)] w fun e w' => e = .returned (.agg #[.string nm, .int .i64 0, .string (strOfNums (rowS q2).1), .int .i64 0, .bool false]) ∧ RdE w' p (rowS q2).2 ∧ Turn (RO p) w w' := by
  have HI := Lib.hid (show (Tryd.prog.info? 53).map (·.size) = some 5 by kernel_rfl)
  have HB := Lib.hid hb
  clear hb
  have hw : wrap64 x = x := by unfold wrap64; omega
  have e0 : (x == 0) = true := beq_iff_eq.2 h0
  subst h0
  obtain ⟨g, hg⟩ : ∃ g, w.heap.size = g := ⟨_, rfl⟩
  have hpl : p < g := by
    obtain ⟨A, c, h'⟩ := h
    have := blk_lt h'.blk
    omega
  have hpg : ¬ RO p g := by unfold RO; omega
  have hb0 := below_alloc (Below.refl w.heap.size w) (.cells #[.string ⟨#[]⟩, .int .i64 0, .string ⟨#[]⟩, .int .i64 0, .bool false] 53)
  have k0 := heap_alloc_new w (.cells #[.string ⟨#[]⟩, .int .i64 0, .string ⟨#[]⟩, .int .i64 0, .bool false] 53)
  have hE : RdE (w.alloc (.cells #[.string ⟨#[]⟩, .int .i64 0, .string ⟨#[]⟩, .int .i64 0, .bool false] 53)) p q := by
    obtain ⟨A, c, h'⟩ := h
    exact ⟨A, c, h'.below hb0⟩
  have HT0 := Lib.hid (Turn.of_below (O := RO p) hb0)
  rw [hg] at k0
  obtain ⟨w0, hw0⟩ : ∃ w0, w.alloc (.cells #[.string ⟨#[]⟩, .int .i64 0, .string ⟨#[]⟩, .int .i64 0, .bool false] 53) = w0 := ⟨_, rfl⟩
  rw [hw0] at hE HT0 k0
  have HR0 := Lib.hid (rrow_calls hE)
  rw [hq1] at HR0
  have HNM := Lib.hid hnm
  have HX := Lib.hid hx
  have HQ2 := Lib.hid hq2
  have K0 := Lib.hid k0
  have HP := Lib.hid hpg
  have HPL := Lib.hid hpl
  have HG := Lib.hid (Nat.le_of_eq hg)
  clear h hb0 hE hpg hpl hnm hq1 k0 hx hq2
  go_enter Tryd.func45, Tryd.ntmps45
  go_wp2_with fail
  refine HR0.out.mono ?_
  rintro e w2 ⟨u, rfl, ⟨A2, c2, rfl, hc2, hC2, ho2⟩, hr, ht⟩
  have ks := run_str (c := c2) hC2
  rw [HNM.out] at ks
  have hS := AtS.start hr (HT0.out.trans ht (fun k hk => .inl hk)) (blk_turn ht K0.out HP.out) HPL.out HG.out nm
  obtain ⟨ga, hga⟩ : ∃ ga, w2.heap.size = ga := ⟨_, rfl⟩
  rw [hga] at hS
  have HS := Lib.hid hS
  clear hr ht hC2 ho2 hc2 hS
  go_wp2_with fail
  refine (rtake_calls HS.out.rd (n := 1) (by decide)).mono ?_
  rintro e w4 ⟨u, rfl, ⟨A3, c3, rfl, hc3, hC3, ho3⟩, hr, ht⟩
  rw [HX.out] at hC3 ho3 hc3 ⊢
  rw [HQ2.out] at hr
  have H4 := Lib.hid (HS.out.next hr ht)
  obtain ⟨A, c, hR⟩ := hr
  have kb := (show w4.cell? ⟨p, 1, none⟩ = some (.bool q2.2) from (blk_cell hR.blk 1).trans rfl)
  have fb := blk_frozen hR.blk 1
  obtain ⟨ad3, hA3, hc3c⟩ := C_src hC3 (by simp)
  obtain ⟨_, hd3⟩ := ho3 (by simp) ad3 hA3
  have hkc := hc3c 0 (.int .u8 0) rfl
  have hkc : w4.cell? ⟨ad3.block, 0, none⟩ = some (.int .u8 0) := by rw [hd3] at hkc; exact hkc
  rw [hd3] at hA3
  subst hA3
  generalize ad3.block = gk at hkc
  obtain ⟨a0, a1, a2, a3, a4, f0, f1, f2, f3, f4⟩ := cb5 H4.out.a
  obtain ⟨b0, b1, b2, b3, b4, d0, d1, d2, d3, d4⟩ := cb5 H4.out.out
  clear ht hR hC3 ho3 hc3 hc3c hd3 HS
  rw [HB.out] at kb
  have H5 := Lib.hid (H4.out.set1 0)
  obtain ⟨m0, m1, m2, m3, m4, n0, n1, n2, n3, n4⟩ := cb5 H5.out.a

  go_wp2_with fail
  refine (rrow_calls H5.out.rd).mono ?_
  rintro e w6 ⟨u, rfl, ⟨A4, c4, rfl, hc4, hC4, ho4⟩, hr, ht⟩
  have ks2 := run_str (c := c4) hC4
  clear hC4 ho4 hc4
  have H6 := Lib.hid (H5.out.next hr ht)
  have H7 := Lib.hid (H6.out.set2 (strOfNums (rowS q2).1))
  clear hr ht kb hkc fb m0 m1 m2 m3 m4 n0 n1 n2 n3 n4 a0 a1 a2 a3 a4 b0 b1 b2 b3 b4 f0 f1 f2 f3 f4 d0 d1 d2 d3 d4 H4 H5
  obtain ⟨a0, a1, a2, a3, a4, f0, f1, f2, f3, f4⟩ := cb5 H6.out.a
  obtain ⟨b0, b1, b2, b3, b4, d0, d1, d2, d3, d4⟩ := cb5 H7.out.out
  obtain ⟨m0, m1, m2, m3, m4, n0, n1, n2, n3, n4⟩ := cb5 H7.out.a
  go_wp2
  have HF := Lib.hid H7.out.fin
  exact bodyPost_ret (v := .agg _) (results_cell_row rfl _ _ g 53 _ (0, 0) _ rfl HF.out.2 Tryd.underlying53 rfl HI.out) rfl ⟨rfl, HF.out.1⟩
set_option maxHeartbeats 4000000 in
set_option maxRecDepth 100000 in
theorem at_int {w : World} {p : Nat} {q : St} (h : RdE w p q) {nm : ByteArray} {q1 q2 : St} {x : Int} (hnm : strOfNums (rowS q).1 = nm) (hq1 : (rowS q).2 = q1) (hx : (takeS 1 q1).1 = [x]) (hq2 : (takeS 1 q1).2 = q2) (hb : q2.2 = false) (h0 : x = 1) :
    Calls Tryd.prog 45 #[.pointer (some ⟨p, 0, none⟩)] w fun e w' => e = .returned (.agg #[.string nm, .int .i64 1, .string ⟨#[]⟩, .int .i64 (sigS q2).1, .bool false]) ∧ RdE w' p (sigS q2).2 ∧ Turn (RO p) w w' := by
  have HI := Lib.hid (show (Tryd.prog.info? 53).map (·.size) = some 5 by kernel_rfl)
  have HB := Lib.hid hb
  clear hb
  have hw : wrap64 x = x := by unfold wrap64; omega
  have e0 : (x == 0) = false := beq_eq_false_iff_ne.2 (by omega)
  have e1 : (x == 1) = true := beq_iff_eq.2 h0
  subst h0
  obtain ⟨g, hg⟩ : ∃ g, w.heap.size = g := ⟨_, rfl⟩
  have hpl : p < g := by
    obtain ⟨A, c, h'⟩ := h
    have := blk_lt h'.blk
    omega
  have hpg : ¬ RO p g := by unfold RO; omega
  have hb0 := below_alloc (Below.refl w.heap.size w) (.cells #[.string ⟨#[]⟩, .int .i64 0, .string ⟨#[]⟩, .int .i64 0, .bool false] 53)
  have k0 := heap_alloc_new w (.cells #[.string ⟨#[]⟩, .int .i64 0, .string ⟨#[]⟩, .int .i64 0, .bool false] 53)
  have hE : RdE (w.alloc (.cells #[.string ⟨#[]⟩, .int .i64 0, .string ⟨#[]⟩, .int .i64 0, .bool false] 53)) p q := by
    obtain ⟨A, c, h'⟩ := h
    exact ⟨A, c, h'.below hb0⟩
  have HT0 := Lib.hid (Turn.of_below (O := RO p) hb0)
  rw [hg] at k0
  obtain ⟨w0, hw0⟩ : ∃ w0, w.alloc (.cells #[.string ⟨#[]⟩, .int .i64 0, .string ⟨#[]⟩, .int .i64 0, .bool false] 53) = w0 := ⟨_, rfl⟩
  rw [hw0] at hE HT0 k0
  have HR0 := Lib.hid (rrow_calls hE)
  rw [hq1] at HR0
  have HNM := Lib.hid hnm
  have HX := Lib.hid hx
  have HQ2 := Lib.hid hq2
  have K0 := Lib.hid k0
  have HP := Lib.hid hpg
  have HPL := Lib.hid hpl
  have HG := Lib.hid (Nat.le_of_eq hg)
  clear h hb0 hE hpg hpl hnm hq1 k0 hx hq2
  go_enter Tryd.func45, Tryd.ntmps45
  go_wp2_with fail
  refine HR0.out.mono ?_
  rintro e w2 ⟨u, rfl, ⟨A2, c2, rfl, hc2, hC2, ho2⟩, hr, ht⟩
  have ks := run_str (c := c2) hC2
  rw [HNM.out] at ks
  have hS := AtS.start hr (HT0.out.trans ht (fun k hk => .inl hk)) (blk_turn ht K0.out HP.out) HPL.out HG.out nm
  obtain ⟨ga, hga⟩ : ∃ ga, w2.heap.size = ga := ⟨_, rfl⟩
  rw [hga] at hS
  have HS := Lib.hid hS
  clear hr ht hC2 ho2 hc2 hS
  go_wp2_with fail
  refine (rtake_calls HS.out.rd (n := 1) (by decide)).mono ?_
  rintro e w4 ⟨u, rfl, ⟨A3, c3, rfl, hc3, hC3, ho3⟩, hr, ht⟩
  rw [HX.out] at hC3 ho3 hc3 ⊢
  rw [HQ2.out] at hr
  have H4 := Lib.hid (HS.out.next hr ht)
  obtain ⟨A, c, hR⟩ := hr
  have kb := (show w4.cell? ⟨p, 1, none⟩ = some (.bool q2.2) from (blk_cell hR.blk 1).trans rfl)
  have fb := blk_frozen hR.blk 1
  obtain ⟨ad3, hA3, hc3c⟩ := C_src hC3 (by simp)
  obtain ⟨_, hd3⟩ := ho3 (by simp) ad3 hA3
  have hkc := hc3c 0 (.int .u8 1) rfl
  have hkc : w4.cell? ⟨ad3.block, 0, none⟩ = some (.int .u8 1) := by rw [hd3] at hkc; exact hkc
  rw [hd3] at hA3
  subst hA3
  generalize ad3.block = gk at hkc
  obtain ⟨a0, a1, a2, a3, a4, f0, f1, f2, f3, f4⟩ := cb5 H4.out.a
  obtain ⟨b0, b1, b2, b3, b4, d0, d1, d2, d3, d4⟩ := cb5 H4.out.out
  clear ht hR hC3 ho3 hc3 hc3c hd3 HS
  rw [HB.out] at kb
  have H5 := Lib.hid (H4.out.set1 1)
  obtain ⟨m0, m1, m2, m3, m4, n0, n1, n2, n3, n4⟩ := cb5 H5.out.a

  go_wp2_with fail
  refine (rsig_calls H5.out.rd).mono ?_
  rintro e w6 ⟨rfl, hr, ht⟩
  have H6 := Lib.hid (H5.out.next hr ht)
  have H7 := Lib.hid (H6.out.set3 (sigS q2).1)
  clear hr ht kb hkc fb m0 m1 m2 m3 m4 n0 n1 n2 n3 n4 a0 a1 a2 a3 a4 b0 b1 b2 b3 b4 f0 f1 f2 f3 f4 d0 d1 d2 d3 d4 H4 H5
  obtain ⟨a0, a1, a2, a3, a4, f0, f1, f2, f3, f4⟩ := cb5 H6.out.a
  obtain ⟨b0, b1, b2, b3, b4, d0, d1, d2, d3, d4⟩ := cb5 H7.out.out
  obtain ⟨m0, m1, m2, m3, m4, n0, n1, n2, n3, n4⟩ := cb5 H7.out.a
  go_wp2
  have HF := Lib.hid H7.out.fin
  exact bodyPost_ret (v := .agg _) (results_cell_row rfl _ _ g 53 _ (0, 0) _ rfl HF.out.2 Tryd.underlying53 rfl HI.out) rfl ⟨rfl, HF.out.1⟩
set_option maxHeartbeats 4000000 in
set_option maxRecDepth 100000 in
theorem at_bool {w : World} {p : Nat} {q : St} (h : RdE w p q) {nm : ByteArray} {q1 q2 : St} {x : Int} (hnm : strOfNums (rowS q).1 = nm) (hq1 : (rowS q).2 = q1) (hx : (takeS 1 q1).1 = [x]) (hq2 : (takeS 1 q1).2 = q2) (hb : q2.2 = false) (h0 : x ≠ 0) (h1 : x ≠ 1) (hx0 : 0 ≤ x ∧ x < 256) {l3 : List Int} {b3 d : Bool} {y : Int} (hy : (takeS 1 q2).1 = [y]) (hq3 : (takeS 1 q2).2 = (l3, b3)) (hd : decide (y > 1) = d) :
    Calls Tryd.prog 45 #[.pointer (some ⟨p, 0, none⟩)] w fun e w' => e = .returned (.agg #[.string nm, .int .i64 x, .string ⟨#[]⟩, .int .i64 0, .bool (!(b3 || d) && (y == 1))]) ∧ RdE w' p (l3, b3 || d) ∧ Turn (RO p) w w' := by
  have HI := Lib.hid (show (Tryd.prog.info? 53).map (·.size) = some 5 by kernel_rfl)
  have HB := Lib.hid hb
  clear hb
  have hw : wrap64 x = x := by unfold wrap64; omega
  have e0 : (x == 0) = false := beq_eq_false_iff_ne.2 (by omega)
  have e1 : (x == 1) = false := beq_eq_false_iff_ne.2 (by omega)
  have HY := Lib.hid hy
  have HQ3 := Lib.hid hq3
  have d1 : decide (1 < y) = d := hd
  clear h0 h1 hx0 hy hq3
  obtain ⟨g, hg⟩ : ∃ g, w.heap.size = g := ⟨_, rfl⟩
  have hpl : p < g := by
    obtain ⟨A, c, h'⟩ := h
    have := blk_lt h'.blk
    omega
  have hpg : ¬ RO p g := by unfold RO; omega
  have hb0 := below_alloc (Below.refl w.heap.size w) (.cells #[.string ⟨#[]⟩, .int .i64 0, .string ⟨#[]⟩, .int .i64 0, .bool false] 53)
  have k0 := heap_alloc_new w (.cells #[.string ⟨#[]⟩, .int .i64 0, .string ⟨#[]⟩, .int .i64 0, .bool false] 53)
  have hE : RdE (w.alloc (.cells #[.string ⟨#[]⟩, .int .i64 0, .string ⟨#[]⟩, .int .i64 0, .bool false] 53)) p q := by
    obtain ⟨A, c, h'⟩ := h
    exact ⟨A, c, h'.below hb0⟩
  have HT0 := Lib.hid (Turn.of_below (O := RO p) hb0)
  rw [hg] at k0
  obtain ⟨w0, hw0⟩ : ∃ w0, w.alloc (.cells #[.string ⟨#[]⟩, .int .i64 0, .string ⟨#[]⟩, .int .i64 0, .bool false] 53) = w0 := ⟨_, rfl⟩
  rw [hw0] at hE HT0 k0
  have HR0 := Lib.hid (rrow_calls hE)
  rw [hq1] at HR0
  have HNM := Lib.hid hnm
  have HX := Lib.hid hx
  have HQ2 := Lib.hid hq2
  have K0 := Lib.hid k0
  have HP := Lib.hid hpg
  have HPL := Lib.hid hpl
  have HG := Lib.hid (Nat.le_of_eq hg)
  clear h hb0 hE hpg hpl hnm hq1 k0 hx hq2
  go_enter Tryd.func45, Tryd.ntmps45
  go_wp2_with fail
  refine HR0.out.mono ?_
  rintro e w2 ⟨u, rfl, ⟨A2, c2, rfl, hc2, hC2, ho2⟩, hr, ht⟩
  have ks := run_str (c := c2) hC2
  rw [HNM.out] at ks
  have hS := AtS.start hr (HT0.out.trans ht (fun k hk => .inl hk)) (blk_turn ht K0.out HP.out) HPL.out HG.out nm
  obtain ⟨ga, hga⟩ : ∃ ga, w2.heap.size = ga := ⟨_, rfl⟩
  rw [hga] at hS
  have HS := Lib.hid hS
  clear hr ht hC2 ho2 hc2 hS
  go_wp2_with fail
  refine (rtake_calls HS.out.rd (n := 1) (by decide)).mono ?_
  rintro e w4 ⟨u, rfl, ⟨A3, c3, rfl, hc3, hC3, ho3⟩, hr, ht⟩
  rw [HX.out] at hC3 ho3 hc3 ⊢
  rw [HQ2.out] at hr
  have H4 := Lib.hid (HS.out.next hr ht)
  obtain ⟨A, c, hR⟩ := hr
  have kb := (show w4.cell? ⟨p, 1, none⟩ = some (.bool q2.2) from (blk_cell hR.blk 1).trans rfl)
  have fb := blk_frozen hR.blk 1
  obtain ⟨ad3, hA3, hc3c⟩ := C_src hC3 (by simp)
  obtain ⟨_, hd3⟩ := ho3 (by simp) ad3 hA3
  have hkc := hc3c 0 (.int .u8 x) rfl
  have hkc : w4.cell? ⟨ad3.block, 0, none⟩ = some (.int .u8 x) := by rw [hd3] at hkc; exact hkc
  rw [hd3] at hA3
  subst hA3
  generalize ad3.block = gk at hkc
  obtain ⟨a0, a1, a2, a3, a4, f0, f1, f2, f3, f4⟩ := cb5 H4.out.a
  obtain ⟨b0, b1, b2, b4, b5, g0, g1, g2, g3, g4⟩ := cb5 H4.out.out
  clear ht hR hC3 ho3 hc3 hc3c hd3 HS g0 g1 g2 g3 g4 b0 b1 b2 b4 b5
  rw [HB.out] at kb
  have H5 := Lib.hid (H4.out.set1 x)
  obtain ⟨m0, m1, m2, m3, m4, n0, n1, n2, n3, n4⟩ := cb5 H5.out.a

  go_wp2_with fail
  refine (rtake_calls H5.out.rd (n := 1) (by decide)).mono ?_
  rintro e w6 ⟨u, rfl, ⟨A4, c4, rfl, hc4, hC4, ho4⟩, hr, ht⟩
  rw [HY.out] at hC4 ho4 hc4 ⊢
  rw [HQ3.out] at hr
  have H6 := Lib.hid (H5.out.next hr ht)
  obtain ⟨A, c, hR⟩ := hr
  have kb := (show w6.cell? ⟨p, 1, none⟩ = some (.bool b3) from (blk_cell hR.blk 1).trans rfl)
  have fb := blk_frozen hR.blk 1
  obtain ⟨ad3, hA3, hc3c⟩ := C_src hC4 (by simp)
  obtain ⟨hgt, hd3⟩ := ho4 (by simp) ad3 hA3
  have hkc := hc3c 0 (.int .u8 y) rfl
  have hkc : w6.cell? ⟨ad3.block, 0, none⟩ = some (.int .u8 y) := by rw [hd3] at hkc; exact hkc
  rw [hd3] at hA3
  subst hA3
  have hgp : ad3.block ≠ p := by
    obtain ⟨A', c', h'⟩ := H5.out.rd
    have := blk_lt h'.blk
    omega
  generalize ad3.block = gk at hkc hgp
  have hR7 := hR.bad (b3 || d)
  have t7 : Turn (RO p) w6 (w6.setCell ⟨p, 1, none⟩ (.bool (b3 || d))) := Turn.set _ p 1 _ rfl
  have H7 := Lib.hid (H6.out.next ⟨_, _, hR7⟩ t7)
  have kb7 := (show (w6.setCell ⟨p, 1, none⟩ (.bool (b3 || d))).cell? ⟨p, 1, none⟩ = some (.bool (b3 || d)) from (blk_cell hR7.blk 1).trans rfl)
  have kc7 : (w6.setCell ⟨p, 1, none⟩ (.bool (b3 || d))).cell? ⟨gk, 0, none⟩ = some (.int .u8 y) := by
    have hb : (w6.setCell ⟨p, 1, none⟩ (.bool (b3 || d))).heap[gk]? = w6.heap[gk]? := Below.heap_setCell w6 ⟨p, 1, none⟩ _ _ hgp
    rw [← hkc]
    exact World.cell?_of_block hb
  have H8 := Lib.hid (H7.out.set4 (!(b3 || d) && (y == 1)))
  clear ht hR hR7 t7 hC4 ho4 hc4 hc3c hd3 hgt m0 m1 m2 m3 m4 n0 n1 n2 n3 n4 a0 a1 a2 a3 a4 f0 f1 f2 f3 f4 H4 H5 H6
  obtain ⟨a0, a1, a2, a3, a4, f0, f1, f2, f3, f4⟩ := cb5 H7.out.a
  obtain ⟨b0, b1, b2, b4, b5, n0, n1, n2, n3, n4⟩ := cb5 H8.out.out
  obtain ⟨m0, m1, m2, m3, m4, o0, o1, o2, o3, o4⟩ := cb5 H8.out.a
  cases b3 <;> cases d
  all_goals
    simp only [Bool.false_or, Bool.true_or, Bool.not_true, Bool.not_false, Bool.false_and, Bool.true_and] at *
    go_wp2
    have HF := Lib.hid H8.out.fin
    exact bodyPost_ret (v := .agg _) (results_cell_row rfl _ _ g 53 _ (0, 0) _ rfl HF.out.2 Tryd.underlying53 rfl HI.out) rfl ⟨rfl, HF.out.1⟩
theorem take_isB {q : St} (h : IsB q.1) (n : Int) : IsB (takeS n q).1 := by
  unfold takeS
  split
  · intro x hx
    rw [List.eq_of_mem_replicate hx]
    omega
  · exact isB_take h _
theorem num_isB {q : St} (h : IsB q.1) : IsB (numS q).2.1 := by
  unfold numS
  dsimp only
  split
  · exact h
  · exact isB_drop h _
theorem row_isB {q : St} (h : IsB q.1) : IsB (rowS q).1 ∧ IsB (rowS q).2.1 := by
  have h2 : IsB (sizeS (q.1.length : Int) q).2.1 := by
    unfold sizeS
    split <;> exact num_isB h
  unfold rowS
  refine ⟨take_isB h2 _, ?_⟩
  unfold takeS
  split
  · exact h2
  · exact isB_drop h2 _
/-- An attribute is read. -/
theorem rat_calls {w : World} {p : Nat} {q : St} (h : RdE w p q) :
    Calls Tryd.prog 45 #[.pointer (some ⟨p, 0, none⟩)] w fun e w' => e = .returned (.agg #[.string (attS q).1.f0, .int .i64 (attS q).1.f1.f0, .string (attS q).1.f1.f1, .int .i64 (attS q).1.f1.f2, .bool (attS q).1.f1.f3]) ∧ RdE w' p (attS q).2 ∧ Turn (RO p) w w' := by
  obtain ⟨nm, hnm⟩ : ∃ nm, strOfNums (rowS q).1 = nm := ⟨_, rfl⟩
  obtain ⟨q1, hq1⟩ : ∃ q1, (rowS q).2 = q1 := ⟨_, rfl⟩
  obtain ⟨x, hx1, hx2⟩ := take1_one q1
  obtain ⟨q2, hq2⟩ : ∃ q2, (takeS 1 q1).2 = q2 := ⟨_, rfl⟩
  have e : attS q = (if q2.2 = true then (⟨nm, ⟨0, ⟨#[]⟩, 0, false⟩⟩, q2) else (⟨nm, (valS x q2).1⟩, (valS x q2).2)) := by rw [← hnm, ← hx2, ← hq2, ← hq1]; rfl
  rw [e]
  cases hb : q2.2 with
  | true => rw [if_pos rfl]; exact at_bad h hnm hq1 hx1 hq2 hb
  | false =>
    rw [if_neg (by decide)]
    unfold valS
    by_cases h0 : x = 0
    · rw [if_pos h0]; exact at_txt h hnm hq1 hx1 hq2 hb h0
    rw [if_neg h0]
    by_cases h1 : x = 1
    · rw [if_pos h1]; exact at_int h hnm hq1 hx1 hq2 hb h1
    rw [if_neg h1]
    obtain ⟨y, hy1, hy2⟩ := take1_one q2
    rw [hy2]
    have hx : 0 ≤ x ∧ x < 256 := by
      have hB : IsB (takeS 1 q1).1 := by
        rw [← hq1]
        exact take_isB (row_isB h.choose_spec.choose_spec.isb).2 1
      rw [hx1] at hB
      exact isB_head hB
    exact at_bool h hnm hq1 hx1 hq2 hb h0 h1 hx hy1 (Prod.ext rfl rfl) rfl
end Go.Proofs.YtkgpnfjmahjlcaaDoor.Wi

namespace Go.Proofs.YtkgpnfjmahjlcaaDoor.Wi
open Go.RowKit Go.Proofs.YtkgpnfjmahjlcaaDoorW.PrintWords Go.Proofs.YtkgpnfjmahjlcaaDoorW.PrintLast Go.Proofs.YtkgpnfjmahjlcaaDoorW.PrintMore Go.Proofs.YtkgpnfjmahjlcaaDoor.Math Go.Proofs.YtkgpnfjmahjlcaaDoor.PAll Go.Proofs.YtkgpnfjmahjlcaaDoor.NumFacts
set_option linter.unusedVariables false
set_option linter.unusedSimpArgs false
/-- Above B all may turn. -/
theorem RdE.base {w w1 : World} {p B : Nat} {q : St} (h : RdE w p q) (hp : p < B) (hb : Below B w w1) : RdE w1 p q := by
  obtain ⟨A, c, h⟩ := h
  have ht : Turn (fun k => B ≤ k) w w1 := ⟨hb.os, hb.tape, hb.output, hb.size, fun k _ hk => hb.block k (by omega)⟩
  exact ⟨A, c, h.turn ht (by omega) (fun h0 ad hA => by have := h.off h0 ad hA; omega)⟩
theorem Turn.base {w w1 w2 : World} {p B : Nat} (h : Turn (RO p) w w1) (hB : w.heap.size ≤ B) (hb : Below B w1 w2) : Turn (RO p) w w2 :=
  h.trans (O' := fun k => B ≤ k) ⟨hb.os, hb.tape, hb.output, hb.size, fun k _ hk => hb.block k (by omega)⟩ (fun k hk => .inr (by omega))
/-- A row of one's own stays where the reader's box alone turns. -/
theorem R_box {α : Type} {d : Kd α} {e base p : Nat} {w w1 : World} {v : Value} {xs : List α} (hf : ∀ {w : World} {b : Nat} {ok ok' : Nat → Prop} {x : α} {cs : List Value}, d.M w b ok x cs → d.M w b ok' x cs)
    (h : d.R e w base (fun _ => True) v xs) (ht : Turn (RO p) w w1) (hp : p < base) : d.R e w1 base (fun _ => True) v xs := by
  have h4 := Kd.R_flat (ok' := fun k => some k = v.ownBlock) (fun {_ _ _ _} hm => hf hm) h (fun k hk _ => hk.symm)
  obtain ⟨_, inner, ho, _⟩ := id h
  exact Kd.R_mono (Kd.R_step h4 fun k hk hlt => ht.block k hlt (by have := own_base ho k hk.symm; unfold RO; omega)) (fun _ _ => trivial)
theorem many_end {α : Type} {r : St → α × St} {n m : Nat} {q q' : St} {xs : List α} (he : manyS r n q = (xs ++ (manyS r m q').1, (manyS r m q').2)) (h : m = 0 ∨ q'.2 = true) : manyS r n q = (xs, q') := by
  rw [he]
  rcases h with rfl | h
  · rw [manyS, List.append_nil]
  · cases m with
    | zero => rw [manyS, List.append_nil]
    | succ m => rw [manyS, if_pos h, List.append_nil]
theorem many_next {α : Type} {r : St → α × St} {n m : Nat} {q q' : St} {xs : List α} (he : manyS r n q = (xs ++ (manyS r (m + 1) q').1, (manyS r (m + 1) q').2)) (h : q'.2 = false) : manyS r n q = ((xs ++ [(r q').1]) ++ (manyS r m (r q').2).1, (manyS r m (r q').2).2) := by
  rw [he, manyS, if_neg (by rw [h]; decide), List.append_assoc]
  rfl
theorem flat_at {w : World} {b : Nat} {ok ok' : Nat → Prop} {x : S53} {cs : List Value} (h : k53.M w b ok x cs) : k53.M w b ok' x cs := by
  rw [k53_openM h]
  exact k53_mkM w b ok' x
theorem info_at : (Tryd.prog.info? 53).map (fun i => (i.zero, i.size, i.bytes)) = some (some (.agg #[.string ⟨#[]⟩, .int .i64 0, .string ⟨#[]⟩, .int .i64 0, .bool false]), k53.sz, 56) := by kernel_rfl
set_option maxHeartbeats 4000000 in
set_option maxRecDepth 100000 in
theorem some_at {w : World} {p : Nat} {q : St} (h : RdE w p q) :
    Calls Tryd.prog 44 #[.pointer (some ⟨p, 0, none⟩), .func (.func 45) #[.pointer (some ⟨p, 0, none⟩)] #[]] w fun e w' =>
      ∃ v, e = .returned v ∧ Kd.R k53 53 w' w.heap.size (fun _ => True) v (someS attS q).1 ∧ RdE w' p (someS attS q).2 ∧ Turn (RO p) w w' := by
  obtain ⟨A, c, h'⟩ := id h
  have hpl : p < w.heap.size := blk_lt h'.blk
  have hlen : q.1.length ≤ 1000000 := h'.len
  have k0 : w.cell? ⟨p, 0, none⟩ = some (.slice A q.1.length c) := (blk_cell h'.blk 0).trans rfl
  have HS := Lib.hid (rsize_calls h (most := (q.1.length : Int)) (by omega) (by omega))
  have hz : 0 ≤ (sizeS (q.1.length : Int) q).1 ∧ (sizeS (q.1.length : Int) q).1 ≤ 1000000 := by
    unfold sizeS
    split
    · exact ⟨Int.le_refl 0, (by decide : (0 : Int) ≤ 1000000)⟩
    · have := (vget_bounds h'.isb).1
      have : 0 ≤ (numS q).1 := this
      exact ⟨this, by omega⟩
  obtain ⟨q1, hq1⟩ : ∃ q1, (sizeS (q.1.length : Int) q).2 = q1 := ⟨_, rfl⟩
  obtain ⟨n, hn⟩ : ∃ n : Nat, (sizeS (q.1.length : Int) q).1 = (n : Int) := ⟨(sizeS (q.1.length : Int) q).1.toNat, by omega⟩
  have hE : someS attS q = manyS attS n q1 := by unfold someS; rw [hq1, hn, Int.toNat_natCast]
  rw [hE]
  rw [hq1, hn] at HS
  rw [hn] at hz
  have HN := Lib.hid (show n ≤ 1000000 by omega)
  have HP := Lib.hid hpl
  have eg : ∀ args w, (callFunc 45 args).run Tryd.prog w = .ok (.enter 45 args) w := fun args w => enters_ Tryd.func45 (by kernel_rfl) rfl args w
  clear h h' hpl hlen hE hn hq1 hz
  go_enter Tryd.func44, Tryd.ntmps44
  go_wp2_with fail
  refine HS.out.mono ?_
  rintro e w1 ⟨rfl, hr, ht⟩
  have HR1 := Lib.hid hr
  have HT1 := Lib.hid ht
  clear hr ht k0 HS
  go_wp2
  go_loopw [5, 6] (fun v i wr => ∃ (xs : List S53) (m : Nat) (z : Int) (q' : St), i = .int .i64 z ∧ Hid (z = (m : Int)) ∧ Hid (xs.length + m ≤ 1000000) ∧ Hid (manyS attS n q1 = (xs ++ (manyS attS m q').1, (manyS attS m q').2)) ∧ Hid (RdE wr p q') ∧ Hid (Turn (RO p) w wr) ∧ Hid (Kd.R k53 53 wr w.heap.size (fun _ => True) v xs)) (fun _ i _ => (intOf i).toNat)
  case atStart => exact ⟨[], n, n, q1, rfl, Lib.hid rfl, Lib.hid (by simpa using HN.out), Lib.hid rfl, HR1, HT1, Lib.hid (Kd.R_nil _ _ _ _ _)⟩
  case round =>
    obtain ⟨xs, m, z, q', rfl, HZ, HL, HM, HR, HT, HO⟩ := hrel
    obtain ⟨A', c', hr⟩ := id HR.out
    have k1 : wr.cell? ⟨p, 1, none⟩ = some (.bool q'.2) := (blk_cell hr.blk 1).trans rfl
    clear hr
    cases m with
    | zero =>
      have d1 : decide (z > 0) = false := decide_eq_false (by have := HZ.out; omega)
      have d2 : decide (0 < z) = false := decide_eq_false (by have := HZ.out; omega)
      have HE := Lib.hid (many_end HM.out (.inl rfl))
      go_wp2
      go_ret
      rw [HE.out]
      exact ⟨_, rfl, HO.out, HR.out, HT.out⟩
    | succ m =>
      have d1 : decide (z > 0) = true := decide_eq_true (by have := HZ.out; omega)
      have d2 : decide (0 < z) = true := decide_eq_true (by have := HZ.out; omega)
      cases hb : q'.2 with
      | true =>
        rw [hb] at k1
        have HE := Lib.hid (many_end HM.out (.inr hb))
        clear hb
        go_wp2
        go_ret
        rw [HE.out]
        exact ⟨_, rfl, HO.out, HR.out, HT.out⟩
      | false =>
        rw [hb] at k1
        have HE := Lib.hid (many_next HM.out hb)
        clear hb
        go_wp2_with fail
        refine (rat_calls HR.out).mono ?_
        rintro e w2 ⟨rfl, hr, ht⟩
        have HR2 := Lib.hid hr
        have HT2 := Lib.hid (HT.out.trans ht (fun k hk => .inl hk))
        have HO2 := Lib.hid (R_box (fun {_ _ _ _ _ _} => flat_at) HO.out ht HP.out)
        obtain ⟨x, hx⟩ : ∃ x, (attS q').1 = x := ⟨_, rfl⟩
        rw [hx] at HE ⊢
        obtain ⟨A2, c2, rfl⟩ := Kd.R_slice HO2.out
        clear hr ht k1
        go_wp2_with ((with_reducible refine gate_builtin (b := .append) (xs := #[.tmp 25, .tmp 28]) rfl ?_); at_builtin; refine Kd.R_append k53 (w0 := w2) w.heap.size rfl (.tmp 25) (.tmp 28) 23 53 (.agg #[.string ⟨#[]⟩, .int .i64 0, .string ⟨#[]⟩, .int .i64 0, .bool false]) 56 rfl Tryd.underlying23 info_at rfl (by decide) (by decide) (.slice A2 xs.length c2) xs x [.string x.f0, .int .i64 x.f1.f0, .string x.f1.f1, .int .i64 x.f1.f2, .bool x.f1.f3] (fun _ => True) (fun _ => False) rfl rfl (k53_mkM w2 _ _ x) (fun _ h => h.elim) (fun _ _ => trivial) HO2.out (Below.refl _ _) HT2.out.size (by have := HL.out; omega) ?_; intro v3 w3 ho hbl hg_ hnew_; have HO3 := Lib.hid ho; have HR3 := Lib.hid (HR2.out.base HP.out hbl); have HT3 := Lib.hid (HT2.out.base (Nat.le_refl _) hbl); clear ho hbl hg_ hnew_)
        have hw : wrap64 (z - 1) = z - 1 := by
          have h1 := HZ.out
          have h2 := HL.out
          unfold wrap64
          omega
        go_roundw
        case rel => exact ⟨xs ++ [x], m, z - 1, (attS q').2, by rw [hw], Lib.hid (by have := HZ.out; clear hw; omega), Lib.hid (by have := HL.out; simp; omega), HE, HR3, HT3, HO3⟩
        case measure =>
          rw [hw]
          have h1 := HZ.out
          clear hw
          show (z - 1).toNat < z.toNat
          omega
theorem flat_ev {w : World} {b : Nat} {ok ok' : Nat → Prop} {x : S55} {cs : List Value} (h : k55.M w b ok x cs) : k55.M w b ok' x cs := by
  rw [k55_openM h]
  exact k55_mkM w b ok' x
theorem info_ev : (Tryd.prog.info? 55).map (fun i => (i.zero, i.size, i.bytes)) = some (some (.agg #[.int .i64 0, .string ⟨#[]⟩]), k55.sz, 24) := by kernel_rfl
set_option maxHeartbeats 4000000 in
set_option maxRecDepth 100000 in
theorem some_ev {w : World} {p : Nat} {q : St} (h : RdE w p q) :
    Calls Tryd.prog 46 #[.pointer (some ⟨p, 0, none⟩), .func (.func 47) #[.pointer (some ⟨p, 0, none⟩)] #[]] w fun e w' =>
      ∃ v, e = .returned v ∧ Kd.R k55 55 w' w.heap.size (fun _ => True) v (someS evS q).1 ∧ RdE w' p (someS evS q).2 ∧ Turn (RO p) w w' := by
  obtain ⟨A, c, h'⟩ := id h
  have hpl : p < w.heap.size := blk_lt h'.blk
  have hlen : q.1.length ≤ 1000000 := h'.len
  have k0 : w.cell? ⟨p, 0, none⟩ = some (.slice A q.1.length c) := (blk_cell h'.blk 0).trans rfl
  have HS := Lib.hid (rsize_calls h (most := (q.1.length : Int)) (by omega) (by omega))
  have hz : 0 ≤ (sizeS (q.1.length : Int) q).1 ∧ (sizeS (q.1.length : Int) q).1 ≤ 1000000 := by
    unfold sizeS
    split
    · exact ⟨Int.le_refl 0, (by decide : (0 : Int) ≤ 1000000)⟩
    · have := (vget_bounds h'.isb).1
      have : 0 ≤ (numS q).1 := this
      exact ⟨this, by omega⟩
  obtain ⟨q1, hq1⟩ : ∃ q1, (sizeS (q.1.length : Int) q).2 = q1 := ⟨_, rfl⟩
  obtain ⟨n, hn⟩ : ∃ n : Nat, (sizeS (q.1.length : Int) q).1 = (n : Int) := ⟨(sizeS (q.1.length : Int) q).1.toNat, by omega⟩
  have hE : someS evS q = manyS evS n q1 := by unfold someS; rw [hq1, hn, Int.toNat_natCast]
  rw [hE]
  rw [hq1, hn] at HS
  rw [hn] at hz
  have HN := Lib.hid (show n ≤ 1000000 by omega)
  have HP := Lib.hid hpl
  have eg : ∀ args w, (callFunc 47 args).run Tryd.prog w = .ok (.enter 47 args) w := fun args w => enters_ Tryd.func47 (by kernel_rfl) rfl args w
  clear h h' hpl hlen hE hn hq1 hz
  go_enter Tryd.func46, Tryd.ntmps46
  go_wp2_with fail
  refine HS.out.mono ?_
  rintro e w1 ⟨rfl, hr, ht⟩
  have HR1 := Lib.hid hr
  have HT1 := Lib.hid ht
  clear hr ht k0 HS
  go_wp2
  go_loopw [5, 6] (fun v i wr => ∃ (xs : List S55) (m : Nat) (z : Int) (q' : St), i = .int .i64 z ∧ Hid (z = (m : Int)) ∧ Hid (xs.length + m ≤ 1000000) ∧ Hid (manyS evS n q1 = (xs ++ (manyS evS m q').1, (manyS evS m q').2)) ∧ Hid (RdE wr p q') ∧ Hid (Turn (RO p) w wr) ∧ Hid (Kd.R k55 55 wr w.heap.size (fun _ => True) v xs)) (fun _ i _ => (intOf i).toNat)
  case atStart => exact ⟨[], n, n, q1, rfl, Lib.hid rfl, Lib.hid (by simpa using HN.out), Lib.hid rfl, HR1, HT1, Lib.hid (Kd.R_nil _ _ _ _ _)⟩
  case round =>
    obtain ⟨xs, m, z, q', rfl, HZ, HL, HM, HR, HT, HO⟩ := hrel
    obtain ⟨A', c', hr⟩ := id HR.out
    have k1 : wr.cell? ⟨p, 1, none⟩ = some (.bool q'.2) := (blk_cell hr.blk 1).trans rfl
    clear hr
    cases m with
    | zero =>
      have d1 : decide (z > 0) = false := decide_eq_false (by have := HZ.out; omega)
      have d2 : decide (0 < z) = false := decide_eq_false (by have := HZ.out; omega)
      have HE := Lib.hid (many_end HM.out (.inl rfl))
      go_wp2
      go_ret
      rw [HE.out]
      exact ⟨_, rfl, HO.out, HR.out, HT.out⟩
    | succ m =>
      have d1 : decide (z > 0) = true := decide_eq_true (by have := HZ.out; omega)
      have d2 : decide (0 < z) = true := decide_eq_true (by have := HZ.out; omega)
      cases hb : q'.2 with
      | true =>
        rw [hb] at k1
        have HE := Lib.hid (many_end HM.out (.inr hb))
        clear hb
        go_wp2
        go_ret
        rw [HE.out]
        exact ⟨_, rfl, HO.out, HR.out, HT.out⟩
      | false =>
        rw [hb] at k1
        have HE := Lib.hid (many_next HM.out hb)
        clear hb
        go_wp2_with fail
        refine (rev_calls HR.out).mono ?_
        rintro e w2 ⟨rfl, hr, ht⟩
        have HR2 := Lib.hid hr
        have HT2 := Lib.hid (HT.out.trans ht (fun k hk => .inl hk))
        have HO2 := Lib.hid (R_box (fun {_ _ _ _ _ _} => flat_ev) HO.out ht HP.out)
        obtain ⟨x, hx⟩ : ∃ x, (evS q').1 = x := ⟨_, rfl⟩
        rw [hx] at HE ⊢
        obtain ⟨A2, c2, rfl⟩ := Kd.R_slice HO2.out
        clear hr ht k1
        go_wp2_with ((with_reducible refine gate_builtin (b := .append) (xs := #[.tmp 25, .tmp 28]) rfl ?_); at_builtin; refine Kd.R_append k55 (w0 := w2) w.heap.size rfl (.tmp 25) (.tmp 28) 24 55 (.agg #[.int .i64 0, .string ⟨#[]⟩]) 24 rfl Tryd.underlying24 info_ev rfl (by decide) (by decide) (.slice A2 xs.length c2) xs x [.int .i64 x.f0, .string x.f1] (fun _ => True) (fun _ => False) rfl rfl (k55_mkM w2 _ _ x) (fun _ h => h.elim) (fun _ _ => trivial) HO2.out (Below.refl _ _) HT2.out.size (by have := HL.out; omega) ?_; intro v3 w3 ho hbl hg_ hnew_; have HO3 := Lib.hid ho; have HR3 := Lib.hid (HR2.out.base HP.out hbl); have HT3 := Lib.hid (HT2.out.base (Nat.le_refl _) hbl); clear ho hbl hg_ hnew_)
        have hw : wrap64 (z - 1) = z - 1 := by
          have h1 := HZ.out
          have h2 := HL.out
          unfold wrap64
          omega
        go_roundw
        case rel => exact ⟨xs ++ [x], m, z - 1, (evS q').2, by rw [hw], Lib.hid (by have := HZ.out; clear hw; omega), Lib.hid (by have := HL.out; simp; omega), HE, HR3, HT3, HO3⟩
        case measure =>
          rw [hw]
          have h1 := HZ.out
          clear hw
          show (z - 1).toNat < z.toNat
          omega
theorem flat_lk {w : World} {b : Nat} {ok ok' : Nat → Prop} {x : S68} {cs : List Value} (h : k68.M w b ok x cs) : k68.M w b ok' x cs := by
  rw [k68_openM h]
  exact k68_mkM w b ok' x
theorem info_lk : (Tryd.prog.info? 68).map (fun i => (i.zero, i.size, i.bytes)) = some (some (.agg #[.int .u64 0, .int .u64 0]), k68.sz, 16) := by kernel_rfl
set_option maxHeartbeats 4000000 in
set_option maxRecDepth 100000 in
theorem some_lk {w : World} {p : Nat} {q : St} (h : RdE w p q) :
    Calls Tryd.prog 48 #[.pointer (some ⟨p, 0, none⟩), .func (.func 49) #[.pointer (some ⟨p, 0, none⟩)] #[]] w fun e w' =>
      ∃ v, e = .returned v ∧ Kd.R k68 68 w' w.heap.size (fun _ => True) v (someS lkS q).1 ∧ RdE w' p (someS lkS q).2 ∧ Turn (RO p) w w' := by
  obtain ⟨A, c, h'⟩ := id h
  have hpl : p < w.heap.size := blk_lt h'.blk
  have hlen : q.1.length ≤ 1000000 := h'.len
  have k0 : w.cell? ⟨p, 0, none⟩ = some (.slice A q.1.length c) := (blk_cell h'.blk 0).trans rfl
  have HS := Lib.hid (rsize_calls h (most := (q.1.length : Int)) (by omega) (by omega))
  have hz : 0 ≤ (sizeS (q.1.length : Int) q).1 ∧ (sizeS (q.1.length : Int) q).1 ≤ 1000000 := by
    unfold sizeS
    split
    · exact ⟨Int.le_refl 0, (by decide : (0 : Int) ≤ 1000000)⟩
    · have := (vget_bounds h'.isb).1
      have : 0 ≤ (numS q).1 := this
      exact ⟨this, by omega⟩
  obtain ⟨q1, hq1⟩ : ∃ q1, (sizeS (q.1.length : Int) q).2 = q1 := ⟨_, rfl⟩
  obtain ⟨n, hn⟩ : ∃ n : Nat, (sizeS (q.1.length : Int) q).1 = (n : Int) := ⟨(sizeS (q.1.length : Int) q).1.toNat, by omega⟩
  have hE : someS lkS q = manyS lkS n q1 := by unfold someS; rw [hq1, hn, Int.toNat_natCast]
  rw [hE]
  rw [hq1, hn] at HS
  rw [hn] at hz
  have HN := Lib.hid (show n ≤ 1000000 by omega)
  have HP := Lib.hid hpl
  have eg : ∀ args w, (callFunc 49 args).run Tryd.prog w = .ok (.enter 49 args) w := fun args w => enters_ Tryd.func49 (by kernel_rfl) rfl args w
  clear h h' hpl hlen hE hn hq1 hz
  go_enter Tryd.func48, Tryd.ntmps48
  go_wp2_with fail
  refine HS.out.mono ?_
  rintro e w1 ⟨rfl, hr, ht⟩
  have HR1 := Lib.hid hr
  have HT1 := Lib.hid ht
  clear hr ht k0 HS
  go_wp2
  go_loopw [5, 6] (fun v i wr => ∃ (xs : List S68) (m : Nat) (z : Int) (q' : St), i = .int .i64 z ∧ Hid (z = (m : Int)) ∧ Hid (xs.length + m ≤ 1000000) ∧ Hid (manyS lkS n q1 = (xs ++ (manyS lkS m q').1, (manyS lkS m q').2)) ∧ Hid (RdE wr p q') ∧ Hid (Turn (RO p) w wr) ∧ Hid (Kd.R k68 68 wr w.heap.size (fun _ => True) v xs)) (fun _ i _ => (intOf i).toNat)
  case atStart => exact ⟨[], n, n, q1, rfl, Lib.hid rfl, Lib.hid (by simpa using HN.out), Lib.hid rfl, HR1, HT1, Lib.hid (Kd.R_nil _ _ _ _ _)⟩
  case round =>
    obtain ⟨xs, m, z, q', rfl, HZ, HL, HM, HR, HT, HO⟩ := hrel
    obtain ⟨A', c', hr⟩ := id HR.out
    have k1 : wr.cell? ⟨p, 1, none⟩ = some (.bool q'.2) := (blk_cell hr.blk 1).trans rfl
    clear hr
    cases m with
    | zero =>
      have d1 : decide (z > 0) = false := decide_eq_false (by have := HZ.out; omega)
      have d2 : decide (0 < z) = false := decide_eq_false (by have := HZ.out; omega)
      have HE := Lib.hid (many_end HM.out (.inl rfl))
      go_wp2
      go_ret
      rw [HE.out]
      exact ⟨_, rfl, HO.out, HR.out, HT.out⟩
    | succ m =>
      have d1 : decide (z > 0) = true := decide_eq_true (by have := HZ.out; omega)
      have d2 : decide (0 < z) = true := decide_eq_true (by have := HZ.out; omega)
      cases hb : q'.2 with
      | true =>
        rw [hb] at k1
        have HE := Lib.hid (many_end HM.out (.inr hb))
        clear hb
        go_wp2
        go_ret
        rw [HE.out]
        exact ⟨_, rfl, HO.out, HR.out, HT.out⟩
      | false =>
        rw [hb] at k1
        have HE := Lib.hid (many_next HM.out hb)
        clear hb
        go_wp2_with fail
        refine (rlk_calls HR.out).mono ?_
        rintro e w2 ⟨rfl, hr, ht⟩
        have HR2 := Lib.hid hr
        have HT2 := Lib.hid (HT.out.trans ht (fun k hk => .inl hk))
        have HO2 := Lib.hid (R_box (fun {_ _ _ _ _ _} => flat_lk) HO.out ht HP.out)
        obtain ⟨x, hx⟩ : ∃ x, (lkS q').1 = x := ⟨_, rfl⟩
        rw [hx] at HE ⊢
        obtain ⟨A2, c2, rfl⟩ := Kd.R_slice HO2.out
        clear hr ht k1
        go_wp2_with ((with_reducible refine gate_builtin (b := .append) (xs := #[.tmp 25, .tmp 28]) rfl ?_); at_builtin; refine Kd.R_append k68 (w0 := w2) w.heap.size rfl (.tmp 25) (.tmp 28) 25 68 (.agg #[.int .u64 0, .int .u64 0]) 16 rfl Tryd.underlying25 info_lk rfl (by decide) (by decide) (.slice A2 xs.length c2) xs x [.int .u64 x.f0, .int .u64 x.f1] (fun _ => True) (fun _ => False) rfl rfl (k68_mkM w2 _ _ x) (fun _ h => h.elim) (fun _ _ => trivial) HO2.out (Below.refl _ _) HT2.out.size (by have := HL.out; omega) ?_; intro v3 w3 ho hbl hg_ hnew_; have HO3 := Lib.hid ho; have HR3 := Lib.hid (HR2.out.base HP.out hbl); have HT3 := Lib.hid (HT2.out.base (Nat.le_refl _) hbl); clear ho hbl hg_ hnew_)
        have hw : wrap64 (z - 1) = z - 1 := by
          have h1 := HZ.out
          have h2 := HL.out
          unfold wrap64
          omega
        go_roundw
        case rel => exact ⟨xs ++ [x], m, z - 1, (lkS q').2, by rw [hw], Lib.hid (by have := HZ.out; clear hw; omega), Lib.hid (by have := HL.out; simp; omega), HE, HR3, HT3, HO3⟩
        case measure =>
          rw [hw]
          have h1 := HZ.out
          clear hw
          show (z - 1).toNat < z.toNat
          omega
end Go.Proofs.YtkgpnfjmahjlcaaDoor.Wi

namespace Go.Proofs.YtkgpnfjmahjlcaaDoor.Wi
open Go.RowKit Go.Proofs.YtkgpnfjmahjlcaaDoorW.PrintWords Go.Proofs.YtkgpnfjmahjlcaaDoor.Math Go.Proofs.YtkgpnfjmahjlcaaDoor.PAll
set_option linter.unusedVariables false
set_option linter.unusedSimpArgs false
def pr {α β : Type} (p : St → α × St) (q : St → β × St) : St → (α × β) × St := fun s => (((p s).1, (q (p s).2).1), (q (p s).2).2)
theorem pr_good {α β : Type} {p : St → α × St} {q : St → β × St} {e : α → List Int} {f : β → List Int} {ok : α → Prop} {ok' : β → Prop} (hp : Good p e ok) (hq : Good q f ok') :
    Good (pr p q) (fun z => e z.1 ++ f z.2) (fun z => ok z.1 ∧ ok' z.2) := seq_good hp hq Prod.mk Prod.fst Prod.snd (fun _ _ => rfl) (fun _ _ => rfl) (fun _ => rfl)
def tupS : St → (Int × Int × Int × ByteArray × ByteArray × Int × Int × Int × List S53 × List S55 × List S68) × St :=
  pr numS (pr numS (pr numS (pr txtS (pr txtS (pr sigS (pr sigS (pr (sizeS 2) (pr (someS attS) (pr (someS evS) (someS lkS))))))))))
def txtOk (s : ByteArray) : Prop := (s.size : Int) < 18446744073709551616
def listOk {α : Type} (ok : α → Prop) (xs : List α) : Prop := (xs.length : Int) < 18446744073709551616 ∧ ∀ x ∈ xs, ok x
def attOk (a : S53) : Prop := txtOk a.f0 ∧ valOk a.f1
def evOk (e : S55) : Prop := i64 e.f0 ∧ txtOk e.f1
def lkOk (l : S68) : Prop := u64 l.f0 ∧ u64 l.f1
structure SpOk (s : S27) : Prop where
  a : u64 s.f0
  b : u64 s.f1
  c : u64 s.f2
  d : txtOk s.f3
  e : txtOk s.f4
  f : i64 s.f5
  g : i64 s.f6
  h : 0 ≤ s.f7 ∧ s.f7 ≤ 2
  i : listOk attOk s.f8
  j : listOk evOk s.f9
  k : listOk lkOk s.f10
def spOf (z : Int × Int × Int × ByteArray × ByteArray × Int × Int × Int × List S53 × List S55 × List S68) : S27 :=
  ⟨z.1, z.2.1, z.2.2.1, z.2.2.2.1, z.2.2.2.2.1, z.2.2.2.2.2.1, z.2.2.2.2.2.2.1, z.2.2.2.2.2.2.2.1, z.2.2.2.2.2.2.2.2.1, z.2.2.2.2.2.2.2.2.2.1, z.2.2.2.2.2.2.2.2.2.2⟩
def unSp (s : S27) : Int × Int × Int × ByteArray × ByteArray × Int × Int × Int × List S53 × List S55 × List S68 := (s.f0, s.f1, s.f2, s.f3, s.f4, s.f5, s.f6, s.f7, s.f8, s.f9, s.f10)
/-- A span is read strictly. -/
def spanS (q : St) : S27 × St := (spOf (tupS q).1, (tupS q).2)
theorem map_good {α β : Type} {p : St → α × St} {e : α → List Int} {ok : α → Prop} (hp : Good p e ok) (mk : α → β) (un : β → α) (h1 : ∀ x, un (mk x) = x) (h2 : ∀ y, mk (un y) = y) :
    Good (fun q => (mk (p q).1, (p q).2)) (fun y => e (un y)) (fun y => ok (un y)) where
  bad := fun q hq => hp.bad q hq
  canon := fun l hl hb => by
    obtain ⟨h3, h4⟩ := hp.canon l hl hb
    show l = e (un (mk (p (l, false)).1)) ++ _ ∧ ok (un (mk (p (l, false)).1))
    rw [h1]
    exact ⟨h3, h4⟩
  reads := fun y r hy => by
    show (mk (p (e (un y) ++ r, false)).1, _) = _
    rw [hp.reads _ r hy, h2]
theorem tup_good : Good tupS (fun z => enc (spOf z)) (fun z => SpOk (spOf z)) := by
  have h := pr_good num_good (pr_good num_good (pr_good num_good (pr_good txt_good (pr_good txt_good (pr_good sig_good (pr_good sig_good (pr_good (size_good 2 (by decide)) (pr_good (some_good att_good att_len) (pr_good (some_good ev_good ev_len) (some_good lk_good lk_len))))))))))
  exact h.weaken fun z => ⟨fun h => ⟨h.a, h.b, h.c, h.d, h.e, h.f, h.g, h.h, h.i, h.j, h.k⟩, fun ⟨a, b, c, d, e, f, g, h', i, j, k⟩ => ⟨a, b, c, d, e, f, g, h', i, j, k⟩⟩
theorem span_good : Good spanS enc SpOk := map_good tup_good spOf unSp (fun _ => rfl) (fun _ => rfl)

/-! Reading, leniently: as the document's answer does. -/
def numL (q : St) : Int × St := ((vget q.1).1, (q.1.drop (vget q.1).2.toNat, q.2 || (vget q.1).2 == 0))
def sigL (q : St) : Int × St := (zag (numL q).1, (numL q).2)
def rowL (q : St) : List Int × St :=
  if (numL q).2.2 = true ∨ (numL q).1 > ((numL q).2.1.length : Int) then ([], ((numL q).2.1, true)) else ((numL q).2.1.take (numL q).1.toNat, ((numL q).2.1.drop (numL q).1.toNat, false))
def txtL (q : St) : ByteArray × St := (strOfNums (rowL q).1, (rowL q).2)
def oneL (q : St) : Int × St := if q.1 = [] then (0, (q.1, true)) else (rd q.1 0, (q.1.drop 1, q.2))
def valL (k : Int) (q : St) : S51 × St :=
  if k = 0 then (⟨0, (txtL q).1, 0, false⟩, (txtL q).2)
  else if k = 1 then (⟨1, ⟨#[]⟩, (sigL q).1, false⟩, (sigL q).2)
  else (⟨k, ⟨#[]⟩, 0, decide ((oneL q).1 > 0)⟩, (oneL q).2)
def attL (q : St) : S53 × St := (⟨(txtL q).1, (valL (oneL (txtL q).2).1 (oneL (txtL q).2).2).1⟩, (valL (oneL (txtL q).2).1 (oneL (txtL q).2).2).2)
def evL (q : St) : S55 × St := (⟨(sigL q).1, (txtL (sigL q).2).1⟩, (txtL (sigL q).2).2)
def lkL (q : St) : S68 × St := (⟨(numL q).1, (numL (numL q).2).1⟩, (numL (numL q).2).2)
def someL {α : Type} (p : St → α × St) (q : St) : List α × St := manyS p (numL q).1.toNat (numL q).2
def tupL : St → (Int × Int × Int × ByteArray × ByteArray × Int × Int × Int × List S53 × List S55 × List S68) × St :=
  pr numL (pr numL (pr numL (pr txtL (pr txtL (pr sigL (pr sigL (pr numL (pr (someL attL) (pr (someL evL) (someL lkL))))))))))
/-- What is read strictly is read leniently. -/
def Len {α : Type} (p p' : St → α × St) : Prop := ∀ l, IsB l → (p (l, false)).2.2 = false → p' (l, false) = p (l, false)
def spanL (q : St) : S27 × St := (spOf (tupL q).1, (tupL q).2)
/-- What the program reads; what the document's answer reads. -/
def readP (may : S27 → Prop) (l : List Int) (s : S27) : Prop := (spanS (l, false)).2.2 = false ∧ (spanS (l, false)).2.1 = [] ∧ may (spanS (l, false)).1 ∧ s = (spanS (l, false)).1
def readR (may : S27 → Prop) (l : List Int) (s : S27) : Prop := (spanL (l, false)).2.2 = false ∧ may (spanL (l, false)).1 ∧ enc (spanL (l, false)).1 = l ∧ s = (spanL (l, false)).1
/-- What is told is read as it was. -/
theorem read_enc {may : S27 → Prop} {s : S27} (h : SpOk s) (hm : may s) : readP may (enc s) s := by
  have h5 := span_good.reads s [] h
  rw [List.append_nil] at h5
  unfold readP
  rw [h5]
  exact ⟨rfl, rfl, hm, rfl⟩
theorem read_is {may : S27 → Prop} {l : List Int} (hl : IsB l) {s : S27} (h : readP may l s) : l = enc s ∧ SpOk s := by
  obtain ⟨h1, h2, h3, h4⟩ := h
  obtain ⟨h5, h6⟩ := span_good.canon l hl h1
  rw [h2, List.append_nil] at h5
  rw [h4]
  exact ⟨h5, h6⟩
theorem enc_inj {a b : S27} (ha : SpOk a) (hb : SpOk b) (h : enc a = enc b) : a = b := by
  have h1 := span_good.reads a [] ha
  have h2 := span_good.reads b [] hb
  rw [h] at h1
  rw [h1] at h2
  exact congrArg Prod.fst h2
/-- Bytes that are cut off, or have one behind, are none's. -/
theorem read_cut {may : S27 → Prop} {a : S27} (ha : SpOk a) (hB : IsB (enc a)) {n : Nat} (hn : n < (enc a).length) (s : S27) : ¬ readP may ((enc a).take n) s := by
  intro h
  obtain ⟨h1, h2⟩ := read_is (isB_take hB n) h
  have h3 := span_good.reads s ((enc a).drop n) h2
  rw [← h1, List.take_append_drop] at h3
  have h4 := span_good.reads a [] ha
  rw [List.append_nil, h3] at h4
  have h5 : (enc a).drop n = [] := congrArg (fun z => z.2.1) h4
  have := congrArg List.length h5
  rw [List.length_drop] at this
  simp only [List.length_nil] at this
  omega
theorem read_more {may : S27 → Prop} {a : S27} (ha : SpOk a) (c : Int) (s : S27) : ¬ readP may (enc a ++ [c]) s := by
  rintro ⟨h1, h2, _⟩
  have h3 := span_good.reads a [c] ha
  rw [h3] at h2
  cases h2
theorem isB_rowE {b : List Int} (h : IsB b) : IsB (rowE b) := isB_append (vput_isB _ (by omega)) h
theorem bytesOf_isB (s : ByteArray) : IsB (bytesOf s) := by
  intro x hx
  unfold bytesOf at hx
  obtain ⟨b, _, rfl⟩ := List.mem_map.1 hx
  have := b.toNat_lt
  omega
theorem isB_txtE (s : ByteArray) : IsB (txtE s) := isB_rowE (bytesOf_isB s)
theorem isB_flat {α : Type} {e : α → List Int} {xs : List α} (h : ∀ x ∈ xs, IsB (e x)) : IsB (xs.flatMap e) := by
  intro y hy
  obtain ⟨x, hx, hy⟩ := List.mem_flatMap.1 hy
  exact h x hx y hy
theorem isB_valE {v : S51} (h : i64 v.f2) : IsB (valE v) := by
  unfold valE
  split
  · exact isB_txtE _
  split
  · exact vput_isB _ (zig_bounds h.1 h.2).1
  · intro x hx
    rw [List.mem_singleton] at hx
    subst hx
    split <;> omega
theorem isB_enc {s : S27} (h : SpOk s) : IsB (enc s) := by
  unfold enc
  have hn : ∀ n : Nat, IsB (vput (n : Int)) := fun n => vput_isB _ (by omega)
  refine isB_append (vput_isB _ h.a.1) (isB_append (vput_isB _ h.b.1) (isB_append (vput_isB _ h.c.1) (isB_append (isB_txtE _) (isB_append (isB_txtE _) (isB_append (vput_isB _ (zig_bounds h.f.1 h.f.2).1) (isB_append (vput_isB _ (zig_bounds h.g.1 h.g.2).1) (isB_append (vput_isB _ h.h.1)
    (isB_append (isB_append (hn _) (isB_flat fun x hx => ?_)) (isB_append (isB_append (hn _) (isB_flat fun x hx => ?_)) (isB_append (hn _) (isB_flat fun x hx => ?_)))))))))))
  · have h2 := h.i.2 x hx
    unfold attE
    refine isB_append (isB_txtE _) (isB_append (fun y hy => ?_) (isB_valE h2.2.2.2.2.1))
    rw [List.mem_singleton] at hy
    subst hy
    exact ⟨h2.2.1, h2.2.2.1⟩
  · have h2 := h.j.2 x hx
    exact isB_append (vput_isB _ (zig_bounds h2.1.1 h2.1.2).1) (isB_txtE _)
  · have h2 := h.k.2 x hx
    exact isB_append (vput_isB _ h2.1.1) (vput_isB _ h2.2.1)
end Go.Proofs.YtkgpnfjmahjlcaaDoor.Wi

namespace Go.Proofs.YtkgpnfjmahjlcaaDoor.Wi
open Go.RowKit Go.Proofs.YtkgpnfjmahjlcaaDoorW.PrintWords Go.Proofs.YtkgpnfjmahjlcaaDoorW.PrintLast Go.Proofs.YtkgpnfjmahjlcaaDoorW.PrintMore Go.Proofs.YtkgpnfjmahjlcaaDoor.Math Go.Proofs.YtkgpnfjmahjlcaaDoor.PAll Go.Proofs.YtkgpnfjmahjlcaaDoor.NumFacts Go.Proofs.YtkgpnfjmahjlcaaDoor.Sq
set_option linter.unusedVariables false
set_option linter.unusedSimpArgs false
/-- A writer: a box with a row of its own, above the box. -/
structure WrS (w : World) (p : Nat) (xs : List Int) (A : Option Addr) (c : Nat) : Prop where
  blk : w.heap[p]? = some (.cells #[.slice A xs.length c] 58 (0, 0))
  row : Kd.R (Kd.int .u8) 5 w p (fun _ => True) (.slice A xs.length c) xs
def WrE (w : World) (p : Nat) (xs : List Int) : Prop := ∃ A c, WrS w p xs A c
/-- The writer's blocks. -/
def WO (w : World) (p k : Nat) : Prop := k = p ∨ ∃ A n c ad, w.heap[p]? = some (.cells #[.slice A n c] 58 (0, 0)) ∧ A = some ad ∧ ad.block = k
/-- What a step of the writer turns. -/
structure WT (p : Nat) (w w1 : World) : Prop where
  t : Turn (WO w p) w w1
  o : ∀ k, WO w1 p k → WO w p k ∨ w.heap.size ≤ k
theorem WT.trans {p : Nat} {w w1 w2 : World} (h : WT p w w1) (h2 : WT p w1 w2) : WT p w w2 :=
  ⟨h.t.trans h2.t h.o, fun k hk => (h2.o k hk).elim (fun h1 => h.o k h1) (fun h1 => .inr (Nat.le_trans h.t.size h1))⟩
theorem WT.refl (p : Nat) (w : World) : WT p w w := ⟨Turn.refl _ _, fun _ h => .inl h⟩
theorem WT.below {p : Nat} {w w1 : World} {xs : List Int} (h : WrE w p xs) (hb : Below w.heap.size w w1) : WT p w w1 := by
  obtain ⟨A, c, h⟩ := h
  refine ⟨Turn.of_below hb, fun k hk => .inl ?_⟩
  rcases hk with rfl | ⟨A', n, c', ad, h1, h2, h3⟩
  · exact .inl rfl
  · exact .inr ⟨A', n, c', ad, by rw [← h1, hb.block p (blk_lt h.blk)], h2, h3⟩
theorem WrE.below {p : Nat} {w w1 : World} {xs : List Int} (h : WrE w p xs) (hb : Below w.heap.size w w1) : WrE w1 p xs := by
  obtain ⟨A, c, h⟩ := h
  exact ⟨A, c, block_below h.blk hb, Kd.R_below h.row hb⟩
/-- A block that is none of the writer's stays, and is none of its. -/
theorem WT.keep {p : Nat} {w w1 : World} (h : WT p w w1) {k : Nat} {o : Obj} (hk : w.heap[k]? = some o) (hn : ¬ WO w p k) : w1.heap[k]? = some o ∧ ¬ WO w1 p k :=
  ⟨blk_turn h.t hk hn, fun h1 => (h.o k h1).elim hn (fun h2 => by have := blk_lt hk; omega)⟩
theorem WrS.own {w : World} {p : Nat} {xs : List Int} {A : Option Addr} {c : Nat} (h : WrS w p xs A c) {k : Nat} (hk : WO w p k) : p ≤ k := by
  rcases hk with rfl | ⟨A', n, c', ad, h1, h2, h3⟩
  · exact Nat.le_refl _
  · rw [h.blk] at h1
    injection h1 with h1
    injection h1 with h1
    have h4 : (Value.slice A xs.length c) = .slice A' n c' := by simpa using h1
    injection h4 with h4
    subst h4
    obtain ⟨_, inner, ho, _⟩ := h.row
    have := own_base ho ad.block (by rw [h2]; rfl)
    omega
theorem WT.low {p : Nat} {w w1 : World} {xs : List Int} (h : WT p w w1) (hw : WrE w p xs) : Below p w w1 := by
  obtain ⟨A, c, hw⟩ := hw
  have hp := blk_lt hw.blk
  exact ⟨h.t.os, h.t.tape, h.t.output, h.t.size, fun k hk => h.t.block k (by omega) (fun ho => by have := hw.own ho; omega)⟩
/-- The row grown, and put back into the box. -/
theorem WrS.put {w w1 : World} {p : Nat} {xs ys : List Int} {A A1 : Option Addr} {c c1 : Nat} (h : WrS w p xs A c) (hr : Kd.R (Kd.int .u8) 5 w1 p (fun _ => True) (.slice A1 (xs ++ ys).length c1) (xs ++ ys)) (hg : w.grownBy w1 (Value.slice A xs.length c).ownBlock)
    (hn : (Value.slice A1 (xs ++ ys).length c1).ownBlock = (Value.slice A xs.length c).ownBlock ∨ ∃ b, (Value.slice A1 (xs ++ ys).length c1).ownBlock = some b ∧ w.heap.size ≤ b) :
    w1.heap[p]? = some (.cells #[.slice A xs.length c] 58 (0, 0)) ∧ WrS (w1.setCell ⟨p, 0, none⟩ (.slice A1 (xs ++ ys).length c1)) p (xs ++ ys) A1 c1 ∧ WT p w (w1.setCell ⟨p, 0, none⟩ (.slice A1 (xs ++ ys).length c1)) := by
  have hp := blk_lt h.blk
  have hown : ∀ k, (Value.slice A xs.length c).ownBlock = some k → WO w p k := by
    intro k hk
    cases A with
    | none => cases hk
    | some ad =>
      injection hk with hk
      exact .inr ⟨_, _, _, ad, h.blk, rfl, hk⟩
  have hne : (Value.slice A xs.length c).ownBlock ≠ some p := by
    intro e
    obtain ⟨_, inner, ho, _⟩ := h.row
    obtain ⟨_, cc, hcc⟩ : p ≤ p ∧ ∃ cc, w.heap[p]? = some (.cells cc 5 (0, 0)) := by
      rcases ho.2 with ⟨h1, _⟩ | ⟨g, cap, cur, h1, hg', hh, _⟩
      · rw [h1] at e; cases e
      · rw [h1] at e
        injection e with e
        subst e
        exact ⟨Nat.le_refl _, cur, hh⟩
    rw [h.blk] at hcc
    injection hcc with hcc
    injection hcc with _ hcc
    exact absurd hcc (by decide)
  have hb : w1.heap[p]? = some (.cells #[.slice A xs.length c] 58 (0, 0)) := (hg.block p hp (fun e => hne e.symm)).trans h.blk
  have ht1 : Turn (WO w p) w w1 := Turn.of_grown hg hown
  have ht2 : Turn (WO w p) w (w1.setCell ⟨p, 0, none⟩ (.slice A1 (xs ++ ys).length c1)) := ht1.trans (Turn.set (O := fun k => k = p) w1 p 0 _ rfl) (fun k hk => .inl (.inl hk))
  have hb2 : (w1.setCell ⟨p, 0, none⟩ (.slice A1 (xs ++ ys).length c1)).heap[p]? = some (.cells #[.slice A1 (xs ++ ys).length c1] 58 (0, 0)) := blk_set hb 0 _
  have hne1 : (Value.slice A1 (xs ++ ys).length c1).ownBlock ≠ some p := by
    rcases hn with e | ⟨b, e, hbs⟩
    · rw [e]; exact hne
    · rw [e]; intro e2; injection e2 with e2; omega
  refine ⟨hb, ⟨hb2, ?_⟩, ht2, fun k hk => ?_⟩
  · have h4 := Kd.R_flat (ok' := fun k => some k = (Value.slice A1 (xs ++ ys).length c1).ownBlock) (fun {_ _ _ _} hm => hm) hr (fun k hk _ => hk.symm)
    exact Kd.R_mono (Kd.R_step h4 fun k hk hlt => (Turn.set (O := fun k => k = p) w1 p 0 _ rfl).block k hlt (fun e => hne1 (by rw [← e]; exact hk.symm))) (fun _ _ => trivial)
  · rcases hk with rfl | ⟨A', n, c', ad, h1, h2, h3⟩
    · exact .inl (.inl rfl)
    · rw [hb2] at h1
      injection h1 with h1
      injection h1 with h1
      have h4 : (Value.slice A1 (xs ++ ys).length c1) = .slice A' n c' := by simpa using h1
      injection h4 with h4
      subst h4
      have h5 : (Value.slice A1 (xs ++ ys).length c1).ownBlock = some k := by rw [h2, ← h3]; rfl
      rcases hn with e | ⟨b, e, hbs⟩
      · rw [e] at h5
        exact .inl (hown k h5)
      · rw [e] at h5
        injection h5 with h5
        exact .inr (by omega)
set_option maxHeartbeats 4000000 in
set_option maxRecDepth 100000 in
theorem wnum_calls {w : World} {p : Nat} {xs : List Int} (h : WrE w p xs) (v : Int) (hv : u64 v) (hl : (xs ++ vput v).length ≤ 1000000000000) :
    Calls Tryd.prog 24 #[.pointer (some ⟨p, 0, none⟩), .int .u64 v] w fun e w' => e = .returned (.tuple #[]) ∧ WrE w' p (xs ++ vput v) ∧ WT p w w' := by
  obtain ⟨A, c, h⟩ := h
  have HC := Lib.hid (fun w => num_Put.calls 20 v (vput v) w (put_eq 20 v hv.1 hv.2 (by decide)))
  have HW := Lib.hid h
  have HL := Lib.hid (show (xs.length + (vput v).length) * 1 ≤ 140737488355328 by rw [List.length_append] at hl; omega)
  obtain ⟨ys, hys⟩ : ∃ ys, vput v = ys := ⟨_, rfl⟩
  rw [hys] at HC HL ⊢
  have k0 : w.drew.cell? ⟨p, 0, none⟩ = some (.slice A xs.length c) := (blk_cell h.blk 0).trans rfl
  clear h hv hl hys
  go_enter Tryd.func24, Tryd.ntmps24
  refine start_ (n := 11) (S := fun w' => w'.cell? ⟨p, 0, none⟩ = some (.slice A xs.length c)) (ds := [10]) (fl 11 0) (by kernel_rfl) rfl rfl (k0) (fun hHeld => ?_)
  have HB0 := Lib.hid (below_drew (Below.refl w.heap.size w))
  generalize w.drew = w5 at k0 HB0 hHeld ⊢
  have HW5 := Lib.hid (show WrS w5 p xs A c from ⟨block_below HW.out.blk HB0.out, Kd.R_below HW.out.row HB0.out⟩)
  clear k0
  refine pu 0 (some 4) (fl 11 1) ?_
  refine pu 1 (some 5) (fl 11 3) ?_
  refine pu 2 (some 6) (fl 11 7) ?_
  refine pu 3 (some 7) (fl 11 15) ?_
  refine pu 5 (some 9) (fl 11 47) ?_
  refine tk 4 (some 8) (fl 11 63) hHeld ?_
  refine on_ 6 (some 10) (fl 11 127) fun K hK => ?_
  refine gs Tryd.func61 #[.int .u64 v] ?_
  with_reducible refine (HC.out _).mono ?_
  rintro ee w6 ⟨v6, rfl, hv6, hb6⟩
  refine ⟨_, rfl, ?_⟩
  obtain ⟨A6, c6, rfl⟩ := Kd.R_slice hv6
  have HO6 := Lib.hid (Kd.R_reads' hv6).2.2
  have HW6 := Lib.hid (show WrS w6 p xs A c from ⟨block_below HW5.out.blk hb6, Kd.R_below HW5.out.row hb6⟩)
  have HB6 := Lib.hid (below_step HB0.out hb6)
  clear hv6 hb6
  refine hK.out _ _ ((blk_cell HW6.out.blk 0).trans rfl) (fun hHeld => ?_)
  clear hK K
  refine nm ?_
  refine on_ 7 (some 11) (fl 11 255) fun K hK => ?_
  refine Kd.R_append_rows_step (Kd.int .u8) (w0 := w6) p (by rfl) (.tmp 8) (.tmp 10) 30 5 (.int .u8 0) 1 (by rfl) Tryd.underlying30 info5 rfl (by decide) (by omega) _ xs ys A6 _ c6 (fun _ => True) (fun _ => False) (by rfl) (by rfl) HW6.out.row HO6.out (fun _ _ h => h) (fun _ h => h.elim) (fun _ _ => trivial) (Below.refl _ _) (Nat.le_of_lt (blk_lt HW6.out.blk)) HL.out ?_
  intro v7 w7 ho hb hg_ hnew_
  obtain ⟨A7, c7, rfl⟩ := Kd.R_slice ho
  obtain ⟨hb7, hs7, ht7⟩ := HW6.out.put ho hg_ hnew_
  obtain ⟨m7, hm7⟩ : ∃ m, (xs ++ ys).length = m := ⟨_, rfl⟩
  rw [hm7] at hs7 ht7 ⊢
  have HW7 := Lib.hid hs7
  have HT7 := Lib.hid ((WT.below ⟨A, c, HW.out⟩ HB6.out).trans ht7)
  have c7_ := (blk_cell hb7 0).trans rfl
  have f7_ := blk_frozen hb7 0
  clear ho hb hg_ hnew_ hs7 ht7 hm7
  refine hK.out _ _ ((blk_cell hb7 0).trans rfl) (fun hHeld => ?_)
  clear hK K
  refine nm ?_
  refine pu 8 (some 12) (fl 11 511) ?_
  refine pu 9 (some 13) (fl 11 1023) ?_
  refine last_ (i := 10) (N := none) (fl 11 2047) rfl rfl (by kernel_rfl) (by decide) (fun K hK => ?_)
  refine skip_ (w1 := ?_) (by rfl) rfl ?_ ?_
  rotate_left
  · go_simp
    rfl
  refine hK.out _ _ ?_
  clear hK K
  refine done_ (by kernel_rfl) ?_
  go_end0
  exact ⟨rfl, ⟨_, _, HW7.out⟩, HT7.out⟩
set_option maxHeartbeats 4000000 in
set_option maxRecDepth 100000 in
theorem wsig_calls {w : World} {p : Nat} {xs : List Int} (h : WrE w p xs) (v : Int) (hv : i64 v) (hl : (xs ++ vput (zig v)).length ≤ 1000000000000) :
    Calls Tryd.prog 26 #[.pointer (some ⟨p, 0, none⟩), .int .i64 v] w fun e w' => e = .returned (.tuple #[]) ∧ WrE w' p (xs ++ vput (zig v)) ∧ WT p w w' := by
  obtain ⟨A, c, h⟩ := h
  have HC := Lib.hid (fun w => num_PutInt.calls 20 v (vput (zig v)) w (putint_eq 20 v hv.1 hv.2 (by decide)))
  have HW := Lib.hid h
  have HL := Lib.hid (show (xs.length + (vput (zig v)).length) * 1 ≤ 140737488355328 by rw [List.length_append] at hl; omega)
  obtain ⟨ys, hys⟩ : ∃ ys, vput (zig v) = ys := ⟨_, rfl⟩
  rw [hys] at HC HL ⊢
  have k0 : w.drew.cell? ⟨p, 0, none⟩ = some (.slice A xs.length c) := (blk_cell h.blk 0).trans rfl
  clear h hv hl hys
  go_enter Tryd.func26, Tryd.ntmps26
  refine start_ (n := 11) (S := fun w' => w'.cell? ⟨p, 0, none⟩ = some (.slice A xs.length c)) (ds := [10]) (fl 11 0) (by kernel_rfl) rfl rfl (k0) (fun hHeld => ?_)
  have HB0 := Lib.hid (below_drew (Below.refl w.heap.size w))
  generalize w.drew = w5 at k0 HB0 hHeld ⊢
  have HW5 := Lib.hid (show WrS w5 p xs A c from ⟨block_below HW.out.blk HB0.out, Kd.R_below HW.out.row HB0.out⟩)
  clear k0
  refine pu 0 (some 4) (fl 11 1) ?_
  refine pu 1 (some 5) (fl 11 3) ?_
  refine pu 2 (some 6) (fl 11 7) ?_
  refine pu 3 (some 7) (fl 11 15) ?_
  refine pu 5 (some 9) (fl 11 47) ?_
  refine tk 4 (some 8) (fl 11 63) hHeld ?_
  refine on_ 6 (some 10) (fl 11 127) fun K hK => ?_
  refine gs Tryd.func62 #[.int .i64 v] ?_
  with_reducible refine (HC.out _).mono ?_
  rintro ee w6 ⟨v6, rfl, hv6, hb6⟩
  refine ⟨_, rfl, ?_⟩
  obtain ⟨A6, c6, rfl⟩ := Kd.R_slice hv6
  have HO6 := Lib.hid (Kd.R_reads' hv6).2.2
  have HW6 := Lib.hid (show WrS w6 p xs A c from ⟨block_below HW5.out.blk hb6, Kd.R_below HW5.out.row hb6⟩)
  have HB6 := Lib.hid (below_step HB0.out hb6)
  clear hv6 hb6
  refine hK.out _ _ ((blk_cell HW6.out.blk 0).trans rfl) (fun hHeld => ?_)
  clear hK K
  refine nm ?_
  refine on_ 7 (some 11) (fl 11 255) fun K hK => ?_
  refine Kd.R_append_rows_step (Kd.int .u8) (w0 := w6) p (by rfl) (.tmp 8) (.tmp 10) 30 5 (.int .u8 0) 1 (by rfl) Tryd.underlying30 info5 rfl (by decide) (by omega) _ xs ys A6 _ c6 (fun _ => True) (fun _ => False) (by rfl) (by rfl) HW6.out.row HO6.out (fun _ _ h => h) (fun _ h => h.elim) (fun _ _ => trivial) (Below.refl _ _) (Nat.le_of_lt (blk_lt HW6.out.blk)) HL.out ?_
  intro v7 w7 ho hb hg_ hnew_
  obtain ⟨A7, c7, rfl⟩ := Kd.R_slice ho
  obtain ⟨hb7, hs7, ht7⟩ := HW6.out.put ho hg_ hnew_
  obtain ⟨m7, hm7⟩ : ∃ m, (xs ++ ys).length = m := ⟨_, rfl⟩
  rw [hm7] at hs7 ht7 ⊢
  have HW7 := Lib.hid hs7
  have HT7 := Lib.hid ((WT.below ⟨A, c, HW.out⟩ HB6.out).trans ht7)
  have c7_ := (blk_cell hb7 0).trans rfl
  have f7_ := blk_frozen hb7 0
  clear ho hb hg_ hnew_ hs7 ht7 hm7
  refine hK.out _ _ ((blk_cell hb7 0).trans rfl) (fun hHeld => ?_)
  clear hK K
  refine nm ?_
  refine pu 8 (some 12) (fl 11 511) ?_
  refine pu 9 (some 13) (fl 11 1023) ?_
  refine last_ (i := 10) (N := none) (fl 11 2047) rfl rfl (by kernel_rfl) (by decide) (fun K hK => ?_)
  refine skip_ (w1 := ?_) (by rfl) rfl ?_ ?_
  rotate_left
  · go_simp
    rfl
  refine hK.out _ _ ?_
  clear hK K
  refine done_ (by kernel_rfl) ?_
  go_end0
  exact ⟨rfl, ⟨_, _, HW7.out⟩, HT7.out⟩
theorem V_open {w : World} {v : Value} {N : Nat} {ok : Nat → Prop} {l : List Int} (h : Kd.V (Kd.int .u8) 5 w N ok v l) : ∃ A c, v = .slice A l.length c ∧ l.length ≤ c ∧ Kd.C (Kd.int .u8) w A l.length l := by
  obtain ⟨A, c, h1, h2, h3⟩ := h
  exact ⟨A, c, h1, h2, h3 w (fun _ _ _ => rfl)⟩
/-- Where a row that is read lies. -/
theorem C_lt {w : World} {A : Option Addr} {b : List Int} (hC : Kd.C (Kd.int .u8) w A b.length b) (h0 : 0 < b.length) {ad : Addr} (hA : A = some ad) : ∃ o, w.heap[ad.block]? = some o := by
  obtain ⟨ad', hA', hcc⟩ := C_src hC h0
  rw [hA] at hA'
  injection hA' with hA'
  subst hA'
  have hl' : 0 < (b.map (Value.int .u8)).length := by rw [List.length_map]; exact h0
  have h3 := World.block_lt_of_cell? w _ (hcc 0 _ (List.getElem?_eq_getElem hl'))
  have e : (ad.add 0).block = ad.block := by unfold Addr.add; split <;> rfl
  rw [e] at h3
  exact ⟨_, Array.getElem?_eq_getElem h3⟩
theorem WT.row {p : Nat} {w w1 : World} {A : Option Addr} {b : List Int} (h : WT p w w1) (hC : Kd.C (Kd.int .u8) w A b.length b) (hf : 0 < b.length → ∀ ad, A = some ad → ¬ WO w p ad.block) :
    Kd.C (Kd.int .u8) w1 A b.length b ∧ (0 < b.length → ∀ ad, A = some ad → ¬ WO w1 p ad.block) := by
  refine ⟨Ci_at hC fun h0 ad hA => ?_, fun h0 ad hA => ?_⟩
  · obtain ⟨o, ho⟩ := C_lt hC h0 hA
    rw [ho]
    exact (h.keep ho (hf h0 ad hA)).1
  · obtain ⟨o, ho⟩ := C_lt hC h0 hA
    exact (h.keep ho (hf h0 ad hA)).2
set_option maxHeartbeats 4000000 in
set_option maxRecDepth 100000 in
theorem wrow_calls {w : World} {p : Nat} {xs : List Int} (h : WrE w p xs) {Ab : Option Addr} {cb : Nat} {b : List Int} (hC : Kd.C (Kd.int .u8) w Ab b.length b) (hcb : b.length ≤ cb) (hf : 0 < b.length → ∀ ad, Ab = some ad → ¬ WO w p ad.block) (hl : (xs ++ rowE b).length ≤ 1000000000000) :
    Calls Tryd.prog 25 #[.pointer (some ⟨p, 0, none⟩), .slice Ab b.length cb] w fun e w' => e = .returned (.tuple #[]) ∧ WrE w' p (xs ++ rowE b) ∧ WT p w w' := by
  have hlb : b.length ≤ 1000000000000 := by unfold rowE at hl; simp only [List.length_append] at hl; omega
  have hw : IntKind.u64.wrap (b.length : Int) = (b.length : Int) := by rw [IntKind.wrap_u64]; omega
  have HN := Lib.hid (wnum_calls h (b.length : Int) ⟨by omega, by omega⟩ (by unfold rowE at hl; simp only [List.length_append] at hl ⊢; omega))
  have HC := Lib.hid hC
  have HF := Lib.hid hf
  have HL := Lib.hid (show ((xs ++ vput (b.length : Int)).length + b.length) * 1 ≤ 140737488355328 by unfold rowE at hl; simp only [List.length_append] at hl ⊢; omega)
  have HE := Lib.hid (show xs ++ rowE b = (xs ++ vput (b.length : Int)) ++ b by unfold rowE; rw [List.append_assoc])
  rw [HE.out]
  obtain ⟨ys, hys⟩ : ∃ ys, xs ++ vput (b.length : Int) = ys := ⟨_, rfl⟩
  rw [hys] at HN HL ⊢
  clear h hC hf hl hlb hys HE
  go_enter Tryd.func25, Tryd.ntmps25
  go_wp2_with fail
  refine HN.out.mono ?_
  rintro e w1 ⟨rfl, ⟨A, c, hW⟩, hT⟩
  have HW := Lib.hid hW
  have HT := Lib.hid hT
  have HB := Lib.hid (hT.row HC.out HF.out)
  have k0 : w1.cell? ⟨p, 0, none⟩ = some (.slice A ys.length c) := (blk_cell hW.blk 0).trans rfl
  clear hW hT
  go_wp2_with ((with_reducible refine gate_builtin (b := .append) (xs := #[.tmp 13, .tmp 14]) rfl ?_); at_builtin; refine Kd.R_append_rows (Kd.int .u8) (w0 := w1) p rfl (.tmp 13) (.tmp 14) 30 5 (.int .u8 0) 1 rfl Tryd.underlying30 info5 rfl (by decide) (by omega) (.slice A ys.length c) ys b Ab _ cb (fun _ => True) (fun _ => False) rfl rfl HW.out.row HB.out.1 (fun _ _ h => h) (fun _ h => h.elim) (fun _ _ => trivial) (Below.refl _ _) (Nat.le_of_lt (blk_lt HW.out.blk)) HL.out ?_; intro v7 w7 ho hb hg_ hnew_; obtain ⟨A7, c7, rfl⟩ := Kd.R_slice ho; obtain ⟨hb7, hs7, ht7⟩ := HW.out.put ho hg_ hnew_; obtain ⟨m7, hm7⟩ : ∃ m, (ys ++ b).length = m := ⟨_, rfl⟩; rw [hm7] at hs7 ht7 ⊢; have HW7 := Lib.hid hs7; have HT7 := Lib.hid (HT.out.trans ht7); have c7_ := (blk_cell hb7 0).trans rfl; have f7_ := blk_frozen hb7 0; clear ho hb hg_ hnew_ hs7 ht7 hm7 k0 hb7)
  go_end0
  exact ⟨rfl, ⟨_, _, HW7.out⟩, HT7.out⟩
end Go.Proofs.YtkgpnfjmahjlcaaDoor.Wi

namespace Go.Proofs.YtkgpnfjmahjlcaaDoor.Wi
open Go.RowKit Go.Proofs.YtkgpnfjmahjlcaaDoorW.PrintWords Go.Proofs.YtkgpnfjmahjlcaaDoorW.PrintLast Go.Proofs.YtkgpnfjmahjlcaaDoorW.PrintMore Go.Proofs.YtkgpnfjmahjlcaaDoor.Math Go.Proofs.YtkgpnfjmahjlcaaDoor.PAll Go.Proofs.YtkgpnfjmahjlcaaDoor.NumFacts Go.Proofs.YtkgpnfjmahjlcaaDoor.Sq
set_option linter.unusedVariables false
set_option linter.unusedSimpArgs false
/-- A new box is none of the writer's. -/
theorem WrE.box {w : World} {p : Nat} {xs : List Int} (h : WrE w p xs) (cs : Array Value) (T : TypeId) : WrE (w.alloc (.cells cs T)) p xs ∧ WT p w (w.alloc (.cells cs T)) ∧ (w.alloc (.cells cs T)).heap[w.heap.size]? = some (.cells cs T (0, 0)) ∧ ¬ WO (w.alloc (.cells cs T)) p w.heap.size := by
  have hb := below_alloc (Below.refl w.heap.size w) (.cells cs T)
  refine ⟨h.below hb, WT.below h hb, heap_alloc_new _ _, fun ho => ?_⟩
  obtain ⟨A, c, hw⟩ := h
  have hp := blk_lt hw.blk
  rcases ho with e | ⟨A', n, c', ad, h1, h2, h3⟩
  · omega
  · rw [hb.block p hp, hw.blk] at h1
    injection h1 with h1
    injection h1 with h1
    have h4 : (Value.slice A xs.length c) = .slice A' n c' := by simpa using h1
    injection h4 with h4
    subst h4
    obtain ⟨_, inner, hown, _⟩ := hw.row
    have := own_lt hown ad.block (by rw [h2]; rfl)
    omega
theorem WrS.notnew {w : World} {p : Nat} {xs : List Int} {A : Option Addr} {c : Nat} (hw : WrS w p xs A c) {k : Nat} (hk : w.heap.size ≤ k) : ¬ WO w p k := by
  have hp := blk_lt hw.blk
  rintro (e | ⟨A', n, c', ad, h1, h2, h3⟩)
  · omega
  · rw [hw.blk] at h1
    injection h1 with h1
    injection h1 with h1
    have h4 : (Value.slice A xs.length c) = .slice A' n c' := by simpa using h1
    injection h4 with h4
    subst h4
    obtain ⟨_, inner, hown, _⟩ := hw.row
    have := own_lt hown ad.block (by rw [h2]; rfl)
    omega
theorem WrS.other {w w1 : World} {p : Nat} {xs : List Int} {A : Option Addr} {c : Nat} (hw : WrS w p xs A c) (hg : w.grownBy w1 (Value.slice A xs.length c).ownBlock) {g : Nat} {o : Obj} (hk : w.heap[g]? = some o) (hn : ¬ WO w p g) : w1.heap[g]? = some o := by
  rw [hg.block g (blk_lt hk) (fun e => hn (by
    cases A with
    | none => cases e
    | some ad => injection e with e; exact .inr ⟨_, _, _, ad, hw.blk, rfl, e.symm⟩))]
  exact hk
/-- A conversion's row is none of the writer's. -/
theorem WrE.conv {w w1 : World} {p : Nat} {xs : List Int} (h : WrE w p xs) (hb : Below w.heap.size w w1) {A : Option Addr} {n c : Nat} (hn : ∃ b, (Value.slice A n c).ownBlock = some b ∧ w.heap.size ≤ b) : ∀ ad, A = some ad → ¬ WO w1 p ad.block := by
  intro ad hA ho
  obtain ⟨b, hb1, hb2⟩ := hn
  rw [hA] at hb1
  injection hb1 with hb1
  obtain ⟨A', c', hw⟩ := h
  refine hw.notnew (k := ad.block) (by rw [hb1]; exact hb2) ?_
  rcases ho with e | ⟨A2, n2, c2, ad2, h1, h2, h3⟩
  · exact .inl e
  · exact .inr ⟨A2, n2, c2, ad2, by rw [← h1, hb.block p (blk_lt hw.blk)], h2, h3⟩
set_option maxHeartbeats 4000000 in
set_option maxRecDepth 100000 in
theorem wlk_calls {w : World} {p : Nat} {xs : List Int} (h : WrE w p xs) (x : S68) (h0 : u64 x.f0) (h1' : u64 x.f1) (hl : (xs ++ lkE x).length ≤ 1000000000000) :
    Calls Tryd.prog 32 #[.pointer (some ⟨p, 0, none⟩), .agg #[.int .u64 x.f0, .int .u64 x.f1]] w fun e w' => e = .returned (.tuple #[]) ∧ WrE w' p (xs ++ lkE x) ∧ WT p w w' := by
  have HL0 := Lib.hid (show (xs ++ vput x.f0).length ≤ 1000000000000 by unfold lkE at hl; simp only [List.length_append] at hl ⊢; omega)
  have HE := Lib.hid (show xs ++ lkE x = (xs ++ vput x.f0) ++ vput x.f1 by unfold lkE; rw [List.append_assoc])
  have HL1 := Lib.hid (show ((xs ++ vput x.f0) ++ vput x.f1).length ≤ 1000000000000 by rw [← HE.out]; exact hl)
  rw [HE.out]
  have H0 := Lib.hid h0
  have H1 := Lib.hid h1'
  obtain ⟨h1, t1, k1, n1⟩ := h.box #[.int .u64 x.f0, .int .u64 x.f1] 68
  obtain ⟨g, hg⟩ : ∃ g, w.heap.size = g := ⟨_, rfl⟩
  rw [hg] at k1 n1
  obtain ⟨w1, hw1⟩ : ∃ w1, w.alloc (.cells #[.int .u64 x.f0, .int .u64 x.f1] 68) = w1 := ⟨_, rfl⟩
  rw [hw1] at h1 t1 k1 n1
  have HW1 := Lib.hid h1
  have HT1 := Lib.hid t1
  have HK1 := Lib.hid (And.intro k1 n1)
  have y0 : w1.cell? ⟨g, 0, none⟩ = some (.int .u64 x.f0) := (blk_cell k1 0).trans rfl
  have y1 : w1.cell? ⟨g, 1, none⟩ = some (.int .u64 x.f1) := (blk_cell k1 1).trans rfl
  have HC := Lib.hid (wnum_calls HW1.out x.f0 H0.out HL0.out)
  clear h h0 h1' h1 t1 k1 n1 hl HE
  go_enter Tryd.func32, Tryd.ntmps32
  go_wp2_with fail
  refine HC.out.mono ?_
  rintro e w2 ⟨rfl, hW, hT⟩
  have HC2 := Lib.hid (wnum_calls hW x.f1 H1.out HL1.out)
  have HT2 := Lib.hid (HT1.out.trans hT)
  obtain ⟨k2, _⟩ := hT.keep HK1.out.1 HK1.out.2
  have z0 : w2.cell? ⟨g, 0, none⟩ = some (.int .u64 x.f0) := (blk_cell k2 0).trans rfl
  have z1 : w2.cell? ⟨g, 1, none⟩ = some (.int .u64 x.f1) := (blk_cell k2 1).trans rfl
  clear hW hT k2 y0 y1
  go_wp2_with fail
  refine HC2.out.mono ?_
  rintro e w3 ⟨rfl, hW, hT⟩
  have HW3 := Lib.hid hW
  have HT3 := Lib.hid (HT2.out.trans hT)
  clear hW hT
  go_wp2
  go_end0
  exact ⟨rfl, HW3.out, HT3.out⟩
set_option maxHeartbeats 4000000 in
set_option maxRecDepth 100000 in
theorem wev_calls {w : World} {p : Nat} {xs : List Int} (h : WrE w p xs) (x : S55) (h0 : i64 x.f0) (h1' : (x.f1.size : Int) ≤ 140737488355328) (hl : (xs ++ evE x).length ≤ 1000000000000) :
    Calls Tryd.prog 30 #[.pointer (some ⟨p, 0, none⟩), .agg #[.int .i64 x.f0, .string x.f1]] w fun e w' => e = .returned (.tuple #[]) ∧ WrE w' p (xs ++ evE x) ∧ WT p w w' := by
  have HL0 := Lib.hid (show (xs ++ vput (zig x.f0)).length ≤ 1000000000000 by unfold evE at hl; simp only [List.length_append] at hl ⊢; omega)
  have HE := Lib.hid (show xs ++ evE x = (xs ++ vput (zig x.f0)) ++ rowE (bytesOf x.f1) by unfold evE txtE; rw [List.append_assoc])
  have HL1 := Lib.hid (show ((xs ++ vput (zig x.f0)) ++ rowE (bytesOf x.f1)).length ≤ 1000000000000 by rw [← HE.out]; exact hl)
  rw [HE.out]
  have H0 := Lib.hid h0
  have H1 := Lib.hid h1'
  obtain ⟨h1, t1, k1, n1⟩ := h.box #[.int .i64 x.f0, .string x.f1] 55
  obtain ⟨g, hg⟩ : ∃ g, w.heap.size = g := ⟨_, rfl⟩
  rw [hg] at k1 n1
  obtain ⟨w1, hw1⟩ : ∃ w1, w.alloc (.cells #[.int .i64 x.f0, .string x.f1] 55) = w1 := ⟨_, rfl⟩
  rw [hw1] at h1 t1 k1 n1
  have HW1 := Lib.hid h1
  have HT1 := Lib.hid t1
  have HK1 := Lib.hid (And.intro k1 n1)
  have y0 : w1.cell? ⟨g, 0, none⟩ = some (.int .i64 x.f0) := (blk_cell k1 0).trans rfl
  have y1 : w1.cell? ⟨g, 1, none⟩ = some (.string x.f1) := (blk_cell k1 1).trans rfl
  have HC := Lib.hid (wsig_calls HW1.out x.f0 H0.out HL0.out)
  clear h h0 h1' h1 t1 k1 n1 hl HE
  go_enter Tryd.func30, Tryd.ntmps30
  go_wp2_with fail
  refine HC.out.mono ?_
  rintro e w2 ⟨rfl, hW, hT⟩
  have HW2 := Lib.hid hW
  have HT2 := Lib.hid (HT1.out.trans hT)
  have HK2 := Lib.hid (hT.keep HK1.out.1 HK1.out.2)
  have z0 : w2.cell? ⟨g, 0, none⟩ = some (.int .i64 x.f0) := (blk_cell HK2.out.1 0).trans rfl
  have z1 : w2.cell? ⟨g, 1, none⟩ = some (.string x.f1) := (blk_cell HK2.out.1 1).trans rfl
  clear hW hT y0 y1
  go_wp2_with ((with_reducible refine gate_dst (N := 11) rfl ?_); refine Conv.V_conv _ 5 rfl (N' := 11) rfl 9 30 _ rfl Tryd.underlying9 Tryd.underlying30 Tryd.underlying5 x.f1 rfl (by have := H1.out; omega) (Below.refl _ _) (Nat.le_refl _) ?_; intro v3 w3 ho hb hg_ hnew_; obtain ⟨A3, c3, rfl, hc3, hC3⟩ := V_open ho; have HC3 := Lib.hid hC3; have HX3 := Lib.hid (HW2.out.conv hb hnew_); have HT3 := Lib.hid (HT2.out.trans (WT.below HW2.out hb)); have HK3 := Lib.hid (And.intro (block_below HK2.out.1 hb) ((WT.below HW2.out hb).keep HK2.out.1 HK2.out.2).2); have HW3 := Lib.hid (HW2.out.below hb); clear ho hb hg_ hnew_ hC3)
  refine (wrow_calls HW3.out HC3.out hc3 (fun _ => HX3.out) HL1.out).mono ?_
  rintro e w4 ⟨rfl, hW, hT⟩
  have HW4 := Lib.hid hW
  have HT4 := Lib.hid (HT3.out.trans hT)
  clear hW hT
  go_wp2
  go_end0
  exact ⟨rfl, HW4.out, HT4.out⟩
set_option maxHeartbeats 4000000 in
set_option maxRecDepth 100000 in
theorem watt_calls {w : World} {p : Nat} {xs : List Int} (h : WrE w p xs) (x : S53) (h0 : (x.f0.size : Int) ≤ 140737488355328) (h1' : (x.f1.f1.size : Int) ≤ 140737488355328) (h2 : i64 x.f1.f2) (h3 : 0 ≤ x.f1.f0 ∧ x.f1.f0 < 256) (hl : (xs ++ attE x).length ≤ 1000000000000) :
    Calls Tryd.prog 28 #[.pointer (some ⟨p, 0, none⟩), .agg #[.string x.f0, .int .i64 x.f1.f0, .string x.f1.f1, .int .i64 x.f1.f2, .bool x.f1.f3]] w fun e w' => e = .returned (.tuple #[]) ∧ WrE w' p (xs ++ attE x) ∧ WT p w w' := by
  have HE := Lib.hid (show xs ++ attE x = ((xs ++ rowE (bytesOf x.f0)) ++ [x.f1.f0]) ++ valE x.f1 by unfold attE txtE; rw [List.append_assoc, List.append_assoc])
  have HL2 := Lib.hid (show (((xs ++ rowE (bytesOf x.f0)) ++ [x.f1.f0]) ++ valE x.f1).length ≤ 1000000000000 by rw [← HE.out]; exact hl)
  have HL1 := Lib.hid (show ((xs ++ rowE (bytesOf x.f0)) ++ [x.f1.f0]).length ≤ 1000000000000 by have := HL2.out; simp only [List.length_append] at this ⊢; omega)
  have HL0 := Lib.hid (show (xs ++ rowE (bytesOf x.f0)).length ≤ 1000000000000 by have := HL1.out; simp only [List.length_append] at this ⊢; omega)
  rw [HE.out]
  have H0 := Lib.hid h0
  have H1 := Lib.hid h1'
  have H2 := Lib.hid h2
  have H3 := Lib.hid h3
  have hwk : IntKind.u8.wrap x.f1.f0 = x.f1.f0 := by rw [IntKind.wrap_u8]; have := h3.1; have := h3.2; omega
  obtain ⟨h1, t1, k1, n1⟩ := h.box #[.string x.f0, .int .i64 x.f1.f0, .string x.f1.f1, .int .i64 x.f1.f2, .bool x.f1.f3] 53
  obtain ⟨g, hg⟩ : ∃ g, w.heap.size = g := ⟨_, rfl⟩
  rw [hg] at k1 n1
  obtain ⟨w1, hw1⟩ : ∃ w1, w.alloc (.cells #[.string x.f0, .int .i64 x.f1.f0, .string x.f1.f1, .int .i64 x.f1.f2, .bool x.f1.f3] 53) = w1 := ⟨_, rfl⟩
  rw [hw1] at h1 t1 k1 n1
  have HW1 := Lib.hid h1
  have HT1 := Lib.hid t1
  have HK1 := Lib.hid (And.intro k1 n1)
  have y0 : w1.cell? ⟨g, 0, none⟩ = some (.string x.f0) := (blk_cell k1 0).trans rfl
  have y1 : w1.cell? ⟨g, 1, none⟩ = some (.int .i64 x.f1.f0) := (blk_cell k1 1).trans rfl
  have y2 : w1.cell? ⟨g, 2, none⟩ = some (.string x.f1.f1) := (blk_cell k1 2).trans rfl
  have y3 : w1.cell? ⟨g, 3, none⟩ = some (.int .i64 x.f1.f2) := (blk_cell k1 3).trans rfl
  have y4 : w1.cell? ⟨g, 4, none⟩ = some (.bool x.f1.f3) := (blk_cell k1 4).trans rfl
  obtain ⟨ys, hys⟩ : ∃ ys, xs ++ rowE (bytesOf x.f0) = ys := ⟨_, rfl⟩
  rw [hys] at HL0 HL1 HL2 ⊢
  have HYS := Lib.hid hys
  obtain ⟨zs, hzs⟩ : ∃ zs, ys ++ [x.f1.f0] = zs := ⟨_, rfl⟩
  rw [hzs] at HL2 ⊢
  have HZS := Lib.hid hzs
  clear hzs
  have HL1 := Lib.hid (show (ys.length + 1) * 1 ≤ 140737488355328 by have := HL1.out; simp only [List.length_append, List.length_cons, List.length_nil] at this; omega)
  clear h h0 h1' h2 h3 h1 t1 k1 n1 hl HE hys
  go_enter Tryd.func28, Tryd.ntmps28
  go_wp2_with ((with_reducible refine gate_dst (N := 8) rfl ?_); refine Conv.V_conv _ 5 rfl (N' := 8) rfl 9 30 _ rfl Tryd.underlying9 Tryd.underlying30 Tryd.underlying5 x.f0 rfl (by have := H0.out; omega) (Below.refl _ _) (Nat.le_refl _) ?_; intro v3 w3 ho hb hg_ hnew_; obtain ⟨A3, c3, rfl, hc3, hC3⟩ := V_open ho; have HC3 := Lib.hid hC3; have HX3 := Lib.hid (HW1.out.conv hb hnew_); have HT3 := Lib.hid (HT1.out.trans (WT.below HW1.out hb)); have HK3 := Lib.hid (And.intro (block_below HK1.out.1 hb) ((WT.below HW1.out hb).keep HK1.out.1 HK1.out.2).2); have HW3 := Lib.hid (HW1.out.below hb); clear ho hb hg_ hnew_ hC3)
  refine (wrow_calls HW3.out HC3.out hc3 (fun _ => HX3.out) (by rw [HYS.out]; exact HL0.out)).mono ?_
  rintro e w4 ⟨rfl, hW, hT⟩
  rw [HYS.out] at hW
  have HW4 := Lib.hid hW
  have HT4 := Lib.hid (HT3.out.trans hT)
  have HK4 := Lib.hid (hT.keep HK3.out.1 HK3.out.2)
  obtain ⟨A, c, hWS⟩ := id hW
  have k0 : w4.drew.cell? ⟨p, 0, none⟩ = some (.slice A ys.length c) := (blk_cell hWS.blk 0).trans rfl
  have k1 : w4.drew.cell? ⟨g, 1, none⟩ = some (.int .i64 x.f1.f0) := (blk_cell HK4.out.1 1).trans rfl
  have HWS := Lib.hid hWS
  clear hW hT hWS y0 y1 y2 y3 y4
  go_upto_region 2 with (fail)
  refine start_ (n := 14) (S := fun w' => w'.cell? ⟨p, 0, none⟩ = some (.slice A ys.length c) ∧ w'.cell? ⟨g, 1, none⟩ = some (.int .i64 x.f1.f0)) (ds := [13]) #[false, false, false, false, false, false, false, false, false, false, false, false, false, false] (by kernel_rfl) rfl rfl ⟨k0, k1⟩ (fun hHeld => ?_)
  have HB0 := Lib.hid (below_drew (Below.refl w4.heap.size w4))
  generalize w4.drew = w5 at k0 k1 HB0 hHeld ⊢
  have HW5 := Lib.hid (show WrS w5 p ys A c from ⟨block_below HWS.out.blk HB0.out, Kd.R_below HWS.out.row HB0.out⟩)
  have HT5 := Lib.hid (HT4.out.trans (WT.below HW4.out HB0.out))
  have HK5 := Lib.hid ((WT.below HW4.out HB0.out).keep HK4.out.1 HK4.out.2)
  clear k0 k1
  refine pure_ (i := 0) (N := some 10) (v := ?_) (a' := ?_) #[true, false, false, false, false, false, false, false, false, false, false, false, false, false] rfl rfl (by kernel_rfl) (fun _ _ _ h => h) (Or.inl ⟨by rfl, ?_⟩) ?_ ?_
  rotate_left
  · intro w'
    go_simp
    with_reducible rfl
  rotate_left
  · simp only [Act.put, List.setIfInBounds_toArray, List.set_cons_zero, List.set_cons_succ, i64_w, i32_w]
    rfl
  refine pure_ (i := 1) (N := some 11) (v := ?_) (a' := ?_) #[true, true, false, false, false, false, false, false, false, false, false, false, false, false] rfl rfl (by kernel_rfl) (fun _ _ _ h => h) (Or.inl ⟨by rfl, ?_⟩) ?_ ?_
  rotate_left
  · intro w'
    go_simp
    with_reducible rfl
  rotate_left
  · simp only [Act.put, List.setIfInBounds_toArray, List.set_cons_zero, List.set_cons_succ, i64_w, i32_w]
    rfl
  refine pure_ (i := 2) (N := some 12) (v := ?_) (a' := ?_) #[true, true, true, false, false, false, false, false, false, false, false, false, false, false] rfl rfl (by kernel_rfl) (fun _ _ _ h => h) (Or.inl ⟨by rfl, ?_⟩) ?_ ?_
  rotate_left
  · intro w'
    go_simp
    with_reducible rfl
  rotate_left
  · simp only [Act.put, List.setIfInBounds_toArray, List.set_cons_zero, List.set_cons_succ, i64_w, i32_w]
    rfl
  refine pure_ (i := 3) (N := some 13) (v := ?_) (a' := ?_) #[true, true, true, true, false, false, false, false, false, false, false, false, false, false] rfl rfl (by kernel_rfl) (fun _ _ _ h => h) (Or.inl ⟨by rfl, ?_⟩) ?_ ?_
  rotate_left
  · intro w'
    go_simp
    with_reducible rfl
  rotate_left
  · simp only [Act.put, List.setIfInBounds_toArray, List.set_cons_zero, List.set_cons_succ, i64_w, i32_w]
    rfl
  refine pure_ (i := 5) (N := some 15) (v := ?_) (a' := ?_) #[true, true, true, true, false, true, false, false, false, false, false, false, false, false] rfl rfl (by kernel_rfl) (fun _ _ _ h => h) (Or.inl ⟨by rfl, ?_⟩) ?_ ?_
  rotate_left
  · intro w'
    go_simp
    with_reducible rfl
  rotate_left
  · simp only [Act.put, List.setIfInBounds_toArray, List.set_cons_zero, List.set_cons_succ, i64_w, i32_w]
    rfl
  refine pure_ (i := 6) (N := some 16) (v := ?_) (a' := ?_) #[true, true, true, true, false, true, true, false, false, false, false, false, false, false] rfl rfl (by kernel_rfl) (fun _ _ _ h => h) (Or.inl ⟨by rfl, ?_⟩) ?_ ?_
  rotate_left
  · intro w'
    go_simp
    with_reducible rfl
  rotate_left
  · simp only [Act.put, List.setIfInBounds_toArray, List.set_cons_zero, List.set_cons_succ, i64_w, i32_w]
    rfl
  refine take_ (i := 4) (N := some 14) (v := ?_) (a' := ?_) #[true, true, true, true, true, true, true, false, false, false, false, false, false, false] rfl rfl (by kernel_rfl) (fun _ _ _ h => h) (Or.inl ⟨by rfl, ?_⟩) hHeld ?_ ?_
  rotate_left
  · rintro w' ⟨s0, s1⟩
    go_simp
    with_reducible rfl
  rotate_left
  · simp only [Act.put, List.setIfInBounds_toArray, List.set_cons_zero, List.set_cons_succ, i64_w, i32_w]
    rfl
  refine take_ (i := 7) (N := some 17) (v := ?_) (a' := ?_) #[true, true, true, true, true, true, true, true, false, false, false, false, false, false] rfl rfl (by kernel_rfl) (fun _ _ _ h => h) (Or.inl ⟨by rfl, ?_⟩) hHeld ?_ ?_
  rotate_left
  · rintro w' ⟨s0, s1⟩
    go_simp
    with_reducible rfl
  rotate_left
  · simp only [Act.put, List.setIfInBounds_toArray, List.set_cons_zero, List.set_cons_succ, i64_w, i32_w]
    rfl
  refine pure_ (i := 8) (N := some 18) (v := ?_) (a' := ?_) #[true, true, true, true, true, true, true, true, true, false, false, false, false, false] rfl rfl (by kernel_rfl) (fun _ _ _ h => h) (Or.inl ⟨by rfl, ?_⟩) ?_ ?_
  rotate_left
  · intro w'
    go_simp
    with_reducible rfl
  rotate_left
  · simp only [Act.put, List.setIfInBounds_toArray, List.set_cons_zero, List.set_cons_succ, i64_w, i32_w]
    rfl
  refine one_ (i := 9) (N := some 19) #[true, true, true, true, true, true, true, true, true, true, false, false, false, false] rfl rfl (by kernel_rfl) (by decide) (fun K hK => ?_)
  refine Kd.R_lit_step (Kd.int .u8) (w0 := w5) w5.heap.size 5 (by rfl) (N := 19) (by rfl) (xs := [x.f1.f0]) (inner := [.int .u8 x.f1.f0]) (ok := fun _ => True) (okp := fun _ => True) (by first | (go_simp; done) | (go_simp; rfl)) (Reps.one (show Kd.M (Kd.int .u8) _ _ _ x.f1.f0 [.int .u8 x.f1.f0] from rfl) (Reps.none _ _)) (fun _ hk => hk) trivial (Below.refl _ _) (Nat.le_refl _) (by simp) ?_
  intro v6 w6 ho hb hg_ hnew_
  obtain ⟨A6, c6, rfl⟩ := Kd.R_slice ho
  have HO6 := Lib.hid (Kd.R_reads' ho).2.2
  have HW6 := Lib.hid (show WrS w6 p ys A c from ⟨block_below HW5.out.blk hb, Kd.R_below HW5.out.row hb⟩)
  have HT6 := Lib.hid (HT5.out.trans (WT.below ⟨_, _, HW5.out⟩ hb))
  have HK6 := Lib.hid ((WT.below ⟨_, _, HW5.out⟩ hb).keep HK5.out.1 HK5.out.2)
  clear ho hb hg_ hnew_
  refine hK.out _ _ ⟨(blk_cell HW6.out.blk 0).trans rfl, (blk_cell HK6.out.1 1).trans rfl⟩ (fun hHeld => ?_)
  clear hK K
  refine norm_ (a' := ?_) ?_ ?_
  rotate_left
  · show Act.put _ (some 19) _ = _
    simp only [Act.put, List.setIfInBounds_toArray, List.set_cons_zero, List.set_cons_succ, i64_w, i32_w]
    rfl
  refine one_ (i := 10) (N := some 20) #[true, true, true, true, true, true, true, true, true, true, true, false, false, false] rfl rfl (by kernel_rfl) (by decide) (fun K hK => ?_)
  refine Kd.R_append_rows_step (Kd.int .u8) (w0 := w6) p (by rfl) (.tmp 14) (.tmp 19) 30 5 (.int .u8 0) 1 (by rfl) Tryd.underlying30 info5 rfl (by decide) (by omega) _ ys [x.f1.f0] A6 _ c6 (fun _ => True) (fun _ => False) (by rfl) (by rfl) HW6.out.row HO6.out (fun _ _ h => h) (fun _ h => h.elim) (fun _ _ => trivial) (Below.refl _ _) (Nat.le_of_lt (blk_lt HW6.out.blk)) HL1.out ?_
  intro v7 w7 ho hb hg_ hnew_
  obtain ⟨A7, c7, rfl⟩ := Kd.R_slice ho
  obtain ⟨hb7, hs7, ht7⟩ := HW6.out.put ho hg_ hnew_
  have hk7 := HW6.out.other hg_ HK6.out.1 HK6.out.2
  obtain ⟨m7, hm7⟩ : ∃ m, (ys ++ [x.f1.f0]).length = m := ⟨_, rfl⟩
  rw [hm7] at hs7 ht7 ⊢
  have HW7 := Lib.hid hs7
  have HT7 := Lib.hid (HT6.out.trans ht7)
  have HK7 := Lib.hid (ht7.keep HK6.out.1 HK6.out.2)
  have c7_ := (blk_cell hb7 0).trans rfl
  have f7_ := blk_frozen hb7 0
  clear ho hb hg_ hnew_ hs7 ht7 hm7
  refine hK.out _ _ ⟨(blk_cell hb7 0).trans rfl, (blk_cell hk7 1).trans rfl⟩ (fun hHeld => ?_)
  clear hK K
  refine norm_ (a' := ?_) ?_ ?_
  rotate_left
  · show Act.put _ (some 20) _ = _
    simp only [Act.put, List.setIfInBounds_toArray, List.set_cons_zero, List.set_cons_succ, i64_w, i32_w]
    rfl
  refine pure_ (i := 11) (N := some 21) (v := ?_) (a' := ?_) #[true, true, true, true, true, true, true, true, true, true, true, true, false, false] rfl rfl (by kernel_rfl) (fun _ _ _ h => h) (Or.inl ⟨by rfl, ?_⟩) ?_ ?_
  rotate_left
  · intro w'
    go_simp
    with_reducible rfl
  rotate_left
  · simp only [Act.put, List.setIfInBounds_toArray, List.set_cons_zero, List.set_cons_succ, i64_w, i32_w]
    rfl
  refine pure_ (i := 12) (N := some 22) (v := ?_) (a' := ?_) #[true, true, true, true, true, true, true, true, true, true, true, true, true, false] rfl rfl (by kernel_rfl) (fun _ _ _ h => h) (Or.inl ⟨by rfl, ?_⟩) ?_ ?_
  rotate_left
  · intro w'
    go_simp
    with_reducible rfl
  rotate_left
  · simp only [Act.put, List.setIfInBounds_toArray, List.set_cons_zero, List.set_cons_succ, i64_w, i32_w]
    rfl
  refine last_ (i := 13) (N := none) #[true, true, true, true, true, true, true, true, true, true, true, true, true, true] rfl rfl (by kernel_rfl) (by decide) (fun K hK => ?_)
  refine skip_ (w1 := ?_) (by rfl) rfl ?_ ?_
  rotate_left
  · go_simp
    rfl
  refine hK.out _ _ ?_
  clear hK K
  refine done_ (by kernel_rfl) ?_
  have HW8 := Lib.hid (show WrE _ p (ys ++ [x.f1.f0]) from ⟨_, _, HW7.out⟩)
  obtain ⟨w8, hw8⟩ : ∃ w8, w7.setCell ⟨p, 0, none⟩ (.slice A7 m7 c7) = w8 := ⟨_, rfl⟩
  rw [hw8] at HW8 HT7 HK7 ⊢
  rw [HZS.out] at HW8
  clear hw8 c7_ f7_ hb7 hk7 HW7
  have z0 : w8.cell? ⟨g, 0, none⟩ = some (.string x.f0) := (blk_cell HK7.out.1 0).trans rfl
  have z1 : w8.cell? ⟨g, 1, none⟩ = some (.int .i64 x.f1.f0) := (blk_cell HK7.out.1 1).trans rfl
  have z2 : w8.cell? ⟨g, 2, none⟩ = some (.string x.f1.f1) := (blk_cell HK7.out.1 2).trans rfl
  have z3 : w8.cell? ⟨g, 3, none⟩ = some (.int .i64 x.f1.f2) := (blk_cell HK7.out.1 3).trans rfl
  have z4 : w8.cell? ⟨g, 4, none⟩ = some (.bool x.f1.f3) := (blk_cell HK7.out.1 4).trans rfl
  by_cases e0 : x.f1.f0 = 0
  · have d0 : (x.f1.f0 == 0) = true := beq_iff_eq.2 e0
    have HV := Lib.hid (show valE x.f1 = rowE (bytesOf x.f1.f1) by unfold valE txtE; rw [if_pos e0])
    rw [HV.out] at HL2
    clear e0
    go_wp2_with ((with_reducible refine gate_dst (N := 45) rfl ?_); refine Conv.V_conv _ 5 rfl (N' := 45) rfl 9 30 _ rfl Tryd.underlying9 Tryd.underlying30 Tryd.underlying5 x.f1.f1 rfl (by have := H1.out; omega) (Below.refl _ _) (Nat.le_refl _) ?_; intro v9 w9 ho hb hg_ hnew_; obtain ⟨A9, c9, rfl, hc9, hC9⟩ := V_open ho; have HC9 := Lib.hid hC9; have HX9 := Lib.hid (HW8.out.conv hb hnew_); have HT9 := Lib.hid (HT7.out.trans (WT.below HW8.out hb)); have HK9 := Lib.hid (And.intro (block_below HK7.out.1 hb) ((WT.below HW8.out hb).keep HK7.out.1 HK7.out.2).2); have HW9 := Lib.hid (HW8.out.below hb); clear ho hb hg_ hnew_ hC9)
    refine (wrow_calls HW9.out HC9.out hc9 (fun _ => HX9.out) HL2.out).mono ?_
    rintro e wa ⟨rfl, hW, hT⟩
    have HWa := Lib.hid hW
    have HTa := Lib.hid (HT9.out.trans hT)
    clear hW hT
    go_wp2
    go_end0
    exact ⟨rfl, by rw [HV.out]; exact HWa.out, HTa.out⟩
  have d0 : (x.f1.f0 == 0) = false := beq_eq_false_iff_ne.2 e0
  by_cases e1 : x.f1.f0 = 1
  · have d1 : (x.f1.f0 == 1) = true := beq_iff_eq.2 e1
    have HV := Lib.hid (show valE x.f1 = vput (zig x.f1.f2) by unfold valE; rw [if_neg e0, if_pos e1])
    rw [HV.out] at HL2
    have HC := Lib.hid (wsig_calls HW8.out x.f1.f2 H2.out HL2.out)
    clear e0 e1
    go_wp2_with fail
    refine HC.out.mono ?_
    rintro e wa ⟨rfl, hW, hT⟩
    have HWa := Lib.hid hW
    have HTa := Lib.hid (HT7.out.trans hT)
    clear hW hT
    go_wp2
    go_end0
    exact ⟨rfl, by rw [HV.out]; exact HWa.out, HTa.out⟩
  have d1 : (x.f1.f0 == 1) = false := beq_eq_false_iff_ne.2 e1
  have HV := Lib.hid (show valE x.f1 = [if x.f1.f3 then 1 else 0] by unfold valE; rw [if_neg e0, if_neg e1])
  rw [HV.out] at HL2
  obtain ⟨A, c, hWS⟩ := id HW8.out
  have k0 : w8.cell? ⟨p, 0, none⟩ = some (.slice A zs.length c) := (blk_cell hWS.blk 0).trans rfl
  have HWS := Lib.hid hWS
  have HLz := Lib.hid (show (zs.length + 1) * 1 ≤ 140737488355328 by have := HL2.out; simp only [List.length_append, List.length_cons, List.length_nil] at this; omega)
  clear e0 e1 hWS
  obtain ⟨tv, htv⟩ : ∃ tv : Int, (if x.f1.f3 = true then (1 : Int) else 0) = tv := ⟨_, rfl⟩
  have HTV := Lib.hid htv
  cases hb3 : x.f1.f3
  · rw [hb3] at z4 htv
    simp only [Bool.false_eq_true, if_false, if_true] at htv
    clear hb3
    subst htv
    go_wp2_with ((with_reducible refine gate_builtin (b := .append) (xs := #[.tmp 33, .tmp 35]) rfl ?_); at_builtin; refine Kd.R_append (Kd.int .u8) (w0 := w8) p rfl (.tmp 33) (.tmp 35) 30 5 (.int .u8 0) 1 rfl Tryd.underlying30 info5 rfl (by decide) (by decide) (.slice A zs.length c) zs 0 [.int .u8 0] (fun _ => True) (fun _ => False) rfl rfl rfl (fun _ h => h.elim) (fun _ _ => trivial) HWS.out.row (Below.refl _ _) (Nat.le_of_lt (blk_lt HWS.out.blk)) HLz.out ?_; intro va wa ho hb hg_ hnew_; obtain ⟨Aa, ca, rfl⟩ := Kd.R_slice ho; obtain ⟨hba, hsa, hta⟩ := HWS.out.put ho hg_ hnew_; obtain ⟨ma, hma⟩ : ∃ m, (zs ++ [(0 : Int)]).length = m := ⟨_, rfl⟩; rw [hma] at hsa hta ⊢; have HWa := Lib.hid hsa; have HTa := Lib.hid (HT7.out.trans hta); have ca_ := (blk_cell hba 0).trans rfl; have fa_ := blk_frozen hba 0; clear ho hb hg_ hnew_ hsa hta hma k0 hba)
    go_end0
    exact ⟨rfl, by rw [HV.out, HTV.out]; exact ⟨_, _, HWa.out⟩, HTa.out⟩
  · rw [hb3] at z4 htv
    simp only [Bool.false_eq_true, if_false, if_true] at htv
    clear hb3
    subst htv
    go_wp2_with ((with_reducible refine gate_builtin (b := .append) (xs := #[.tmp 33, .tmp 35]) rfl ?_); at_builtin; refine Kd.R_append (Kd.int .u8) (w0 := w8) p rfl (.tmp 33) (.tmp 35) 30 5 (.int .u8 0) 1 rfl Tryd.underlying30 info5 rfl (by decide) (by decide) (.slice A zs.length c) zs 1 [.int .u8 1] (fun _ => True) (fun _ => False) rfl rfl rfl (fun _ h => h.elim) (fun _ _ => trivial) HWS.out.row (Below.refl _ _) (Nat.le_of_lt (blk_lt HWS.out.blk)) HLz.out ?_; intro va wa ho hb hg_ hnew_; obtain ⟨Aa, ca, rfl⟩ := Kd.R_slice ho; obtain ⟨hba, hsa, hta⟩ := HWS.out.put ho hg_ hnew_; obtain ⟨ma, hma⟩ : ∃ m, (zs ++ [(1 : Int)]).length = m := ⟨_, rfl⟩; rw [hma] at hsa hta ⊢; have HWa := Lib.hid hsa; have HTa := Lib.hid (HT7.out.trans hta); have ca_ := (blk_cell hba 0).trans rfl; have fa_ := blk_frozen hba 0; clear ho hb hg_ hnew_ hsa hta hma k0 hba)
    go_end0
    exact ⟨rfl, by rw [HV.out, HTV.out]; exact ⟨_, _, HWa.out⟩, HTa.out⟩
end Go.Proofs.YtkgpnfjmahjlcaaDoor.Wi

namespace Go.Proofs.YtkgpnfjmahjlcaaDoor.Wi
open Go.RowKit Go.Proofs.YtkgpnfjmahjlcaaDoorW.PrintWords Go.Proofs.YtkgpnfjmahjlcaaDoorW.PrintLast Go.Proofs.YtkgpnfjmahjlcaaDoorW.PrintMore Go.Proofs.YtkgpnfjmahjlcaaDoor.Math Go.Proofs.YtkgpnfjmahjlcaaDoor.PAll Go.Proofs.YtkgpnfjmahjlcaaDoor.NumFacts
set_option linter.unusedVariables false
set_option linter.unusedSimpArgs false
def RdB (w : World) (v : Value) (xs : List Int) : Prop := ∃ A c, v = .slice A xs.length c ∧ xs.length ≤ c ∧ Kd.C (Kd.int .u8) w A xs.length xs
theorem strOf_inj {a b : List Int} (ha : IsB a) (hb : IsB b) (h : strOfNums a = strOfNums b) : a = b := by rw [← bytes_str ha, h, bytes_str hb]
set_option maxHeartbeats 1000000 in
theorem equal_calls (A0 : Option Addr) (c0 : Nat) (l0 : List Int) (A1 : Option Addr) (c1 : Nat) (l1 : List Int) (w : World) (h0 : IsB l0) (h1 : IsB l1) (hr0 : Kd.C (Kd.int .u8) w A0 l0.length l0) (hc0 : l0.length ≤ c0) (hr1 : Kd.C (Kd.int .u8) w A1 l1.length l1) (hc1 : l1.length ≤ c1) :
    Calls Tryd.prog 80 #[.slice A0 l0.length c0, .slice A1 l1.length c1] w fun e w' => e = .returned (.bool (decide (l0 = l1))) ∧ Below w.heap.size w w' := by
  have k0 := run_str (c := c0) hr0
  have k1 := run_str (c := c1) hr1
  have HE := Lib.hid (show ((strOfNums l0).toList == (strOfNums l1).toList) = decide (l0 = l1) by
    rw [Bool.eq_iff_iff, beq_iff_eq, decide_eq_true_iff]
    refine ⟨fun h => strOf_inj h0 h1 ?_, fun h => by rw [h]⟩
    have e : ∀ s : ByteArray, s.toList = s.data.toList := fun s => Lib.toList_data s
    rw [e, e] at h
    exact ByteArray.ext (Array.toList_inj.1 h))
  obtain ⟨s0, hs0⟩ : ∃ s, strOfNums l0 = s := ⟨_, rfl⟩
  obtain ⟨s1, hs1⟩ : ∃ s, strOfNums l1 = s := ⟨_, rfl⟩
  rw [hs0, hs1] at HE
  rw [hs0] at k0
  rw [hs1] at k1
  rw [← HE.out]
  clear HE hr0 hr1 hs0 hs1
  go_enter Tryd.func80, Tryd.ntmps80
  go_wp2
  go_ret
  exact ⟨rfl, Below.refl _ _⟩

set_option maxHeartbeats 1000000 in
set_option maxRecDepth 100000 in
theorem prefix_calls (A0 : Option Addr) (c0 : Nat) (l0 : List Int) (A1 : Option Addr) (c1 : Nat) (l1 : List Int) (w : World) (h0 : IsB l0) (h1 : IsB l1) (hr0 : Kd.C (Kd.int .u8) w A0 l0.length l0) (hc0 : l0.length ≤ c0) (hr1 : Kd.C (Kd.int .u8) w A1 l1.length l1) (hc1 : l1.length ≤ c1) :
    Calls Tryd.prog 70 #[.slice A0 l0.length c0, .slice A1 l1.length c1] w fun e w' => e = .returned (.bool (decide (l1 <+: l0))) ∧ Below w.heap.size w w' := by
  by_cases hle : l1.length ≤ l0.length
  · have d : decide ((l1.length : Int) ≤ (l0.length : Int)) = true := decide_eq_true (by omega)
    have dN : decide (l1.length ≤ l0.length) = true := decide_eq_true hle
    obtain ⟨i, hi, hsz⟩ := info8
    have kc := cut_to (P := Tryd.prog) 30 5 .i64 Tryd.underlying30 hi A0 l0.length c0 (l1.length : Int) (by omega) (by omega) hc0
    rw [Int.toNat_natCast] at kc
    have hT := Kd.C_take hr0 hle
    have hl : (l0.take l1.length).length = l1.length := by rw [List.length_take]; omega
    have HE := Lib.hid (fun w (hr0 : Kd.C (Kd.int .u8) w A0 (l0.take l1.length).length (l0.take l1.length)) hr1 => equal_calls A0 c0 (l0.take l1.length) A1 c1 l1 w (isB_take h0 _) h1 hr0 (by omega) hr1 hc1)
    have HT := Lib.hid hT
    have HR1 := Lib.hid hr1
    have HP := Lib.hid (show decide (l0.take l1.length = l1) = decide (l1 <+: l0) by
      rw [decide_eq_decide]
      refine ⟨fun h => by rw [← h]; exact List.take_prefix _ _, fun h => ?_⟩
      obtain ⟨r, rfl⟩ := h
      simp)
    rw [hl] at HE HT
    clear hT hr1 hr0 hl hi hsz hle
    go_enter Tryd.func70, Tryd.ntmps70
    go_wp2_with fail
    refine (HE.out _ HT.out HR1.out).mono ?_
    rintro e w1 ⟨rfl, hb⟩
    rw [HP.out]
    go_wp2
    go_ret
    exact ⟨rfl, hb⟩
  · have d : decide ((l1.length : Int) ≤ (l0.length : Int)) = false := decide_eq_false (by omega)
    have dN : decide (l1.length ≤ l0.length) = false := decide_eq_false hle
    have HP := Lib.hid (show decide (l1 <+: l0) = false from decide_eq_false fun h => hle h.length_le)
    go_enter Tryd.func70, Tryd.ntmps70
    go_wp2
    go_ret
    exact ⟨by rw [HP.out]; rfl, Below.refl _ _⟩

/-- What CutPrefix hands back. -/
def CutIs (w' : World) (v : Value) (l p : List Int) (e : Ending) : Prop := if p <+: l then ∃ u, e = .returned (.tuple #[u, .bool true]) ∧ RdB w' u (l.drop p.length) else e = .returned (.tuple #[v, .bool false])
set_option maxHeartbeats 1000000 in
set_option maxRecDepth 100000 in
theorem cut_calls (A0 : Option Addr) (c0 : Nat) (l0 : List Int) (A1 : Option Addr) (c1 : Nat) (l1 : List Int) (w : World) (h0 : IsB l0) (h1 : IsB l1) (hr0 : Kd.C (Kd.int .u8) w A0 l0.length l0) (hc0 : l0.length ≤ c0) (hr1 : Kd.C (Kd.int .u8) w A1 l1.length l1) (hc1 : l1.length ≤ c1) :
    Calls Tryd.prog 54 #[.slice A0 l0.length c0, .slice A1 l1.length c1] w fun e w' => CutIs w' (.slice A0 l0.length c0) l0 l1 e ∧ Below w.heap.size w w' := by
  have HE := Lib.hid (prefix_calls A0 c0 l0 A1 c1 l1 w h0 h1 hr0 hc0 hr1 hc1)
  have HR0 := Lib.hid hr0
  by_cases hp : l1 <+: l0
  · have hd : decide (l1 <+: l0) = true := decide_eq_true hp
    have hle := hp.length_le
    obtain ⟨i, hi, hsz⟩ := info8
    have kc := cut_from (P := Tryd.prog) 30 5 .i64 Tryd.underlying30 hi 1 hsz A0 l0.length c0 (l1.length : Int) (by omega) (by omega)
    rw [Int.toNat_natCast] at kc
    have hD := Kd.C_drop hr0 hle hc0
    obtain ⟨ca, hca⟩ : ∃ ca, (if c0 = l1.length then A0 else A0.map (·.add (l1.length * 1))) = ca := ⟨_, rfl⟩
    rw [hca] at kc
    have HD := Lib.hid (show Kd.C (Kd.int .u8) w ca (l0.drop l1.length).length (l0.drop l1.length) by rw [← hca]; exact hD)
    have HL := Lib.hid (show l0.length - l1.length = (l0.drop l1.length).length by simp)
    have HP := Lib.hid hp
    have HCc := Lib.hid (show (l0.drop l1.length).length ≤ c0 - l1.length by rw [List.length_drop]; omega)
    rw [hd] at HE
    clear hd hp hle hi hsz hr1 hr0 hca hD
    go_enter Tryd.func54, Tryd.ntmps54
    go_wp2_with fail
    refine HE.out.mono ?_
    rintro e w1 ⟨rfl, hb⟩
    have HB := Lib.hid hb
    clear hb
    go_wp2
    go_ret2
    refine ⟨?_, HB.out⟩
    unfold CutIs
    rw [if_pos HP.out]
    exact ⟨.slice ca (l0.length - l1.length) (c0 - l1.length), rfl, ca, c0 - l1.length, by rw [HL.out], HCc.out, Kd.C_below HD.out HB.out⟩
  · have hd : decide (l1 <+: l0) = false := decide_eq_false hp
    rw [hd] at HE
    have HP := Lib.hid hp
    clear hd hp
    go_enter Tryd.func54, Tryd.ntmps54
    go_wp2_with fail
    refine HE.out.mono ?_
    rintro e w1 ⟨rfl, hb⟩
    have HB := Lib.hid hb
    clear hb
    go_wp2
    go_ret2
    refine ⟨?_, HB.out⟩
    unfold CutIs
    rw [if_neg HP.out]
    rfl

end Go.Proofs.YtkgpnfjmahjlcaaDoor.Wi
