/- How what comes in reads: out of the form's own reading of a value of a type (numbers, texts, rows, structs, arrays, nested) the facts that the print's contracts ask. No program in sight. -/
import Derived.Test.YtffggkhahambhaaWMore
import Derived.SizedLaws
import Derived.ChangeArms
import Derived.OpenShut
import Derived.ChangeOld
import Derived.WideShapes
namespace Go.Proofs.Ytffggkhahambhaa.Open
open Go.RowKit Go.Proofs.YtffggkhahambhaaW.PrintWords Go.ChangeShapes Go.WideShapes

/-- A type's values read as things of a kind, and what else is known of these. -/
def Reads {α : Type} (P : Program) (T : TypeId) (d : Kd α) (G : α → Prop) : Prop :=
  ∀ (H : Type) (enc : TypeId × Value → H) (W : World) (fuel : Nat) (cs : List Value) (D : DataW H) (ps : List MemPlace),
    DataW.trod enc P W 0 (fun _ => true) true fuel T cs = some (D, ps) → (∀ n ∈ D.weights P T, n ≤ reachBytes) → ∃ a, d.K W a cs ∧ G a

variable {P : Program} {T : TypeId}

theorem reads_int {k : IntKind} (hu : P.underlying T = some (.int k)) : Reads P T (Kd.int k) (fun x => (Lit.int k x).wf = true) := by
  intro H enc W fuel cs D ps h _
  obtain ⟨n, rfl, hx, hw⟩ := DataW.trod_int hu h
  exact ⟨n, rfl, hw⟩
theorem reads_bool (hu : P.underlying T = some .bool) : Reads P T Kd.bool (fun _ => True) := by
  intro H enc W fuel cs D ps h _
  obtain ⟨b, rfl, _⟩ := DataW.trod_bool hu h
  exact ⟨b, rfl, trivial⟩
theorem reads_string (hu : P.underlying T = some .string) : Reads P T Kd.string (fun s => s.size ≤ 140737488351232) := by
  intro H enc W fuel cs D ps h hz
  obtain ⟨s, rfl, hx, _⟩ := DataW.trod_string hu h
  refine ⟨s, rfl, ?_⟩
  obtain ⟨rfl, _⟩ := Prod.mk.inj hx
  have := hz s.data.toList.length (by simp [DataW.weights])
  rw [Array.length_toList] at this
  exact this

theorem mem_weightsAll {H : Type} {e : TypeId} : ∀ {l : List (DataW H)} {d : DataW H}, d ∈ l → ∀ n ∈ d.weights P e, n ∈ DataW.weightsAll P e l
  | [], _, h => by cases h
  | x :: r, d, h => by
    intro n hn
    unfold DataW.weightsAll
    rcases List.mem_cons.1 h with rfl | h
    · exact List.mem_append_left _ hn
    · exact List.mem_append_right _ (mem_weightsAll h n hn)

theorem mapM_some_length' {α β : Type} {f : α → Option β} : ∀ {l : List α} {r : List β}, l.mapM f = some r → r.length = l.length := by
  intro l
  induction l with
  | nil => intro r h; simp at h; subst h; rfl
  | cons a l ih =>
    intro r h
    rw [List.mapM_cons] at h
    simp only [Option.bind_eq_bind, Option.bind_eq_some_iff] at h
    obtain ⟨b, _, bs, hbs, hr⟩ := h
    have := ih hbs
    simp at hr
    rw [← hr]; simp [this]
theorem mapM_some_get' {α β : Type} {f : α → Option β} : ∀ {l : List α} {r : List β}, l.mapM f = some r → ∀ (i : Nat) (a : α), l[i]? = some a → f a = r[i]? := by
  intro l
  induction l with
  | nil => intro r h i a hi; simp at hi
  | cons a l ih =>
    intro r h i x hi
    rw [List.mapM_cons] at h
    simp only [Option.bind_eq_bind, Option.bind_eq_some_iff] at h
    obtain ⟨b, hb, bs, hbs, hr⟩ := h
    simp at hr
    rw [← hr]
    cases i with
    | zero => simp at hi; subst hi; simpa using hb
    | succ i => simp at hi; simpa using ih hbs i x hi

theorem cells_some {W : World} {ad : Addr} {n : Nat} {c : List Value} (h : W.cells? 0 ad n = some c) : c.length = n ∧ ∀ i u, c[i]? = some u → W.cell? (ad.add i) = some u := by
  unfold World.cells? at h
  rw [if_pos (Nat.zero_le _)] at h
  have hl := mapM_some_length' h
  rw [List.length_range] at hl
  refine ⟨hl, fun i u hu => ?_⟩
  have hi : i < n := by
    have := (List.getElem?_eq_some_iff.1 hu).1
    omega
  have := mapM_some_get' h i i (List.getElem?_range hi)
  rw [this, hu]

/-- An address taken twice. -/
theorem add_add (ad : Addr) (m j : Nat) : (ad.add m).add j = ad.add (m + j) := by
  unfold Addr.add
  by_cases hm : m = 0
  · subst hm; simp
  · by_cases hj : j = 0
    · subst hj; simp
    · simp [hm, hj, Nat.add_assoc]

theorem reads_slice {α : Type} {e : TypeId} {d : Kd α} {G : α → Prop} (hu : P.underlying T = some (.slice e)) (hr : Reads P e d G) (hs : P.cellsOf e = d.sz) :
    Reads P T (Kd.slice e d) (fun l => (∀ x ∈ l, G x) ∧ l.length * P.bytesOf e ≤ 140737488351232) := by
  intro H enc W fuel cs D ps h hz
  rcases DataW.trod_slice hu h with ⟨rfl, _⟩ | ⟨a, len, cap, elems, rest, n, rfl, rfl, hx, _, hlc, hcm, hel, hget, _, _⟩
  · refine ⟨[], ⟨none, 0, rfl, Nat.le_refl _, Kd.C_nil d W⟩, fun x hx => (by cases hx), by simp⟩
  · obtain ⟨rfl, _⟩ := Prod.mk.inj hx
    have hw : ∀ x ∈ elems, ∀ m ∈ x.1.weights P e, m ≤ reachBytes := by
      intro x hxm m hm
      refine hz m ?_
      unfold DataW.weights
      rw [hu]
      exact List.mem_cons_of_mem _ (List.mem_append_left _ (mem_weightsAll (List.mem_map_of_mem hxm) m hm))
    have key : ∀ i, i < len → ∃ x c, elems[i]? = some x ∧ W.cells? 0 (a.add (i * P.cellsOf e)) (P.cellsOf e) = some c ∧ ∃ y, d.K W y c ∧ G y := by
      intro i hi
      have h1 := hget i hi
      have h2 : i < elems.length := by omega
      rw [List.getElem?_eq_getElem h2, Option.bind_eq_some_iff] at h1
      obtain ⟨c, hc, ht⟩ := h1
      obtain ⟨y, hy⟩ := hr H enc W n c elems[i].1 elems[i].2 ht (hw _ (List.getElem_mem h2))
      exact ⟨_, c, List.getElem?_eq_getElem h2, hc, y, hy⟩
    have hlist : ∀ m, m ≤ len → ∃ ys : List α, ys.length = m ∧ ∀ j y, ys[j]? = some y → G y ∧ ∃ c, W.cells? 0 (a.add (j * P.cellsOf e)) (P.cellsOf e) = some c ∧ d.K W y c := by
      intro m
      induction m with
      | zero => intro _; exact ⟨[], rfl, fun j y hj => by simp at hj⟩
      | succ m ih =>
        intro hm
        obtain ⟨ys, hl, hys⟩ := ih (by omega)
        obtain ⟨_, c, _, hc, y, hk, hg⟩ := key m (by omega)
        refine ⟨ys ++ [y], by simp [hl], fun j z hj => ?_⟩
        rcases Nat.lt_or_ge j ys.length with h1 | h1
        · rw [List.getElem?_append_left h1] at hj
          exact hys j z hj
        · rw [List.getElem?_append_right h1] at hj
          have hj0 : j - ys.length = 0 := by
            have := (List.getElem?_eq_some_iff.1 hj).1
            simpa using this
          rw [hj0] at hj
          simp at hj
          subst hj
          have : j = m := by omega
          subst this
          exact ⟨hg, c, hc, hk⟩
    obtain ⟨ys, hl, hys⟩ := hlist len (Nat.le_refl _)
    have hcap : len ≤ 9223372036854775807 := by have : maxLen = 9223372036854775807 := rfl; omega
    refine ⟨ys, ⟨some a, cap, by rw [hl], by rw [hl]; exact hlc, ?_⟩, ?_, ?_⟩
    · rw [hl]
      refine ⟨hl, hcap, fun _ => ⟨a, rfl, fun j y hj => ?_⟩⟩
      obtain ⟨_, c, hc, hk⟩ := hys j y hj
      obtain ⟨hcl, hcc⟩ := cells_some hc
      refine ⟨c, by rw [hcl, hs], hk, fun i u hu => ?_⟩
      have := hcc i u hu
      rw [add_add, hs] at this
      exact this
    · intro x hx
      obtain ⟨j, hj⟩ := List.mem_iff_getElem?.1 hx
      exact (hys j x hj).1
    · have := hz ((elems.map (·.1)).length * P.bytesOf e + (rest.map (·.1)).length * P.bytesOf e) (by
        unfold DataW.weights
        rw [hu, ← Nat.add_mul]
        exact List.mem_cons_self)
      rw [hl]
      have h3 : (elems.map (·.1)).length = len := by simp [hel]
      rw [h3] at this
      exact Nat.le_trans (Nat.le_add_right _ _) this

/-- A struct's fields, from one place on. -/
def FieldsRead {α : Type} (P : Program) (fs : List Field) (o : Nat) (d : Kd α) (G : α → Prop) : Prop :=
  ∀ (H : Type) (enc : TypeId × Value → H) (W : World) (n : Nat) (cs : List Value) (xs : List (DataW H × List MemPlace)), cs.length = o + d.sz → xs.length = fs.length →
    (∀ (i : Nat) (f : Field), fs[i]? = some f → DataW.trod enc P W 0 (fun _ => true) true n f.type ((cs.drop f.offset).take (P.cellsOf f.type)) = xs[i]?) →
    (∀ m ∈ DataW.weightsEach P (fs.map (·.type)) (xs.map (·.1)), m ≤ reachBytes) → ∃ a, d.K W a (cs.drop o) ∧ G a

theorem fields_one {α : Type} {f : Field} {o : Nat} {d : Kd α} {G : α → Prop} (ho : f.offset = o) (hs : P.cellsOf f.type = d.sz) (hr : Reads P f.type d G) : FieldsRead P [f] o d G := by
  intro H enc W n cs xs hl hx hg hz
  match xs, hx with
  | [x], _ =>
    have h1 := hg 0 f rfl
    rw [ho, hs, List.take_of_length_le (by rw [List.length_drop]; omega)] at h1
    exact hr H enc W n _ x.1 x.2 (by simpa using h1) (fun m hm => hz m (by simp [DataW.weightsEach, hm]))

theorem fields_cons {α β : Type} {f : Field} {fs : List Field} {o : Nat} {a : Kd α} {b : Kd β} {G : α → Prop} {K : β → Prop} (ho : f.offset = o) (hs : P.cellsOf f.type = a.sz) (hr : Reads P f.type a G)
    (hfs : FieldsRead P fs (o + a.sz) b K) : FieldsRead P (f :: fs) o (Kd.pair a b) (fun x => G x.1 ∧ K x.2) := by
  intro H enc W n cs xs hl hx hg hz
  match xs, hx with
  | x :: r, hx =>
    have hl' : cs.length = o + a.sz + b.sz := by rw [hl, show (Kd.pair a b).sz = a.sz + b.sz from rfl, Nat.add_assoc]
    have h1 := hg 0 f rfl
    rw [ho, hs] at h1
    obtain ⟨y, hy, gy⟩ := hr H enc W n _ x.1 x.2 (by simpa using h1) (fun m hm => hz m (by simp [DataW.weightsEach, hm]))
    obtain ⟨z, hk, gz⟩ := hfs H enc W n cs r hl' (by simpa using hx) (fun i g hi => by have := hg (i + 1) g (by simpa using hi); simpa using this) (fun m hm => hz m (by simp [DataW.weightsEach, hm]))
    refine ⟨(y, z), ⟨_, _, ?_, hy, hk⟩, gy, gz⟩
    rw [← List.drop_drop]
    exact (List.take_append_drop _ _).symm

theorem reads_struct {α : Type} {fs : Array Field} {d : Kd α} {G : α → Prop} (hu : P.underlying T = some (.struct fs)) (hc : P.cellsOf T = d.sz) (hr : FieldsRead P fs.toList 0 d G) : Reads P T d G := by
  intro H enc W fuel cs D ps h hz
  obtain ⟨xs, n, rfl, hx, hl, hxs, hg⟩ := DataW.trod_struct hu h
  obtain ⟨rfl, _⟩ := Prod.mk.inj hx
  have := hr H enc W n cs xs (by rw [hl, hc, Nat.zero_add]) (by simpa using hxs) (fun i f hi => hg i f (by simpa using hi)) (fun m hm => hz m (by
    unfold DataW.weights
    rw [hu]
    exact hm))
  simpa using this

theorem reads_iso {α β : Type} {d : Kd α} {G : α → Prop} (f : β → α) (g : α → β) (hfg : ∀ a, f (g a) = a) (hr : Reads P T d G) : Reads P T (Kd.iso d f) (fun x => G (f x)) := by
  intro H enc W fuel cs D ps h hz
  obtain ⟨a, hk, ga⟩ := hr H enc W fuel cs D ps h hz
  exact ⟨g a, by show d.K W (f (g a)) cs; rw [hfg]; exact hk, by show G (f (g a)); rw [hfg]; exact ga⟩

theorem reads_imp {α : Type} {d : Kd α} {G K : α → Prop} (hr : Reads P T d G) (h : ∀ a, G a → K a) : Reads P T d K := by
  intro H enc W fuel cs D ps ht hz
  obtain ⟨a, hk, ga⟩ := hr H enc W fuel cs D ps ht hz
  exact ⟨a, hk, h a ga⟩

/-- The weights of an argument. -/
theorem weights_arg {H : Type} {ts : List TypeId} {ds : List (DataW H)} {j : Nat} {t : TypeId} {d : DataW H} (hsz : (DataW.weightsEach P ts ds).all (· ≤ reachBytes) = true) (ht : ts[j]? = some t) (hd : ds[j]? = some d) :
    ∀ n ∈ d.weights P t, n ≤ reachBytes := by
  intro n hn
  have := List.all_eq_true.1 hsz n (DataW.weights_mem_each ht hd n hn)
  simpa using this

/-- A row that came in: its elements. -/
theorem slice_arg {α : Type} {e : TypeId} {d : Kd α} {W : World} {l : List α} {a : Option Addr} {len cap : Nat} (h : (Kd.slice e d).K W l [.slice a len cap]) : len = l.length ∧ l.length ≤ cap ∧ d.C W a l.length l := by
  obtain ⟨A, c, hcs, hl, hc⟩ := h
  simp only [List.cons.injEq, Value.slice.injEq, and_true] at hcs
  obtain ⟨rfl, rfl, rfl⟩ := hcs
  exact ⟨rfl, hl, hc⟩

end Go.Proofs.Ytffggkhahambhaa.Open
