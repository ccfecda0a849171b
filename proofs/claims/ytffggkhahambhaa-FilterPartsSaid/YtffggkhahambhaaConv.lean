/- How what comes in reads: out of the form's own reading of a value of a type (numbers, texts, rows, structs, arrays, nested) the facts that the print's contracts ask. No program in sight. -/
import Derived.Test.YtffggkhahambhaaWMore
import Derived.SizedLaws
import Derived.ChangeArms
import Derived.OpenShut
import Derived.ChangeOld
import Derived.WideShapes
import Derived.Test.YtffggkhahambhaaPAllx0
import Derived.Laws.BitsAllLaws
import Derived.RowKit
import Derived.Test.YtffggkhahambhaaWWords
import Derived.Lib.Hide
import Derived.Laws.CopyOwn
import Derived.WalkLawsBesides
import Derived.Laws.CopyRow
import Derived.Shelf.SlSortCmp.NoneTotal
import Derived.MapKept
import Derived.ChangeMaps
import Derived.Carry
import Derived.Outline
import Derived.Test.YtffggkhahambhaaLaysC
import Derived.Test.YtffggkhahambhaaPLowx1
import Derived.Lib.DecodeN
import Derived.Lib.OthersKept
import Derived.Laws.DeepStrings4
import Derived.Test.YtffggkhahambhaaPAllx15
import Derived.Test.YtffggkhahambhaaWShare
import Derived.Lib.ConvBytes
namespace Go.Proofs.Ytffggkhahambhaa.Open
open Go.RowKit Go.Proofs.YtffggkhahambhaaW.PrintWords Go.ChangeShapes Go.WideShapes

/-- A type's values read as things of a kind, and what else is known of these. -/
def Reads {α : Type} (P : Program) (T : TypeId) (d : Kd α) (G : α → Prop) : Prop :=
  ∀ (H : Type) (enc : TypeId × Value → H) (W : World) (fuel : Nat) (cs : List Value) (D : DataW H) (ps : List MemPlace),
    DataW.trod enc P W 0 (fun _ => true) true fuel T cs = some (D, ps) → (∀ n ∈ D.weights P T, n ≤ reachBytes) → ∃ a, d.K W a cs ∧ G a

variable {P : Program} {T : TypeId}

theorem reads_int {k : IntKind} (hu : P.underlying T = some (.int k)) : Reads P T (Kd.int k) (fun x => (Lit.int k x).wf = true) := by
  intro H enc W fuel cs D ps h _
  obtain ⟨n, rfl, hx, hw⟩ := DataW.trod_int hu h
  exact ⟨n, rfl, hw⟩
theorem reads_bool (hu : P.underlying T = some .bool) : Reads P T Kd.bool (fun _ => True) := by
  intro H enc W fuel cs D ps h _
  obtain ⟨b, rfl, _⟩ := DataW.trod_bool hu h
  exact ⟨b, rfl, trivial⟩
theorem reads_string (hu : P.underlying T = some .string) : Reads P T Kd.string (fun s => s.size ≤ 140737488351232) := by
  intro H enc W fuel cs D ps h hz
  obtain ⟨s, rfl, hx, _⟩ := DataW.trod_string hu h
  refine ⟨s, rfl, ?_⟩
  obtain ⟨rfl, _⟩ := Prod.mk.inj hx
  have := hz s.data.toList.length (by simp [DataW.weights])
  rw [Array.length_toList] at this
  exact this

theorem mem_weightsAll {H : Type} {e : TypeId} : ∀ {l : List (DataW H)} {d : DataW H}, d ∈ l → ∀ n ∈ d.weights P e, n ∈ DataW.weightsAll P e l
  | [], _, h => by cases h
  | x :: r, d, h => by
    intro n hn
    unfold DataW.weightsAll
    rcases List.mem_cons.1 h with rfl | h
    · exact List.mem_append_left _ hn
    · exact List.mem_append_right _ (mem_weightsAll h n hn)

theorem mapM_some_length' {α β : Type} {f : α → Option β} : ∀ {l : List α} {r : List β}, l.mapM f = some r → r.length = l.length := by
  intro l
  induction l with
  | nil => intro r h; simp at h; subst h; rfl
  | cons a l ih =>
    intro r h
    rw [List.mapM_cons] at h
    simp only [Option.bind_eq_bind, Option.bind_eq_some_iff] at h
    obtain ⟨b, _, bs, hbs, hr⟩ := h
    have := ih hbs
    simp at hr
    rw [← hr]; simp [this]
theorem mapM_some_get' {α β : Type} {f : α → Option β} : ∀ {l : List α} {r : List β}, l.mapM f = some r → ∀ (i : Nat) (a : α), l[i]? = some a → f a = r[i]? := by
  intro l
  induction l with
  | nil => intro r h i a hi; simp at hi
  | cons a l ih =>
    intro r h i x hi
    rw [List.mapM_cons] at h
    simp only [Option.bind_eq_bind, Option.bind_eq_some_iff] at h
    obtain ⟨b, hb, bs, hbs, hr⟩ := h
    simp at hr
    rw [← hr]
    cases i with
    | zero => simp at hi; subst hi; simpa using hb
    | succ i => simp at hi; simpa using ih hbs i x hi

theorem cells_some {W : World} {ad : Addr} {n : Nat} {c : List Value} (h : W.cells? 0 ad n = some c) : c.length = n ∧ ∀ i u, c[i]? = some u → W.cell? (ad.add i) = some u := by
  unfold World.cells? at h
  rw [if_pos (Nat.zero_le _)] at h
  have hl := mapM_some_length' h
  rw [List.length_range] at hl
  refine ⟨hl, fun i u hu => ?_⟩
  have hi : i < n := by
    have := (List.getElem?_eq_some_iff.1 hu).1
    omega
  have := mapM_some_get' h i i (List.getElem?_range hi)
  rw [this, hu]

/-- An address taken twice. -/
theorem add_add (ad : Addr) (m j : Nat) : (ad.add m).add j = ad.add (m + j) := by
  unfold Addr.add
  by_cases hm : m = 0
  · subst hm; simp
  · by_cases hj : j = 0
    · subst hj; simp
    · simp [hm, hj, Nat.add_assoc]

theorem reads_slice {α : Type} {e : TypeId} {d : Kd α} {G : α → Prop} (hu : P.underlying T = some (.slice e)) (hr : Reads P e d G) (hs : P.cellsOf e = d.sz) :
    Reads P T (Kd.slice e d) (fun l => (∀ x ∈ l, G x) ∧ l.length * P.bytesOf e ≤ 140737488351232) := by
  intro H enc W fuel cs D ps h hz
  rcases DataW.trod_slice hu h with ⟨rfl, _⟩ | ⟨a, len, cap, elems, rest, n, rfl, rfl, hx, _, hlc, hcm, hel, hget, _, _⟩
  · refine ⟨[], ⟨none, 0, rfl, Nat.le_refl _, Kd.C_nil d W⟩, fun x hx => (by cases hx), by simp⟩
  · obtain ⟨rfl, _⟩ := Prod.mk.inj hx
    have hw : ∀ x ∈ elems, ∀ m ∈ x.1.weights P e, m ≤ reachBytes := by
      intro x hxm m hm
      refine hz m ?_
      unfold DataW.weights
      rw [hu]
      exact List.mem_cons_of_mem _ (List.mem_append_left _ (mem_weightsAll (List.mem_map_of_mem hxm) m hm))
    have key : ∀ i, i < len → ∃ x c, elems[i]? = some x ∧ W.cells? 0 (a.add (i * P.cellsOf e)) (P.cellsOf e) = some c ∧ ∃ y, d.K W y c ∧ G y := by
      intro i hi
      have h1 := hget i hi
      have h2 : i < elems.length := by omega
      rw [List.getElem?_eq_getElem h2, Option.bind_eq_some_iff] at h1
      obtain ⟨c, hc, ht⟩ := h1
      obtain ⟨y, hy⟩ := hr H enc W n c elems[i].1 elems[i].2 ht (hw _ (List.getElem_mem h2))
      exact ⟨_, c, List.getElem?_eq_getElem h2, hc, y, hy⟩
    have hlist : ∀ m, m ≤ len → ∃ ys : List α, ys.length = m ∧ ∀ j y, ys[j]? = some y → G y ∧ ∃ c, W.cells? 0 (a.add (j * P.cellsOf e)) (P.cellsOf e) = some c ∧ d.K W y c := by
      intro m
      induction m with
      | zero => intro _; exact ⟨[], rfl, fun j y hj => by simp at hj⟩
      | succ m ih =>
        intro hm
        obtain ⟨ys, hl, hys⟩ := ih (by omega)
        obtain ⟨_, c, _, hc, y, hk, hg⟩ := key m (by omega)
        refine ⟨ys ++ [y], by simp [hl], fun j z hj => ?_⟩
        rcases Nat.lt_or_ge j ys.length with h1 | h1
        · rw [List.getElem?_append_left h1] at hj
          exact hys j z hj
        · rw [List.getElem?_append_right h1] at hj
          have hj0 : j - ys.length = 0 := by
            have := (List.getElem?_eq_some_iff.1 hj).1
            simpa using this
          rw [hj0] at hj
          simp at hj
          subst hj
          have : j = m := by omega
          subst this
          exact ⟨hg, c, hc, hk⟩
    obtain ⟨ys, hl, hys⟩ := hlist len (Nat.le_refl _)
    have hcap : len ≤ 9223372036854775807 := by have : maxLen = 9223372036854775807 := rfl; omega
    refine ⟨ys, ⟨some a, cap, by rw [hl], by rw [hl]; exact hlc, ?_⟩, ?_, ?_⟩
    · rw [hl]
      refine ⟨hl, hcap, fun _ => ⟨a, rfl, fun j y hj => ?_⟩⟩
      obtain ⟨_, c, hc, hk⟩ := hys j y hj
      obtain ⟨hcl, hcc⟩ := cells_some hc
      refine ⟨c, by rw [hcl, hs], hk, fun i u hu => ?_⟩
      have := hcc i u hu
      rw [add_add, hs] at this
      exact this
    · intro x hx
      obtain ⟨j, hj⟩ := List.mem_iff_getElem?.1 hx
      exact (hys j x hj).1
    · have := hz ((elems.map (·.1)).length * P.bytesOf e + (rest.map (·.1)).length * P.bytesOf e) (by
        unfold DataW.weights
        rw [hu, ← Nat.add_mul]
        exact List.mem_cons_self)
      rw [hl]
      have h3 : (elems.map (·.1)).length = len := by simp [hel]
      rw [h3] at this
      exact Nat.le_trans (Nat.le_add_right _ _) this

/-- A struct's fields, from one place on. -/
def FieldsRead {α : Type} (P : Program) (fs : List Field) (o : Nat) (d : Kd α) (G : α → Prop) : Prop :=
  ∀ (H : Type) (enc : TypeId × Value → H) (W : World) (n : Nat) (cs : List Value) (xs : List (DataW H × List MemPlace)), cs.length = o + d.sz → xs.length = fs.length →
    (∀ (i : Nat) (f : Field), fs[i]? = some f → DataW.trod enc P W 0 (fun _ => true) true n f.type ((cs.drop f.offset).take (P.cellsOf f.type)) = xs[i]?) →
    (∀ m ∈ DataW.weightsEach P (fs.map (·.type)) (xs.map (·.1)), m ≤ reachBytes) → ∃ a, d.K W a (cs.drop o) ∧ G a

theorem fields_one {α : Type} {f : Field} {o : Nat} {d : Kd α} {G : α → Prop} (ho : f.offset = o) (hs : P.cellsOf f.type = d.sz) (hr : Reads P f.type d G) : FieldsRead P [f] o d G := by
  intro H enc W n cs xs hl hx hg hz
  match xs, hx with
  | [x], _ =>
    have h1 := hg 0 f rfl
    rw [ho, hs, List.take_of_length_le (by rw [List.length_drop]; omega)] at h1
    exact hr H enc W n _ x.1 x.2 (by simpa using h1) (fun m hm => hz m (by simp [DataW.weightsEach, hm]))

theorem fields_cons {α β : Type} {f : Field} {fs : List Field} {o : Nat} {a : Kd α} {b : Kd β} {G : α → Prop} {K : β → Prop} (ho : f.offset = o) (hs : P.cellsOf f.type = a.sz) (hr : Reads P f.type a G)
    (hfs : FieldsRead P fs (o + a.sz) b K) : FieldsRead P (f :: fs) o (Kd.pair a b) (fun x => G x.1 ∧ K x.2) := by
  intro H enc W n cs xs hl hx hg hz
  match xs, hx with
  | x :: r, hx =>
    have hl' : cs.length = o + a.sz + b.sz := by rw [hl, show (Kd.pair a b).sz = a.sz + b.sz from rfl, Nat.add_assoc]
    have h1 := hg 0 f rfl
    rw [ho, hs] at h1
    obtain ⟨y, hy, gy⟩ := hr H enc W n _ x.1 x.2 (by simpa using h1) (fun m hm => hz m (by simp [DataW.weightsEach, hm]))
    obtain ⟨z, hk, gz⟩ := hfs H enc W n cs r hl' (by simpa using hx) (fun i g hi => by have := hg (i + 1) g (by simpa using hi); simpa using this) (fun m hm => hz m (by simp [DataW.weightsEach, hm]))
    refine ⟨(y, z), ⟨_, _, ?_, hy, hk⟩, gy, gz⟩
    rw [← List.drop_drop]
    exact (List.take_append_drop _ _).symm

theorem reads_struct {α : Type} {fs : Array Field} {d : Kd α} {G : α → Prop} (hu : P.underlying T = some (.struct fs)) (hc : P.cellsOf T = d.sz) (hr : FieldsRead P fs.toList 0 d G) : Reads P T d G := by
  intro H enc W fuel cs D ps h hz
  obtain ⟨xs, n, rfl, hx, hl, hxs, hg⟩ := DataW.trod_struct hu h
  obtain ⟨rfl, _⟩ := Prod.mk.inj hx
  have := hr H enc W n cs xs (by rw [hl, hc, Nat.zero_add]) (by simpa using hxs) (fun i f hi => hg i f (by simpa using hi)) (fun m hm => hz m (by
    unfold DataW.weights
    rw [hu]
    exact hm))
  simpa using this

theorem reads_iso {α β : Type} {d : Kd α} {G : α → Prop} (f : β → α) (g : α → β) (hfg : ∀ a, f (g a) = a) (hr : Reads P T d G) : Reads P T (Kd.iso d f) (fun x => G (f x)) := by
  intro H enc W fuel cs D ps h hz
  obtain ⟨a, hk, ga⟩ := hr H enc W fuel cs D ps h hz
  exact ⟨g a, by show d.K W (f (g a)) cs; rw [hfg]; exact hk, by show G (f (g a)); rw [hfg]; exact ga⟩

theorem reads_imp {α : Type} {d : Kd α} {G K : α → Prop} (hr : Reads P T d G) (h : ∀ a, G a → K a) : Reads P T d K := by
  intro H enc W fuel cs D ps ht hz
  obtain ⟨a, hk, ga⟩ := hr H enc W fuel cs D ps ht hz
  exact ⟨a, hk, h a ga⟩

/-- The weights of an argument. -/
theorem weights_arg {H : Type} {ts : List TypeId} {ds : List (DataW H)} {j : Nat} {t : TypeId} {d : DataW H} (hsz : (DataW.weightsEach P ts ds).all (· ≤ reachBytes) = true) (ht : ts[j]? = some t) (hd : ds[j]? = some d) :
    ∀ n ∈ d.weights P t, n ≤ reachBytes := by
  intro n hn
  have := List.all_eq_true.1 hsz n (DataW.weights_mem_each ht hd n hn)
  simpa using this

/-- A row that came in: its elements. -/
theorem slice_arg {α : Type} {e : TypeId} {d : Kd α} {W : World} {l : List α} {a : Option Addr} {len cap : Nat} (h : (Kd.slice e d).K W l [.slice a len cap]) : len = l.length ∧ l.length ≤ cap ∧ d.C W a l.length l := by
  obtain ⟨A, c, hcs, hl, hc⟩ := h
  simp only [List.cons.injEq, Value.slice.injEq, and_true] at hcs
  obtain ⟨rfl, rfl, rfl⟩ := hcs
  exact ⟨rfl, hl, hc⟩

end Go.Proofs.Ytffggkhahambhaa.Open

namespace Go.Proofs.Ytffggkhahambhaa.PAll
open Go.RowKit Go.Proofs.YtffggkhahambhaaW.PrintWords Go.Proofs.YtffggkhahambhaaW.PrintLast Go.Proofs.YtffggkhahambhaaW.PrintMore
structure S24 where
  f0 : List S41
  f1 : Int
def k24 : Kd S24 := Kd.iso (Kd.pair (Kd.slice 41 k41) (Kd.int .i64)) (fun x : S24 => (x.f0, x.f1))
theorem k24_open {w : World} {x : S24} {cs : List Value} (h : k24.K w x cs) : ∃ A0 c0, cs = [.slice A0 x.f0.length c0, .int .i64 x.f1] ∧ (x.f0.length ≤ c0 ∧ Kd.C k41 w A0 x.f0.length x.f0) := by
  obtain ⟨_, _, rfl, ⟨A0, c0, rfl, l0, C0⟩, rfl⟩ := h
  exact ⟨A0, c0, rfl, ⟨l0, C0⟩⟩
end Go.Proofs.Ytffggkhahambhaa.PAll

namespace Go.Proofs.Ytffggkhahambhaa.Math
open Go.RowKit

/-- All are bytes. -/
def IsB (l : List Int) : Prop := ∀ x ∈ l, 0 ≤ x ∧ x < 256

instance decIsB : DecidablePred IsB := fun l => by unfold IsB; infer_instance

/-- A short number's bytes. -/
def vput (v : Int) : List Int := if 128 ≤ v then (v % 128 + 128) :: vput (v / 128) else [v]
termination_by v.toNat
decreasing_by omega

/-- What short bytes come to. -/
def vval : List Int → Int
  | [] => 0
  | c :: r => c % 128 + 128 * vval r

/-- Short bytes as they must be: all but the last with the high bit, the last without it, and not 0 unless it is alone. -/
def Canon : List Int → Prop
  | [] => False
  | [c] => 0 ≤ c ∧ c < 128
  | c :: d :: r => (128 ≤ c ∧ c < 256) ∧ Canon (d :: r) ∧ (r = [] → d ≠ 0)

/-- Reading a short number: from place i on, what came before being v. -/
def vgo : Nat → Int → List Int → Int × Int
  | _, _, [] => (0, 0)
  | i, v, c :: r => if 10 ≤ i then (0, 0) else if i = 9 ∧ 1 < c then (0, 0) else
      if c < 128 then (if c = 0 ∧ 0 < i then (0, 0) else (v + c * 128 ^ i, (i : Int) + 1)) else vgo (i + 1) (v + (c - 128) * 128 ^ i) r

/-- The short number with which bytes begin, and how many it has. -/
def vget (l : List Int) : Int × Int := vgo 0 0 l

end Go.Proofs.Ytffggkhahambhaa.Math

namespace Go.Proofs.Ytffggkhahambhaa.Math
open Go.RowKit Go.Proofs.YtffggkhahambhaaW.PrintWords

theorem wrap_id {x : Int} (h0 : -9223372036854775808 ≤ x) (h1 : x < 9223372036854775808) : wrap64 x = x := by unfold wrap64; omega

theorem rd_drop {l : List Int} {i : Nat} (h : i < l.length) : l.drop i = rd l (i : Int) :: l.drop (i + 1) := by
  rw [List.drop_eq_getElem_cons h]
  simp [rd, List.getD_eq_getElem?_getD, List.getElem?_eq_getElem h]
end Go.Proofs.Ytffggkhahambhaa.Math

namespace Go.Proofs.Ytffggkhahambhaa.Math
open Go.RowKit Go.Proofs.YtffggkhahambhaaW.PrintWords Go.Proofs.YtffggkhahambhaaW.PrintLast Go.Proofs.YtffggkhahambhaaW.PrintMore
set_option linter.unusedVariables false

/-! cuts with a capacity -/
theorem block_below {w w1 : World} {g : Nat} {o : Obj} (h : w.heap[g]? = some o) (hb : Below w.heap.size w w1) : w1.heap[g]? = some o := by
  refine (hb.block g ?_).trans h
  rcases Nat.lt_or_ge g w.heap.size with h1 | h1
  · exact h1
  · rw [Array.getElem?_eq_none h1] at h; cases h

end Go.Proofs.Ytffggkhahambhaa.Math

namespace Go.Proofs.Ytffggkhahambhaa.Tr
open Go.RowKit Go.Proofs.YtffggkhahambhaaW.PrintWords Go.Proofs.YtffggkhahambhaaW.PrintLast Go.Proofs.YtffggkhahambhaaW.PrintMore Go.Proofs.Ytffggkhahambhaa.Math Go.Proofs.Ytffggkhahambhaa.PAll
open Go.Sort (HoldsK flatK get_flatK size_flatK)
set_option linter.unusedVariables false
set_option linter.unusedSimpArgs false

/-- A span, as its cells: the rows within by where they lie. -/
structure Sp where
  tr : Int
  id : Int
  par : Int
  svc : ByteArray
  op : ByteArray
  st : Int
  du : Int
  stt : Int
  a : Option Addr × Nat × Nat
  e : Option Addr × Nat × Nat
  l : Option Addr × Nat × Nat
instance : Inhabited Sp := ⟨⟨0, 0, 0, ⟨#[]⟩, ⟨#[]⟩, 0, 0, 0, (none, 0, 0), (none, 0, 0), (none, 0, 0)⟩⟩
/-- A kind of elements that are told by their cells alone. -/
def flat {α : Type} (enc : α → List Value) (n : Nat) (hl : ∀ x, (enc x).length = n) (h1 : ∀ x, ∀ v ∈ enc x, v.oneCell' = true) : Kd α where
  sz := n
  E := []
  K := fun _ x cs => cs = enc x
  M := fun _ _ _ x cs => cs = enc x
  K_len := fun h => by rw [h]; exact hl _
  K_one := fun h u hu => by rw [h] at hu; exact h1 _ u hu
  K_below := fun _ h => h
  K_of_M := fun h => h
  M_mono := fun _ h => h
  M_bound := fun h => h
  M_move := fun _ h => h
  M_lower := fun _ h => h
def slv (t : Option Addr × Nat × Nat) : Value := .slice t.1 t.2.1 t.2.2
def encS (s : Sp) : List Value := [.int .u64 s.tr, .int .u64 s.id, .int .u64 s.par, .string s.svc, .string s.op, .int .i64 s.st, .int .i64 s.du, .int .i64 s.stt, .slice s.a.1 s.a.2.1 s.a.2.2, .slice s.e.1 s.e.2.1 s.e.2.2, .slice s.l.1 s.l.2.1 s.l.2.2]
theorem encS_len (s : Sp) : (encS s).length = 11 := rfl
theorem encS_one (s : Sp) : ∀ v ∈ encS s, v.oneCell' = true := by
  intro v hv
  simp only [encS, List.mem_cons, List.not_mem_nil, or_false] at hv
  rcases hv with rfl | rfl | rfl | rfl | rfl | rfl | rfl | rfl | rfl | rfl | rfl <;> rfl
def kS : Kd Sp := flat encS 11 encS_len encS_one
theorem at_S {w : World} {A : Option Addr} {n : Nat} {xs : List Sp} (h : Kd.C kS w A n xs) {k : Nat} {s : Sp} (hk : xs[k]? = some s) : ∃ ad, A = some ad ∧ w.cell? (ad.add (k * 11)) = some (.int .u64 s.tr) ∧ w.cell? ⟨(ad.add (k * 11)).block, (ad.add (k * 11)).off + 1, none⟩ = some (.int .u64 s.id) ∧ w.cell? ⟨(ad.add (k * 11)).block, (ad.add (k * 11)).off + 2, none⟩ = some (.int .u64 s.par) ∧ w.cell? ⟨(ad.add (k * 11)).block, (ad.add (k * 11)).off + 3, none⟩ = some (.string s.svc) ∧ w.cell? ⟨(ad.add (k * 11)).block, (ad.add (k * 11)).off + 4, none⟩ = some (.string s.op) ∧ w.cell? ⟨(ad.add (k * 11)).block, (ad.add (k * 11)).off + 5, none⟩ = some (.int .i64 s.st) ∧ w.cell? ⟨(ad.add (k * 11)).block, (ad.add (k * 11)).off + 6, none⟩ = some (.int .i64 s.du) ∧ w.cell? ⟨(ad.add (k * 11)).block, (ad.add (k * 11)).off + 7, none⟩ = some (.int .i64 s.stt) ∧ w.cell? ⟨(ad.add (k * 11)).block, (ad.add (k * 11)).off + 8, none⟩ = some (.slice s.a.1 s.a.2.1 s.a.2.2) ∧ w.cell? ⟨(ad.add (k * 11)).block, (ad.add (k * 11)).off + 9, none⟩ = some (.slice s.e.1 s.e.2.1 s.e.2.2) ∧ w.cell? ⟨(ad.add (k * 11)).block, (ad.add (k * 11)).off + 10, none⟩ = some (.slice s.l.1 s.l.2.1 s.l.2.2) := by
  obtain ⟨hkl, hs⟩ := List.getElem?_eq_some_iff.1 hk
  obtain ⟨ad, c, e, _, hK, hc⟩ := Kd.C_get h (default : Sp) (k : Int) (by omega) (by have := h.1; omega)
  have e2 : xs.getD (k : Int).toNat default = s := by rw [Int.toNat_natCast, List.getD_eq_getElem?_getD, hk]; rfl
  rw [e2] at hK
  have hK : c = encS s := hK
  subst hK
  have hc : ∀ j u, (encS s)[j]? = some u → w.cell? (ad.add (k * 11 + j)) = some u := by simpa [kS, flat] using hc
  exact ⟨ad, e, hc 0 _ rfl, by rw [← add_field _ _ 1 (by omega)]; exact hc 1 _ rfl, by rw [← add_field _ _ 2 (by omega)]; exact hc 2 _ rfl, by rw [← add_field _ _ 3 (by omega)]; exact hc 3 _ rfl, by rw [← add_field _ _ 4 (by omega)]; exact hc 4 _ rfl, by rw [← add_field _ _ 5 (by omega)]; exact hc 5 _ rfl, by rw [← add_field _ _ 6 (by omega)]; exact hc 6 _ rfl, by rw [← add_field _ _ 7 (by omega)]; exact hc 7 _ rfl, by rw [← add_field _ _ 8 (by omega)]; exact hc 8 _ rfl, by rw [← add_field _ _ 9 (by omega)]; exact hc 9 _ rfl, by rw [← add_field _ _ 10 (by omega)]; exact hc 10 _ rfl⟩
theorem infoS : (Try.prog.info? 34).map (fun i => (i.zero, i.size, i.bytes)) = some (some (.agg #[(.int .u64 0), (.int .u64 0), (.int .u64 0), (.string ⟨#[]⟩), (.string ⟨#[]⟩), (.int .i64 0), (.int .i64 0), (.int .i64 0), (.slice none 0 0), (.slice none 0 0), (.slice none 0 0)]), 11, 152) := by kernel_rfl
/-- What a span is in the law's own kinds. -/
def Is (w : World) (s : Sp) (x : S34) : Prop := k34.K w x (encS s)
theorem Is.below {w w1 : World} {s : Sp} {x : S34} (h : Is w s x) (hb : Below w.heap.size w w1) : Is w1 s x := k34.K_below hb h
theorem Is.fields {w : World} {s : Sp} {x : S34} (h : Is w s x) : x.f0 = s.tr ∧ x.f1 = s.id ∧ x.f2 = s.par ∧ x.f3 = s.svc ∧ x.f4 = s.op ∧ x.f5 = s.st ∧ x.f6 = s.du ∧ x.f7 = s.stt := by
  obtain ⟨A8, c8, A9, c9, A10, c10, he, _⟩ := k34_open h
  simp only [encS, List.cons.injEq, Value.int.injEq, Value.string.injEq, true_and] at he
  obtain ⟨h0, h1, h2, h3, h4, h5, h6, h7, _⟩ := he
  exact ⟨h0.symm, h1.symm, h2.symm, h3.symm, h4.symm, h5.symm, h6.symm, h7.symm⟩
/-- A row that comes in: its spans as cells. -/
theorem raw_of {w : World} {A : Option Addr} {n : Nat} {xs : List S34} (h : Kd.C k34 w A n xs) : ∃ rs : List Sp, rs.length = xs.length ∧ Kd.C kS w A n rs ∧ ∀ (j : Nat) (s : Sp), rs[j]? = some s → ∃ x, xs[j]? = some x ∧ Is w s x := by
  obtain ⟨hn, hb, hc⟩ := h
  have key : ∀ j, j < xs.length → ∃ s : Sp, ∃ x, xs[j]? = some x ∧ Is w s x ∧ ∀ ad, A = some ad → ∀ i u, (encS s)[i]? = some u → w.cell? (ad.add (j * 11 + i)) = some u := by
    intro j hj
    obtain ⟨ad, rfl, hcc⟩ := hc (by omega)
    obtain ⟨c, hcl, hK, hce⟩ := hcc j _ (List.getElem?_eq_getElem hj)
    have hcell : ∀ i u, c[i]? = some u → w.cell? (ad.add (j * 11 + i)) = some u := hce
    obtain ⟨A8, c8, A9, c9, A10, c10, rfl, _⟩ := k34_open hK
    refine ⟨⟨xs[j].f0, xs[j].f1, xs[j].f2, xs[j].f3, xs[j].f4, xs[j].f5, xs[j].f6, xs[j].f7, (A8, xs[j].f8.length, c8), (A9, xs[j].f9.length, c9), (A10, xs[j].f10.length, c10)⟩, xs[j], List.getElem?_eq_getElem hj, hK, fun ad' he => ?_⟩
    injection he with he
    subst he
    exact hcell
  have pick : ∀ m, m ≤ xs.length → ∃ rs : List Sp, rs.length = m ∧ ∀ (j : Nat) (s : Sp), rs[j]? = some s → ∃ x, xs[j]? = some x ∧ Is w s x ∧ ∀ ad, A = some ad → ∀ i u, (encS s)[i]? = some u → w.cell? (ad.add (j * 11 + i)) = some u := by
    intro m
    induction m with
    | zero => intro _; exact ⟨[], rfl, fun j s h => by simp at h⟩
    | succ m ih =>
      intro hm
      obtain ⟨rs, hl, hr⟩ := ih (by omega)
      obtain ⟨s, hs⟩ := key m (by omega)
      refine ⟨rs ++ [s], by simp [hl], fun j t ht => ?_⟩
      by_cases hj : j < rs.length
      · rw [List.getElem?_append_left hj] at ht
        exact hr j t ht
      · rw [List.getElem?_append_right (by omega)] at ht
        have : j = m := by
          rcases Nat.lt_or_ge (j - rs.length) 1 with h1 | h1
          · omega
          · rw [List.getElem?_eq_none (by simpa using h1)] at ht; cases ht
        subst this
        rw [hl, Nat.sub_self] at ht
        simp at ht
        rw [← ht]
        exact hs
  obtain ⟨rs, hl, hr⟩ := pick xs.length (Nat.le_refl _)
  refine ⟨rs, hl, ⟨by rw [hl]; exact hn, hb, fun hp => ?_⟩, fun j s hj => ?_⟩
  · obtain ⟨ad, rfl, _⟩ := hc hp
    refine ⟨ad, rfl, fun j p hj => ⟨encS p, rfl, rfl, fun i u hu => ?_⟩⟩
    obtain ⟨x, _, _, hx⟩ := hr j p hj
    exact hx ad rfl i u hu
  · obtain ⟨x, h1, h2, _⟩ := hr j s hj
    exact ⟨x, h1, h2⟩
theorem arr_S (s : Sp) : (encS s).toArray = #[.int .u64 s.tr, .int .u64 s.id, .int .u64 s.par, .string s.svc, .string s.op, .int .i64 s.st, .int .i64 s.du, .int .i64 s.stt, .slice s.a.1 s.a.2.1 s.a.2.2, .slice s.e.1 s.e.2.1 s.e.2.2, .slice s.l.1 s.l.2.1 s.l.2.2] := rfl
/-- A span's own block, cell by cell. -/
theorem blkS {w : World} {g : Nat} {t : TypeId} {s : Sp} (h : w.heap[g]? = some (.cells (encS s).toArray t (0, 0))) : w.cell? ⟨g, 0, none⟩ = some (.int .u64 s.tr) ∧ w.cell? ⟨g, 1, none⟩ = some (.int .u64 s.id) ∧ w.cell? ⟨g, 2, none⟩ = some (.int .u64 s.par) ∧ w.cell? ⟨g, 3, none⟩ = some (.string s.svc) ∧ w.cell? ⟨g, 4, none⟩ = some (.string s.op) ∧ w.cell? ⟨g, 5, none⟩ = some (.int .i64 s.st) ∧ w.cell? ⟨g, 6, none⟩ = some (.int .i64 s.du) ∧ w.cell? ⟨g, 7, none⟩ = some (.int .i64 s.stt) ∧ w.cell? ⟨g, 8, none⟩ = some (.slice s.a.1 s.a.2.1 s.a.2.2) ∧ w.cell? ⟨g, 9, none⟩ = some (.slice s.e.1 s.e.2.1 s.e.2.2) ∧ w.cell? ⟨g, 10, none⟩ = some (.slice s.l.1 s.l.2.1 s.l.2.2) :=
  ⟨(blk_cell h 0).trans rfl, (blk_cell h 1).trans rfl, (blk_cell h 2).trans rfl, (blk_cell h 3).trans rfl, (blk_cell h 4).trans rfl, (blk_cell h 5).trans rfl, (blk_cell h 6).trans rfl, (blk_cell h 7).trans rfl, (blk_cell h 8).trans rfl, (blk_cell h 9).trans rfl, (blk_cell h 10).trans rfl⟩
/-- A counted loop's measure. -/
theorem meas_up {L k : Nat} (h : L ≤ 1000000) (hk : k + 1 ≤ L) : L - (intOf (.int .i64 (wrap64 ((k : Int) + 1)))).toNat < L - (intOf (.int .i64 k)).toNat := by
  have hw : wrap64 ((k : Int) + 1) = ((k + 1 : Nat) : Int) := by unfold wrap64; omega
  rw [hw]
  show L - ((k + 1 : Nat) : Int).toNat < L - (k : Int).toNat
  rw [Int.toNat_natCast, Int.toNat_natCast]
  omega
/-- The empty span. -/
def zS : Sp := ⟨0, 0, 0, ⟨#[]⟩, ⟨#[]⟩, 0, 0, 0, (none, 0, 0), (none, 0, 0), (none, 0, 0)⟩
/-- Where a row of one's own lies. -/
theorem row_lt {w : World} {base : Nat} {v : Value} {xs : List Sp} (h : Kd.R kS 34 w base (fun _ => True) v xs) : ∀ k, v.ownBlock = some k → base ≤ k ∧ k < w.heap.size := by
  obtain ⟨_, inner, ho, _⟩ := h
  exact fun k hk => ⟨own_base ho k hk, own_lt ho k hk⟩

/-- A span stored at a place. -/
def putA (w : World) (a : Addr) (s : Sp) : World := (((((((((((w.setCell a (.int .u64 s.tr)).setCell ⟨a.block, a.off + 1, none⟩ (.int .u64 s.id)).setCell ⟨a.block, a.off + 2, none⟩ (.int .u64 s.par)).setCell ⟨a.block, a.off + 3, none⟩ (.string s.svc)).setCell ⟨a.block, a.off + 4, none⟩ (.string s.op)).setCell ⟨a.block, a.off + 5, none⟩ (.int .i64 s.st)).setCell ⟨a.block, a.off + 6, none⟩ (.int .i64 s.du)).setCell ⟨a.block, a.off + 7, none⟩ (.int .i64 s.stt)).setCell ⟨a.block, a.off + 8, none⟩ (.slice s.a.1 s.a.2.1 s.a.2.2)).setCell ⟨a.block, a.off + 9, none⟩ (.slice s.e.1 s.e.2.1 s.e.2.2)).setCell ⟨a.block, a.off + 10, none⟩ (.slice s.l.1 s.l.2.1 s.l.2.2))
def arrA (cur : Array Value) (o : Nat) (s : Sp) : Array Value := (((((((((((cur.setIfInBounds (o + 0) (.int .u64 s.tr)).setIfInBounds (o + 1) (.int .u64 s.id)).setIfInBounds (o + 2) (.int .u64 s.par)).setIfInBounds (o + 3) (.string s.svc)).setIfInBounds (o + 4) (.string s.op)).setIfInBounds (o + 5) (.int .i64 s.st)).setIfInBounds (o + 6) (.int .i64 s.du)).setIfInBounds (o + 7) (.int .i64 s.stt)).setIfInBounds (o + 8) (.slice s.a.1 s.a.2.1 s.a.2.2)).setIfInBounds (o + 9) (.slice s.e.1 s.e.2.1 s.e.2.2)).setIfInBounds (o + 10) (.slice s.l.1 s.l.2.1 s.l.2.2))
theorem putA_far {w : World} {a : Addr} {k : Nat} (s : Sp) (h : k ≠ a.block) : (putA w a s).heap[k]? = w.heap[k]? := by
  unfold putA
  rw [Below.heap_setCell _ ⟨a.block, a.off + 10, none⟩ _ _ h, Below.heap_setCell _ ⟨a.block, a.off + 9, none⟩ _ _ h, Below.heap_setCell _ ⟨a.block, a.off + 8, none⟩ _ _ h, Below.heap_setCell _ ⟨a.block, a.off + 7, none⟩ _ _ h, Below.heap_setCell _ ⟨a.block, a.off + 6, none⟩ _ _ h, Below.heap_setCell _ ⟨a.block, a.off + 5, none⟩ _ _ h, Below.heap_setCell _ ⟨a.block, a.off + 4, none⟩ _ _ h, Below.heap_setCell _ ⟨a.block, a.off + 3, none⟩ _ _ h, Below.heap_setCell _ ⟨a.block, a.off + 2, none⟩ _ _ h, Below.heap_setCell _ ⟨a.block, a.off + 1, none⟩ _ _ h, Below.heap_setCell _ a _ _ h]
theorem below_putA {B : Nat} {w0 w : World} {a : Addr} (s : Sp) (h : Below B w0 w) (hg : B ≤ a.block) : Below B w0 (putA w a s) :=
  (((((((((((h.setCell hg _).setCell (p := ⟨a.block, a.off + 1, none⟩) hg _).setCell (p := ⟨a.block, a.off + 2, none⟩) hg _).setCell (p := ⟨a.block, a.off + 3, none⟩) hg _).setCell (p := ⟨a.block, a.off + 4, none⟩) hg _).setCell (p := ⟨a.block, a.off + 5, none⟩) hg _).setCell (p := ⟨a.block, a.off + 6, none⟩) hg _).setCell (p := ⟨a.block, a.off + 7, none⟩) hg _).setCell (p := ⟨a.block, a.off + 8, none⟩) hg _).setCell (p := ⟨a.block, a.off + 9, none⟩) hg _).setCell (p := ⟨a.block, a.off + 10, none⟩) hg _)
theorem putA_same {w : World} {g o : Nat} {cur : Array Value} {t : TypeId} (s : Sp) (h : w.heap[g]? = some (.cells cur t (0, 0))) : (putA w ⟨g, o, none⟩ s).heap[g]? = some (.cells (arrA cur o s) t (0, 0)) := by
  have h' := blk_set (blk_set (blk_set (blk_set (blk_set (blk_set (blk_set (blk_set (blk_set (blk_set (blk_set (h) (o + 0) (.int .u64 s.tr)) (o + 1) (.int .u64 s.id)) (o + 2) (.int .u64 s.par)) (o + 3) (.string s.svc)) (o + 4) (.string s.op)) (o + 5) (.int .i64 s.st)) (o + 6) (.int .i64 s.du)) (o + 7) (.int .i64 s.stt)) (o + 8) (.slice s.a.1 s.a.2.1 s.a.2.2)) (o + 9) (.slice s.e.1 s.e.2.1 s.e.2.2)) (o + 10) (.slice s.l.1 s.l.2.1 s.l.2.2)
  unfold putA arrA
  exact h'
theorem arrA_size (cur : Array Value) (o : Nat) (s : Sp) : (arrA cur o s).size = cur.size := by
  unfold arrA
  simp only [Array.size_setIfInBounds]
theorem arrA_ne {cur : Array Value} {o t : Nat} (s : Sp) (h : t < o ∨ o + 11 ≤ t) : (arrA cur o s)[t]? = cur[t]? := by
  unfold arrA
  iterate 11 rw [Array.getElem?_setIfInBounds_ne (by omega)]
theorem arrA_at {cur : Array Value} {o : Nat} (s : Sp) (h : o + 11 ≤ cur.size) (q : Nat) (hq : q < 11) : (arrA cur o s)[o + q]? = (encS s)[q]? := by
  have hc : q = 0 ∨ q = 1 ∨ q = 2 ∨ q = 3 ∨ q = 4 ∨ q = 5 ∨ q = 6 ∨ q = 7 ∨ q = 8 ∨ q = 9 ∨ q = 10 := by omega
  unfold arrA
  rcases hc with rfl | rfl | rfl | rfl | rfl | rfl | rfl | rfl | rfl | rfl | rfl
  · rw [Array.getElem?_setIfInBounds_ne (by omega)]; rw [Array.getElem?_setIfInBounds_ne (by omega)]; rw [Array.getElem?_setIfInBounds_ne (by omega)]; rw [Array.getElem?_setIfInBounds_ne (by omega)]; rw [Array.getElem?_setIfInBounds_ne (by omega)]; rw [Array.getElem?_setIfInBounds_ne (by omega)]; rw [Array.getElem?_setIfInBounds_ne (by omega)]; rw [Array.getElem?_setIfInBounds_ne (by omega)]; rw [Array.getElem?_setIfInBounds_ne (by omega)]; rw [Array.getElem?_setIfInBounds_ne (by omega)]; rw [Array.getElem?_setIfInBounds_self_of_lt (by first | omega | (simp only [Array.size_setIfInBounds]; omega))]; rfl
  · rw [Array.getElem?_setIfInBounds_ne (by omega)]; rw [Array.getElem?_setIfInBounds_ne (by omega)]; rw [Array.getElem?_setIfInBounds_ne (by omega)]; rw [Array.getElem?_setIfInBounds_ne (by omega)]; rw [Array.getElem?_setIfInBounds_ne (by omega)]; rw [Array.getElem?_setIfInBounds_ne (by omega)]; rw [Array.getElem?_setIfInBounds_ne (by omega)]; rw [Array.getElem?_setIfInBounds_ne (by omega)]; rw [Array.getElem?_setIfInBounds_ne (by omega)]; rw [Array.getElem?_setIfInBounds_self_of_lt (by first | omega | (simp only [Array.size_setIfInBounds]; omega))]; rfl
  · rw [Array.getElem?_setIfInBounds_ne (by omega)]; rw [Array.getElem?_setIfInBounds_ne (by omega)]; rw [Array.getElem?_setIfInBounds_ne (by omega)]; rw [Array.getElem?_setIfInBounds_ne (by omega)]; rw [Array.getElem?_setIfInBounds_ne (by omega)]; rw [Array.getElem?_setIfInBounds_ne (by omega)]; rw [Array.getElem?_setIfInBounds_ne (by omega)]; rw [Array.getElem?_setIfInBounds_ne (by omega)]; rw [Array.getElem?_setIfInBounds_self_of_lt (by first | omega | (simp only [Array.size_setIfInBounds]; omega))]; rfl
  · rw [Array.getElem?_setIfInBounds_ne (by omega)]; rw [Array.getElem?_setIfInBounds_ne (by omega)]; rw [Array.getElem?_setIfInBounds_ne (by omega)]; rw [Array.getElem?_setIfInBounds_ne (by omega)]; rw [Array.getElem?_setIfInBounds_ne (by omega)]; rw [Array.getElem?_setIfInBounds_ne (by omega)]; rw [Array.getElem?_setIfInBounds_ne (by omega)]; rw [Array.getElem?_setIfInBounds_self_of_lt (by first | omega | (simp only [Array.size_setIfInBounds]; omega))]; rfl
  · rw [Array.getElem?_setIfInBounds_ne (by omega)]; rw [Array.getElem?_setIfInBounds_ne (by omega)]; rw [Array.getElem?_setIfInBounds_ne (by omega)]; rw [Array.getElem?_setIfInBounds_ne (by omega)]; rw [Array.getElem?_setIfInBounds_ne (by omega)]; rw [Array.getElem?_setIfInBounds_ne (by omega)]; rw [Array.getElem?_setIfInBounds_self_of_lt (by first | omega | (simp only [Array.size_setIfInBounds]; omega))]; rfl
  · rw [Array.getElem?_setIfInBounds_ne (by omega)]; rw [Array.getElem?_setIfInBounds_ne (by omega)]; rw [Array.getElem?_setIfInBounds_ne (by omega)]; rw [Array.getElem?_setIfInBounds_ne (by omega)]; rw [Array.getElem?_setIfInBounds_ne (by omega)]; rw [Array.getElem?_setIfInBounds_self_of_lt (by first | omega | (simp only [Array.size_setIfInBounds]; omega))]; rfl
  · rw [Array.getElem?_setIfInBounds_ne (by omega)]; rw [Array.getElem?_setIfInBounds_ne (by omega)]; rw [Array.getElem?_setIfInBounds_ne (by omega)]; rw [Array.getElem?_setIfInBounds_ne (by omega)]; rw [Array.getElem?_setIfInBounds_self_of_lt (by first | omega | (simp only [Array.size_setIfInBounds]; omega))]; rfl
  · rw [Array.getElem?_setIfInBounds_ne (by omega)]; rw [Array.getElem?_setIfInBounds_ne (by omega)]; rw [Array.getElem?_setIfInBounds_ne (by omega)]; rw [Array.getElem?_setIfInBounds_self_of_lt (by first | omega | (simp only [Array.size_setIfInBounds]; omega))]; rfl
  · rw [Array.getElem?_setIfInBounds_ne (by omega)]; rw [Array.getElem?_setIfInBounds_ne (by omega)]; rw [Array.getElem?_setIfInBounds_self_of_lt (by first | omega | (simp only [Array.size_setIfInBounds]; omega))]; rfl
  · rw [Array.getElem?_setIfInBounds_ne (by omega)]; rw [Array.getElem?_setIfInBounds_self_of_lt (by first | omega | (simp only [Array.size_setIfInBounds]; omega))]; rfl
  · rw [Array.getElem?_setIfInBounds_self_of_lt (by first | omega | (simp only [Array.size_setIfInBounds]; omega))]; rfl

theorem add_at (g i : Nat) : (⟨g, 0, none⟩ : Addr).add i = ⟨g, i, none⟩ := by unfold Addr.add; split <;> simp_all
/-- A row whose block is known. -/
theorem row_open {w : World} {base c : Nat} {ad : Addr} {n : Nat} {ys : List Sp} (h : Kd.R kS 34 w base (fun _ => True) (.slice (some ad) n c) ys) (h0 : 0 < ys.length) : ∃ g cur, ad = ⟨g, 0, none⟩ ∧ n = ys.length ∧ base ≤ g ∧ w.heap[g]? = some (.cells cur 34 (0, 0)) ∧ ys.length ≤ c ∧ c ≤ maxLen ∧ cur.size = c * 11 ∧ ∀ j p, ys[j]? = some p → ((cur.toList.take (ys.length * 11)).drop (j * 11)).take 11 = encS p := by
  have hn := (Kd.R_reads' h).1
  obtain ⟨hok, inner, ⟨hl, ho⟩, hr⟩ := h
  rcases ho with ⟨h1, _⟩ | ⟨g, cap, cur, h1, hg, hh, hnc, hcm, hcs, ht⟩
  · cases h1
  · injection h1 with e1 e2 e3
    injection e1 with e1
    subst e3
    exact ⟨g, cur, e1, hn, hg, hh, hnc, hcm, hcs, fun j p hj => by
      have := hr.2 j p hj
      rw [← ht] at this
      exact this⟩
theorem row_close {w : World} {base c : Nat} {g n : Nat} {cur : Array Value} {ys : List Sp} (hn : n = ys.length) (hg : base ≤ g) (hh : w.heap[g]? = some (.cells cur 34 (0, 0))) (hnc : ys.length ≤ c) (hcm : c ≤ maxLen) (hcs : cur.size = c * 11) (hr : ∀ j p, ys[j]? = some p → ∀ q, q < 11 → cur[j * 11 + q]? = (encS p)[q]?) : Kd.R kS 34 w base (fun _ => True) (.slice (some ⟨g, 0, none⟩) n c) ys := by
  subst hn
  have hle : ys.length * 11 ≤ cur.size := by rw [hcs]; exact Nat.mul_le_mul_right 11 hnc
  have hlen : (cur.toList.take (ys.length * 11)).length = ys.length * 11 := by
    rw [List.length_take]
    show min (ys.length * 11) cur.size = ys.length * 11
    exact Nat.min_eq_left hle
  refine ⟨fun _ _ => trivial, cur.toList.take (ys.length * 11), ⟨hlen, .inr ⟨g, c, cur, rfl, hg, hh, hnc, hcm, hcs, rfl⟩⟩, hlen, fun j p hj => ?_⟩
  have hjl := (List.getElem?_eq_some_iff.1 hj).1
  show ((cur.toList.take (ys.length * 11)).drop (j * 11)).take 11 = encS p
  refine List.ext_getElem? fun q => ?_
  rw [List.getElem?_take]
  by_cases hq : q < 11
  · rw [if_pos hq, List.getElem?_drop, List.getElem?_take, if_pos (by omega), Array.getElem?_toList]
    exact hr j p hj q hq
  · rw [if_neg hq]
    exact (List.getElem?_eq_none (by rw [encS_len]; omega)).symm
theorem chunk_get {cur : Array Value} {n j : Nat} {p : Sp} (hj : j < n) (h : ((cur.toList.take (n * 11)).drop (j * 11)).take 11 = encS p) (q : Nat) (hq : q < 11) : cur[j * 11 + q]? = (encS p)[q]? := by
  have h1 := congrArg (fun l : List Value => l[q]?) h
  rw [List.getElem?_take, if_pos hq, List.getElem?_drop, List.getElem?_take, if_pos (by omega), Array.getElem?_toList] at h1
  exact h1
/-- One element of a row of one's own, stored. -/
theorem row_put {w : World} {base c n : Nat} {ad : Addr} {ys : List Sp} (h : Kd.R kS 34 w base (fun _ => True) (.slice (some ad) n c) ys) {i : Nat} (hi : i < ys.length) (s : Sp) :
    Kd.R kS 34 (putA w (ad.add (i * 11)) s) base (fun _ => True) (.slice (some ad) n c) (ys.set i s) ∧ Below base w (putA w (ad.add (i * 11)) s) ∧ (∀ k : Nat, k < 11 → w.frozen? ⟨(ad.add (i * 11)).block, (ad.add (i * 11)).off + k, none⟩ = false) ∧ w.frozen? (ad.add (i * 11)) = false := by
  obtain ⟨g, cur, rfl, hn, hg, hh, hnc, hcm, hcs, hr⟩ := row_open h (by omega)
  rw [add_at]
  have hsz : i * 11 + 11 ≤ cur.size := by rw [hcs]; have := Nat.mul_le_mul_right 11 (show i + 1 ≤ c by omega); omega
  have hps := putA_same (o := i * 11) s hh
  have hbp : Below base w (putA w ⟨g, i * 11, none⟩ s) := below_putA s (Below.refl base w) hg
  have hpf : ∀ k : Nat, w.frozen? ⟨g, i * 11 + k, none⟩ = false := fun k => blk_frozen hh _
  have has := arrA_size cur (i * 11) s
  have hae := fun t => arrA_ne (cur := cur) (o := i * 11) (t := t) s
  have haa := arrA_at (cur := cur) (o := i * 11) s hsz
  clear hh
  generalize putA w ⟨g, i * 11, none⟩ s = w1 at hps hbp ⊢
  generalize arrA cur (i * 11) s = cur1 at hps has hae haa
  refine ⟨row_close (by rw [List.length_set]; exact hn) hg hps (by rw [List.length_set]; exact hnc) hcm (by rw [has]; exact hcs) (fun j p hj q hq => ?_), hbp, fun k _ => hpf k, hpf 0⟩
  by_cases hji : j = i
  · subst hji
    rw [List.getElem?_set_self hi] at hj
    injection hj with hj
    rw [haa q hq, hj]
  · rw [List.getElem?_set_ne (fun e => hji e.symm)] at hj
    have hjl := (List.getElem?_eq_some_iff.1 hj).1
    rw [hae _ (by omega)]
    exact chunk_get hjl (hr j p hj) q hq
/-- The rest of a row of one's own, cleared. -/
theorem row_clear {w : World} {base c n : Nat} {ad : Addr} {ys : List Sp} (h : Kd.R kS 34 w base (fun _ => True) (.slice (some ad) n c) ys) {i : Nat} (hi : i < ys.length) (cc : Nat) :
    ∃ W, (∀ ty, (Builtin.clear_ #[25] ty #[.slice (some (ad.add (i * 11))) (n - i) cc]).run Try.prog w = .ok (.tuple #[]) W) ∧ Kd.R kS 34 W base (fun _ => True) (.slice (some ad) i c) (ys.take i) ∧ Below base w W := by
  obtain ⟨g, cur, rfl, hn, hg, hh, hnc, hcm, hcs, hr⟩ := row_open h (by omega)
  rw [add_at]
  have hz : (Builtin.zeroCells (encS zS).toArray (n - i)).toList.length = (n - i) * 11 := by
    rw [Array.length_toList, size_zeroCells]
    rfl
  have hle : i * 11 + 0 + (Builtin.zeroCells (encS zS).toArray (n - i)).toList.length ≤ cur.size := by
    rw [hz, hcs, Nat.add_zero, ← Nat.add_mul]
    exact Nat.mul_le_mul_right 11 (by omega)
  have hone : ∀ v ∈ (Builtin.zeroCells (encS zS).toArray (n - i)).toList, v.oneCell' = true := by
    intro v hv
    simp only [Builtin.zeroCells, Array.toList_map, List.mem_map] at hv
    obtain ⟨t, _, rfl⟩ := hv
    have ht : t % (encS zS).toArray.size < (encS zS).toArray.size := Nat.mod_lt _ (by decide)
    rw [getElem!_pos (encS zS).toArray (t % (encS zS).toArray.size) ht]
    exact encS_one zS _ (List.getElem_mem _)
  have hrun := run_storeCells_at (P := Try.prog) g (i * 11) 34 _ 0 cur w hh hle hone
  have hlen : (cur.toList.take (i * 11 + 0) ++ (Builtin.zeroCells (encS zS).toArray (n - i)).toList ++ cur.toList.drop (i * 11 + 0 + (Builtin.zeroCells (encS zS).toArray (n - i)).toList.length)).toArray.size = c * 11 := by
    rw [← hcs]
    show (cur.toList.take (i * 11 + 0) ++ (Builtin.zeroCells (encS zS).toArray (n - i)).toList ++ cur.toList.drop (i * 11 + 0 + (Builtin.zeroCells (encS zS).toArray (n - i)).toList.length)).length = cur.toList.length
    have hle' : i * 11 + 0 + (Builtin.zeroCells (encS zS).toArray (n - i)).toList.length ≤ cur.toList.length := hle
    rw [List.length_append, List.length_append, List.length_take, List.length_drop]
    omega
  refine ⟨_, fun ty => ?_, row_close (w := w.setRow g _) (by rw [List.length_take]; omega) hg (setRow_heap w g cur _ 34 (0, 0) hh) (by rw [List.length_take]; omega) hcm hlen (fun j p hj q hq => ?_), ⟨rfl, rfl, rfl, by simp, fun k hk => setRow_other w g k _ (by omega)⟩⟩
  · obtain ⟨m, hm⟩ : ∃ m, n - i = m + 1 := ⟨n - i - 1, by omega⟩
    rw [hm] at hrun ⊢
    have hz2 : (Value.agg #[.int .u64 0, .int .u64 0, .int .u64 0, .string ⟨#[]⟩, .string ⟨#[]⟩, .int .i64 0, .int .i64 0, .int .i64 0, .slice none 0 0, .slice none 0 0, .slice none 0 0]).cells = (encS zS).toArray := rfl
    simp [Builtin.clear_, run_underlying Try.underlying25, Result.andThen, Try.zeroValue34, hz2, hrun]
  · rw [List.getElem?_take] at hj
    split at hj
    · rename_i hji
      have hjl := (List.getElem?_eq_some_iff.1 hj).1
      rw [← chunk_get hjl (hr j p hj) q hq]
      rw [List.getElem?_toArray, List.append_assoc, List.getElem?_append_left (by rw [List.length_take]; show _ < min _ cur.size; omega), List.getElem?_take, if_pos (by omega), Array.getElem?_toList]
    · cases hj

def nilS : S34 := ⟨0, 0, 0, ⟨#[]⟩, ⟨#[]⟩, 0, 0, 0, [], [], []⟩
/-- A row of one's own, as the sort wants it. -/
theorem holds_of {w : World} {g cap : Nat} {cur : Array Value} {xs : List Sp} (hh : w.heap[g]? = some (.cells cur 34 (0, 0))) (hnc : xs.length ≤ cap) (hcs : cur.size = cap * 11)
    (hr : ∀ (j : Nat) (p : Sp), xs[j]? = some p → ((cur.toList.take (xs.length * 11)).drop (j * 11)).take 11 = encS p) : HoldsK encS 11 w g 0 xs.toArray := by
  intro t ht
  rw [size_flatK] at ht
  have ht : t < xs.length * 11 := by simpa using ht
  have hq : t / 11 < xs.length := by omega
  have hp := hr (t / 11) _ (List.getElem?_eq_getElem hq)
  have hcell : w.cell? ⟨g, 0 + t, none⟩ = cur[t]? := by rw [Nat.zero_add]; exact cell_of_row w g t _ _ _ hh
  refine ⟨?_, by rw [Nat.zero_add]; exact blk_frozen hh t⟩
  rw [hcell]
  have hlt : t < cur.size := by rw [hcs]; have := Nat.mul_le_mul_right 11 hnc; omega
  have h1 := congrArg (fun l : List Value => l[t % 11]?) hp
  rw [List.getElem?_take, if_pos (Nat.mod_lt _ (by omega)), List.getElem?_drop, List.getElem?_take, if_pos (by omega), show t / 11 * 11 + t % 11 = t by omega, Array.getElem?_toList] at h1
  rw [h1]
  show (encS xs[t / 11])[t % 11]? = some (flatK encS 11 xs.toArray)[t]!
  rw [get_flatK _ _ _ _ (by simpa using ht)]
  have e : xs.toArray[t / 11]! = xs[t / 11] := by simp [hq]
  rw [e]
  have hm : t % 11 < (encS xs[t / 11]).length := Nat.mod_lt _ (by decide)
  rw [List.getElem?_eq_getElem hm, getElem!_pos (encS xs[t / 11]) (t % 11) hm]

end Go.Proofs.Ytffggkhahambhaa.Tr

namespace Go.Proofs.Ytffggkhahambhaa.MapG
open Go.RowKit Go.Proofs.YtffggkhahambhaaW.PrintWords Go.Proofs.YtffggkhahambhaaW.PrintLast Go.Proofs.YtffggkhahambhaaW.PrintMore Go.Proofs.Ytffggkhahambhaa.Math
open Go.MapKept (Stamped IsKey stamped_empty stamped_push stamped_modify stamped_iff findNow_spec)
open Go.ChangeMaps (setBlock)
set_option linter.unusedVariables false
set_option linter.unusedSimpArgs false

/-- Keys of a kind. -/
structure MKey {α : Type} (d : TypeDesc) (enc : α → Value) : Prop where
  key : ∀ k, IsKey d (enc k)
  inj : ∀ a b, enc a = enc b → a = b
  bits : ∀ k, Instr.sameBits 10000 (enc k) (enc k) = true
theorem bytes_beq (x : ByteArray) : (x == x) = true := by
  show (x.data == x.data) = true
  exact beq_self_eq_true _
theorem mkey_string : MKey .string Value.string := ⟨fun _ => trivial, fun a b h => by injection h, fun x => by
  show (x == x) = true
  exact bytes_beq x⟩
section
variable {α : Type} {d : TypeDesc} {enc : α → Value}
/-- The entries hold just what 'f' tells. -/
structure MOk (enc : α → Value) (es : Array MapEntry) (clk : Nat) (f : α → Option Value) : Prop where
  st : Stamped es clk
  keys : ∀ x ∈ es.toList, ∃ k, x.key = enc k ∧ f k = some x.val
  find : ∀ k v, f k = some v → ∃ x ∈ es.toList, x.key = enc k ∧ x.val = v
theorem MOk.empty (enc : α → Value) (clk : Nat) : MOk enc #[] clk (fun _ => none) := ⟨stamped_empty clk, fun x hx => by simp at hx, fun k v h => by cases h⟩
theorem MOk.isKey (hK : MKey d enc) {es : Array MapEntry} {clk : Nat} {f : α → Option Value} (h : MOk enc es clk f) : ∀ x ∈ es.toList, IsKey d x.key := by
  intro x hx
  obtain ⟨k, hk, _⟩ := h.keys x hx
  rw [hk]
  exact hK.key k
theorem MOk.look (hK : MKey d enc) {es : Array MapEntry} {clk : Nat} {f : α → Option Value} (h : MOk enc es clk f) (k : α) :
    (Instr.findNow d (enc k) es.toList 0 = some none ∧ f k = none ∧ ∀ x ∈ es.toList, x.key ≠ enc k) ∨
    ∃ j e, Instr.findNow d (enc k) es.toList 0 = some (some (j, e.val)) ∧ es.toList[j]? = some e ∧ e.key = enc k ∧ f k = some e.val := by
  rcases findNow_spec (d := d) (k := enc k) (hK.key k) es.toList 0 (h.isKey hK) with ⟨h1, h2⟩ | ⟨j, e, h1, h2, h3⟩
  · refine Or.inl ⟨h1, ?_, h2⟩
    cases hf : f k with
    | none => rfl
    | some v =>
      obtain ⟨x, hx, hk, _⟩ := h.find k v hf
      exact absurd hk (h2 x hx)
  · refine Or.inr ⟨j, e, by rw [Nat.zero_add] at h1; exact h1, h2, h3, ?_⟩
    obtain ⟨k', hk', hf⟩ := h.keys e (List.mem_of_getElem? h2)
    rw [h3] at hk'
    rw [hK.inj _ _ hk']
    exact hf
theorem run_look {P : Program} (hKy : MKey d enc) {T K E : TypeId} (hT : P.underlying T = some (.map K E)) (hK : P.underlying K = some d) (z : Value) (w : World) (hz : (zeroValue E).run P w = .ok z w) {gm : Nat} {es : Array MapEntry} {clk : Nat} {f : α → Option Value}
    (hm : w.heap[gm]? = some (.map es clk)) (h : MOk enc es clk f) (k : α) :
    (Instr.lookup T (.map (some gm)) (enc k) true).run P w = .ok (.tuple #[(f k).getD z, .bool (f k).isSome]) w := by
  have hck : ∀ e, (Instr.checkKey e 10000 K (enc k)).run P w = .ok () w := fun e => Go.MapKept.run_checkKey (d := d) (k := enc k) hK (hKy.key k) e 9999
  rcases h.look hKy k with ⟨h1, h2, _⟩ | ⟨j, e, h1, _, _, h4⟩
  · simp [Instr.lookup, run_underlying hT, Go.MapKept.run_getObj_map hm, Result.andThen, hck, Go.MapKept.run_findKey hK h1, hz, h2]
  · simp [Instr.lookup, run_underlying hT, Go.MapKept.run_getObj_map hm, Result.andThen, hck, Go.MapKept.run_findKey hK h1, h4]
theorem run_put {P : Program} (hKy : MKey d enc) [DecidableEq α] {T K E : TypeId} (hT : P.underlying T = some (.map K E)) (hK : P.underlying K = some d) (w : World) {gm : Nat} {es : Array MapEntry} {clk : Nat} {f : α → Option Value}
    (hm : w.heap[gm]? = some (.map es clk)) (h : MOk enc es clk f) (k : α) (v : Value) :
    ∃ es' clk', (Instr.mapUpdate T (.map (some gm)) (enc k) v).run P w = .ok () (setBlock w gm (.map es' clk')) ∧ MOk enc es' clk' (fun k' => if k' = k then some v else f k') ∧ es'.size = if (f k).isSome = true then es.size else es.size + 1 := by
  have hck : ∀ e, (Instr.checkKey e 10000 K (enc k)).run P w = .ok () w := fun e => Go.MapKept.run_checkKey (d := d) (k := enc k) hK (hKy.key k) e 9999
  rcases h.look hKy k with ⟨h1, h2, h3⟩ | ⟨j, e, h1, hj, h3, h4⟩
  · refine ⟨es.push { key := enc k, val := v, born := clk }, clk + 1, ?_, ⟨stamped_push h.st h3, ?_, ?_⟩, ?_⟩
    · simp [Instr.mapUpdate, run_underlying hT, Go.MapKept.run_getObj_map hm, Result.andThen, hck, Go.MapKept.run_findKey hK h1, Go.MapKept.run_setObj_map _ hm, setBlock]
    · intro x hx
      simp only [Array.toList_push, List.mem_append, List.mem_singleton] at hx
      rcases hx with hx | rfl
      · obtain ⟨k', hk', hf⟩ := h.keys x hx
        refine ⟨k', hk', ?_⟩
        rw [if_neg (fun hkk => h3 x hx (by rw [hk', hkk]))]
        exact hf
      · exact ⟨k, rfl, if_pos rfl⟩
    · intro k' v' hf
      by_cases hkk : k' = k
      · subst hkk
        rw [if_pos rfl] at hf
        injection hf with hf
        exact ⟨{ key := enc k', val := v, born := clk }, by simp, rfl, hf⟩
      · rw [if_neg hkk] at hf
        obtain ⟨x, hx, hk', hv⟩ := h.find k' v' hf
        exact ⟨x, by simp [Array.mem_toList_iff.1 hx], hk', hv⟩
    · rw [h2]
      simp
  · have hjl : es[j]? = some e := by rw [← Array.getElem?_toList]; exact hj
    have hks : (Instr.keyThatStays e.key (enc k)).run P w = .ok (enc k) w := by rw [h3]; simp [Instr.keyThatStays, hKy.bits k]
    have hstay : Stamped (es.modify j fun x => { x with key := enc k, val := v }) clk := stamped_modify h.st j _ (fun _ _ => rfl) (fun x _ hx => by rw [hjl] at hx; injection hx with hx; rw [← hx]; exact h3.symm)
    refine ⟨es.modify j fun x => { x with key := enc k, val := v }, clk, ?_, ⟨hstay, ?_, ?_⟩, ?_⟩
    · simp [Instr.mapUpdate, run_underlying hT, Go.MapKept.run_getObj_map hm, Result.andThen, hck, Go.MapKept.run_findKey hK h1, hjl, hks, Go.MapKept.run_setObj_map _ hm, setBlock]
    · intro x hx
      obtain ⟨i, hi⟩ := List.mem_iff_getElem?.1 hx
      rw [Array.getElem?_toList, Array.getElem?_modify] at hi
      by_cases hij : j = i
      · subst hij
        rw [if_pos rfl, hjl] at hi
        injection hi with hi
        subst hi
        exact ⟨k, rfl, if_pos rfl⟩
      · rw [if_neg hij] at hi
        have hxm : x ∈ es.toList := by rw [← Array.getElem?_toList] at hi; exact List.mem_of_getElem? hi
        obtain ⟨k', hk', hf⟩ := h.keys x hxm
        refine ⟨k', hk', ?_⟩
        rw [if_neg ?_]
        · exact hf
        · intro hkk
          have hnd := ((stamped_iff es clk).1 h.st).2.2
          have hil : i < es.toList.length := by rw [Array.getElem?_eq_some_iff] at hi; obtain ⟨h', _⟩ := hi; simpa using h'
          have hjl' : j < es.toList.length := (List.getElem?_eq_some_iff.1 hj).1
          have hei : es.toList[i] = x := by have := (List.getElem?_eq_some_iff.1 (show es.toList[i]? = some x by rw [Array.getElem?_toList]; exact hi)).2; exact this
          have hej : es.toList[j] = e := (List.getElem?_eq_some_iff.1 hj).2
          rcases Nat.lt_or_gt_of_ne hij with hlt | hlt
          · exact (List.pairwise_iff_getElem.1 hnd j i hjl' hil hlt) (by rw [hei, hej, h3, hk', hkk])
          · exact (List.pairwise_iff_getElem.1 hnd i j hil hjl' hlt) (by rw [hei, hej, h3, hk', hkk])
    · intro k' v' hf
      by_cases hkk : k' = k
      · subst hkk
        rw [if_pos rfl] at hf
        injection hf with hf
        refine ⟨{ e with key := enc k', val := v }, List.mem_of_getElem? (i := j) ?_, rfl, hf⟩
        rw [Array.getElem?_toList, Array.getElem?_modify, if_pos rfl, hjl]
        rfl
      · rw [if_neg hkk] at hf
        obtain ⟨x, hx, hk', hv⟩ := h.find k' v' hf
        obtain ⟨i, hi⟩ := List.mem_iff_getElem?.1 hx
        have hij : j ≠ i := by
          rintro rfl
          rw [hj] at hi
          injection hi with hi
          rw [← hi, h3] at hk'
          exact hkk (hKy.inj _ _ hk'.symm)
        refine ⟨x, List.mem_of_getElem? (i := i) ?_, hk', hv⟩
        rw [Array.getElem?_toList, Array.getElem?_modify, if_neg hij, ← Array.getElem?_toList]
        exact hi
    · rw [h4]
      simp
theorem heap_setBlock (w : World) (g k : Nat) (o : Obj) : (setBlock w g o).heap[k]? = if g = k ∧ k < w.heap.size then some o else w.heap[k]? := by
  simp only [setBlock]
  rw [Array.getElem?_setIfInBounds]
  by_cases h : g = k
  · subst h
    by_cases hl : g < w.heap.size
    · simp [hl]
    · simp [hl]
  · simp [h]
theorem size_setBlock (w : World) (g : Nat) (o : Obj) : (setBlock w g o).heap.size = w.heap.size := by simp [setBlock]
end
end Go.Proofs.Ytffggkhahambhaa.MapG

namespace Go.Proofs.Ytffggkhahambhaa.Tr
open Go.RowKit Go.Proofs.YtffggkhahambhaaW.PrintWords Go.Proofs.YtffggkhahambhaaW.PrintLast Go.Proofs.YtffggkhahambhaaW.PrintMore Go.Proofs.Ytffggkhahambhaa.Math Go.Proofs.Ytffggkhahambhaa.PAll Go.Proofs.Ytffggkhahambhaa.MapG
open Go.ChangeMaps (setBlock)
set_option linter.unusedVariables false
set_option linter.unusedSimpArgs false
/-- A span's numbers, by their names. -/
def numF (s : Sp) (k : ByteArray) : Option Value := if k = (⟨#[112, 97, 114, 101, 110, 116]⟩ : ByteArray) then some (.int .u64 s.par) else if k = (⟨#[105, 100]⟩ : ByteArray) then some (.int .u64 s.id) else if k = (⟨#[116, 114, 97, 99, 101]⟩ : ByteArray) then some (.int .u64 s.tr) else if k = (⟨#[115, 116, 97, 114, 116]⟩ : ByteArray) then some (.int .u64 (IntKind.u64.wrap s.st)) else if k = (⟨#[100, 117, 114]⟩ : ByteArray) then some (.int .u64 (IntKind.u64.wrap s.du)) else if k = (⟨#[115, 116, 97, 116, 117, 115]⟩ : ByteArray) then some (.int .u64 (IntKind.u64.wrap s.stt)) else none
theorem num_step {w W : World} {n : Nat} {o : Obj} {es : Array MapEntry} {clk : Nat} {f : ByteArray → Option Value} (hn : w.heap.size = n) (h1 : W.heap[n]? = some o) (h2 : W.heap[n + 1]? = some (.map es clk)) (hb : Below n w W) (hm : MOk Value.string es clk f) (k : ByteArray) (v : Value) :
    ∃ es' clk' W', (Instr.mapUpdate 64 (.map (some (n + 1))) (.string k) v).run Try.prog W = .ok () W' ∧ W'.heap[n]? = some o ∧ W'.heap[n + 1]? = some (.map es' clk') ∧ Below n w W' ∧ MOk Value.string es' clk' (fun k' => if k' = k then some v else f k') := by
  obtain ⟨es', clk', hp, hm', _⟩ := run_put (P := Try.prog) mkey_string Try.underlying64 Try.underlying9 W h2 hm k v
  have hlt : n + 1 < W.heap.size := by
    rcases Nat.lt_or_ge (n + 1) W.heap.size with h | h
    · exact h
    · rw [Array.getElem?_eq_none h] at h2; cases h2
  refine ⟨es', clk', _, hp, ?_, ?_, ⟨hb.os, hb.tape, hb.output, by rw [size_setBlock]; exact hb.size, fun k hk => ?_⟩, hm'⟩
  · rw [heap_setBlock, if_neg (fun e => by have := e.1; omega)]; exact h1
  · rw [heap_setBlock, if_pos ⟨rfl, hlt⟩]
  · rw [heap_setBlock, if_neg (fun e => by have := e.1; omega)]; exact hb.block k hk
set_option maxHeartbeats 4000000 in
set_option maxRecDepth 100000 in
theorem numbers_calls (s : Sp) (w : World) : Calls Try.prog 36 #[.agg (encS s).toArray] w fun e w' => ∃ g es clk, e = .returned (.map (some g)) ∧ w'.heap[g]? = some (.map es clk) ∧ MOk Value.string es clk (numF s) ∧ Below w.heap.size w w' := by
  obtain ⟨n, hn⟩ : ∃ n, w.heap.size = n := ⟨_, rfl⟩
  have sz : ∀ (W : World) (o : Obj), (W.alloc o).heap.size = W.heap.size + 1 := fun W o => by simp
  have h1 := block_below (heap_alloc_new w (.cells (encS s).toArray 34)) (below_alloc (Below.refl _ _) (.map #[] 0))
  have h2 := heap_alloc_new (w.alloc (.cells (encS s).toArray 34)) (.map #[] 0)
  rw [sz] at h2
  rw [hn] at h1 h2
  have hb : Below n w ((w.alloc (.cells (encS s).toArray 34)).alloc (.map #[] 0)) := by
    rw [← hn]
    exact below_alloc (below_alloc (Below.refl _ _) _) _
  rw [arr_S] at h1 h2 hb ⊢
  have y0 := ((blk_cell h1 7).trans rfl : ((w.alloc (.cells #[.int .u64 s.tr, .int .u64 s.id, .int .u64 s.par, .string s.svc, .string s.op, .int .i64 s.st, .int .i64 s.du, .int .i64 s.stt, .slice s.a.1 s.a.2.1 s.a.2.2, .slice s.e.1 s.e.2.1 s.e.2.2, .slice s.l.1 s.l.2.1 s.l.2.2] 34)).alloc (.map #[] 0)).cell? ⟨n, 7, none⟩ = some (.int .i64 s.stt))
  obtain ⟨es1, clk1, W1, hp1, b1, m1, hb1, mo1⟩ := num_step hn h1 h2 hb (MOk.empty Value.string 0) (⟨#[115, 116, 97, 116, 117, 115]⟩) (.int .u64 (IntKind.u64.wrap s.stt))
  have y1 : W1.cell? ⟨n, 6, none⟩ = some (.int .i64 s.du) := (blk_cell b1 6).trans rfl
  obtain ⟨es2, clk2, W2, hp2, b2, m2, hb2, mo2⟩ := num_step hn b1 m1 hb1 (mo1) (⟨#[100, 117, 114]⟩) (.int .u64 (IntKind.u64.wrap s.du))
  have y2 : W2.cell? ⟨n, 5, none⟩ = some (.int .i64 s.st) := (blk_cell b2 5).trans rfl
  obtain ⟨es3, clk3, W3, hp3, b3, m3, hb3, mo3⟩ := num_step hn b2 m2 hb2 (mo2) (⟨#[115, 116, 97, 114, 116]⟩) (.int .u64 (IntKind.u64.wrap s.st))
  have y3 : W3.cell? ⟨n, 0, none⟩ = some (.int .u64 s.tr) := (blk_cell b3 0).trans rfl
  obtain ⟨es4, clk4, W4, hp4, b4, m4, hb4, mo4⟩ := num_step hn b3 m3 hb3 (mo3) (⟨#[116, 114, 97, 99, 101]⟩) (.int .u64 s.tr)
  have y4 : W4.cell? ⟨n, 1, none⟩ = some (.int .u64 s.id) := (blk_cell b4 1).trans rfl
  obtain ⟨es5, clk5, W5, hp5, b5, m5, hb5, mo5⟩ := num_step hn b4 m4 hb4 (mo4) (⟨#[105, 100]⟩) (.int .u64 s.id)
  have y5 : W5.cell? ⟨n, 2, none⟩ = some (.int .u64 s.par) := (blk_cell b5 2).trans rfl
  obtain ⟨es6, clk6, W6, hp6, b6, m6, hb6, mo6⟩ := num_step hn b5 m5 hb5 (mo5) (⟨#[112, 97, 114, 101, 110, 116]⟩) (.int .u64 s.par)
  have MO := Lib.hid mo6
  have HM := Lib.hid m6
  have HB := Lib.hid hb6
  clear mo1 m1 hb1 mo2 m2 hb2 mo3 m3 hb3 mo4 m4 hb4 mo5 m5 hb5 mo6 m6 hb6 b1 b2 b3 b4 b5 b6 h1 h2 hb sz
  have HN := Lib.hid hn
  rw [← hn] at y0 hp1 y1 hp2 y2 hp3 y3 hp4 y4 hp5 y5 hp6
  clear hn
  have hmm := @run_makeMap Try.prog
  go_enter Try.func36, Try.ntmps36
  go_wp2
  go_ret
  exact ⟨_, es6, clk6, rfl, by rw [HN.out]; exact HM.out, MO.out, by rw [HN.out]; exact HB.out⟩
end Go.Proofs.Ytffggkhahambhaa.Tr

namespace Go.Proofs.Ytffggkhahambhaa.Span
open Go.RowKit Go.Proofs.YtffggkhahambhaaW.PrintWords Go.Proofs.YtffggkhahambhaaW.PrintLast Go.Proofs.YtffggkhahambhaaW.PrintMore Go.Proofs.Ytffggkhahambhaa.Math
set_option linter.unusedVariables false
set_option linter.unusedSimpArgs false
/-- What plain tells of a value. -/
def plainV (k : Int) (s : ByteArray) (n : Int) (b : Bool) : Value :=
  if k = 0 then .iface 9 (.string s) else if k = 1 then .iface 2 (.int .i64 n) else if k = 2 then .iface 4 (.bool b) else .nilIface
def val (k : Int) (s : ByteArray) (n : Int) (b : Bool) : Value := .agg #[.int .i64 k, .string s, .int .i64 n, .bool b]
theorem plain_calls (k : Int) (s : ByteArray) (n : Int) (b : Bool) (w : World) :
    Calls Try.prog 61 #[val k s n b] w fun e w' => e = .returned (plainV k s n b) ∧ Below w.heap.size w w' := by
  unfold val
  by_cases h0 : k = 0
  · subst h0
    go_enter Try.func61, Try.ntmps61
    go_wp2
    go_ret
    exact ⟨rfl, below_alloc (Below.refl _ _) _⟩
  · have h0b : (k == 0) = false := beq_eq_false_iff_ne.mpr h0
    by_cases h1 : k = 1
    · subst h1
      go_enter Try.func61, Try.ntmps61
      go_wp2
      go_ret
      exact ⟨rfl, below_alloc (Below.refl _ _) _⟩
    · have h1b : (k == 1) = false := beq_eq_false_iff_ne.mpr h1
      by_cases h2 : k = 2
      · subst h2
        go_enter Try.func61, Try.ntmps61
        go_wp2
        go_ret
        exact ⟨rfl, below_alloc (Below.refl _ _) _⟩
      · have h2b : (k == 2) = false := beq_eq_false_iff_ne.mpr h2
        go_enter Try.func61, Try.ntmps61
        go_wp2
        go_ret
        exact ⟨by unfold plainV; rw [if_neg h0, if_neg h1, if_neg h2]; rfl, below_alloc (Below.refl _ _) _⟩
section
variable (w : World)
theorem ta_s (s : ByteArray) (xT : TypeId) : (Instr.typeAssert (.iface 9 (.string s)) xT 9 true).run Try.prog w = .ok (.tuple #[.string s, .bool true]) w := by
  simp [Instr.typeAssert, run_underlying Try.underlying9]
theorem ta_s1 (s : ByteArray) (xT : TypeId) : (Instr.typeAssert (.iface 9 (.string s)) xT 9 false).run Try.prog w = .ok (.string s) w := by
  simp [Instr.typeAssert, run_underlying Try.underlying9]
theorem ta_n (n : Int) (xT : TypeId) : (Instr.typeAssert (.iface 2 (.int .i64 n)) xT 2 true).run Try.prog w = .ok (.tuple #[.int .i64 n, .bool true]) w := by
  simp [Instr.typeAssert, run_underlying Try.underlying2]
theorem ta_n1 (n : Int) (xT : TypeId) : (Instr.typeAssert (.iface 2 (.int .i64 n)) xT 2 false).run Try.prog w = .ok (.int .i64 n) w := by
  simp [Instr.typeAssert, run_underlying Try.underlying2]
theorem ta_b (b : Bool) (xT : TypeId) : (Instr.typeAssert (.iface 4 (.bool b)) xT 4 true).run Try.prog w = .ok (.tuple #[.bool b, .bool true]) w := by
  simp [Instr.typeAssert, run_underlying Try.underlying4]
theorem ta_b1 (b : Bool) (xT : TypeId) : (Instr.typeAssert (.iface 4 (.bool b)) xT 4 false).run Try.prog w = .ok (.bool b) w := by
  simp [Instr.typeAssert, run_underlying Try.underlying4]
theorem ta_sn (v : Value) (xT : TypeId) : (Instr.typeAssert (.iface 2 v) xT 9 true).run Try.prog w = .ok (.tuple #[.string ⟨#[]⟩, .bool false]) w := by
  simp [Instr.typeAssert, run_underlying Try.underlying9, Try.zeroValue9]
theorem ta_sb (v : Value) (xT : TypeId) : (Instr.typeAssert (.iface 4 v) xT 9 true).run Try.prog w = .ok (.tuple #[.string ⟨#[]⟩, .bool false]) w := by
  simp [Instr.typeAssert, run_underlying Try.underlying9, Try.zeroValue9]
theorem ta_snil (xT : TypeId) : (Instr.typeAssert .nilIface xT 9 true).run Try.prog w = .ok (.tuple #[.string ⟨#[]⟩, .bool false]) w := by
  simp [Instr.typeAssert, run_underlying Try.underlying9, Try.zeroValue9]
theorem ta_nb (v : Value) (xT : TypeId) : (Instr.typeAssert (.iface 4 v) xT 2 true).run Try.prog w = .ok (.tuple #[.int .i64 0, .bool false]) w := by
  simp [Instr.typeAssert, run_underlying Try.underlying2, Try.zeroValue2]
theorem ta_nnil (xT : TypeId) : (Instr.typeAssert .nilIface xT 2 true).run Try.prog w = .ok (.tuple #[.int .i64 0, .bool false]) w := by
  simp [Instr.typeAssert, run_underlying Try.underlying2, Try.zeroValue2]
theorem ta_bnil (xT : TypeId) : (Instr.typeAssert .nilIface xT 4 true).run Try.prog w = .ok (.tuple #[.bool false, .bool false]) w := by
  simp [Instr.typeAssert, run_underlying Try.underlying4, Try.zeroValue4]
end
end Go.Proofs.Ytffggkhahambhaa.Span

namespace Go.Proofs.Ytffggkhahambhaa.Span
open Go.RowKit Go.Proofs.YtffggkhahambhaaW.PrintWords Go.Proofs.YtffggkhahambhaaW.PrintLast Go.Proofs.YtffggkhahambhaaW.PrintMore Go.Proofs.Ytffggkhahambhaa.Math
open Go.Proofs.Ytffggkhahambhaa.PLow
attribute [local go_sem] ta_s ta_s1 ta_n ta_n1 ta_b ta_b1 ta_sn ta_sb ta_snil ta_nb ta_nnil ta_bnil
set_option linter.unusedVariables false
set_option linter.unusedSimpArgs false
def cmpI (a b : Int) : Int := if a < b then -1 else if a > b then 1 else 0
def b2i (b : Bool) : Int := if b = true then 1 else 0
/-- How two values stand. -/
def cmpV (k0 : Int) (s0 : ByteArray) (n0 : Int) (b0 : Bool) (k1 : Int) (s1 : ByteArray) (n1 : Int) (b1 : Bool) : Int × Bool :=
  if k0 = k1 then (if k0 = 0 then (Lib.compareBytes s0.data.toList s1.data.toList, true) else if k0 = 1 then (cmpI n0 n1, true) else if k0 = 2 then (cmpI (b2i b0) (b2i b1), true) else (0, false)) else (0, false)
theorem cmp64 (a b : Int) : cmp_Compare_int64.f a b = some (cmpI a b) := by
  unfold cmp_Compare_int64.f cmp_isNaN_int64.f cmpI
  simp
  split
  · rfl
  · split <;> rfl
theorem cmpInt (a b : Int) : cmp_Compare_int.f a b = some (cmpI a b) := by
  unfold cmp_Compare_int.f cmp_isNaN_int.f cmpI
  simp
  split
  · rfl
  · split <;> rfl
theorem orderB (b : Bool) : span_order.f b = some (b2i b) := by
  unfold span_order.f b2i
  split <;> rfl
theorem strcmp_calls (a b : ByteArray) (w : World) :
    Calls Try.prog 62 #[.string a, .string b] w fun e w' => e = .returned (.int .i64 (Lib.compareBytes a.data.toList b.data.toList)) ∧ w' = w := by
  have h := Any.strings_Compare Try.laysCompare a b w
  change Calls Try.prog 62 _ _ _ at h
  exact h
set_option maxHeartbeats 4000000 in
set_option maxRecDepth 100000 in
theorem compare_calls (k0 : Int) (s0 : ByteArray) (n0 : Int) (b0 : Bool) (k1 : Int) (s1 : ByteArray) (n1 : Int) (b1 : Bool) (w : World) :
    Calls Try.prog 41 #[val k0 s0 n0 b0, val k1 s1 n1 b1] w fun e w' => e = .returned (.tuple #[.int .i64 (cmpV k0 s0 n0 b0 k1 s1 n1 b1).1, .bool (cmpV k0 s0 n0 b0 k1 s1 n1 b1).2]) ∧ Below w.heap.size w w' := by
  by_cases hk : k0 = k1
  · subst hk
    have hkb : (k0 != k0) = false := bne_self_eq_false k0
    obtain ⟨X0, hX0⟩ : ∃ X, X = plainV k0 s0 n0 b0 := ⟨_, rfl⟩
    obtain ⟨X1, hX1⟩ : ∃ X, X = plainV k0 s1 n1 b1 := ⟨_, rfl⟩
    have hp0 : ∀ w, Calls Try.prog 61 #[.agg #[.int .i64 k0, .string s0, .int .i64 n0, .bool b0]] w fun e w' => e = .returned X0 ∧ Below w.heap.size w w' := fun w => by rw [hX0]; exact plain_calls k0 s0 n0 b0 w
    have hp1 : ∀ w, Calls Try.prog 61 #[.agg #[.int .i64 k0, .string s1, .int .i64 n1, .bool b1]] w fun e w' => e = .returned X1 ∧ Below w.heap.size w w' := fun w => by rw [hX1]; exact plain_calls k0 s1 n1 b1 w
    have HP0 := Lib.hid hp0
    have HP1 := Lib.hid hp1
    have HX0 := Lib.hid hX0
    have HX1 := Lib.hid hX1
    clear hp0 hp1 hX0 hX1
    have ha := heap_alloc2_old w (.cells #[.int .i64 k0, .string s0, .int .i64 n0, .bool b0] 39) (.cells #[.int .i64 k0, .string s1, .int .i64 n1, .bool b1] 39)
    have hb := heap_alloc2_new w (.cells #[.int .i64 k0, .string s0, .int .i64 n0, .bool b0] 39) (.cells #[.int .i64 k0, .string s1, .int .i64 n1, .bool b1] 39)
    have HBW := Lib.hid (below_alloc (below_alloc (Below.refl w.heap.size w) (.cells #[.int .i64 k0, .string s0, .int .i64 n0, .bool b0] 39)) (.cells #[.int .i64 k0, .string s1, .int .i64 n1, .bool b1] 39))
    have HA := Lib.hid ha
    have HB := Lib.hid hb
    clear ha hb
    unfold val
    go_enter Try.func41, Try.ntmps41
    go_wp2
    have ha := blk_drew HA.out
    have hb := blk_drew HB.out
    have hbw := HBW.out.drew
    clear HA HB HBW
    refine start_ (n := 6) (S := fun w' => w'.cell? ⟨w.heap.size, 0, none⟩ = some (.int .i64 k0) ∧ w'.cell? ⟨w.heap.size, 1, none⟩ = some (.string s0) ∧ w'.cell? ⟨w.heap.size, 2, none⟩ = some (.int .i64 n0) ∧ w'.cell? ⟨w.heap.size, 3, none⟩ = some (.bool b0) ∧ w'.cell? ⟨w.heap.size + 1, 0, none⟩ = some (.int .i64 k0) ∧ w'.cell? ⟨w.heap.size + 1, 1, none⟩ = some (.string s1) ∧ w'.cell? ⟨w.heap.size + 1, 2, none⟩ = some (.int .i64 n1) ∧ w'.cell? ⟨w.heap.size + 1, 3, none⟩ = some (.bool b1)) (ds := []) #[false, false, false, false, false, false] (by kernel_rfl) rfl rfl ⟨(blk_cell ha 0).trans rfl, (blk_cell ha 1).trans rfl, (blk_cell ha 2).trans rfl, (blk_cell ha 3).trans rfl, (blk_cell hb 0).trans rfl, (blk_cell hb 1).trans rfl, (blk_cell hb 2).trans rfl, (blk_cell hb 3).trans rfl⟩ (fun hHeld => ?_)
    generalize ((w.alloc (.cells #[.int .i64 k0, .string s0, .int .i64 n0, .bool b0] 39)).alloc (.cells #[.int .i64 k0, .string s1, .int .i64 n1, .bool b1] 39)).drew = w5 at ha hb hbw hHeld ⊢
    have HA5 := Lib.hid ha
    have HB5 := Lib.hid hb
    have HBW5 := Lib.hid hbw
    clear ha hb hbw
    refine take_ (i := 0) (N := some 19) (v := ?_) (a' := ?_) #[true, false, false, false, false, false] rfl rfl (by kernel_rfl) (fun _ _ _ h => h) (Or.inl ⟨by rfl, ?_⟩) hHeld ?_ ?_
    rotate_left
    · rintro w' ⟨s0, s1, s2, s3, s4, s5, s6, s7⟩
      go_simp
      with_reducible rfl
    rotate_left
    · simp only [Act.put, List.setIfInBounds_toArray, List.set_cons_zero, List.set_cons_succ, i64_w, i32_w]
      rfl
    refine take_ (i := 2) (N := some 21) (v := ?_) (a' := ?_) #[true, false, true, false, false, false] rfl rfl (by kernel_rfl) (fun _ _ _ h => h) (Or.inl ⟨by rfl, ?_⟩) hHeld ?_ ?_
    rotate_left
    · rintro w' ⟨s0, s1, s2, s3, s4, s5, s6, s7⟩
      go_simp
      with_reducible rfl
    rotate_left
    · simp only [Act.put, List.setIfInBounds_toArray, List.set_cons_zero, List.set_cons_succ, i64_w, i32_w]
      rfl
    refine one_ (i := 1) (N := some 20) #[true, true, true, false, false, false] rfl rfl (by kernel_rfl) (by decide) (fun K hK => ?_)
    refine goes_ Try.func61 (by kernel_rfl) rfl #[.agg #[.int .i64 k0, .string s0, .int .i64 n0, .bool b0]] (by rfl) rfl rfl (by simp only [List.map_toArray, List.map_cons, List.map_nil]; rfl) ?_
    with_reducible refine (HP0.out _).mono ?_
    rintro e w6 ⟨rfl, hb6⟩
    refine ⟨_, rfl, ?_⟩
    have HA6 := Lib.hid (block_below HA5.out hb6)
    have HB6 := Lib.hid (block_below HB5.out hb6)
    have HBW6 := Lib.hid (below_step HBW5.out hb6)
    clear hb6
    refine hK.out _ _ ⟨(blk_cell HA6.out 0).trans rfl, (blk_cell HA6.out 1).trans rfl, (blk_cell HA6.out 2).trans rfl, (blk_cell HA6.out 3).trans rfl, (blk_cell HB6.out 0).trans rfl, (blk_cell HB6.out 1).trans rfl, (blk_cell HB6.out 2).trans rfl, (blk_cell HB6.out 3).trans rfl⟩ (fun hHeld => ?_)
    clear hK K
    refine norm_ (a' := ?_) ?_ ?_
    rotate_left
    · show Act.put _ (some 20) _ = _
      simp only [Act.put, List.setIfInBounds_toArray, List.set_cons_zero, List.set_cons_succ, i64_w, i32_w]
      rfl
    refine one_ (i := 3) (N := some 22) #[true, true, true, true, false, false] rfl rfl (by kernel_rfl) (by decide) (fun K hK => ?_)
    refine goes_ Try.func61 (by kernel_rfl) rfl #[.agg #[.int .i64 k0, .string s1, .int .i64 n1, .bool b1]] (by rfl) rfl rfl (by simp only [List.map_toArray, List.map_cons, List.map_nil]; rfl) ?_
    with_reducible refine (HP1.out _).mono ?_
    rintro e w7 ⟨rfl, hb7⟩
    refine ⟨_, rfl, ?_⟩
    have HA7 := Lib.hid (block_below HA6.out hb7)
    have HB7 := Lib.hid (block_below HB6.out hb7)
    have HBW7 := Lib.hid (below_step HBW6.out hb7)
    clear hb7
    refine hK.out _ _ ⟨(blk_cell HA7.out 0).trans rfl, (blk_cell HA7.out 1).trans rfl, (blk_cell HA7.out 2).trans rfl, (blk_cell HA7.out 3).trans rfl, (blk_cell HB7.out 0).trans rfl, (blk_cell HB7.out 1).trans rfl, (blk_cell HB7.out 2).trans rfl, (blk_cell HB7.out 3).trans rfl⟩ (fun hHeld => ?_)
    clear hK K
    refine norm_ (a' := ?_) ?_ ?_
    rotate_left
    · show Act.put _ (some 22) _ = _
      simp only [Act.put, List.setIfInBounds_toArray, List.set_cons_zero, List.set_cons_succ, i64_w, i32_w]
      rfl
    refine pure_ (i := 4) (N := some 6) (v := ?_) (a' := ?_) #[true, true, true, true, true, false] rfl rfl (by kernel_rfl) (fun _ _ _ h => h) (Or.inl ⟨by rfl, ?_⟩) ?_ ?_
    rotate_left
    · intro w'
      go_simp
      with_reducible rfl
    rotate_left
    · simp only [Act.put, List.setIfInBounds_toArray, List.set_cons_zero, List.set_cons_succ, i64_w, i32_w]
      rfl
    refine pure_ (i := 5) (N := some 7) (v := ?_) (a' := ?_) #[true, true, true, true, true, true] rfl rfl (by kernel_rfl) (fun _ _ _ h => h) (Or.inl ⟨by rfl, ?_⟩) ?_ ?_
    rotate_left
    · intro w'
      go_simp
      with_reducible rfl
    rotate_left
    · simp only [Act.put, List.setIfInBounds_toArray, List.set_cons_zero, List.set_cons_succ, i64_w, i32_w]
      rfl
    refine done_ (by kernel_rfl) ?_
    have hx0 := HX0.out
    have hx1 := HX1.out
    have hbw := HBW7.out
    clear HA5 HB5 HBW5 HA6 HB6 HBW6 HA7 HB7 HBW7 HP0 HP1 HX0 HX1
    by_cases h0 : k0 = 0
    · subst h0
      have e0 : X0 = .iface 9 (.string s0) := hx0
      have e1 : X1 = .iface 9 (.string s1) := hx1
      have hc : cmpV 0 s0 n0 b0 0 s1 n1 b1 = (Lib.compareBytes s0.data.toList s1.data.toList, true) := rfl
      have HC := Lib.hid hc
      clear hx0 hx1 hc
      subst e0 e1
      have HBW := Lib.hid hbw
      clear hbw
      go_wp2_with (first | (go_at_call 62; (with_reducible refine (strcmp_calls s0 s1 _).mono ?_); rintro e w8 ⟨rfl, rfl⟩))
      go_ret2
      exact ⟨by rw [HC.out]; rfl, HBW.out⟩
    · by_cases h1 : k0 = 1
      · subst h1
        have e0 : X0 = .iface 2 (.int .i64 n0) := hx0
        have e1 : X1 = .iface 2 (.int .i64 n1) := hx1
        have hc : cmpV 1 s0 n0 b0 1 s1 n1 b1 = (cmpI n0 n1, true) := rfl
        have HC := Lib.hid hc
        clear hx0 hx1 hc
        subst e0 e1
        have HBW := Lib.hid hbw
        clear hbw
        go_wp2_with (first | (go_at_call 38; (with_reducible refine (cmp_Compare_int64.calls n0 n1 _ _ (cmp64 n0 n1)).mono ?_); rintro e w8 ⟨rfl, hb8⟩; have HBW8 := Lib.hid (below_step HBW.out hb8.below); clear hb8))
        go_ret2
        exact ⟨by rw [HC.out]; rfl, HBW8.out⟩
      · by_cases h2 : k0 = 2
        · subst h2
          have e0 : X0 = .iface 4 (.bool b0) := hx0
          have e1 : X1 = .iface 4 (.bool b1) := hx1
          have hc : cmpV 2 s0 n0 b0 2 s1 n1 b1 = (cmpI (b2i b0) (b2i b1), true) := rfl
          have HC := Lib.hid hc
          clear hx0 hx1 hc
          subst e0 e1
          have HBW := Lib.hid hbw
          clear hbw
          go_wp2
          have hbw := HBW.out.drew
          clear HBW
          refine start_ (n := 8) (S := fun w' => True) (ds := []) #[false, false, false, false, false, false, false, false] (by kernel_rfl) rfl rfl trivial (fun hHeld => ?_)
          generalize w7.drew = w8 at hbw ⊢
          have HBW8 := Lib.hid hbw
          clear hbw
          refine pure_ (i := 0) (N := some 49) (v := ?_) (a' := ?_) #[true, false, false, false, false, false, false, false] rfl rfl (by kernel_rfl) (fun _ _ _ h => h) (Or.inl ⟨by rfl, ?_⟩) ?_ ?_
          rotate_left
          · intro w'
            go_simp
            with_reducible rfl
          rotate_left
          · simp only [Act.put, List.setIfInBounds_toArray, List.set_cons_zero, List.set_cons_succ, i64_w, i32_w]
            rfl
          refine pure_ (i := 2) (N := some 51) (v := ?_) (a' := ?_) #[true, false, true, false, false, false, false, false] rfl rfl (by kernel_rfl) (fun _ _ _ h => h) (Or.inl ⟨by rfl, ?_⟩) ?_ ?_
          rotate_left
          · intro w'
            go_simp
            with_reducible rfl
          rotate_left
          · simp only [Act.put, List.setIfInBounds_toArray, List.set_cons_zero, List.set_cons_succ, i64_w, i32_w]
            rfl
          refine pure_ (i := 3) (N := some 52) (v := ?_) (a' := ?_) #[true, false, true, true, false, false, false, false] rfl rfl (by kernel_rfl) (fun _ _ _ h => h) (Or.inl ⟨by rfl, ?_⟩) ?_ ?_
          rotate_left
          · intro w'
            go_simp
            with_reducible rfl
          rotate_left
          · simp only [Act.put, List.setIfInBounds_toArray, List.set_cons_zero, List.set_cons_succ, i64_w, i32_w]
            rfl
          refine one_ (i := 1) (N := some 50) #[true, true, true, true, false, false, false, false] rfl rfl (by kernel_rfl) (by decide) (fun K hK => ?_)
          refine goes_ Try.func64 (by kernel_rfl) rfl #[.bool b0] (by rfl) rfl rfl (by simp only [List.map_toArray, List.map_cons, List.map_nil]; rfl) ?_
          with_reducible refine (span_order.calls b0 _ _ (orderB b0)).mono ?_
          rintro e w9 ⟨rfl, hb9⟩
          refine ⟨_, rfl, ?_⟩
          have HBW9 := Lib.hid (below_step HBW8.out hb9.below)
          clear hb9
          refine hK.out _ _ trivial (fun hHeld => ?_)
          clear hK K
          refine norm_ (a' := ?_) ?_ ?_
          rotate_left
          · show Act.put _ (some 50) _ = _
            simp only [Act.put, List.setIfInBounds_toArray, List.set_cons_zero, List.set_cons_succ, i64_w, i32_w]
            rfl
          refine one_ (i := 4) (N := some 53) #[true, true, true, true, true, false, false, false] rfl rfl (by kernel_rfl) (by decide) (fun K hK => ?_)
          refine goes_ Try.func64 (by kernel_rfl) rfl #[.bool b1] (by rfl) rfl rfl (by simp only [List.map_toArray, List.map_cons, List.map_nil]; rfl) ?_
          with_reducible refine (span_order.calls b1 _ _ (orderB b1)).mono ?_
          rintro e w10 ⟨rfl, hb10⟩
          refine ⟨_, rfl, ?_⟩
          have HBW10 := Lib.hid (below_step HBW9.out hb10.below)
          clear hb10
          refine hK.out _ _ trivial (fun hHeld => ?_)
          clear hK K
          refine norm_ (a' := ?_) ?_ ?_
          rotate_left
          · show Act.put _ (some 53) _ = _
            simp only [Act.put, List.setIfInBounds_toArray, List.set_cons_zero, List.set_cons_succ, i64_w, i32_w]
            rfl
          refine one_ (i := 5) (N := some 54) #[true, true, true, true, true, true, false, false] rfl rfl (by kernel_rfl) (by decide) (fun K hK => ?_)
          refine goes_ Try.func63 (by kernel_rfl) rfl #[.int .i64 (b2i b0), .int .i64 (b2i b1)] (by rfl) rfl rfl (by simp only [List.map_toArray, List.map_cons, List.map_nil]; rfl) ?_
          with_reducible refine (cmp_Compare_int.calls _ _ _ _ (cmpInt (b2i b0) (b2i b1))).mono ?_
          rintro e w11 ⟨rfl, hb11⟩
          refine ⟨_, rfl, ?_⟩
          have HBW11 := Lib.hid (below_step HBW10.out hb11.below)
          clear hb11
          refine hK.out _ _ trivial (fun hHeld => ?_)
          clear hK K
          refine norm_ (a' := ?_) ?_ ?_
          rotate_left
          · show Act.put _ (some 54) _ = _
            simp only [Act.put, List.setIfInBounds_toArray, List.set_cons_zero, List.set_cons_succ, i64_w, i32_w]
            rfl
          refine pure_ (i := 6) (N := some 4) (v := ?_) (a' := ?_) #[true, true, true, true, true, true, true, false] rfl rfl (by kernel_rfl) (fun _ _ _ h => h) (Or.inl ⟨by rfl, ?_⟩) ?_ ?_
          rotate_left
          · intro w'
            go_simp
            with_reducible rfl
          rotate_left
          · simp only [Act.put, List.setIfInBounds_toArray, List.set_cons_zero, List.set_cons_succ, i64_w, i32_w]
            rfl
          refine pure_ (i := 7) (N := some 5) (v := ?_) (a' := ?_) #[true, true, true, true, true, true, true, true] rfl rfl (by kernel_rfl) (fun _ _ _ h => h) (Or.inl ⟨by rfl, ?_⟩) ?_ ?_
          rotate_left
          · intro w'
            go_simp
            with_reducible rfl
          rotate_left
          · simp only [Act.put, List.setIfInBounds_toArray, List.set_cons_zero, List.set_cons_succ, i64_w, i32_w]
            rfl
          refine done_ (by kernel_rfl) ?_
          go_wp2
          go_ret2
          exact ⟨by rw [HC.out]; rfl, HBW11.out⟩
        · have e0 : X0 = .nilIface := by rw [hx0]; unfold plainV; rw [if_neg h0, if_neg h1, if_neg h2]
          have hc : cmpV k0 s0 n0 b0 k0 s1 n1 b1 = (0, false) := by unfold cmpV; rw [if_pos rfl, if_neg h0, if_neg h1, if_neg h2]
          have HC := Lib.hid hc
          clear hx0 hx1 hc
          subst e0
          have HBW := Lib.hid hbw
          clear hbw
          go_wp2
          go_ret2
          exact ⟨by rw [HC.out]; rfl, HBW.out⟩
  · have hkb : (k0 != k1) = true := bne_iff_ne.mpr hk
    have hc : cmpV k0 s0 n0 b0 k1 s1 n1 b1 = (0, false) := by unfold cmpV; rw [if_neg hk]
    rw [hc]
    unfold val
    go_enter Try.func41, Try.ntmps41
    go_wp2
    go_ret2
    exact ⟨rfl, below_alloc (below_alloc (Below.refl _ _) _) _⟩
end Go.Proofs.Ytffggkhahambhaa.Span

namespace Go.Proofs.Ytffggkhahambhaa.PAll
open Go.RowKit Go.Proofs.YtffggkhahambhaaW.PrintWords Go.Proofs.YtffggkhahambhaaW.PrintLast Go.Proofs.YtffggkhahambhaaW.PrintMore Go.Proofs.Ytffggkhahambhaa.Math Go.Proofs.Ytffggkhahambhaa.Span
set_option linter.unusedVariables false
def span_Compare.f (a0_0 : Int) (a0_1 : ByteArray) (a0_2 : Int) (a0_3 : Bool) (a1_0 : Int) (a1_1 : ByteArray) (a1_2 : Int) (a1_3 : Bool) : Option (Int × Bool) := some (cmpV a0_0 a0_1 a0_2 a0_3 a1_0 a1_1 a1_2 a1_3)
theorem span_Compare.calls (a0_0 : Int) (a0_1 : ByteArray) (a0_2 : Int) (a0_3 : Bool) (a1_0 : Int) (a1_1 : ByteArray) (a1_2 : Int) (a1_3 : Bool) (r1 : Int) (r2 : Bool) (w : World) (h : span_Compare.f a0_0 a0_1 a0_2 a0_3 a1_0 a1_1 a1_2 a1_3 = some (r1, r2)) :
    Calls Try.prog 41 #[.agg #[.int .i64 a0_0, .string a0_1, .int .i64 a0_2, .bool a0_3], .agg #[.int .i64 a1_0, .string a1_1, .int .i64 a1_2, .bool a1_3]] w fun e w' => e = .returned (.tuple #[.int .i64 r1, .bool r2]) ∧ Below w.heap.size w w' := by
  have hc := compare_calls a0_0 a0_1 a0_2 a0_3 a1_0 a1_1 a1_2 a1_3 w
  rw [Option.some.inj h] at hc
  exact hc
end Go.Proofs.Ytffggkhahambhaa.PAll

namespace Go.Proofs.Ytffggkhahambhaa.Runes
open Go.RowKit Go.Proofs.YtffggkhahambhaaW.PrintWords Go.Proofs.Ytffggkhahambhaa.Math
set_option linter.unusedVariables false

/-- A byte, as a natural number. -/
def nb (s : ByteArray) (i : Nat) : Nat := (s.get! i).toNat
theorem nb_lt (s : ByteArray) (i : Nat) : nb s i < 256 := by unfold nb; exact (s.get! i).toNat_lt
def rn (s : ByteArray) (i : Nat) : Nat := (Utf8.decode s i).1
def wd (s : ByteArray) (i : Nat) : Nat := (Utf8.decode s i).2

theorem data_size (s : ByteArray) : s.data.size = s.size := rfl
theorem extract_size (s : ByteArray) (i : Nat) : (s.extract i s.size).size = s.size - i := by
  rw [ByteArray.size_extract]; omega
theorem nb_extract (s : ByteArray) (i j : Nat) : nb (s.extract i s.size) j = nb s (i + j) := by
  have hg : ∀ (t : ByteArray) (k : Nat), t.get! k = t.data[k]! := fun t k => rfl
  unfold nb
  rw [hg, hg]
  congr 1
  rw [ByteArray.data_extract, getElem!_def, getElem!_def, Array.getElem?_extract, data_size]
  by_cases h : j < min s.size s.size - i
  · rw [if_pos h]
  · rw [if_neg h, Array.getElem?_eq_none (by rw [data_size]; omega)]
theorem dec_extract (s : ByteArray) (i : Nat) : Utf8.decode (s.extract i s.size) 0 = Utf8.decode s i := by
  rw [Lib.decode_at, Lib.decode_at, extract_size]
  have e : ∀ j, ((s.extract i s.size).get! j).toNat = (s.get! (i + j)).toNat := fun j => nb_extract s i j
  rw [e, e, e, e]
  rfl
theorem dec_bounds (s : ByteArray) (i : Nat) (h : i < s.size) : 1 ≤ wd s i ∧ i + wd s i ≤ s.size ∧ wd s i ≤ 4 ∧ rn s i ≤ 1114111 := by
  unfold wd rn
  rw [Lib.decode_at]
  unfold Lib.decodeN
  have b0 := (s.get! i).toNat_lt
  have b1 := (s.get! (i + 1)).toNat_lt
  have b2 := (s.get! (i + 2)).toNat_lt
  have b3 := (s.get! (i + 3)).toNat_lt
  generalize (s.get! i).toNat = c0 at *
  generalize (s.get! (i + 1)).toNat = c1 at *
  generalize (s.get! (i + 2)).toNat = c2 at *
  generalize (s.get! (i + 3)).toNat = c3 at *
  split
  · simp only; omega
  split
  · split <;> (simp only; omega)
  split
  · split <;> (simp only; omega)
  split
  · split <;> (simp only; omega)
  · simp only; omega

/-- Where each rune begins, from a place on. -/
def starts (s : ByteArray) : Nat → Nat → List Nat
  | 0, _ => []
  | f + 1, i => if i < s.size then i :: starts s f (i + wd s i) else []
def pos (s : ByteArray) : List Nat := starts s s.size 0
theorem starts_fuel (s : ByteArray) : ∀ (f f' i : Nat), s.size - i ≤ f → s.size - i ≤ f' → starts s f i = starts s f' i
  | 0, 0, _, _, _ => rfl
  | 0, f' + 1, i, h, _ => by rw [starts, starts, if_neg (by omega)]
  | f + 1, 0, i, _, h => by rw [starts, starts, if_neg (by omega)]
  | f + 1, f' + 1, i, h, h' => by
    rw [starts, starts]
    by_cases hi : i < s.size
    · have := dec_bounds s i hi
      rw [if_pos hi, if_pos hi, starts_fuel s f f' (i + wd s i) (by omega) (by omega)]
    · rw [if_neg hi, if_neg hi]
/-- From a place on, by as much fuel as is needed. -/
def from_ (s : ByteArray) (i : Nat) : List Nat := starts s s.size i
theorem from_lt {s : ByteArray} {i : Nat} (h : i < s.size) : from_ s i = i :: from_ s (i + wd s i) := by
  unfold from_
  have hb := dec_bounds s i h
  obtain ⟨m, hm⟩ : ∃ m, s.size = m + 1 := ⟨s.size - 1, by omega⟩
  have e : starts s s.size (i + wd s i) = starts s m (i + wd s i) := starts_fuel s _ _ _ (by omega) (by omega)
  rw [e]
  conv => lhs; rw [hm]
  rw [starts, if_pos h]
theorem from_ge {s : ByteArray} {i : Nat} (h : ¬ i < s.size) : from_ s i = [] := by
  unfold from_
  cases hs : s.size with
  | zero => rfl
  | succ m => rw [starts, if_neg h]
def runesI (s : ByteArray) : List Int := (from_ s 0).map fun i => (rn s i : Int)
def posI (s : ByteArray) : List Int := (from_ s 0).map fun (i : Nat) => (i : Int)
theorem from_len (s : ByteArray) : ∀ (d i : Nat), s.size - i ≤ d → (from_ s i).length ≤ s.size - i := by
  intro d
  induction d with
  | zero => intro i h; rw [from_ge (by omega)]; simp
  | succ d ih =>
    intro i h
    by_cases hi : i < s.size
    · have := dec_bounds s i hi
      rw [from_lt hi]
      have := ih (i + wd s i) (by omega)
      simp only [List.length_cons]; omega
    · rw [from_ge hi]; simp

/-- May a rune stand in a right text? -/
def okI (r : Int) : Bool := !(decide (r < 32) || (decide (r ≥ 127) && decide (r ≤ 159)))

end Go.Proofs.Ytffggkhahambhaa.Runes

namespace Go.Proofs.Ytffggkhahambhaa.Text
open Go.RowKit Go.Proofs.YtffggkhahambhaaW.PrintWords Go.Proofs.YtffggkhahambhaaW.PrintLast Go.Proofs.YtffggkhahambhaaW.PrintMore Go.Proofs.Ytffggkhahambhaa.Math Go.Proofs.Ytffggkhahambhaa.Runes
set_option linter.unusedVariables false
set_option linter.unusedSimpArgs false

/-- The world of a range over a string: an iterator's block of the call's own. -/
structure It (w wr : World) (N : Nat) (s : ByteArray) (p : Nat) : Prop where
  it : wr.heap[N]? = some (.stringIter s p)
  bw : Below w.heap.size w wr
  n0 : w.heap.size ≤ N
section
variable {w wr w1 : World} {N p : Nat} {s : ByteArray}
theorem It.start (w wr : World) (hb : Below w.heap.size w wr) (s : ByteArray) : It w (wr.iter s 0) wr.heap.size s 0 := ⟨World.iter_heap wr s 0, below_alloc hb _, hb.size⟩
theorem It.step (h : It w wr N s p) (q : Nat) : It w (wr.iterAt N s q) N s q := ⟨Lib.iterAt_heap wr N s p q h.it, Lib.below_iterAt h.bw h.n0 s q, h.n0⟩
theorem It.next (h : It w wr N s p) (hb : Below wr.heap.size wr w1) : It w w1 N s p := ⟨block_below h.it hb, below_step h.bw hb, h.n0⟩
theorem It.pos (h : It w wr N s p) : wr.iterPos N = p := by simp [World.iterPos, h.it]
theorem It.more {P : Program} (h : It w wr N s p) (hp : p < s.size) (ty : TypeId) : (Instr.next (.pointer (some ⟨N, 0, none⟩)) true ty).run P wr = .ok (.tuple #[.bool true, .int .i64 p, .int .i32 (rn s p)]) (wr.iterAt N s (p + wd s p)) := Lib.run_next_any_at wr N s p ty h.it hp
theorem It.done {P : Program} (h : It w wr N s p) (hp : ¬ p < s.size) (ty : TypeId) : (Instr.next (.pointer (some ⟨N, 0, none⟩)) true ty).run P wr = .ok (.tuple #[.bool false]) wr := Lib.run_next_end_at wr N s p ty h.it hp
end

theorem R_iterAt {α : Type} {d : Kd α} {e : TypeId} {wr : World} {N base q : Nat} {s : ByteArray} {ok : Nat → Prop} {v : Value} {xs : List α} (h : d.R e wr base ok v xs) (hN : N < base) : d.R e (wr.iterAt N s q) base ok v xs :=
  Kd.R_mono (Kd.R_step (Kd.R_bound h) (fun k hk _ => Lib.iterAt_other wr N k s q (by have := hk.2.1; omega))) (fun _ hk => hk.1)

end Go.Proofs.Ytffggkhahambhaa.Text

namespace Go.Proofs.Ytffggkhahambhaa.Math
open Go.RowKit Go.Proofs.YtffggkhahambhaaW.PrintWords
set_option linter.unusedVariables false

/-- Does one row come ahead of another one? -/
def lexLt : List Int → List Int → Bool
  | [], [] => false
  | [], _ :: _ => true
  | _ :: _, [] => false
  | a :: s, b :: t => if a = b then lexLt s t else decide (a < b)
theorem lexLt_irrefl : ∀ a : List Int, lexLt a a = false
  | [] => rfl
  | x :: s => by simp only [lexLt, if_true]; exact lexLt_irrefl s
theorem lexLt_tri : ∀ a b : List Int, lexLt a b = true ∨ a = b ∨ lexLt b a = true
  | [], [] => .inr (.inl rfl)
  | [], _ :: _ => .inl rfl
  | _ :: _, [] => .inr (.inr rfl)
  | a :: s, b :: t => by
    simp only [lexLt]
    by_cases h : a = b
    · subst h
      rw [if_pos rfl, if_pos rfl]
      rcases lexLt_tri s t with h | h | h
      · exact .inl h
      · exact .inr (.inl (by rw [h]))
      · exact .inr (.inr h)
    · rw [if_neg h, if_neg (fun e => h e.symm)]
      rcases Int.lt_or_lt_of_ne h with h1 | h1
      · exact .inl (decide_eq_true h1)
      · exact .inr (.inr (decide_eq_true h1))
theorem lexLt_asymm : ∀ a b : List Int, lexLt a b = true → lexLt b a = false
  | [], [] => fun h => by cases h
  | [], _ :: _ => fun _ => rfl
  | _ :: _, [] => fun h => by cases h
  | a :: s, b :: t => by
    simp only [lexLt]
    by_cases h : a = b
    · subst h
      rw [if_pos rfl, if_pos rfl]
      exact lexLt_asymm s t
    · rw [if_neg h, if_neg (fun e => h e.symm)]
      intro h1
      have := of_decide_eq_true h1
      exact decide_eq_false (by omega)
theorem lexLt_trans : ∀ a b c : List Int, lexLt a b = true → lexLt b c = true → lexLt a c = true
  | [], [], c => fun h _ => by cases h
  | [], _ :: _, [] => fun _ h => by cases h
  | [], _ :: _, _ :: _ => fun _ _ => rfl
  | _ :: _, [], c => fun h _ => by cases h
  | _ :: _, _ :: _, [] => fun _ h => by cases h
  | a :: s, b :: t, c :: u => by
    simp only [lexLt]
    by_cases h : a = b
    · subst h
      rw [if_pos rfl]
      by_cases h2 : a = c
      · subst h2; rw [if_pos rfl, if_pos rfl]; exact lexLt_trans s t u
      · rw [if_neg h2, if_neg h2]; exact fun _ h => h
    · rw [if_neg h]
      intro h1
      by_cases h2 : b = c
      · subst h2; rw [if_pos rfl, if_neg h]; exact fun _ => h1
      · rw [if_neg h2]
        intro h3
        have a1 := of_decide_eq_true h1
        have a2 := of_decide_eq_true h3
        rw [if_neg (by omega)]
        exact decide_eq_true (by omega)
end Go.Proofs.Ytffggkhahambhaa.Math

namespace Go.Proofs.Ytffggkhahambhaa.NumFacts
open Go.RowKit Go.Proofs.Ytffggkhahambhaa.PAll Go.Proofs.YtffggkhahambhaaW.PrintWords Go.Proofs.YtffggkhahambhaaW.PrintLast Go.Proofs.YtffggkhahambhaaW.PrintMore Go.Proofs.Ytffggkhahambhaa.Math
set_option linter.unusedVariables false

theorem less_l0 (a b : List Int) (ha : a.length ≤ 140737488355328) (d : Nat) : ∀ (k i : Nat), i ≤ a.length → i ≤ b.length → a.length - i = d → 2 * d + 1 < k →
    cambiumref01_Less.l0 k a b (i : Int) = some (lexLt (a.drop i) (b.drop i)) := by
  induction d with
  | zero =>
    intro k i h1 h2 hd hk
    obtain ⟨k, rfl⟩ : ∃ m, k = m + 1 + 1 := ⟨k - 2, by omega⟩
    have hi : i = a.length := by omega
    subst hi
    rw [cambiumref01_Less.l0, if_neg (by omega), cambiumref01_Less.j1, if_neg (by simp), List.drop_length]
    by_cases hb : a.length < b.length
    · rw [rd_drop hb]
      simp only [lexLt]
      rw [decide_eq_true (by omega)]
    · rw [List.drop_of_length_le (by omega)]
      simp only [lexLt]
      rw [decide_eq_false (by omega)]
  | succ d ih =>
    intro k i h1 h2 hd hk
    obtain ⟨k, rfl⟩ : ∃ m, k = m + 1 + 1 := ⟨k - 2, by omega⟩
    rw [cambiumref01_Less.l0, if_pos (by omega), cambiumref01_Less.j1]
    rw [rd_drop (l := a) (i := i) (by omega)]
    by_cases hb : i < b.length
    · rw [rd_drop hb, if_pos (by simpa using (by omega : (i : Int) < (b.length : Int))), if_pos (by omega), if_pos (by omega), if_pos (by omega)]
      simp only [lexLt]
      by_cases e : rd a (i : Int) = rd b (i : Int)
      · rw [if_pos e, if_pos e, wrap_id (by omega) (by omega)]
        exact ih k (i + 1) (by omega) (by omega) (by omega) (by omega)
      · rw [if_neg e, if_neg e]
    · rw [List.drop_of_length_le (l := b) (by omega), if_neg (by simpa using (by omega : (b.length : Int) ≤ (i : Int)))]
      simp only [lexLt]
      rw [decide_eq_false (by omega)]
theorem less_eq (k : Nat) (a b : List Int) (ha : a.length ≤ 140737488355328) (hk : 2 * a.length + 1 < k) : cambiumref01_Less.f k a b = some (lexLt a b) := by
  unfold cambiumref01_Less.f
  have := less_l0 a b ha a.length k 0 (by omega) (by omega) (by omega) hk
  simpa using this

end Go.Proofs.Ytffggkhahambhaa.NumFacts

namespace Go.Proofs.Ytffggkhahambhaa.Conv
open Go.RowKit Go.Proofs.YtffggkhahambhaaW.PrintWords Go.Proofs.YtffggkhahambhaaW.PrintLast Go.Proofs.YtffggkhahambhaaW.PrintMore
set_option linter.unusedVariables false
variable {P : Program} {ops : Array Oper} {rest : List Oper} {o : Oper} {a : Act} {Q : Exit → Act → World → Prop} {K Kc : Act → World → Prop}

theorem bytes_V (W : World) (base e : Nat) (s : ByteArray) (hs : s.size ≤ 140737488355328) :
    Kd.V (Kd.int .u8) e (Lib.bytesWorld W e s) base (fun k => W.heap.size ≤ k) (.slice (some ⟨W.heap.size, 0, none⟩) s.size (grownCap W s.size 0 e)) (bytesOf s) := by
  have hl := bytesOf_length s
  refine ⟨some ⟨W.heap.size, 0, none⟩, grownCap W s.size 0 e, by rw [hl], by rw [hl]; exact grownCap_ge _ _ _ _, ?_⟩
  intro W' hW
  have hb := hW W.heap.size (Nat.le_refl _) (by rw [Lib.bytesWorld_size]; omega)
  have hr := bytes_reads W e s (by omega)
  rw [hl]
  refine Kd.C_of_reads (d := (0 : Int)) ⟨hl, by omega, fun hp => ?_⟩
  obtain ⟨ad, he, hc⟩ := hr.2.2 hp
  refine ⟨ad, he, fun i hi => ?_⟩
  injection he with he
  subst he
  rw [← hc i hi, add_plain]
  exact World.cell?_of_block hb

theorem conv_wp {w0 W : World} (base e : Nat) (src dst : TypeId) (x : Operand) (ho : o.op = .convert src dst x) {u : TypeDesc} (hs : P.underlying src = some u) (hd : P.underlying dst = some (.slice e)) (he : P.underlying e = some (.int .u8))
    (s : ByteArray) (hx : a.eval x = .string s) (hm : (s.size : Int) ≤ 140737488355328) (HB : Below base w0 W) (hbase : base ≤ W.heap.size)
    (h : ∀ v1 w1, Kd.V (Kd.int .u8) e w1 base (fun k => W.heap.size ≤ k) v1 (bytesOf s) → Below base w0 w1 → W.grownBy w1 none → (∃ b, v1.ownBlock = some b ∧ W.heap.size ≤ b) → K (a.put o.dst v1) w1) : Oper.wp P o a W K Q := by
  have hrun := print_bytes (P := P) src dst e hs hd he s W
  have h2 := h _ _ (bytes_V W base e s (by omega)) (bytes_below HB hbase e s) ⟨rfl, rfl, rfl, by rw [Lib.bytesWorld_size]; omega, fun k hk _ => Lib.bytesWorld_at_old W e s k hk⟩ ⟨_, rfl, Nat.le_refl _⟩
  unfold Oper.wp
  simp [execOp, ho, hx, hrun, Result.andThen]
  exact h2

theorem V_conv_step {w0 W : World} (base e : Nat) (hw : Region.wanted o (yielded ops a.tmps) = true) {N' : Tmp} (hdst : o.dst = some N') (src dst : TypeId) (x : Operand) (ho : o.op = .convert src dst x) {u : TypeDesc} (hs : P.underlying src = some u) (hd : P.underlying dst = some (.slice e)) (he : P.underlying e = some (.int .u8))
    (s : ByteArray) (hx : a.eval x = .string s) (hm : (s.size : Int) ≤ 140737488355328) (HB : Below base w0 W) (hbase : base ≤ W.heap.size)
    (h : ∀ v1 w1, Kd.V (Kd.int .u8) e w1 base (fun k => W.heap.size ≤ k) v1 (bytesOf s) → Below base w0 w1 → W.grownBy w1 none → (∃ b, v1.ownBlock = some b ∧ W.heap.size ≤ b) → Kc (a.put o.dst v1) w1) :
    if Region.wanted o (yielded ops a.tmps) = true then Oper.wp P o a W Kc Q else Kc (a.put o.dst undef) W := by
  rw [if_pos hw]
  exact conv_wp base e src dst x ho hs hd he s hx hm HB hbase h

end Go.Proofs.Ytffggkhahambhaa.Conv
