/- How what comes in reads: out of the form's own reading of a value of a type (numbers, texts, rows, structs, arrays, nested) the facts that the print's contracts ask. No program in sight. -/
import Derived.Test.YtffggkhahambhaaWMore
import Derived.SizedLaws
import Derived.ChangeArms
import Derived.OpenShut
import Derived.ChangeOld
import Derived.WideShapes
import Derived.Test.YtffggkhahambhaaPAllx0
import Derived.Laws.BitsAllLaws
import Derived.RowKit
import Derived.Test.YtffggkhahambhaaWWords
import Derived.Lib.Hide
import Derived.Laws.CopyOwn
import Derived.WalkLawsBesides
import Derived.Laws.CopyRow
import Derived.Shelf.SlSortCmp.NoneTotal
import Derived.MapKept
import Derived.ChangeMaps
import Derived.Carry
import Derived.Outline
import Derived.Test.YtffggkhahambhaaLaysC
import Derived.Test.YtffggkhahambhaaPLowx1
import Derived.Lib.DecodeN
import Derived.Lib.OthersKept
import Derived.Laws.DeepStrings4
import Derived.Test.YtffggkhahambhaaPAllx15
import Derived.Test.YtffggkhahambhaaWShare
import Derived.Lib.ConvBytes
import Derived.Below
import Derived.Shelf.SlSortCmp.WholeK
import Derived.Test.YtffggkhahambhaaWLast
namespace Go.Proofs.Ytffggkhahambhaa.Open
open Go.RowKit Go.Proofs.YtffggkhahambhaaW.PrintWords Go.ChangeShapes Go.WideShapes

/-- A type's values read as things of a kind, and what else is known of these. -/
def Reads {α : Type} (P : Program) (T : TypeId) (d : Kd α) (G : α → Prop) : Prop :=
  ∀ (H : Type) (enc : TypeId × Value → H) (W : World) (fuel : Nat) (cs : List Value) (D : DataW H) (ps : List MemPlace),
    DataW.trod enc P W 0 (fun _ => true) true fuel T cs = some (D, ps) → (∀ n ∈ D.weights P T, n ≤ reachBytes) → ∃ a, d.K W a cs ∧ G a

variable {P : Program} {T : TypeId}

theorem reads_int {k : IntKind} (hu : P.underlying T = some (.int k)) : Reads P T (Kd.int k) (fun x => (Lit.int k x).wf = true) := by
  intro H enc W fuel cs D ps h _
  obtain ⟨n, rfl, hx, hw⟩ := DataW.trod_int hu h
  exact ⟨n, rfl, hw⟩
theorem reads_bool (hu : P.underlying T = some .bool) : Reads P T Kd.bool (fun _ => True) := by
  intro H enc W fuel cs D ps h _
  obtain ⟨b, rfl, _⟩ := DataW.trod_bool hu h
  exact ⟨b, rfl, trivial⟩
theorem reads_string (hu : P.underlying T = some .string) : Reads P T Kd.string (fun s => s.size ≤ 140737488351232) := by
  intro H enc W fuel cs D ps h hz
  obtain ⟨s, rfl, hx, _⟩ := DataW.trod_string hu h
  refine ⟨s, rfl, ?_⟩
  obtain ⟨rfl, _⟩ := Prod.mk.inj hx
  have := hz s.data.toList.length (by simp [DataW.weights])
  rw [Array.length_toList] at this
  exact this

theorem mem_weightsAll {H : Type} {e : TypeId} : ∀ {l : List (DataW H)} {d : DataW H}, d ∈ l → ∀ n ∈ d.weights P e, n ∈ DataW.weightsAll P e l
  | [], _, h => by cases h
  | x :: r, d, h => by
    intro n hn
    unfold DataW.weightsAll
    rcases List.mem_cons.1 h with rfl | h
    · exact List.mem_append_left _ hn
    · exact List.mem_append_right _ (mem_weightsAll h n hn)

theorem mapM_some_length' {α β : Type} {f : α → Option β} : ∀ {l : List α} {r : List β}, l.mapM f = some r → r.length = l.length := by
  intro l
  induction l with
  | nil => intro r h; simp at h; subst h; rfl
  | cons a l ih =>
    intro r h
    rw [List.mapM_cons] at h
    simp only [Option.bind_eq_bind, Option.bind_eq_some_iff] at h
    obtain ⟨b, _, bs, hbs, hr⟩ := h
    have := ih hbs
    simp at hr
    rw [← hr]; simp [this]
theorem mapM_some_get' {α β : Type} {f : α → Option β} : ∀ {l : List α} {r : List β}, l.mapM f = some r → ∀ (i : Nat) (a : α), l[i]? = some a → f a = r[i]? := by
  intro l
  induction l with
  | nil => intro r h i a hi; simp at hi
  | cons a l ih =>
    intro r h i x hi
    rw [List.mapM_cons] at h
    simp only [Option.bind_eq_bind, Option.bind_eq_some_iff] at h
    obtain ⟨b, hb, bs, hbs, hr⟩ := h
    simp at hr
    rw [← hr]
    cases i with
    | zero => simp at hi; subst hi; simpa using hb
    | succ i => simp at hi; simpa using ih hbs i x hi

theorem cells_some {W : World} {ad : Addr} {n : Nat} {c : List Value} (h : W.cells? 0 ad n = some c) : c.length = n ∧ ∀ i u, c[i]? = some u → W.cell? (ad.add i) = some u := by
  unfold World.cells? at h
  rw [if_pos (Nat.zero_le _)] at h
  have hl := mapM_some_length' h
  rw [List.length_range] at hl
  refine ⟨hl, fun i u hu => ?_⟩
  have hi : i < n := by
    have := (List.getElem?_eq_some_iff.1 hu).1
    omega
  have := mapM_some_get' h i i (List.getElem?_range hi)
  rw [this, hu]

/-- An address taken twice. -/
theorem add_add (ad : Addr) (m j : Nat) : (ad.add m).add j = ad.add (m + j) := by
  unfold Addr.add
  by_cases hm : m = 0
  · subst hm; simp
  · by_cases hj : j = 0
    · subst hj; simp
    · simp [hm, hj, Nat.add_assoc]

theorem reads_slice {α : Type} {e : TypeId} {d : Kd α} {G : α → Prop} (hu : P.underlying T = some (.slice e)) (hr : Reads P e d G) (hs : P.cellsOf e = d.sz) :
    Reads P T (Kd.slice e d) (fun l => (∀ x ∈ l, G x) ∧ l.length * P.bytesOf e ≤ 140737488351232) := by
  intro H enc W fuel cs D ps h hz
  rcases DataW.trod_slice hu h with ⟨rfl, _⟩ | ⟨a, len, cap, elems, rest, n, rfl, rfl, hx, _, hlc, hcm, hel, hget, _, _⟩
  · refine ⟨[], ⟨none, 0, rfl, Nat.le_refl _, Kd.C_nil d W⟩, fun x hx => (by cases hx), by simp⟩
  · obtain ⟨rfl, _⟩ := Prod.mk.inj hx
    have hw : ∀ x ∈ elems, ∀ m ∈ x.1.weights P e, m ≤ reachBytes := by
      intro x hxm m hm
      refine hz m ?_
      unfold DataW.weights
      rw [hu]
      exact List.mem_cons_of_mem _ (List.mem_append_left _ (mem_weightsAll (List.mem_map_of_mem hxm) m hm))
    have key : ∀ i, i < len → ∃ x c, elems[i]? = some x ∧ W.cells? 0 (a.add (i * P.cellsOf e)) (P.cellsOf e) = some c ∧ ∃ y, d.K W y c ∧ G y := by
      intro i hi
      have h1 := hget i hi
      have h2 : i < elems.length := by omega
      rw [List.getElem?_eq_getElem h2, Option.bind_eq_some_iff] at h1
      obtain ⟨c, hc, ht⟩ := h1
      obtain ⟨y, hy⟩ := hr H enc W n c elems[i].1 elems[i].2 ht (hw _ (List.getElem_mem h2))
      exact ⟨_, c, List.getElem?_eq_getElem h2, hc, y, hy⟩
    have hlist : ∀ m, m ≤ len → ∃ ys : List α, ys.length = m ∧ ∀ j y, ys[j]? = some y → G y ∧ ∃ c, W.cells? 0 (a.add (j * P.cellsOf e)) (P.cellsOf e) = some c ∧ d.K W y c := by
      intro m
      induction m with
      | zero => intro _; exact ⟨[], rfl, fun j y hj => by simp at hj⟩
      | succ m ih =>
        intro hm
        obtain ⟨ys, hl, hys⟩ := ih (by omega)
        obtain ⟨_, c, _, hc, y, hk, hg⟩ := key m (by omega)
        refine ⟨ys ++ [y], by simp [hl], fun j z hj => ?_⟩
        rcases Nat.lt_or_ge j ys.length with h1 | h1
        · rw [List.getElem?_append_left h1] at hj
          exact hys j z hj
        · rw [List.getElem?_append_right h1] at hj
          have hj0 : j - ys.length = 0 := by
            have := (List.getElem?_eq_some_iff.1 hj).1
            simpa using this
          rw [hj0] at hj
          simp at hj
          subst hj
          have : j = m := by omega
          subst this
          exact ⟨hg, c, hc, hk⟩
    obtain ⟨ys, hl, hys⟩ := hlist len (Nat.le_refl _)
    have hcap : len ≤ 9223372036854775807 := by have : maxLen = 9223372036854775807 := rfl; omega
    refine ⟨ys, ⟨some a, cap, by rw [hl], by rw [hl]; exact hlc, ?_⟩, ?_, ?_⟩
    · rw [hl]
      refine ⟨hl, hcap, fun _ => ⟨a, rfl, fun j y hj => ?_⟩⟩
      obtain ⟨_, c, hc, hk⟩ := hys j y hj
      obtain ⟨hcl, hcc⟩ := cells_some hc
      refine ⟨c, by rw [hcl, hs], hk, fun i u hu => ?_⟩
      have := hcc i u hu
      rw [add_add, hs] at this
      exact this
    · intro x hx
      obtain ⟨j, hj⟩ := List.mem_iff_getElem?.1 hx
      exact (hys j x hj).1
    · have := hz ((elems.map (·.1)).length * P.bytesOf e + (rest.map (·.1)).length * P.bytesOf e) (by
        unfold DataW.weights
        rw [hu, ← Nat.add_mul]
        exact List.mem_cons_self)
      rw [hl]
      have h3 : (elems.map (·.1)).length = len := by simp [hel]
      rw [h3] at this
      exact Nat.le_trans (Nat.le_add_right _ _) this

/-- A struct's fields, from one place on. -/
def FieldsRead {α : Type} (P : Program) (fs : List Field) (o : Nat) (d : Kd α) (G : α → Prop) : Prop :=
  ∀ (H : Type) (enc : TypeId × Value → H) (W : World) (n : Nat) (cs : List Value) (xs : List (DataW H × List MemPlace)), cs.length = o + d.sz → xs.length = fs.length →
    (∀ (i : Nat) (f : Field), fs[i]? = some f → DataW.trod enc P W 0 (fun _ => true) true n f.type ((cs.drop f.offset).take (P.cellsOf f.type)) = xs[i]?) →
    (∀ m ∈ DataW.weightsEach P (fs.map (·.type)) (xs.map (·.1)), m ≤ reachBytes) → ∃ a, d.K W a (cs.drop o) ∧ G a

theorem fields_one {α : Type} {f : Field} {o : Nat} {d : Kd α} {G : α → Prop} (ho : f.offset = o) (hs : P.cellsOf f.type = d.sz) (hr : Reads P f.type d G) : FieldsRead P [f] o d G := by
  intro H enc W n cs xs hl hx hg hz
  match xs, hx with
  | [x], _ =>
    have h1 := hg 0 f rfl
    rw [ho, hs, List.take_of_length_le (by rw [List.length_drop]; omega)] at h1
    exact hr H enc W n _ x.1 x.2 (by simpa using h1) (fun m hm => hz m (by simp [DataW.weightsEach, hm]))

theorem fields_cons {α β : Type} {f : Field} {fs : List Field} {o : Nat} {a : Kd α} {b : Kd β} {G : α → Prop} {K : β → Prop} (ho : f.offset = o) (hs : P.cellsOf f.type = a.sz) (hr : Reads P f.type a G)
    (hfs : FieldsRead P fs (o + a.sz) b K) : FieldsRead P (f :: fs) o (Kd.pair a b) (fun x => G x.1 ∧ K x.2) := by
  intro H enc W n cs xs hl hx hg hz
  match xs, hx with
  | x :: r, hx =>
    have hl' : cs.length = o + a.sz + b.sz := by rw [hl, show (Kd.pair a b).sz = a.sz + b.sz from rfl, Nat.add_assoc]
    have h1 := hg 0 f rfl
    rw [ho, hs] at h1
    obtain ⟨y, hy, gy⟩ := hr H enc W n _ x.1 x.2 (by simpa using h1) (fun m hm => hz m (by simp [DataW.weightsEach, hm]))
    obtain ⟨z, hk, gz⟩ := hfs H enc W n cs r hl' (by simpa using hx) (fun i g hi => by have := hg (i + 1) g (by simpa using hi); simpa using this) (fun m hm => hz m (by simp [DataW.weightsEach, hm]))
    refine ⟨(y, z), ⟨_, _, ?_, hy, hk⟩, gy, gz⟩
    rw [← List.drop_drop]
    exact (List.take_append_drop _ _).symm

theorem reads_struct {α : Type} {fs : Array Field} {d : Kd α} {G : α → Prop} (hu : P.underlying T = some (.struct fs)) (hc : P.cellsOf T = d.sz) (hr : FieldsRead P fs.toList 0 d G) : Reads P T d G := by
  intro H enc W fuel cs D ps h hz
  obtain ⟨xs, n, rfl, hx, hl, hxs, hg⟩ := DataW.trod_struct hu h
  obtain ⟨rfl, _⟩ := Prod.mk.inj hx
  have := hr H enc W n cs xs (by rw [hl, hc, Nat.zero_add]) (by simpa using hxs) (fun i f hi => hg i f (by simpa using hi)) (fun m hm => hz m (by
    unfold DataW.weights
    rw [hu]
    exact hm))
  simpa using this

theorem reads_iso {α β : Type} {d : Kd α} {G : α → Prop} (f : β → α) (g : α → β) (hfg : ∀ a, f (g a) = a) (hr : Reads P T d G) : Reads P T (Kd.iso d f) (fun x => G (f x)) := by
  intro H enc W fuel cs D ps h hz
  obtain ⟨a, hk, ga⟩ := hr H enc W fuel cs D ps h hz
  exact ⟨g a, by show d.K W (f (g a)) cs; rw [hfg]; exact hk, by show G (f (g a)); rw [hfg]; exact ga⟩

theorem reads_imp {α : Type} {d : Kd α} {G K : α → Prop} (hr : Reads P T d G) (h : ∀ a, G a → K a) : Reads P T d K := by
  intro H enc W fuel cs D ps ht hz
  obtain ⟨a, hk, ga⟩ := hr H enc W fuel cs D ps ht hz
  exact ⟨a, hk, h a ga⟩

/-- The weights of an argument. -/
theorem weights_arg {H : Type} {ts : List TypeId} {ds : List (DataW H)} {j : Nat} {t : TypeId} {d : DataW H} (hsz : (DataW.weightsEach P ts ds).all (· ≤ reachBytes) = true) (ht : ts[j]? = some t) (hd : ds[j]? = some d) :
    ∀ n ∈ d.weights P t, n ≤ reachBytes := by
  intro n hn
  have := List.all_eq_true.1 hsz n (DataW.weights_mem_each ht hd n hn)
  simpa using this

end Go.Proofs.Ytffggkhahambhaa.Open

namespace Go.Proofs.Ytffggkhahambhaa.PAll
open Go.RowKit Go.Proofs.YtffggkhahambhaaW.PrintWords Go.Proofs.YtffggkhahambhaaW.PrintLast Go.Proofs.YtffggkhahambhaaW.PrintMore
structure S24 where
  f0 : List S41
  f1 : Int
def k24 : Kd S24 := Kd.iso (Kd.pair (Kd.slice 41 k41) (Kd.int .i64)) (fun x : S24 => (x.f0, x.f1))
theorem k24_open {w : World} {x : S24} {cs : List Value} (h : k24.K w x cs) : ∃ A0 c0, cs = [.slice A0 x.f0.length c0, .int .i64 x.f1] ∧ (x.f0.length ≤ c0 ∧ Kd.C k41 w A0 x.f0.length x.f0) := by
  obtain ⟨_, _, rfl, ⟨A0, c0, rfl, l0, C0⟩, rfl⟩ := h
  exact ⟨A0, c0, rfl, ⟨l0, C0⟩⟩
end Go.Proofs.Ytffggkhahambhaa.PAll

namespace Go.Proofs.Ytffggkhahambhaa.Math
open Go.RowKit

/-- All are bytes. -/
def IsB (l : List Int) : Prop := ∀ x ∈ l, 0 ≤ x ∧ x < 256

instance decIsB : DecidablePred IsB := fun l => by unfold IsB; infer_instance

/-- A short number's bytes. -/
def vput (v : Int) : List Int := if 128 ≤ v then (v % 128 + 128) :: vput (v / 128) else [v]
termination_by v.toNat
decreasing_by omega

/-- What short bytes come to. -/
def vval : List Int → Int
  | [] => 0
  | c :: r => c % 128 + 128 * vval r

/-- Short bytes as they must be: all but the last with the high bit, the last without it, and not 0 unless it is alone. -/
def Canon : List Int → Prop
  | [] => False
  | [c] => 0 ≤ c ∧ c < 128
  | c :: d :: r => (128 ≤ c ∧ c < 256) ∧ Canon (d :: r) ∧ (r = [] → d ≠ 0)

/-- Reading a short number: from place i on, what came before being v. -/
def vgo : Nat → Int → List Int → Int × Int
  | _, _, [] => (0, 0)
  | i, v, c :: r => if 10 ≤ i then (0, 0) else if i = 9 ∧ 1 < c then (0, 0) else
      if c < 128 then (if c = 0 ∧ 0 < i then (0, 0) else (v + c * 128 ^ i, (i : Int) + 1)) else vgo (i + 1) (v + (c - 128) * 128 ^ i) r

/-- The short number with which bytes begin, and how many it has. -/
def vget (l : List Int) : Int × Int := vgo 0 0 l

end Go.Proofs.Ytffggkhahambhaa.Math

namespace Go.Proofs.Ytffggkhahambhaa.Math
open Go.RowKit Go.Proofs.YtffggkhahambhaaW.PrintWords

theorem wrap_id {x : Int} (h0 : -9223372036854775808 ≤ x) (h1 : x < 9223372036854775808) : wrap64 x = x := by unfold wrap64; omega

theorem rd_drop {l : List Int} {i : Nat} (h : i < l.length) : l.drop i = rd l (i : Int) :: l.drop (i + 1) := by
  rw [List.drop_eq_getElem_cons h]
  simp [rd, List.getD_eq_getElem?_getD, List.getElem?_eq_getElem h]
end Go.Proofs.Ytffggkhahambhaa.Math

namespace Go.Proofs.Ytffggkhahambhaa.Math
open Go.RowKit Go.Proofs.YtffggkhahambhaaW.PrintWords Go.Proofs.YtffggkhahambhaaW.PrintLast Go.Proofs.YtffggkhahambhaaW.PrintMore
set_option linter.unusedVariables false

/-! cuts with a capacity -/
theorem block_below {w w1 : World} {g : Nat} {o : Obj} (h : w.heap[g]? = some o) (hb : Below w.heap.size w w1) : w1.heap[g]? = some o := by
  refine (hb.block g ?_).trans h
  rcases Nat.lt_or_ge g w.heap.size with h1 | h1
  · exact h1
  · rw [Array.getElem?_eq_none h1] at h; cases h

end Go.Proofs.Ytffggkhahambhaa.Math

namespace Go.Proofs.Ytffggkhahambhaa.Tr
open Go.RowKit Go.Proofs.YtffggkhahambhaaW.PrintWords Go.Proofs.YtffggkhahambhaaW.PrintLast Go.Proofs.YtffggkhahambhaaW.PrintMore Go.Proofs.Ytffggkhahambhaa.Math Go.Proofs.Ytffggkhahambhaa.PAll
open Go.Sort (HoldsK flatK get_flatK size_flatK)
set_option linter.unusedVariables false
set_option linter.unusedSimpArgs false

/-- A span, as its cells: the rows within by where they lie. -/
structure Sp where
  tr : Int
  id : Int
  par : Int
  svc : ByteArray
  op : ByteArray
  st : Int
  du : Int
  stt : Int
  a : Option Addr × Nat × Nat
  e : Option Addr × Nat × Nat
  l : Option Addr × Nat × Nat
instance : Inhabited Sp := ⟨⟨0, 0, 0, ⟨#[]⟩, ⟨#[]⟩, 0, 0, 0, (none, 0, 0), (none, 0, 0), (none, 0, 0)⟩⟩
/-- A kind of elements that are told by their cells alone. -/
def flat {α : Type} (enc : α → List Value) (n : Nat) (hl : ∀ x, (enc x).length = n) (h1 : ∀ x, ∀ v ∈ enc x, v.oneCell' = true) : Kd α where
  sz := n
  E := []
  K := fun _ x cs => cs = enc x
  M := fun _ _ _ x cs => cs = enc x
  K_len := fun h => by rw [h]; exact hl _
  K_one := fun h u hu => by rw [h] at hu; exact h1 _ u hu
  K_below := fun _ h => h
  K_of_M := fun h => h
  M_mono := fun _ h => h
  M_bound := fun h => h
  M_move := fun _ h => h
  M_lower := fun _ h => h
def slv (t : Option Addr × Nat × Nat) : Value := .slice t.1 t.2.1 t.2.2
def encS (s : Sp) : List Value := [.int .u64 s.tr, .int .u64 s.id, .int .u64 s.par, .string s.svc, .string s.op, .int .i64 s.st, .int .i64 s.du, .int .i64 s.stt, .slice s.a.1 s.a.2.1 s.a.2.2, .slice s.e.1 s.e.2.1 s.e.2.2, .slice s.l.1 s.l.2.1 s.l.2.2]
theorem encS_len (s : Sp) : (encS s).length = 11 := rfl
theorem encS_one (s : Sp) : ∀ v ∈ encS s, v.oneCell' = true := by
  intro v hv
  simp only [encS, List.mem_cons, List.not_mem_nil, or_false] at hv
  rcases hv with rfl | rfl | rfl | rfl | rfl | rfl | rfl | rfl | rfl | rfl | rfl <;> rfl
def kS : Kd Sp := flat encS 11 encS_len encS_one
theorem at_S {w : World} {A : Option Addr} {n : Nat} {xs : List Sp} (h : Kd.C kS w A n xs) {k : Nat} {s : Sp} (hk : xs[k]? = some s) : ∃ ad, A = some ad ∧ w.cell? (ad.add (k * 11)) = some (.int .u64 s.tr) ∧ w.cell? ⟨(ad.add (k * 11)).block, (ad.add (k * 11)).off + 1, none⟩ = some (.int .u64 s.id) ∧ w.cell? ⟨(ad.add (k * 11)).block, (ad.add (k * 11)).off + 2, none⟩ = some (.int .u64 s.par) ∧ w.cell? ⟨(ad.add (k * 11)).block, (ad.add (k * 11)).off + 3, none⟩ = some (.string s.svc) ∧ w.cell? ⟨(ad.add (k * 11)).block, (ad.add (k * 11)).off + 4, none⟩ = some (.string s.op) ∧ w.cell? ⟨(ad.add (k * 11)).block, (ad.add (k * 11)).off + 5, none⟩ = some (.int .i64 s.st) ∧ w.cell? ⟨(ad.add (k * 11)).block, (ad.add (k * 11)).off + 6, none⟩ = some (.int .i64 s.du) ∧ w.cell? ⟨(ad.add (k * 11)).block, (ad.add (k * 11)).off + 7, none⟩ = some (.int .i64 s.stt) ∧ w.cell? ⟨(ad.add (k * 11)).block, (ad.add (k * 11)).off + 8, none⟩ = some (.slice s.a.1 s.a.2.1 s.a.2.2) ∧ w.cell? ⟨(ad.add (k * 11)).block, (ad.add (k * 11)).off + 9, none⟩ = some (.slice s.e.1 s.e.2.1 s.e.2.2) ∧ w.cell? ⟨(ad.add (k * 11)).block, (ad.add (k * 11)).off + 10, none⟩ = some (.slice s.l.1 s.l.2.1 s.l.2.2) := by
  obtain ⟨hkl, hs⟩ := List.getElem?_eq_some_iff.1 hk
  obtain ⟨ad, c, e, _, hK, hc⟩ := Kd.C_get h (default : Sp) (k : Int) (by omega) (by have := h.1; omega)
  have e2 : xs.getD (k : Int).toNat default = s := by rw [Int.toNat_natCast, List.getD_eq_getElem?_getD, hk]; rfl
  rw [e2] at hK
  have hK : c = encS s := hK
  subst hK
  have hc : ∀ j u, (encS s)[j]? = some u → w.cell? (ad.add (k * 11 + j)) = some u := by simpa [kS, flat] using hc
  exact ⟨ad, e, hc 0 _ rfl, by rw [← add_field _ _ 1 (by omega)]; exact hc 1 _ rfl, by rw [← add_field _ _ 2 (by omega)]; exact hc 2 _ rfl, by rw [← add_field _ _ 3 (by omega)]; exact hc 3 _ rfl, by rw [← add_field _ _ 4 (by omega)]; exact hc 4 _ rfl, by rw [← add_field _ _ 5 (by omega)]; exact hc 5 _ rfl, by rw [← add_field _ _ 6 (by omega)]; exact hc 6 _ rfl, by rw [← add_field _ _ 7 (by omega)]; exact hc 7 _ rfl, by rw [← add_field _ _ 8 (by omega)]; exact hc 8 _ rfl, by rw [← add_field _ _ 9 (by omega)]; exact hc 9 _ rfl, by rw [← add_field _ _ 10 (by omega)]; exact hc 10 _ rfl⟩
theorem infoS : (Try.prog.info? 34).map (fun i => (i.zero, i.size, i.bytes)) = some (some (.agg #[(.int .u64 0), (.int .u64 0), (.int .u64 0), (.string ⟨#[]⟩), (.string ⟨#[]⟩), (.int .i64 0), (.int .i64 0), (.int .i64 0), (.slice none 0 0), (.slice none 0 0), (.slice none 0 0)]), 11, 152) := by kernel_rfl
/-- What a span is in the law's own kinds. -/
def Is (w : World) (s : Sp) (x : S34) : Prop := k34.K w x (encS s)
theorem Is.below {w w1 : World} {s : Sp} {x : S34} (h : Is w s x) (hb : Below w.heap.size w w1) : Is w1 s x := k34.K_below hb h
theorem Is.fields {w : World} {s : Sp} {x : S34} (h : Is w s x) : x.f0 = s.tr ∧ x.f1 = s.id ∧ x.f2 = s.par ∧ x.f3 = s.svc ∧ x.f4 = s.op ∧ x.f5 = s.st ∧ x.f6 = s.du ∧ x.f7 = s.stt := by
  obtain ⟨A8, c8, A9, c9, A10, c10, he, _⟩ := k34_open h
  simp only [encS, List.cons.injEq, Value.int.injEq, Value.string.injEq, true_and] at he
  obtain ⟨h0, h1, h2, h3, h4, h5, h6, h7, _⟩ := he
  exact ⟨h0.symm, h1.symm, h2.symm, h3.symm, h4.symm, h5.symm, h6.symm, h7.symm⟩
theorem arr_S (s : Sp) : (encS s).toArray = #[.int .u64 s.tr, .int .u64 s.id, .int .u64 s.par, .string s.svc, .string s.op, .int .i64 s.st, .int .i64 s.du, .int .i64 s.stt, .slice s.a.1 s.a.2.1 s.a.2.2, .slice s.e.1 s.e.2.1 s.e.2.2, .slice s.l.1 s.l.2.1 s.l.2.2] := rfl
/-- A span's own block, cell by cell. -/
theorem blkS {w : World} {g : Nat} {t : TypeId} {s : Sp} (h : w.heap[g]? = some (.cells (encS s).toArray t (0, 0))) : w.cell? ⟨g, 0, none⟩ = some (.int .u64 s.tr) ∧ w.cell? ⟨g, 1, none⟩ = some (.int .u64 s.id) ∧ w.cell? ⟨g, 2, none⟩ = some (.int .u64 s.par) ∧ w.cell? ⟨g, 3, none⟩ = some (.string s.svc) ∧ w.cell? ⟨g, 4, none⟩ = some (.string s.op) ∧ w.cell? ⟨g, 5, none⟩ = some (.int .i64 s.st) ∧ w.cell? ⟨g, 6, none⟩ = some (.int .i64 s.du) ∧ w.cell? ⟨g, 7, none⟩ = some (.int .i64 s.stt) ∧ w.cell? ⟨g, 8, none⟩ = some (.slice s.a.1 s.a.2.1 s.a.2.2) ∧ w.cell? ⟨g, 9, none⟩ = some (.slice s.e.1 s.e.2.1 s.e.2.2) ∧ w.cell? ⟨g, 10, none⟩ = some (.slice s.l.1 s.l.2.1 s.l.2.2) :=
  ⟨(blk_cell h 0).trans rfl, (blk_cell h 1).trans rfl, (blk_cell h 2).trans rfl, (blk_cell h 3).trans rfl, (blk_cell h 4).trans rfl, (blk_cell h 5).trans rfl, (blk_cell h 6).trans rfl, (blk_cell h 7).trans rfl, (blk_cell h 8).trans rfl, (blk_cell h 9).trans rfl, (blk_cell h 10).trans rfl⟩
/-- A counted loop's measure. -/
theorem meas_up {L k : Nat} (h : L ≤ 1000000) (hk : k + 1 ≤ L) : L - (intOf (.int .i64 (wrap64 ((k : Int) + 1)))).toNat < L - (intOf (.int .i64 k)).toNat := by
  have hw : wrap64 ((k : Int) + 1) = ((k + 1 : Nat) : Int) := by unfold wrap64; omega
  rw [hw]
  show L - ((k + 1 : Nat) : Int).toNat < L - (k : Int).toNat
  rw [Int.toNat_natCast, Int.toNat_natCast]
  omega
/-- The empty span. -/
def zS : Sp := ⟨0, 0, 0, ⟨#[]⟩, ⟨#[]⟩, 0, 0, 0, (none, 0, 0), (none, 0, 0), (none, 0, 0)⟩
/-- Where a row of one's own lies. -/
theorem row_lt {w : World} {base : Nat} {v : Value} {xs : List Sp} (h : Kd.R kS 34 w base (fun _ => True) v xs) : ∀ k, v.ownBlock = some k → base ≤ k ∧ k < w.heap.size := by
  obtain ⟨_, inner, ho, _⟩ := h
  exact fun k hk => ⟨own_base ho k hk, own_lt ho k hk⟩

/-- A span stored at a place. -/
def putA (w : World) (a : Addr) (s : Sp) : World := (((((((((((w.setCell a (.int .u64 s.tr)).setCell ⟨a.block, a.off + 1, none⟩ (.int .u64 s.id)).setCell ⟨a.block, a.off + 2, none⟩ (.int .u64 s.par)).setCell ⟨a.block, a.off + 3, none⟩ (.string s.svc)).setCell ⟨a.block, a.off + 4, none⟩ (.string s.op)).setCell ⟨a.block, a.off + 5, none⟩ (.int .i64 s.st)).setCell ⟨a.block, a.off + 6, none⟩ (.int .i64 s.du)).setCell ⟨a.block, a.off + 7, none⟩ (.int .i64 s.stt)).setCell ⟨a.block, a.off + 8, none⟩ (.slice s.a.1 s.a.2.1 s.a.2.2)).setCell ⟨a.block, a.off + 9, none⟩ (.slice s.e.1 s.e.2.1 s.e.2.2)).setCell ⟨a.block, a.off + 10, none⟩ (.slice s.l.1 s.l.2.1 s.l.2.2))
def arrA (cur : Array Value) (o : Nat) (s : Sp) : Array Value := (((((((((((cur.setIfInBounds (o + 0) (.int .u64 s.tr)).setIfInBounds (o + 1) (.int .u64 s.id)).setIfInBounds (o + 2) (.int .u64 s.par)).setIfInBounds (o + 3) (.string s.svc)).setIfInBounds (o + 4) (.string s.op)).setIfInBounds (o + 5) (.int .i64 s.st)).setIfInBounds (o + 6) (.int .i64 s.du)).setIfInBounds (o + 7) (.int .i64 s.stt)).setIfInBounds (o + 8) (.slice s.a.1 s.a.2.1 s.a.2.2)).setIfInBounds (o + 9) (.slice s.e.1 s.e.2.1 s.e.2.2)).setIfInBounds (o + 10) (.slice s.l.1 s.l.2.1 s.l.2.2))
theorem putA_far {w : World} {a : Addr} {k : Nat} (s : Sp) (h : k ≠ a.block) : (putA w a s).heap[k]? = w.heap[k]? := by
  unfold putA
  rw [Below.heap_setCell _ ⟨a.block, a.off + 10, none⟩ _ _ h, Below.heap_setCell _ ⟨a.block, a.off + 9, none⟩ _ _ h, Below.heap_setCell _ ⟨a.block, a.off + 8, none⟩ _ _ h, Below.heap_setCell _ ⟨a.block, a.off + 7, none⟩ _ _ h, Below.heap_setCell _ ⟨a.block, a.off + 6, none⟩ _ _ h, Below.heap_setCell _ ⟨a.block, a.off + 5, none⟩ _ _ h, Below.heap_setCell _ ⟨a.block, a.off + 4, none⟩ _ _ h, Below.heap_setCell _ ⟨a.block, a.off + 3, none⟩ _ _ h, Below.heap_setCell _ ⟨a.block, a.off + 2, none⟩ _ _ h, Below.heap_setCell _ ⟨a.block, a.off + 1, none⟩ _ _ h, Below.heap_setCell _ a _ _ h]
theorem below_putA {B : Nat} {w0 w : World} {a : Addr} (s : Sp) (h : Below B w0 w) (hg : B ≤ a.block) : Below B w0 (putA w a s) :=
  (((((((((((h.setCell hg _).setCell (p := ⟨a.block, a.off + 1, none⟩) hg _).setCell (p := ⟨a.block, a.off + 2, none⟩) hg _).setCell (p := ⟨a.block, a.off + 3, none⟩) hg _).setCell (p := ⟨a.block, a.off + 4, none⟩) hg _).setCell (p := ⟨a.block, a.off + 5, none⟩) hg _).setCell (p := ⟨a.block, a.off + 6, none⟩) hg _).setCell (p := ⟨a.block, a.off + 7, none⟩) hg _).setCell (p := ⟨a.block, a.off + 8, none⟩) hg _).setCell (p := ⟨a.block, a.off + 9, none⟩) hg _).setCell (p := ⟨a.block, a.off + 10, none⟩) hg _)
theorem putA_same {w : World} {g o : Nat} {cur : Array Value} {t : TypeId} (s : Sp) (h : w.heap[g]? = some (.cells cur t (0, 0))) : (putA w ⟨g, o, none⟩ s).heap[g]? = some (.cells (arrA cur o s) t (0, 0)) := by
  have h' := blk_set (blk_set (blk_set (blk_set (blk_set (blk_set (blk_set (blk_set (blk_set (blk_set (blk_set (h) (o + 0) (.int .u64 s.tr)) (o + 1) (.int .u64 s.id)) (o + 2) (.int .u64 s.par)) (o + 3) (.string s.svc)) (o + 4) (.string s.op)) (o + 5) (.int .i64 s.st)) (o + 6) (.int .i64 s.du)) (o + 7) (.int .i64 s.stt)) (o + 8) (.slice s.a.1 s.a.2.1 s.a.2.2)) (o + 9) (.slice s.e.1 s.e.2.1 s.e.2.2)) (o + 10) (.slice s.l.1 s.l.2.1 s.l.2.2)
  unfold putA arrA
  exact h'
theorem arrA_size (cur : Array Value) (o : Nat) (s : Sp) : (arrA cur o s).size = cur.size := by
  unfold arrA
  simp only [Array.size_setIfInBounds]
theorem arrA_ne {cur : Array Value} {o t : Nat} (s : Sp) (h : t < o ∨ o + 11 ≤ t) : (arrA cur o s)[t]? = cur[t]? := by
  unfold arrA
  iterate 11 rw [Array.getElem?_setIfInBounds_ne (by omega)]
theorem arrA_at {cur : Array Value} {o : Nat} (s : Sp) (h : o + 11 ≤ cur.size) (q : Nat) (hq : q < 11) : (arrA cur o s)[o + q]? = (encS s)[q]? := by
  have hc : q = 0 ∨ q = 1 ∨ q = 2 ∨ q = 3 ∨ q = 4 ∨ q = 5 ∨ q = 6 ∨ q = 7 ∨ q = 8 ∨ q = 9 ∨ q = 10 := by omega
  unfold arrA
  rcases hc with rfl | rfl | rfl | rfl | rfl | rfl | rfl | rfl | rfl | rfl | rfl
  · rw [Array.getElem?_setIfInBounds_ne (by omega)]; rw [Array.getElem?_setIfInBounds_ne (by omega)]; rw [Array.getElem?_setIfInBounds_ne (by omega)]; rw [Array.getElem?_setIfInBounds_ne (by omega)]; rw [Array.getElem?_setIfInBounds_ne (by omega)]; rw [Array.getElem?_setIfInBounds_ne (by omega)]; rw [Array.getElem?_setIfInBounds_ne (by omega)]; rw [Array.getElem?_setIfInBounds_ne (by omega)]; rw [Array.getElem?_setIfInBounds_ne (by omega)]; rw [Array.getElem?_setIfInBounds_ne (by omega)]; rw [Array.getElem?_setIfInBounds_self_of_lt (by first | omega | (simp only [Array.size_setIfInBounds]; omega))]; rfl
  · rw [Array.getElem?_setIfInBounds_ne (by omega)]; rw [Array.getElem?_setIfInBounds_ne (by omega)]; rw [Array.getElem?_setIfInBounds_ne (by omega)]; rw [Array.getElem?_setIfInBounds_ne (by omega)]; rw [Array.getElem?_setIfInBounds_ne (by omega)]; rw [Array.getElem?_setIfInBounds_ne (by omega)]; rw [Array.getElem?_setIfInBounds_ne (by omega)]; rw [Array.getElem?_setIfInBounds_ne (by omega)]; rw [Array.getElem?_setIfInBounds_ne (by omega)]; rw [Array.getElem?_setIfInBounds_self_of_lt (by first | omega | (simp only [Array.size_setIfInBounds]; omega))]; rfl
  · rw [Array.getElem?_setIfInBounds_ne (by omega)]; rw [Array.getElem?_setIfInBounds_ne (by omega)]; rw [Array.getElem?_setIfInBounds_ne (by omega)]; rw [Array.getElem?_setIfInBounds_ne (by omega)]; rw [Array.getElem?_setIfInBounds_ne (by omega)]; rw [Array.getElem?_setIfInBounds_ne (by omega)]; rw [Array.getElem?_setIfInBounds_ne (by omega)]; rw [Array.getElem?_setIfInBounds_ne (by omega)]; rw [Array.getElem?_setIfInBounds_self_of_lt (by first | omega | (simp only [Array.size_setIfInBounds]; omega))]; rfl
  · rw [Array.getElem?_setIfInBounds_ne (by omega)]; rw [Array.getElem?_setIfInBounds_ne (by omega)]; rw [Array.getElem?_setIfInBounds_ne (by omega)]; rw [Array.getElem?_setIfInBounds_ne (by omega)]; rw [Array.getElem?_setIfInBounds_ne (by omega)]; rw [Array.getElem?_setIfInBounds_ne (by omega)]; rw [Array.getElem?_setIfInBounds_ne (by omega)]; rw [Array.getElem?_setIfInBounds_self_of_lt (by first | omega | (simp only [Array.size_setIfInBounds]; omega))]; rfl
  · rw [Array.getElem?_setIfInBounds_ne (by omega)]; rw [Array.getElem?_setIfInBounds_ne (by omega)]; rw [Array.getElem?_setIfInBounds_ne (by omega)]; rw [Array.getElem?_setIfInBounds_ne (by omega)]; rw [Array.getElem?_setIfInBounds_ne (by omega)]; rw [Array.getElem?_setIfInBounds_ne (by omega)]; rw [Array.getElem?_setIfInBounds_self_of_lt (by first | omega | (simp only [Array.size_setIfInBounds]; omega))]; rfl
  · rw [Array.getElem?_setIfInBounds_ne (by omega)]; rw [Array.getElem?_setIfInBounds_ne (by omega)]; rw [Array.getElem?_setIfInBounds_ne (by omega)]; rw [Array.getElem?_setIfInBounds_ne (by omega)]; rw [Array.getElem?_setIfInBounds_ne (by omega)]; rw [Array.getElem?_setIfInBounds_self_of_lt (by first | omega | (simp only [Array.size_setIfInBounds]; omega))]; rfl
  · rw [Array.getElem?_setIfInBounds_ne (by omega)]; rw [Array.getElem?_setIfInBounds_ne (by omega)]; rw [Array.getElem?_setIfInBounds_ne (by omega)]; rw [Array.getElem?_setIfInBounds_ne (by omega)]; rw [Array.getElem?_setIfInBounds_self_of_lt (by first | omega | (simp only [Array.size_setIfInBounds]; omega))]; rfl
  · rw [Array.getElem?_setIfInBounds_ne (by omega)]; rw [Array.getElem?_setIfInBounds_ne (by omega)]; rw [Array.getElem?_setIfInBounds_ne (by omega)]; rw [Array.getElem?_setIfInBounds_self_of_lt (by first | omega | (simp only [Array.size_setIfInBounds]; omega))]; rfl
  · rw [Array.getElem?_setIfInBounds_ne (by omega)]; rw [Array.getElem?_setIfInBounds_ne (by omega)]; rw [Array.getElem?_setIfInBounds_self_of_lt (by first | omega | (simp only [Array.size_setIfInBounds]; omega))]; rfl
  · rw [Array.getElem?_setIfInBounds_ne (by omega)]; rw [Array.getElem?_setIfInBounds_self_of_lt (by first | omega | (simp only [Array.size_setIfInBounds]; omega))]; rfl
  · rw [Array.getElem?_setIfInBounds_self_of_lt (by first | omega | (simp only [Array.size_setIfInBounds]; omega))]; rfl

theorem add_at (g i : Nat) : (⟨g, 0, none⟩ : Addr).add i = ⟨g, i, none⟩ := by unfold Addr.add; split <;> simp_all
/-- A row whose block is known. -/
theorem row_open {w : World} {base c : Nat} {ad : Addr} {n : Nat} {ys : List Sp} (h : Kd.R kS 34 w base (fun _ => True) (.slice (some ad) n c) ys) (h0 : 0 < ys.length) : ∃ g cur, ad = ⟨g, 0, none⟩ ∧ n = ys.length ∧ base ≤ g ∧ w.heap[g]? = some (.cells cur 34 (0, 0)) ∧ ys.length ≤ c ∧ c ≤ maxLen ∧ cur.size = c * 11 ∧ ∀ j p, ys[j]? = some p → ((cur.toList.take (ys.length * 11)).drop (j * 11)).take 11 = encS p := by
  have hn := (Kd.R_reads' h).1
  obtain ⟨hok, inner, ⟨hl, ho⟩, hr⟩ := h
  rcases ho with ⟨h1, _⟩ | ⟨g, cap, cur, h1, hg, hh, hnc, hcm, hcs, ht⟩
  · cases h1
  · injection h1 with e1 e2 e3
    injection e1 with e1
    subst e3
    exact ⟨g, cur, e1, hn, hg, hh, hnc, hcm, hcs, fun j p hj => by
      have := hr.2 j p hj
      rw [← ht] at this
      exact this⟩
theorem row_close {w : World} {base c : Nat} {g n : Nat} {cur : Array Value} {ys : List Sp} (hn : n = ys.length) (hg : base ≤ g) (hh : w.heap[g]? = some (.cells cur 34 (0, 0))) (hnc : ys.length ≤ c) (hcm : c ≤ maxLen) (hcs : cur.size = c * 11) (hr : ∀ j p, ys[j]? = some p → ∀ q, q < 11 → cur[j * 11 + q]? = (encS p)[q]?) : Kd.R kS 34 w base (fun _ => True) (.slice (some ⟨g, 0, none⟩) n c) ys := by
  subst hn
  have hle : ys.length * 11 ≤ cur.size := by rw [hcs]; exact Nat.mul_le_mul_right 11 hnc
  have hlen : (cur.toList.take (ys.length * 11)).length = ys.length * 11 := by
    rw [List.length_take]
    show min (ys.length * 11) cur.size = ys.length * 11
    exact Nat.min_eq_left hle
  refine ⟨fun _ _ => trivial, cur.toList.take (ys.length * 11), ⟨hlen, .inr ⟨g, c, cur, rfl, hg, hh, hnc, hcm, hcs, rfl⟩⟩, hlen, fun j p hj => ?_⟩
  have hjl := (List.getElem?_eq_some_iff.1 hj).1
  show ((cur.toList.take (ys.length * 11)).drop (j * 11)).take 11 = encS p
  refine List.ext_getElem? fun q => ?_
  rw [List.getElem?_take]
  by_cases hq : q < 11
  · rw [if_pos hq, List.getElem?_drop, List.getElem?_take, if_pos (by omega), Array.getElem?_toList]
    exact hr j p hj q hq
  · rw [if_neg hq]
    exact (List.getElem?_eq_none (by rw [encS_len]; omega)).symm
theorem chunk_get {cur : Array Value} {n j : Nat} {p : Sp} (hj : j < n) (h : ((cur.toList.take (n * 11)).drop (j * 11)).take 11 = encS p) (q : Nat) (hq : q < 11) : cur[j * 11 + q]? = (encS p)[q]? := by
  have h1 := congrArg (fun l : List Value => l[q]?) h
  rw [List.getElem?_take, if_pos hq, List.getElem?_drop, List.getElem?_take, if_pos (by omega), Array.getElem?_toList] at h1
  exact h1
/-- One element of a row of one's own, stored. -/
theorem row_put {w : World} {base c n : Nat} {ad : Addr} {ys : List Sp} (h : Kd.R kS 34 w base (fun _ => True) (.slice (some ad) n c) ys) {i : Nat} (hi : i < ys.length) (s : Sp) :
    Kd.R kS 34 (putA w (ad.add (i * 11)) s) base (fun _ => True) (.slice (some ad) n c) (ys.set i s) ∧ Below base w (putA w (ad.add (i * 11)) s) ∧ (∀ k : Nat, k < 11 → w.frozen? ⟨(ad.add (i * 11)).block, (ad.add (i * 11)).off + k, none⟩ = false) ∧ w.frozen? (ad.add (i * 11)) = false := by
  obtain ⟨g, cur, rfl, hn, hg, hh, hnc, hcm, hcs, hr⟩ := row_open h (by omega)
  rw [add_at]
  have hsz : i * 11 + 11 ≤ cur.size := by rw [hcs]; have := Nat.mul_le_mul_right 11 (show i + 1 ≤ c by omega); omega
  have hps := putA_same (o := i * 11) s hh
  have hbp : Below base w (putA w ⟨g, i * 11, none⟩ s) := below_putA s (Below.refl base w) hg
  have hpf : ∀ k : Nat, w.frozen? ⟨g, i * 11 + k, none⟩ = false := fun k => blk_frozen hh _
  have has := arrA_size cur (i * 11) s
  have hae := fun t => arrA_ne (cur := cur) (o := i * 11) (t := t) s
  have haa := arrA_at (cur := cur) (o := i * 11) s hsz
  clear hh
  generalize putA w ⟨g, i * 11, none⟩ s = w1 at hps hbp ⊢
  generalize arrA cur (i * 11) s = cur1 at hps has hae haa
  refine ⟨row_close (by rw [List.length_set]; exact hn) hg hps (by rw [List.length_set]; exact hnc) hcm (by rw [has]; exact hcs) (fun j p hj q hq => ?_), hbp, fun k _ => hpf k, hpf 0⟩
  by_cases hji : j = i
  · subst hji
    rw [List.getElem?_set_self hi] at hj
    injection hj with hj
    rw [haa q hq, hj]
  · rw [List.getElem?_set_ne (fun e => hji e.symm)] at hj
    have hjl := (List.getElem?_eq_some_iff.1 hj).1
    rw [hae _ (by omega)]
    exact chunk_get hjl (hr j p hj) q hq
/-- The rest of a row of one's own, cleared. -/
theorem row_clear {w : World} {base c n : Nat} {ad : Addr} {ys : List Sp} (h : Kd.R kS 34 w base (fun _ => True) (.slice (some ad) n c) ys) {i : Nat} (hi : i < ys.length) (cc : Nat) :
    ∃ W, (∀ ty, (Builtin.clear_ #[25] ty #[.slice (some (ad.add (i * 11))) (n - i) cc]).run Try.prog w = .ok (.tuple #[]) W) ∧ Kd.R kS 34 W base (fun _ => True) (.slice (some ad) i c) (ys.take i) ∧ Below base w W := by
  obtain ⟨g, cur, rfl, hn, hg, hh, hnc, hcm, hcs, hr⟩ := row_open h (by omega)
  rw [add_at]
  have hz : (Builtin.zeroCells (encS zS).toArray (n - i)).toList.length = (n - i) * 11 := by
    rw [Array.length_toList, size_zeroCells]
    rfl
  have hle : i * 11 + 0 + (Builtin.zeroCells (encS zS).toArray (n - i)).toList.length ≤ cur.size := by
    rw [hz, hcs, Nat.add_zero, ← Nat.add_mul]
    exact Nat.mul_le_mul_right 11 (by omega)
  have hone : ∀ v ∈ (Builtin.zeroCells (encS zS).toArray (n - i)).toList, v.oneCell' = true := by
    intro v hv
    simp only [Builtin.zeroCells, Array.toList_map, List.mem_map] at hv
    obtain ⟨t, _, rfl⟩ := hv
    have ht : t % (encS zS).toArray.size < (encS zS).toArray.size := Nat.mod_lt _ (by decide)
    rw [getElem!_pos (encS zS).toArray (t % (encS zS).toArray.size) ht]
    exact encS_one zS _ (List.getElem_mem _)
  have hrun := run_storeCells_at (P := Try.prog) g (i * 11) 34 _ 0 cur w hh hle hone
  have hlen : (cur.toList.take (i * 11 + 0) ++ (Builtin.zeroCells (encS zS).toArray (n - i)).toList ++ cur.toList.drop (i * 11 + 0 + (Builtin.zeroCells (encS zS).toArray (n - i)).toList.length)).toArray.size = c * 11 := by
    rw [← hcs]
    show (cur.toList.take (i * 11 + 0) ++ (Builtin.zeroCells (encS zS).toArray (n - i)).toList ++ cur.toList.drop (i * 11 + 0 + (Builtin.zeroCells (encS zS).toArray (n - i)).toList.length)).length = cur.toList.length
    have hle' : i * 11 + 0 + (Builtin.zeroCells (encS zS).toArray (n - i)).toList.length ≤ cur.toList.length := hle
    rw [List.length_append, List.length_append, List.length_take, List.length_drop]
    omega
  refine ⟨_, fun ty => ?_, row_close (w := w.setRow g _) (by rw [List.length_take]; omega) hg (setRow_heap w g cur _ 34 (0, 0) hh) (by rw [List.length_take]; omega) hcm hlen (fun j p hj q hq => ?_), ⟨rfl, rfl, rfl, by simp, fun k hk => setRow_other w g k _ (by omega)⟩⟩
  · obtain ⟨m, hm⟩ : ∃ m, n - i = m + 1 := ⟨n - i - 1, by omega⟩
    rw [hm] at hrun ⊢
    have hz2 : (Value.agg #[.int .u64 0, .int .u64 0, .int .u64 0, .string ⟨#[]⟩, .string ⟨#[]⟩, .int .i64 0, .int .i64 0, .int .i64 0, .slice none 0 0, .slice none 0 0, .slice none 0 0]).cells = (encS zS).toArray := rfl
    simp [Builtin.clear_, run_underlying Try.underlying25, Result.andThen, Try.zeroValue34, hz2, hrun]
  · rw [List.getElem?_take] at hj
    split at hj
    · rename_i hji
      have hjl := (List.getElem?_eq_some_iff.1 hj).1
      rw [← chunk_get hjl (hr j p hj) q hq]
      rw [List.getElem?_toArray, List.append_assoc, List.getElem?_append_left (by rw [List.length_take]; show _ < min _ cur.size; omega), List.getElem?_take, if_pos (by omega), Array.getElem?_toList]
    · cases hj

def nilS : S34 := ⟨0, 0, 0, ⟨#[]⟩, ⟨#[]⟩, 0, 0, 0, [], [], []⟩
/-- A row of one's own, as the sort wants it. -/
theorem holds_of {w : World} {g cap : Nat} {cur : Array Value} {xs : List Sp} (hh : w.heap[g]? = some (.cells cur 34 (0, 0))) (hnc : xs.length ≤ cap) (hcs : cur.size = cap * 11)
    (hr : ∀ (j : Nat) (p : Sp), xs[j]? = some p → ((cur.toList.take (xs.length * 11)).drop (j * 11)).take 11 = encS p) : HoldsK encS 11 w g 0 xs.toArray := by
  intro t ht
  rw [size_flatK] at ht
  have ht : t < xs.length * 11 := by simpa using ht
  have hq : t / 11 < xs.length := by omega
  have hp := hr (t / 11) _ (List.getElem?_eq_getElem hq)
  have hcell : w.cell? ⟨g, 0 + t, none⟩ = cur[t]? := by rw [Nat.zero_add]; exact cell_of_row w g t _ _ _ hh
  refine ⟨?_, by rw [Nat.zero_add]; exact blk_frozen hh t⟩
  rw [hcell]
  have hlt : t < cur.size := by rw [hcs]; have := Nat.mul_le_mul_right 11 hnc; omega
  have h1 := congrArg (fun l : List Value => l[t % 11]?) hp
  rw [List.getElem?_take, if_pos (Nat.mod_lt _ (by omega)), List.getElem?_drop, List.getElem?_take, if_pos (by omega), show t / 11 * 11 + t % 11 = t by omega, Array.getElem?_toList] at h1
  rw [h1]
  show (encS xs[t / 11])[t % 11]? = some (flatK encS 11 xs.toArray)[t]!
  rw [get_flatK _ _ _ _ (by simpa using ht)]
  have e : xs.toArray[t / 11]! = xs[t / 11] := by simp [hq]
  rw [e]
  have hm : t % 11 < (encS xs[t / 11]).length := Nat.mod_lt _ (by decide)
  rw [List.getElem?_eq_getElem hm, getElem!_pos (encS xs[t / 11]) (t % 11) hm]

end Go.Proofs.Ytffggkhahambhaa.Tr

namespace Go.Proofs.Ytffggkhahambhaa.MapG
open Go.RowKit Go.Proofs.YtffggkhahambhaaW.PrintWords Go.Proofs.YtffggkhahambhaaW.PrintLast Go.Proofs.YtffggkhahambhaaW.PrintMore Go.Proofs.Ytffggkhahambhaa.Math
open Go.MapKept (Stamped IsKey stamped_empty stamped_push stamped_modify stamped_iff findNow_spec)
open Go.ChangeMaps (setBlock)
set_option linter.unusedVariables false
set_option linter.unusedSimpArgs false

/-- Keys of a kind. -/
structure MKey {α : Type} (d : TypeDesc) (enc : α → Value) : Prop where
  key : ∀ k, IsKey d (enc k)
  inj : ∀ a b, enc a = enc b → a = b
  bits : ∀ k, Instr.sameBits 10000 (enc k) (enc k) = true
theorem bytes_beq (x : ByteArray) : (x == x) = true := by
  show (x.data == x.data) = true
  exact beq_self_eq_true _
theorem mkey_string : MKey .string Value.string := ⟨fun _ => trivial, fun a b h => by injection h, fun x => by
  show (x == x) = true
  exact bytes_beq x⟩
section
variable {α : Type} {d : TypeDesc} {enc : α → Value}
/-- The entries hold just what 'f' tells. -/
structure MOk (enc : α → Value) (es : Array MapEntry) (clk : Nat) (f : α → Option Value) : Prop where
  st : Stamped es clk
  keys : ∀ x ∈ es.toList, ∃ k, x.key = enc k ∧ f k = some x.val
  find : ∀ k v, f k = some v → ∃ x ∈ es.toList, x.key = enc k ∧ x.val = v
theorem MOk.empty (enc : α → Value) (clk : Nat) : MOk enc #[] clk (fun _ => none) := ⟨stamped_empty clk, fun x hx => by simp at hx, fun k v h => by cases h⟩
theorem MOk.isKey (hK : MKey d enc) {es : Array MapEntry} {clk : Nat} {f : α → Option Value} (h : MOk enc es clk f) : ∀ x ∈ es.toList, IsKey d x.key := by
  intro x hx
  obtain ⟨k, hk, _⟩ := h.keys x hx
  rw [hk]
  exact hK.key k
theorem MOk.look (hK : MKey d enc) {es : Array MapEntry} {clk : Nat} {f : α → Option Value} (h : MOk enc es clk f) (k : α) :
    (Instr.findNow d (enc k) es.toList 0 = some none ∧ f k = none ∧ ∀ x ∈ es.toList, x.key ≠ enc k) ∨
    ∃ j e, Instr.findNow d (enc k) es.toList 0 = some (some (j, e.val)) ∧ es.toList[j]? = some e ∧ e.key = enc k ∧ f k = some e.val := by
  rcases findNow_spec (d := d) (k := enc k) (hK.key k) es.toList 0 (h.isKey hK) with ⟨h1, h2⟩ | ⟨j, e, h1, h2, h3⟩
  · refine Or.inl ⟨h1, ?_, h2⟩
    cases hf : f k with
    | none => rfl
    | some v =>
      obtain ⟨x, hx, hk, _⟩ := h.find k v hf
      exact absurd hk (h2 x hx)
  · refine Or.inr ⟨j, e, by rw [Nat.zero_add] at h1; exact h1, h2, h3, ?_⟩
    obtain ⟨k', hk', hf⟩ := h.keys e (List.mem_of_getElem? h2)
    rw [h3] at hk'
    rw [hK.inj _ _ hk']
    exact hf
theorem run_look {P : Program} (hKy : MKey d enc) {T K E : TypeId} (hT : P.underlying T = some (.map K E)) (hK : P.underlying K = some d) (z : Value) (w : World) (hz : (zeroValue E).run P w = .ok z w) {gm : Nat} {es : Array MapEntry} {clk : Nat} {f : α → Option Value}
    (hm : w.heap[gm]? = some (.map es clk)) (h : MOk enc es clk f) (k : α) :
    (Instr.lookup T (.map (some gm)) (enc k) true).run P w = .ok (.tuple #[(f k).getD z, .bool (f k).isSome]) w := by
  have hck : ∀ e, (Instr.checkKey e 10000 K (enc k)).run P w = .ok () w := fun e => Go.MapKept.run_checkKey (d := d) (k := enc k) hK (hKy.key k) e 9999
  rcases h.look hKy k with ⟨h1, h2, _⟩ | ⟨j, e, h1, _, _, h4⟩
  · simp [Instr.lookup, run_underlying hT, Go.MapKept.run_getObj_map hm, Result.andThen, hck, Go.MapKept.run_findKey hK h1, hz, h2]
  · simp [Instr.lookup, run_underlying hT, Go.MapKept.run_getObj_map hm, Result.andThen, hck, Go.MapKept.run_findKey hK h1, h4]
theorem run_put {P : Program} (hKy : MKey d enc) [DecidableEq α] {T K E : TypeId} (hT : P.underlying T = some (.map K E)) (hK : P.underlying K = some d) (w : World) {gm : Nat} {es : Array MapEntry} {clk : Nat} {f : α → Option Value}
    (hm : w.heap[gm]? = some (.map es clk)) (h : MOk enc es clk f) (k : α) (v : Value) :
    ∃ es' clk', (Instr.mapUpdate T (.map (some gm)) (enc k) v).run P w = .ok () (setBlock w gm (.map es' clk')) ∧ MOk enc es' clk' (fun k' => if k' = k then some v else f k') ∧ es'.size = if (f k).isSome = true then es.size else es.size + 1 := by
  have hck : ∀ e, (Instr.checkKey e 10000 K (enc k)).run P w = .ok () w := fun e => Go.MapKept.run_checkKey (d := d) (k := enc k) hK (hKy.key k) e 9999
  rcases h.look hKy k with ⟨h1, h2, h3⟩ | ⟨j, e, h1, hj, h3, h4⟩
  · refine ⟨es.push { key := enc k, val := v, born := clk }, clk + 1, ?_, ⟨stamped_push h.st h3, ?_, ?_⟩, ?_⟩
    · simp [Instr.mapUpdate, run_underlying hT, Go.MapKept.run_getObj_map hm, Result.andThen, hck, Go.MapKept.run_findKey hK h1, Go.MapKept.run_setObj_map _ hm, setBlock]
    · intro x hx
      simp only [Array.toList_push, List.mem_append, List.mem_singleton] at hx
      rcases hx with hx | rfl
      · obtain ⟨k', hk', hf⟩ := h.keys x hx
        refine ⟨k', hk', ?_⟩
        rw [if_neg (fun hkk => h3 x hx (by rw [hk', hkk]))]
        exact hf
      · exact ⟨k, rfl, if_pos rfl⟩
    · intro k' v' hf
      by_cases hkk : k' = k
      · subst hkk
        rw [if_pos rfl] at hf
        injection hf with hf
        exact ⟨{ key := enc k', val := v, born := clk }, by simp, rfl, hf⟩
      · rw [if_neg hkk] at hf
        obtain ⟨x, hx, hk', hv⟩ := h.find k' v' hf
        exact ⟨x, by simp [Array.mem_toList_iff.1 hx], hk', hv⟩
    · rw [h2]
      simp
  · have hjl : es[j]? = some e := by rw [← Array.getElem?_toList]; exact hj
    have hks : (Instr.keyThatStays e.key (enc k)).run P w = .ok (enc k) w := by rw [h3]; simp [Instr.keyThatStays, hKy.bits k]
    have hstay : Stamped (es.modify j fun x => { x with key := enc k, val := v }) clk := stamped_modify h.st j _ (fun _ _ => rfl) (fun x _ hx => by rw [hjl] at hx; injection hx with hx; rw [← hx]; exact h3.symm)
    refine ⟨es.modify j fun x => { x with key := enc k, val := v }, clk, ?_, ⟨hstay, ?_, ?_⟩, ?_⟩
    · simp [Instr.mapUpdate, run_underlying hT, Go.MapKept.run_getObj_map hm, Result.andThen, hck, Go.MapKept.run_findKey hK h1, hjl, hks, Go.MapKept.run_setObj_map _ hm, setBlock]
    · intro x hx
      obtain ⟨i, hi⟩ := List.mem_iff_getElem?.1 hx
      rw [Array.getElem?_toList, Array.getElem?_modify] at hi
      by_cases hij : j = i
      · subst hij
        rw [if_pos rfl, hjl] at hi
        injection hi with hi
        subst hi
        exact ⟨k, rfl, if_pos rfl⟩
      · rw [if_neg hij] at hi
        have hxm : x ∈ es.toList := by rw [← Array.getElem?_toList] at hi; exact List.mem_of_getElem? hi
        obtain ⟨k', hk', hf⟩ := h.keys x hxm
        refine ⟨k', hk', ?_⟩
        rw [if_neg ?_]
        · exact hf
        · intro hkk
          have hnd := ((stamped_iff es clk).1 h.st).2.2
          have hil : i < es.toList.length := by rw [Array.getElem?_eq_some_iff] at hi; obtain ⟨h', _⟩ := hi; simpa using h'
          have hjl' : j < es.toList.length := (List.getElem?_eq_some_iff.1 hj).1
          have hei : es.toList[i] = x := by have := (List.getElem?_eq_some_iff.1 (show es.toList[i]? = some x by rw [Array.getElem?_toList]; exact hi)).2; exact this
          have hej : es.toList[j] = e := (List.getElem?_eq_some_iff.1 hj).2
          rcases Nat.lt_or_gt_of_ne hij with hlt | hlt
          · exact (List.pairwise_iff_getElem.1 hnd j i hjl' hil hlt) (by rw [hei, hej, h3, hk', hkk])
          · exact (List.pairwise_iff_getElem.1 hnd i j hil hjl' hlt) (by rw [hei, hej, h3, hk', hkk])
    · intro k' v' hf
      by_cases hkk : k' = k
      · subst hkk
        rw [if_pos rfl] at hf
        injection hf with hf
        refine ⟨{ e with key := enc k', val := v }, List.mem_of_getElem? (i := j) ?_, rfl, hf⟩
        rw [Array.getElem?_toList, Array.getElem?_modify, if_pos rfl, hjl]
        rfl
      · rw [if_neg hkk] at hf
        obtain ⟨x, hx, hk', hv⟩ := h.find k' v' hf
        obtain ⟨i, hi⟩ := List.mem_iff_getElem?.1 hx
        have hij : j ≠ i := by
          rintro rfl
          rw [hj] at hi
          injection hi with hi
          rw [← hi, h3] at hk'
          exact hkk (hKy.inj _ _ hk'.symm)
        refine ⟨x, List.mem_of_getElem? (i := i) ?_, hk', hv⟩
        rw [Array.getElem?_toList, Array.getElem?_modify, if_neg hij, ← Array.getElem?_toList]
        exact hi
    · rw [h4]
      simp
theorem heap_setBlock (w : World) (g k : Nat) (o : Obj) : (setBlock w g o).heap[k]? = if g = k ∧ k < w.heap.size then some o else w.heap[k]? := by
  simp only [setBlock]
  rw [Array.getElem?_setIfInBounds]
  by_cases h : g = k
  · subst h
    by_cases hl : g < w.heap.size
    · simp [hl]
    · simp [hl]
  · simp [h]
theorem size_setBlock (w : World) (g : Nat) (o : Obj) : (setBlock w g o).heap.size = w.heap.size := by simp [setBlock]
end
end Go.Proofs.Ytffggkhahambhaa.MapG

namespace Go.Proofs.Ytffggkhahambhaa.Tr
open Go.RowKit Go.Proofs.YtffggkhahambhaaW.PrintWords Go.Proofs.YtffggkhahambhaaW.PrintLast Go.Proofs.YtffggkhahambhaaW.PrintMore Go.Proofs.Ytffggkhahambhaa.Math Go.Proofs.Ytffggkhahambhaa.PAll Go.Proofs.Ytffggkhahambhaa.MapG
open Go.ChangeMaps (setBlock)
set_option linter.unusedVariables false
set_option linter.unusedSimpArgs false
/-- A span's numbers, by their names. -/
def numF (s : Sp) (k : ByteArray) : Option Value := if k = (⟨#[112, 97, 114, 101, 110, 116]⟩ : ByteArray) then some (.int .u64 s.par) else if k = (⟨#[105, 100]⟩ : ByteArray) then some (.int .u64 s.id) else if k = (⟨#[116, 114, 97, 99, 101]⟩ : ByteArray) then some (.int .u64 s.tr) else if k = (⟨#[115, 116, 97, 114, 116]⟩ : ByteArray) then some (.int .u64 (IntKind.u64.wrap s.st)) else if k = (⟨#[100, 117, 114]⟩ : ByteArray) then some (.int .u64 (IntKind.u64.wrap s.du)) else if k = (⟨#[115, 116, 97, 116, 117, 115]⟩ : ByteArray) then some (.int .u64 (IntKind.u64.wrap s.stt)) else none
theorem num_step {w W : World} {n : Nat} {o : Obj} {es : Array MapEntry} {clk : Nat} {f : ByteArray → Option Value} (hn : w.heap.size = n) (h1 : W.heap[n]? = some o) (h2 : W.heap[n + 1]? = some (.map es clk)) (hb : Below n w W) (hm : MOk Value.string es clk f) (k : ByteArray) (v : Value) :
    ∃ es' clk' W', (Instr.mapUpdate 64 (.map (some (n + 1))) (.string k) v).run Try.prog W = .ok () W' ∧ W'.heap[n]? = some o ∧ W'.heap[n + 1]? = some (.map es' clk') ∧ Below n w W' ∧ MOk Value.string es' clk' (fun k' => if k' = k then some v else f k') := by
  obtain ⟨es', clk', hp, hm', _⟩ := run_put (P := Try.prog) mkey_string Try.underlying64 Try.underlying9 W h2 hm k v
  have hlt : n + 1 < W.heap.size := by
    rcases Nat.lt_or_ge (n + 1) W.heap.size with h | h
    · exact h
    · rw [Array.getElem?_eq_none h] at h2; cases h2
  refine ⟨es', clk', _, hp, ?_, ?_, ⟨hb.os, hb.tape, hb.output, by rw [size_setBlock]; exact hb.size, fun k hk => ?_⟩, hm'⟩
  · rw [heap_setBlock, if_neg (fun e => by have := e.1; omega)]; exact h1
  · rw [heap_setBlock, if_pos ⟨rfl, hlt⟩]
  · rw [heap_setBlock, if_neg (fun e => by have := e.1; omega)]; exact hb.block k hk
set_option maxHeartbeats 4000000 in
set_option maxRecDepth 100000 in
theorem numbers_calls (s : Sp) (w : World) : Calls Try.prog 36 #[.agg (encS s).toArray] w fun e w' => ∃ g es clk, e = .returned (.map (some g)) ∧ w'.heap[g]? = some (.map es clk) ∧ MOk Value.string es clk (numF s) ∧ Below w.heap.size w w' := by
  obtain ⟨n, hn⟩ : ∃ n, w.heap.size = n := ⟨_, rfl⟩
  have sz : ∀ (W : World) (o : Obj), (W.alloc o).heap.size = W.heap.size + 1 := fun W o => by simp
  have h1 := block_below (heap_alloc_new w (.cells (encS s).toArray 34)) (below_alloc (Below.refl _ _) (.map #[] 0))
  have h2 := heap_alloc_new (w.alloc (.cells (encS s).toArray 34)) (.map #[] 0)
  rw [sz] at h2
  rw [hn] at h1 h2
  have hb : Below n w ((w.alloc (.cells (encS s).toArray 34)).alloc (.map #[] 0)) := by
    rw [← hn]
    exact below_alloc (below_alloc (Below.refl _ _) _) _
  rw [arr_S] at h1 h2 hb ⊢
  have y0 := ((blk_cell h1 7).trans rfl : ((w.alloc (.cells #[.int .u64 s.tr, .int .u64 s.id, .int .u64 s.par, .string s.svc, .string s.op, .int .i64 s.st, .int .i64 s.du, .int .i64 s.stt, .slice s.a.1 s.a.2.1 s.a.2.2, .slice s.e.1 s.e.2.1 s.e.2.2, .slice s.l.1 s.l.2.1 s.l.2.2] 34)).alloc (.map #[] 0)).cell? ⟨n, 7, none⟩ = some (.int .i64 s.stt))
  obtain ⟨es1, clk1, W1, hp1, b1, m1, hb1, mo1⟩ := num_step hn h1 h2 hb (MOk.empty Value.string 0) (⟨#[115, 116, 97, 116, 117, 115]⟩) (.int .u64 (IntKind.u64.wrap s.stt))
  have y1 : W1.cell? ⟨n, 6, none⟩ = some (.int .i64 s.du) := (blk_cell b1 6).trans rfl
  obtain ⟨es2, clk2, W2, hp2, b2, m2, hb2, mo2⟩ := num_step hn b1 m1 hb1 (mo1) (⟨#[100, 117, 114]⟩) (.int .u64 (IntKind.u64.wrap s.du))
  have y2 : W2.cell? ⟨n, 5, none⟩ = some (.int .i64 s.st) := (blk_cell b2 5).trans rfl
  obtain ⟨es3, clk3, W3, hp3, b3, m3, hb3, mo3⟩ := num_step hn b2 m2 hb2 (mo2) (⟨#[115, 116, 97, 114, 116]⟩) (.int .u64 (IntKind.u64.wrap s.st))
  have y3 : W3.cell? ⟨n, 0, none⟩ = some (.int .u64 s.tr) := (blk_cell b3 0).trans rfl
  obtain ⟨es4, clk4, W4, hp4, b4, m4, hb4, mo4⟩ := num_step hn b3 m3 hb3 (mo3) (⟨#[116, 114, 97, 99, 101]⟩) (.int .u64 s.tr)
  have y4 : W4.cell? ⟨n, 1, none⟩ = some (.int .u64 s.id) := (blk_cell b4 1).trans rfl
  obtain ⟨es5, clk5, W5, hp5, b5, m5, hb5, mo5⟩ := num_step hn b4 m4 hb4 (mo4) (⟨#[105, 100]⟩) (.int .u64 s.id)
  have y5 : W5.cell? ⟨n, 2, none⟩ = some (.int .u64 s.par) := (blk_cell b5 2).trans rfl
  obtain ⟨es6, clk6, W6, hp6, b6, m6, hb6, mo6⟩ := num_step hn b5 m5 hb5 (mo5) (⟨#[112, 97, 114, 101, 110, 116]⟩) (.int .u64 s.par)
  have MO := Lib.hid mo6
  have HM := Lib.hid m6
  have HB := Lib.hid hb6
  clear mo1 m1 hb1 mo2 m2 hb2 mo3 m3 hb3 mo4 m4 hb4 mo5 m5 hb5 mo6 m6 hb6 b1 b2 b3 b4 b5 b6 h1 h2 hb sz
  have HN := Lib.hid hn
  rw [← hn] at y0 hp1 y1 hp2 y2 hp3 y3 hp4 y4 hp5 y5 hp6
  clear hn
  have hmm := @run_makeMap Try.prog
  go_enter Try.func36, Try.ntmps36
  go_wp2
  go_ret
  exact ⟨_, es6, clk6, rfl, by rw [HN.out]; exact HM.out, MO.out, by rw [HN.out]; exact HB.out⟩
end Go.Proofs.Ytffggkhahambhaa.Tr

namespace Go.Proofs.Ytffggkhahambhaa.Span
open Go.RowKit Go.Proofs.YtffggkhahambhaaW.PrintWords Go.Proofs.YtffggkhahambhaaW.PrintLast Go.Proofs.YtffggkhahambhaaW.PrintMore Go.Proofs.Ytffggkhahambhaa.Math
set_option linter.unusedVariables false
set_option linter.unusedSimpArgs false
/-- What plain tells of a value. -/
def plainV (k : Int) (s : ByteArray) (n : Int) (b : Bool) : Value :=
  if k = 0 then .iface 9 (.string s) else if k = 1 then .iface 2 (.int .i64 n) else if k = 2 then .iface 4 (.bool b) else .nilIface
def val (k : Int) (s : ByteArray) (n : Int) (b : Bool) : Value := .agg #[.int .i64 k, .string s, .int .i64 n, .bool b]
theorem plain_calls (k : Int) (s : ByteArray) (n : Int) (b : Bool) (w : World) :
    Calls Try.prog 61 #[val k s n b] w fun e w' => e = .returned (plainV k s n b) ∧ Below w.heap.size w w' := by
  unfold val
  by_cases h0 : k = 0
  · subst h0
    go_enter Try.func61, Try.ntmps61
    go_wp2
    go_ret
    exact ⟨rfl, below_alloc (Below.refl _ _) _⟩
  · have h0b : (k == 0) = false := beq_eq_false_iff_ne.mpr h0
    by_cases h1 : k = 1
    · subst h1
      go_enter Try.func61, Try.ntmps61
      go_wp2
      go_ret
      exact ⟨rfl, below_alloc (Below.refl _ _) _⟩
    · have h1b : (k == 1) = false := beq_eq_false_iff_ne.mpr h1
      by_cases h2 : k = 2
      · subst h2
        go_enter Try.func61, Try.ntmps61
        go_wp2
        go_ret
        exact ⟨rfl, below_alloc (Below.refl _ _) _⟩
      · have h2b : (k == 2) = false := beq_eq_false_iff_ne.mpr h2
        go_enter Try.func61, Try.ntmps61
        go_wp2
        go_ret
        exact ⟨by unfold plainV; rw [if_neg h0, if_neg h1, if_neg h2]; rfl, below_alloc (Below.refl _ _) _⟩
section
variable (w : World)
theorem ta_s (s : ByteArray) (xT : TypeId) : (Instr.typeAssert (.iface 9 (.string s)) xT 9 true).run Try.prog w = .ok (.tuple #[.string s, .bool true]) w := by
  simp [Instr.typeAssert, run_underlying Try.underlying9]
theorem ta_s1 (s : ByteArray) (xT : TypeId) : (Instr.typeAssert (.iface 9 (.string s)) xT 9 false).run Try.prog w = .ok (.string s) w := by
  simp [Instr.typeAssert, run_underlying Try.underlying9]
theorem ta_n (n : Int) (xT : TypeId) : (Instr.typeAssert (.iface 2 (.int .i64 n)) xT 2 true).run Try.prog w = .ok (.tuple #[.int .i64 n, .bool true]) w := by
  simp [Instr.typeAssert, run_underlying Try.underlying2]
theorem ta_n1 (n : Int) (xT : TypeId) : (Instr.typeAssert (.iface 2 (.int .i64 n)) xT 2 false).run Try.prog w = .ok (.int .i64 n) w := by
  simp [Instr.typeAssert, run_underlying Try.underlying2]
theorem ta_b (b : Bool) (xT : TypeId) : (Instr.typeAssert (.iface 4 (.bool b)) xT 4 true).run Try.prog w = .ok (.tuple #[.bool b, .bool true]) w := by
  simp [Instr.typeAssert, run_underlying Try.underlying4]
theorem ta_b1 (b : Bool) (xT : TypeId) : (Instr.typeAssert (.iface 4 (.bool b)) xT 4 false).run Try.prog w = .ok (.bool b) w := by
  simp [Instr.typeAssert, run_underlying Try.underlying4]
theorem ta_sn (v : Value) (xT : TypeId) : (Instr.typeAssert (.iface 2 v) xT 9 true).run Try.prog w = .ok (.tuple #[.string ⟨#[]⟩, .bool false]) w := by
  simp [Instr.typeAssert, run_underlying Try.underlying9, Try.zeroValue9]
theorem ta_sb (v : Value) (xT : TypeId) : (Instr.typeAssert (.iface 4 v) xT 9 true).run Try.prog w = .ok (.tuple #[.string ⟨#[]⟩, .bool false]) w := by
  simp [Instr.typeAssert, run_underlying Try.underlying9, Try.zeroValue9]
theorem ta_snil (xT : TypeId) : (Instr.typeAssert .nilIface xT 9 true).run Try.prog w = .ok (.tuple #[.string ⟨#[]⟩, .bool false]) w := by
  simp [Instr.typeAssert, run_underlying Try.underlying9, Try.zeroValue9]
theorem ta_nb (v : Value) (xT : TypeId) : (Instr.typeAssert (.iface 4 v) xT 2 true).run Try.prog w = .ok (.tuple #[.int .i64 0, .bool false]) w := by
  simp [Instr.typeAssert, run_underlying Try.underlying2, Try.zeroValue2]
theorem ta_nnil (xT : TypeId) : (Instr.typeAssert .nilIface xT 2 true).run Try.prog w = .ok (.tuple #[.int .i64 0, .bool false]) w := by
  simp [Instr.typeAssert, run_underlying Try.underlying2, Try.zeroValue2]
theorem ta_bnil (xT : TypeId) : (Instr.typeAssert .nilIface xT 4 true).run Try.prog w = .ok (.tuple #[.bool false, .bool false]) w := by
  simp [Instr.typeAssert, run_underlying Try.underlying4, Try.zeroValue4]
end
end Go.Proofs.Ytffggkhahambhaa.Span

namespace Go.Proofs.Ytffggkhahambhaa.Span
open Go.RowKit Go.Proofs.YtffggkhahambhaaW.PrintWords Go.Proofs.YtffggkhahambhaaW.PrintLast Go.Proofs.YtffggkhahambhaaW.PrintMore Go.Proofs.Ytffggkhahambhaa.Math
open Go.Proofs.Ytffggkhahambhaa.PLow
attribute [local go_sem] ta_s ta_s1 ta_n ta_n1 ta_b ta_b1 ta_sn ta_sb ta_snil ta_nb ta_nnil ta_bnil
set_option linter.unusedVariables false
set_option linter.unusedSimpArgs false
def cmpI (a b : Int) : Int := if a < b then -1 else if a > b then 1 else 0
def b2i (b : Bool) : Int := if b = true then 1 else 0
/-- How two values stand. -/
def cmpV (k0 : Int) (s0 : ByteArray) (n0 : Int) (b0 : Bool) (k1 : Int) (s1 : ByteArray) (n1 : Int) (b1 : Bool) : Int × Bool :=
  if k0 = k1 then (if k0 = 0 then (Lib.compareBytes s0.data.toList s1.data.toList, true) else if k0 = 1 then (cmpI n0 n1, true) else if k0 = 2 then (cmpI (b2i b0) (b2i b1), true) else (0, false)) else (0, false)
theorem cmp64 (a b : Int) : cmp_Compare_int64.f a b = some (cmpI a b) := by
  unfold cmp_Compare_int64.f cmp_isNaN_int64.f cmpI
  simp
  split
  · rfl
  · split <;> rfl
theorem cmpInt (a b : Int) : cmp_Compare_int.f a b = some (cmpI a b) := by
  unfold cmp_Compare_int.f cmp_isNaN_int.f cmpI
  simp
  split
  · rfl
  · split <;> rfl
theorem orderB (b : Bool) : span_order.f b = some (b2i b) := by
  unfold span_order.f b2i
  split <;> rfl
theorem strcmp_calls (a b : ByteArray) (w : World) :
    Calls Try.prog 62 #[.string a, .string b] w fun e w' => e = .returned (.int .i64 (Lib.compareBytes a.data.toList b.data.toList)) ∧ w' = w := by
  have h := Any.strings_Compare Try.laysCompare a b w
  change Calls Try.prog 62 _ _ _ at h
  exact h
set_option maxHeartbeats 4000000 in
set_option maxRecDepth 100000 in
theorem compare_calls (k0 : Int) (s0 : ByteArray) (n0 : Int) (b0 : Bool) (k1 : Int) (s1 : ByteArray) (n1 : Int) (b1 : Bool) (w : World) :
    Calls Try.prog 41 #[val k0 s0 n0 b0, val k1 s1 n1 b1] w fun e w' => e = .returned (.tuple #[.int .i64 (cmpV k0 s0 n0 b0 k1 s1 n1 b1).1, .bool (cmpV k0 s0 n0 b0 k1 s1 n1 b1).2]) ∧ Below w.heap.size w w' := by
  by_cases hk : k0 = k1
  · subst hk
    have hkb : (k0 != k0) = false := bne_self_eq_false k0
    obtain ⟨X0, hX0⟩ : ∃ X, X = plainV k0 s0 n0 b0 := ⟨_, rfl⟩
    obtain ⟨X1, hX1⟩ : ∃ X, X = plainV k0 s1 n1 b1 := ⟨_, rfl⟩
    have hp0 : ∀ w, Calls Try.prog 61 #[.agg #[.int .i64 k0, .string s0, .int .i64 n0, .bool b0]] w fun e w' => e = .returned X0 ∧ Below w.heap.size w w' := fun w => by rw [hX0]; exact plain_calls k0 s0 n0 b0 w
    have hp1 : ∀ w, Calls Try.prog 61 #[.agg #[.int .i64 k0, .string s1, .int .i64 n1, .bool b1]] w fun e w' => e = .returned X1 ∧ Below w.heap.size w w' := fun w => by rw [hX1]; exact plain_calls k0 s1 n1 b1 w
    have HP0 := Lib.hid hp0
    have HP1 := Lib.hid hp1
    have HX0 := Lib.hid hX0
    have HX1 := Lib.hid hX1
    clear hp0 hp1 hX0 hX1
    have ha := heap_alloc2_old w (.cells #[.int .i64 k0, .string s0, .int .i64 n0, .bool b0] 39) (.cells #[.int .i64 k0, .string s1, .int .i64 n1, .bool b1] 39)
    have hb := heap_alloc2_new w (.cells #[.int .i64 k0, .string s0, .int .i64 n0, .bool b0] 39) (.cells #[.int .i64 k0, .string s1, .int .i64 n1, .bool b1] 39)
    have HBW := Lib.hid (below_alloc (below_alloc (Below.refl w.heap.size w) (.cells #[.int .i64 k0, .string s0, .int .i64 n0, .bool b0] 39)) (.cells #[.int .i64 k0, .string s1, .int .i64 n1, .bool b1] 39))
    have HA := Lib.hid ha
    have HB := Lib.hid hb
    clear ha hb
    unfold val
    go_enter Try.func41, Try.ntmps41
    go_wp2
    have ha := blk_drew HA.out
    have hb := blk_drew HB.out
    have hbw := HBW.out.drew
    clear HA HB HBW
    refine start_ (n := 6) (S := fun w' => w'.cell? ⟨w.heap.size, 0, none⟩ = some (.int .i64 k0) ∧ w'.cell? ⟨w.heap.size, 1, none⟩ = some (.string s0) ∧ w'.cell? ⟨w.heap.size, 2, none⟩ = some (.int .i64 n0) ∧ w'.cell? ⟨w.heap.size, 3, none⟩ = some (.bool b0) ∧ w'.cell? ⟨w.heap.size + 1, 0, none⟩ = some (.int .i64 k0) ∧ w'.cell? ⟨w.heap.size + 1, 1, none⟩ = some (.string s1) ∧ w'.cell? ⟨w.heap.size + 1, 2, none⟩ = some (.int .i64 n1) ∧ w'.cell? ⟨w.heap.size + 1, 3, none⟩ = some (.bool b1)) (ds := []) #[false, false, false, false, false, false] (by kernel_rfl) rfl rfl ⟨(blk_cell ha 0).trans rfl, (blk_cell ha 1).trans rfl, (blk_cell ha 2).trans rfl, (blk_cell ha 3).trans rfl, (blk_cell hb 0).trans rfl, (blk_cell hb 1).trans rfl, (blk_cell hb 2).trans rfl, (blk_cell hb 3).trans rfl⟩ (fun hHeld => ?_)
    generalize ((w.alloc (.cells #[.int .i64 k0, .string s0, .int .i64 n0, .bool b0] 39)).alloc (.cells #[.int .i64 k0, .string s1, .int .i64 n1, .bool b1] 39)).drew = w5 at ha hb hbw hHeld ⊢
    have HA5 := Lib.hid ha
    have HB5 := Lib.hid hb
    have HBW5 := Lib.hid hbw
    clear ha hb hbw
    refine take_ (i := 0) (N := some 19) (v := ?_) (a' := ?_) #[true, false, false, false, false, false] rfl rfl (by kernel_rfl) (fun _ _ _ h => h) (Or.inl ⟨by rfl, ?_⟩) hHeld ?_ ?_
    rotate_left
    · rintro w' ⟨s0, s1, s2, s3, s4, s5, s6, s7⟩
      go_simp
      with_reducible rfl
    rotate_left
    · simp only [Act.put, List.setIfInBounds_toArray, List.set_cons_zero, List.set_cons_succ, i64_w, i32_w]
      rfl
    refine take_ (i := 2) (N := some 21) (v := ?_) (a' := ?_) #[true, false, true, false, false, false] rfl rfl (by kernel_rfl) (fun _ _ _ h => h) (Or.inl ⟨by rfl, ?_⟩) hHeld ?_ ?_
    rotate_left
    · rintro w' ⟨s0, s1, s2, s3, s4, s5, s6, s7⟩
      go_simp
      with_reducible rfl
    rotate_left
    · simp only [Act.put, List.setIfInBounds_toArray, List.set_cons_zero, List.set_cons_succ, i64_w, i32_w]
      rfl
    refine one_ (i := 1) (N := some 20) #[true, true, true, false, false, false] rfl rfl (by kernel_rfl) (by decide) (fun K hK => ?_)
    refine goes_ Try.func61 (by kernel_rfl) rfl #[.agg #[.int .i64 k0, .string s0, .int .i64 n0, .bool b0]] (by rfl) rfl rfl (by simp only [List.map_toArray, List.map_cons, List.map_nil]; rfl) ?_
    with_reducible refine (HP0.out _).mono ?_
    rintro e w6 ⟨rfl, hb6⟩
    refine ⟨_, rfl, ?_⟩
    have HA6 := Lib.hid (block_below HA5.out hb6)
    have HB6 := Lib.hid (block_below HB5.out hb6)
    have HBW6 := Lib.hid (below_step HBW5.out hb6)
    clear hb6
    refine hK.out _ _ ⟨(blk_cell HA6.out 0).trans rfl, (blk_cell HA6.out 1).trans rfl, (blk_cell HA6.out 2).trans rfl, (blk_cell HA6.out 3).trans rfl, (blk_cell HB6.out 0).trans rfl, (blk_cell HB6.out 1).trans rfl, (blk_cell HB6.out 2).trans rfl, (blk_cell HB6.out 3).trans rfl⟩ (fun hHeld => ?_)
    clear hK K
    refine norm_ (a' := ?_) ?_ ?_
    rotate_left
    · show Act.put _ (some 20) _ = _
      simp only [Act.put, List.setIfInBounds_toArray, List.set_cons_zero, List.set_cons_succ, i64_w, i32_w]
      rfl
    refine one_ (i := 3) (N := some 22) #[true, true, true, true, false, false] rfl rfl (by kernel_rfl) (by decide) (fun K hK => ?_)
    refine goes_ Try.func61 (by kernel_rfl) rfl #[.agg #[.int .i64 k0, .string s1, .int .i64 n1, .bool b1]] (by rfl) rfl rfl (by simp only [List.map_toArray, List.map_cons, List.map_nil]; rfl) ?_
    with_reducible refine (HP1.out _).mono ?_
    rintro e w7 ⟨rfl, hb7⟩
    refine ⟨_, rfl, ?_⟩
    have HA7 := Lib.hid (block_below HA6.out hb7)
    have HB7 := Lib.hid (block_below HB6.out hb7)
    have HBW7 := Lib.hid (below_step HBW6.out hb7)
    clear hb7
    refine hK.out _ _ ⟨(blk_cell HA7.out 0).trans rfl, (blk_cell HA7.out 1).trans rfl, (blk_cell HA7.out 2).trans rfl, (blk_cell HA7.out 3).trans rfl, (blk_cell HB7.out 0).trans rfl, (blk_cell HB7.out 1).trans rfl, (blk_cell HB7.out 2).trans rfl, (blk_cell HB7.out 3).trans rfl⟩ (fun hHeld => ?_)
    clear hK K
    refine norm_ (a' := ?_) ?_ ?_
    rotate_left
    · show Act.put _ (some 22) _ = _
      simp only [Act.put, List.setIfInBounds_toArray, List.set_cons_zero, List.set_cons_succ, i64_w, i32_w]
      rfl
    refine pure_ (i := 4) (N := some 6) (v := ?_) (a' := ?_) #[true, true, true, true, true, false] rfl rfl (by kernel_rfl) (fun _ _ _ h => h) (Or.inl ⟨by rfl, ?_⟩) ?_ ?_
    rotate_left
    · intro w'
      go_simp
      with_reducible rfl
    rotate_left
    · simp only [Act.put, List.setIfInBounds_toArray, List.set_cons_zero, List.set_cons_succ, i64_w, i32_w]
      rfl
    refine pure_ (i := 5) (N := some 7) (v := ?_) (a' := ?_) #[true, true, true, true, true, true] rfl rfl (by kernel_rfl) (fun _ _ _ h => h) (Or.inl ⟨by rfl, ?_⟩) ?_ ?_
    rotate_left
    · intro w'
      go_simp
      with_reducible rfl
    rotate_left
    · simp only [Act.put, List.setIfInBounds_toArray, List.set_cons_zero, List.set_cons_succ, i64_w, i32_w]
      rfl
    refine done_ (by kernel_rfl) ?_
    have hx0 := HX0.out
    have hx1 := HX1.out
    have hbw := HBW7.out
    clear HA5 HB5 HBW5 HA6 HB6 HBW6 HA7 HB7 HBW7 HP0 HP1 HX0 HX1
    by_cases h0 : k0 = 0
    · subst h0
      have e0 : X0 = .iface 9 (.string s0) := hx0
      have e1 : X1 = .iface 9 (.string s1) := hx1
      have hc : cmpV 0 s0 n0 b0 0 s1 n1 b1 = (Lib.compareBytes s0.data.toList s1.data.toList, true) := rfl
      have HC := Lib.hid hc
      clear hx0 hx1 hc
      subst e0 e1
      have HBW := Lib.hid hbw
      clear hbw
      go_wp2_with (first | (go_at_call 62; (with_reducible refine (strcmp_calls s0 s1 _).mono ?_); rintro e w8 ⟨rfl, rfl⟩))
      go_ret2
      exact ⟨by rw [HC.out]; rfl, HBW.out⟩
    · by_cases h1 : k0 = 1
      · subst h1
        have e0 : X0 = .iface 2 (.int .i64 n0) := hx0
        have e1 : X1 = .iface 2 (.int .i64 n1) := hx1
        have hc : cmpV 1 s0 n0 b0 1 s1 n1 b1 = (cmpI n0 n1, true) := rfl
        have HC := Lib.hid hc
        clear hx0 hx1 hc
        subst e0 e1
        have HBW := Lib.hid hbw
        clear hbw
        go_wp2_with (first | (go_at_call 38; (with_reducible refine (cmp_Compare_int64.calls n0 n1 _ _ (cmp64 n0 n1)).mono ?_); rintro e w8 ⟨rfl, hb8⟩; have HBW8 := Lib.hid (below_step HBW.out hb8.below); clear hb8))
        go_ret2
        exact ⟨by rw [HC.out]; rfl, HBW8.out⟩
      · by_cases h2 : k0 = 2
        · subst h2
          have e0 : X0 = .iface 4 (.bool b0) := hx0
          have e1 : X1 = .iface 4 (.bool b1) := hx1
          have hc : cmpV 2 s0 n0 b0 2 s1 n1 b1 = (cmpI (b2i b0) (b2i b1), true) := rfl
          have HC := Lib.hid hc
          clear hx0 hx1 hc
          subst e0 e1
          have HBW := Lib.hid hbw
          clear hbw
          go_wp2
          have hbw := HBW.out.drew
          clear HBW
          refine start_ (n := 8) (S := fun w' => True) (ds := []) #[false, false, false, false, false, false, false, false] (by kernel_rfl) rfl rfl trivial (fun hHeld => ?_)
          generalize w7.drew = w8 at hbw ⊢
          have HBW8 := Lib.hid hbw
          clear hbw
          refine pure_ (i := 0) (N := some 49) (v := ?_) (a' := ?_) #[true, false, false, false, false, false, false, false] rfl rfl (by kernel_rfl) (fun _ _ _ h => h) (Or.inl ⟨by rfl, ?_⟩) ?_ ?_
          rotate_left
          · intro w'
            go_simp
            with_reducible rfl
          rotate_left
          · simp only [Act.put, List.setIfInBounds_toArray, List.set_cons_zero, List.set_cons_succ, i64_w, i32_w]
            rfl
          refine pure_ (i := 2) (N := some 51) (v := ?_) (a' := ?_) #[true, false, true, false, false, false, false, false] rfl rfl (by kernel_rfl) (fun _ _ _ h => h) (Or.inl ⟨by rfl, ?_⟩) ?_ ?_
          rotate_left
          · intro w'
            go_simp
            with_reducible rfl
          rotate_left
          · simp only [Act.put, List.setIfInBounds_toArray, List.set_cons_zero, List.set_cons_succ, i64_w, i32_w]
            rfl
          refine pure_ (i := 3) (N := some 52) (v := ?_) (a' := ?_) #[true, false, true, true, false, false, false, false] rfl rfl (by kernel_rfl) (fun _ _ _ h => h) (Or.inl ⟨by rfl, ?_⟩) ?_ ?_
          rotate_left
          · intro w'
            go_simp
            with_reducible rfl
          rotate_left
          · simp only [Act.put, List.setIfInBounds_toArray, List.set_cons_zero, List.set_cons_succ, i64_w, i32_w]
            rfl
          refine one_ (i := 1) (N := some 50) #[true, true, true, true, false, false, false, false] rfl rfl (by kernel_rfl) (by decide) (fun K hK => ?_)
          refine goes_ Try.func64 (by kernel_rfl) rfl #[.bool b0] (by rfl) rfl rfl (by simp only [List.map_toArray, List.map_cons, List.map_nil]; rfl) ?_
          with_reducible refine (span_order.calls b0 _ _ (orderB b0)).mono ?_
          rintro e w9 ⟨rfl, hb9⟩
          refine ⟨_, rfl, ?_⟩
          have HBW9 := Lib.hid (below_step HBW8.out hb9.below)
          clear hb9
          refine hK.out _ _ trivial (fun hHeld => ?_)
          clear hK K
          refine norm_ (a' := ?_) ?_ ?_
          rotate_left
          · show Act.put _ (some 50) _ = _
            simp only [Act.put, List.setIfInBounds_toArray, List.set_cons_zero, List.set_cons_succ, i64_w, i32_w]
            rfl
          refine one_ (i := 4) (N := some 53) #[true, true, true, true, true, false, false, false] rfl rfl (by kernel_rfl) (by decide) (fun K hK => ?_)
          refine goes_ Try.func64 (by kernel_rfl) rfl #[.bool b1] (by rfl) rfl rfl (by simp only [List.map_toArray, List.map_cons, List.map_nil]; rfl) ?_
          with_reducible refine (span_order.calls b1 _ _ (orderB b1)).mono ?_
          rintro e w10 ⟨rfl, hb10⟩
          refine ⟨_, rfl, ?_⟩
          have HBW10 := Lib.hid (below_step HBW9.out hb10.below)
          clear hb10
          refine hK.out _ _ trivial (fun hHeld => ?_)
          clear hK K
          refine norm_ (a' := ?_) ?_ ?_
          rotate_left
          · show Act.put _ (some 53) _ = _
            simp only [Act.put, List.setIfInBounds_toArray, List.set_cons_zero, List.set_cons_succ, i64_w, i32_w]
            rfl
          refine one_ (i := 5) (N := some 54) #[true, true, true, true, true, true, false, false] rfl rfl (by kernel_rfl) (by decide) (fun K hK => ?_)
          refine goes_ Try.func63 (by kernel_rfl) rfl #[.int .i64 (b2i b0), .int .i64 (b2i b1)] (by rfl) rfl rfl (by simp only [List.map_toArray, List.map_cons, List.map_nil]; rfl) ?_
          with_reducible refine (cmp_Compare_int.calls _ _ _ _ (cmpInt (b2i b0) (b2i b1))).mono ?_
          rintro e w11 ⟨rfl, hb11⟩
          refine ⟨_, rfl, ?_⟩
          have HBW11 := Lib.hid (below_step HBW10.out hb11.below)
          clear hb11
          refine hK.out _ _ trivial (fun hHeld => ?_)
          clear hK K
          refine norm_ (a' := ?_) ?_ ?_
          rotate_left
          · show Act.put _ (some 54) _ = _
            simp only [Act.put, List.setIfInBounds_toArray, List.set_cons_zero, List.set_cons_succ, i64_w, i32_w]
            rfl
          refine pure_ (i := 6) (N := some 4) (v := ?_) (a' := ?_) #[true, true, true, true, true, true, true, false] rfl rfl (by kernel_rfl) (fun _ _ _ h => h) (Or.inl ⟨by rfl, ?_⟩) ?_ ?_
          rotate_left
          · intro w'
            go_simp
            with_reducible rfl
          rotate_left
          · simp only [Act.put, List.setIfInBounds_toArray, List.set_cons_zero, List.set_cons_succ, i64_w, i32_w]
            rfl
          refine pure_ (i := 7) (N := some 5) (v := ?_) (a' := ?_) #[true, true, true, true, true, true, true, true] rfl rfl (by kernel_rfl) (fun _ _ _ h => h) (Or.inl ⟨by rfl, ?_⟩) ?_ ?_
          rotate_left
          · intro w'
            go_simp
            with_reducible rfl
          rotate_left
          · simp only [Act.put, List.setIfInBounds_toArray, List.set_cons_zero, List.set_cons_succ, i64_w, i32_w]
            rfl
          refine done_ (by kernel_rfl) ?_
          go_wp2
          go_ret2
          exact ⟨by rw [HC.out]; rfl, HBW11.out⟩
        · have e0 : X0 = .nilIface := by rw [hx0]; unfold plainV; rw [if_neg h0, if_neg h1, if_neg h2]
          have hc : cmpV k0 s0 n0 b0 k0 s1 n1 b1 = (0, false) := by unfold cmpV; rw [if_pos rfl, if_neg h0, if_neg h1, if_neg h2]
          have HC := Lib.hid hc
          clear hx0 hx1 hc
          subst e0
          have HBW := Lib.hid hbw
          clear hbw
          go_wp2
          go_ret2
          exact ⟨by rw [HC.out]; rfl, HBW.out⟩
  · have hkb : (k0 != k1) = true := bne_iff_ne.mpr hk
    have hc : cmpV k0 s0 n0 b0 k1 s1 n1 b1 = (0, false) := by unfold cmpV; rw [if_neg hk]
    rw [hc]
    unfold val
    go_enter Try.func41, Try.ntmps41
    go_wp2
    go_ret2
    exact ⟨rfl, below_alloc (below_alloc (Below.refl _ _) _) _⟩
end Go.Proofs.Ytffggkhahambhaa.Span

namespace Go.Proofs.Ytffggkhahambhaa.PAll
open Go.RowKit Go.Proofs.YtffggkhahambhaaW.PrintWords Go.Proofs.YtffggkhahambhaaW.PrintLast Go.Proofs.YtffggkhahambhaaW.PrintMore Go.Proofs.Ytffggkhahambhaa.Math Go.Proofs.Ytffggkhahambhaa.Span
set_option linter.unusedVariables false
def span_Compare.f (a0_0 : Int) (a0_1 : ByteArray) (a0_2 : Int) (a0_3 : Bool) (a1_0 : Int) (a1_1 : ByteArray) (a1_2 : Int) (a1_3 : Bool) : Option (Int × Bool) := some (cmpV a0_0 a0_1 a0_2 a0_3 a1_0 a1_1 a1_2 a1_3)
theorem span_Compare.calls (a0_0 : Int) (a0_1 : ByteArray) (a0_2 : Int) (a0_3 : Bool) (a1_0 : Int) (a1_1 : ByteArray) (a1_2 : Int) (a1_3 : Bool) (r1 : Int) (r2 : Bool) (w : World) (h : span_Compare.f a0_0 a0_1 a0_2 a0_3 a1_0 a1_1 a1_2 a1_3 = some (r1, r2)) :
    Calls Try.prog 41 #[.agg #[.int .i64 a0_0, .string a0_1, .int .i64 a0_2, .bool a0_3], .agg #[.int .i64 a1_0, .string a1_1, .int .i64 a1_2, .bool a1_3]] w fun e w' => e = .returned (.tuple #[.int .i64 r1, .bool r2]) ∧ Below w.heap.size w w' := by
  have hc := compare_calls a0_0 a0_1 a0_2 a0_3 a1_0 a1_1 a1_2 a1_3 w
  rw [Option.some.inj h] at hc
  exact hc
end Go.Proofs.Ytffggkhahambhaa.PAll

namespace Go.Proofs.Ytffggkhahambhaa.Runes
open Go.RowKit Go.Proofs.YtffggkhahambhaaW.PrintWords Go.Proofs.Ytffggkhahambhaa.Math
set_option linter.unusedVariables false

/-- A byte, as a natural number. -/
def nb (s : ByteArray) (i : Nat) : Nat := (s.get! i).toNat
theorem nb_lt (s : ByteArray) (i : Nat) : nb s i < 256 := by unfold nb; exact (s.get! i).toNat_lt
def rn (s : ByteArray) (i : Nat) : Nat := (Utf8.decode s i).1
def wd (s : ByteArray) (i : Nat) : Nat := (Utf8.decode s i).2

theorem data_size (s : ByteArray) : s.data.size = s.size := rfl
theorem extract_size (s : ByteArray) (i : Nat) : (s.extract i s.size).size = s.size - i := by
  rw [ByteArray.size_extract]; omega
theorem nb_extract (s : ByteArray) (i j : Nat) : nb (s.extract i s.size) j = nb s (i + j) := by
  have hg : ∀ (t : ByteArray) (k : Nat), t.get! k = t.data[k]! := fun t k => rfl
  unfold nb
  rw [hg, hg]
  congr 1
  rw [ByteArray.data_extract, getElem!_def, getElem!_def, Array.getElem?_extract, data_size]
  by_cases h : j < min s.size s.size - i
  · rw [if_pos h]
  · rw [if_neg h, Array.getElem?_eq_none (by rw [data_size]; omega)]
theorem dec_extract (s : ByteArray) (i : Nat) : Utf8.decode (s.extract i s.size) 0 = Utf8.decode s i := by
  rw [Lib.decode_at, Lib.decode_at, extract_size]
  have e : ∀ j, ((s.extract i s.size).get! j).toNat = (s.get! (i + j)).toNat := fun j => nb_extract s i j
  rw [e, e, e, e]
  rfl
theorem dec_bounds (s : ByteArray) (i : Nat) (h : i < s.size) : 1 ≤ wd s i ∧ i + wd s i ≤ s.size ∧ wd s i ≤ 4 ∧ rn s i ≤ 1114111 := by
  unfold wd rn
  rw [Lib.decode_at]
  unfold Lib.decodeN
  have b0 := (s.get! i).toNat_lt
  have b1 := (s.get! (i + 1)).toNat_lt
  have b2 := (s.get! (i + 2)).toNat_lt
  have b3 := (s.get! (i + 3)).toNat_lt
  generalize (s.get! i).toNat = c0 at *
  generalize (s.get! (i + 1)).toNat = c1 at *
  generalize (s.get! (i + 2)).toNat = c2 at *
  generalize (s.get! (i + 3)).toNat = c3 at *
  split
  · simp only; omega
  split
  · split <;> (simp only; omega)
  split
  · split <;> (simp only; omega)
  split
  · split <;> (simp only; omega)
  · simp only; omega

/-- Where each rune begins, from a place on. -/
def starts (s : ByteArray) : Nat → Nat → List Nat
  | 0, _ => []
  | f + 1, i => if i < s.size then i :: starts s f (i + wd s i) else []
def pos (s : ByteArray) : List Nat := starts s s.size 0
theorem starts_fuel (s : ByteArray) : ∀ (f f' i : Nat), s.size - i ≤ f → s.size - i ≤ f' → starts s f i = starts s f' i
  | 0, 0, _, _, _ => rfl
  | 0, f' + 1, i, h, _ => by rw [starts, starts, if_neg (by omega)]
  | f + 1, 0, i, _, h => by rw [starts, starts, if_neg (by omega)]
  | f + 1, f' + 1, i, h, h' => by
    rw [starts, starts]
    by_cases hi : i < s.size
    · have := dec_bounds s i hi
      rw [if_pos hi, if_pos hi, starts_fuel s f f' (i + wd s i) (by omega) (by omega)]
    · rw [if_neg hi, if_neg hi]
/-- From a place on, by as much fuel as is needed. -/
def from_ (s : ByteArray) (i : Nat) : List Nat := starts s s.size i
theorem from_lt {s : ByteArray} {i : Nat} (h : i < s.size) : from_ s i = i :: from_ s (i + wd s i) := by
  unfold from_
  have hb := dec_bounds s i h
  obtain ⟨m, hm⟩ : ∃ m, s.size = m + 1 := ⟨s.size - 1, by omega⟩
  have e : starts s s.size (i + wd s i) = starts s m (i + wd s i) := starts_fuel s _ _ _ (by omega) (by omega)
  rw [e]
  conv => lhs; rw [hm]
  rw [starts, if_pos h]
theorem from_ge {s : ByteArray} {i : Nat} (h : ¬ i < s.size) : from_ s i = [] := by
  unfold from_
  cases hs : s.size with
  | zero => rfl
  | succ m => rw [starts, if_neg h]
def runesI (s : ByteArray) : List Int := (from_ s 0).map fun i => (rn s i : Int)
def posI (s : ByteArray) : List Int := (from_ s 0).map fun (i : Nat) => (i : Int)
theorem from_len (s : ByteArray) : ∀ (d i : Nat), s.size - i ≤ d → (from_ s i).length ≤ s.size - i := by
  intro d
  induction d with
  | zero => intro i h; rw [from_ge (by omega)]; simp
  | succ d ih =>
    intro i h
    by_cases hi : i < s.size
    · have := dec_bounds s i hi
      rw [from_lt hi]
      have := ih (i + wd s i) (by omega)
      simp only [List.length_cons]; omega
    · rw [from_ge hi]; simp

/-- May a rune stand in a right text? -/
def okI (r : Int) : Bool := !(decide (r < 32) || (decide (r ≥ 127) && decide (r ≤ 159)))

end Go.Proofs.Ytffggkhahambhaa.Runes

namespace Go.Proofs.Ytffggkhahambhaa.Text
open Go.RowKit Go.Proofs.YtffggkhahambhaaW.PrintWords Go.Proofs.YtffggkhahambhaaW.PrintLast Go.Proofs.YtffggkhahambhaaW.PrintMore Go.Proofs.Ytffggkhahambhaa.Math Go.Proofs.Ytffggkhahambhaa.Runes
set_option linter.unusedVariables false
set_option linter.unusedSimpArgs false

/-- The world of a range over a string: an iterator's block of the call's own. -/
structure It (w wr : World) (N : Nat) (s : ByteArray) (p : Nat) : Prop where
  it : wr.heap[N]? = some (.stringIter s p)
  bw : Below w.heap.size w wr
  n0 : w.heap.size ≤ N
section
variable {w wr w1 : World} {N p : Nat} {s : ByteArray}
theorem It.start (w wr : World) (hb : Below w.heap.size w wr) (s : ByteArray) : It w (wr.iter s 0) wr.heap.size s 0 := ⟨World.iter_heap wr s 0, below_alloc hb _, hb.size⟩
theorem It.step (h : It w wr N s p) (q : Nat) : It w (wr.iterAt N s q) N s q := ⟨Lib.iterAt_heap wr N s p q h.it, Lib.below_iterAt h.bw h.n0 s q, h.n0⟩
theorem It.next (h : It w wr N s p) (hb : Below wr.heap.size wr w1) : It w w1 N s p := ⟨block_below h.it hb, below_step h.bw hb, h.n0⟩
theorem It.pos (h : It w wr N s p) : wr.iterPos N = p := by simp [World.iterPos, h.it]
theorem It.more {P : Program} (h : It w wr N s p) (hp : p < s.size) (ty : TypeId) : (Instr.next (.pointer (some ⟨N, 0, none⟩)) true ty).run P wr = .ok (.tuple #[.bool true, .int .i64 p, .int .i32 (rn s p)]) (wr.iterAt N s (p + wd s p)) := Lib.run_next_any_at wr N s p ty h.it hp
theorem It.done {P : Program} (h : It w wr N s p) (hp : ¬ p < s.size) (ty : TypeId) : (Instr.next (.pointer (some ⟨N, 0, none⟩)) true ty).run P wr = .ok (.tuple #[.bool false]) wr := Lib.run_next_end_at wr N s p ty h.it hp
end

theorem R_iterAt {α : Type} {d : Kd α} {e : TypeId} {wr : World} {N base q : Nat} {s : ByteArray} {ok : Nat → Prop} {v : Value} {xs : List α} (h : d.R e wr base ok v xs) (hN : N < base) : d.R e (wr.iterAt N s q) base ok v xs :=
  Kd.R_mono (Kd.R_step (Kd.R_bound h) (fun k hk _ => Lib.iterAt_other wr N k s q (by have := hk.2.1; omega))) (fun _ hk => hk.1)

end Go.Proofs.Ytffggkhahambhaa.Text

namespace Go.Proofs.Ytffggkhahambhaa.Text
open Go.RowKit Go.Proofs.Ytffggkhahambhaa.PAll Go.Proofs.YtffggkhahambhaaW.PrintWords Go.Proofs.YtffggkhahambhaaW.PrintLast Go.Proofs.YtffggkhahambhaaW.PrintMore Go.Proofs.Ytffggkhahambhaa.Math Go.Proofs.Ytffggkhahambhaa.Runes
set_option linter.unusedVariables false
set_option linter.unusedSimpArgs false

theorem info_i32 : (Try.prog.info? 21).map (fun i => (i.zero, i.size, i.bytes)) = some (some (.int .i32 0), 1, 4) := by kernel_rfl
theorem info_sign : (Try.prog.info? 94).map (fun i => (i.zero, i.size, i.bytes)) = some (some (.agg #[.int .i32 0, .bool false, .bool false]), 3, 8) := by kernel_rfl
/-- A step above the iterator's block leaves it. -/
theorem It.above {w wr w1 : World} {s : ByteArray} {p : Nat} (h : It w wr w.heap.size s p) (hb : Below (w.heap.size + 1) wr w1) : It w w1 w.heap.size s p :=
  ⟨(hb.block _ (Nat.lt_succ_self _)).trans h.it, h.bw.trans (hb.mono (Nat.le_succ _)), h.n0⟩
theorem iter_size {w wr : World} {s : ByteArray} {p : Nat} (h : It w wr w.heap.size s p) : w.heap.size + 1 ≤ wr.heap.size := blk_lt h.it
set_option maxHeartbeats 1000000 in
theorem runes_calls (s : ByteArray) (w : World) (hs : s.size ≤ 1000000) :
    Calls Try.prog 60 #[.string s] w fun e w' => ∃ v, e = .returned v ∧ Kd.R (Kd.int .i32) 21 w' w.heap.size (fun _ => True) v (runesI s) ∧ Below w.heap.size w w' := by
  have HSs := Lib.hid hs
  clear hs
  go_enter Try.func60, Try.ntmps60
  go_wp2
  go_loopw [3] (fun v wr => ∃ (p : Nat) (acc : List Int), p ≤ s.size ∧ acc.length ≤ p ∧ Hid (Kd.R (Kd.int .i32) 21 wr (w.heap.size + 1) (fun _ => True) v acc) ∧ Hid (acc ++ (from_ s p).map (fun i => (rn s i : Int)) = runesI s) ∧ It w wr w.heap.size s p) (fun _ wr => s.size - wr.iterPos w.heap.size)
  case atStart => exact ⟨0, [], by omega, by simp, Lib.hid (Kd.R_nil _ _ _ _ _), Lib.hid rfl, It.start w w (Below.refl _ _) s⟩
  case round =>
    obtain ⟨p, acc, hp, hal, HR, HA, HI⟩ := hrel
    by_cases hlt : p < s.size
    · have hnx := HI.more (P := Try.prog) hlt
      have HS := Lib.hid (HI.step (p + wd s p))
      have HW := Lib.hid (dec_bounds s p hlt)
      have HF := Lib.hid (from_lt hlt)
      have HPos := Lib.hid HI.pos
      have HR2 := Lib.hid (R_iterAt (q := p + wd s p) (s := s) HR.out (Nat.lt_succ_self _))
      have HSz := Lib.hid (iter_size HS.out)
      generalize wr.iterAt w.heap.size s (p + wd s p) = wr2 at *
      go_wp2_with (first
        | ((with_reducible refine gate_dst (N := 13) rfl ?_); refine Kd.R_lit (Kd.int .i32) (w0 := wr2) (w.heap.size + 1) 21 ?hg (N := 13) ?hd (xs := [(rn s p : Int)]) (inner := [.int .i32 (rn s p : Int)]) (ok := fun _ => True) (okp := fun _ => True) ?hr ?hp (fun _ hk => hk) trivial (Below.refl _ _) HSz.out (by simp) ?_; (case hd => rfl); (case hg => rfl); (case hr => first | (go_simp; done) | (go_simp; rfl)); (case hp => exact (Reps.one (show Kd.M (Kd.int .i32) _ _ _ (rn s p : Int) [.int .i32 (rn s p : Int)] from rfl) (Reps.none _ _))); intro v3 w3 ho hb hg_ hnew_; clear hnew_; obtain ⟨A3, c3, rfl⟩ := Kd.R_slice ho; have HO3 := Lib.hid (Kd.R_reads' ho).2.2; have HB3 := Lib.hid hb; have HR3 := Lib.hid (Kd.R_grown2 HR2.out rfl hg_ (fun _ h => by cases h)); clear ho hb hg_)
        | ((with_reducible refine gate_builtin (b := .append) (xs := #[.tmp 11, .tmp 13]) rfl ?_); at_builtin; refine Kd.R_append_rows (Kd.int .i32) (w0 := wr2) (w.heap.size + 1) rfl (.tmp 11) (.tmp 13) 91 21 (.int .i32 0) 4 rfl Try.underlying91 info_i32 rfl (by decide) (by omega) _ acc [(rn s p : Int)] A3 _ c3 (fun _ => True) (fun _ => False) rfl rfl HR3.out HO3.out (fun _ _ h => h) (fun _ h => h.elim) (fun _ _ => trivial) HB3.out (Nat.le_trans HSz.out HB3.out.size) (by have := HSs.out; simp; omega) ?_; intro v4 w4 ho hb hg_ hnew_; clear hg_ hnew_; have HR4 := Lib.hid ho; have HI4 := Lib.hid (HS.out.above hb); clear ho hb))
      go_roundw
      case rel => exact ⟨p + wd s p, acc ++ [(rn s p : Int)], HW.out.2.1, by have := HW.out.1; simp; omega, HR4, Lib.hid (by rw [← HA.out, HF.out]; simp), HI4.out⟩
      case measure => rw [HI4.out.pos, HPos.out]; have := HW.out; omega
    · have hnx := HI.done (P := Try.prog) hlt
      have HE := Lib.hid (from_ge hlt)
      have HB := Lib.hid HI.bw
      go_wp2
      go_ret
      refine ⟨_, rfl, ?_, HB.out⟩
      have h := HA.out
      rw [HE.out] at h
      simp at h
      rw [← h]
      exact Kd.R_lower HR.out (Nat.le_succ _)

/-- A pattern's parts. -/
def signsL : Bool → List Int → List S94
  | true, [] => [⟨92, false, false⟩]
  | false, [] => []
  | true, r :: t => ⟨r, false, false⟩ :: signsL false t
  | false, r :: t => if r = 92 then signsL true t else if r = 42 then ⟨0, false, true⟩ :: signsL false t else if r = 63 then ⟨0, true, false⟩ :: signsL false t else ⟨r, false, false⟩ :: signsL false t

theorem sign_reps (w : World) (base : Nat) (ok : Nat → Prop) (x : S94) : Reps (Kd.M k94 w base ok) 3 [x] [.int .i32 x.f0, .bool x.f1, .bool x.f2] := by
  have h := Reps.snoc (size := 3) (Reps.none (Kd.M k94 w base ok) 3) (k94_mkM w base ok x) rfl
  exact h
set_option maxHeartbeats 2000000 in
theorem signs_calls (s : ByteArray) (w : World) (hs : s.size ≤ 1000000) :
    Calls Try.prog 59 #[.string s] w fun e w' => ∃ v, e = .returned v ∧ Kd.R k94 94 w' w.heap.size (fun _ => True) v (signsL false (runesI s)) ∧ Below w.heap.size w w' := by
  have HSs := Lib.hid hs
  clear hs
  have hu44 := Try.underlying94
  go_enter Try.func59, Try.ntmps59
  go_wp2
  go_loopw [3, 4] (fun v e wr => ∃ (p : Nat) (acc : List S94) (esc : Bool), e = .bool esc ∧ p ≤ s.size ∧ acc.length ≤ p ∧ Hid (Kd.R k94 94 wr (w.heap.size + 1) (fun _ => True) v acc) ∧ Hid (acc ++ signsL esc ((from_ s p).map (fun i => (rn s i : Int))) = signsL false (runesI s)) ∧ It w wr w.heap.size s p) (fun _ _ wr => s.size - wr.iterPos w.heap.size)
  case atStart => exact ⟨0, [], false, rfl, by omega, by simp, Lib.hid (Kd.R_nil _ _ _ _ _), Lib.hid rfl, It.start w w (Below.refl _ _) s⟩
  case round =>
    obtain ⟨p, acc, esc, rfl, hp, hal, HR, HA, HI⟩ := hrel
    by_cases hlt : p < s.size
    · have hnx := HI.more (P := Try.prog) hlt
      have HS := Lib.hid (HI.step (p + wd s p))
      have HW := Lib.hid (dec_bounds s p hlt)
      have HF := Lib.hid (from_lt hlt)
      have HPos := Lib.hid HI.pos
      have HR2 := Lib.hid (R_iterAt (q := p + wd s p) (s := s) HR.out (Nat.lt_succ_self _))
      have HSz := Lib.hid (iter_size HS.out)
      generalize wr.iterAt w.heap.size s (p + wd s p) = wr2 at *
      cases esc with
      | true =>
        go_wp2_with (first
          | ((with_reducible refine gate_dst (N := 22) rfl ?_); refine Kd.R_lit k94 (w0 := wr2) (w.heap.size + 1) 94 ?hg22 (N := 22) ?hd22 (xs := [(⟨(rn s p : Int), false, false⟩ : S94)]) (inner := [.int .i32 (rn s p : Int), .bool false, .bool false]) (ok := fun _ => True) (okp := fun _ => True) ?hr22 ?hp22 (fun _ hk => hk) trivial (Below.refl _ _) HSz.out (by simp) ?_; (case hd22 => rfl); (case hg22 => rfl); (case hr22 => first | (go_simp; done) | (go_simp; rfl)); (case hp22 => exact (sign_reps _ _ _ (⟨(rn s p : Int), false, false⟩ : S94))); intro v3 w3 ho hb hg_ hnew_; clear hnew_; obtain ⟨A3, c3, rfl⟩ := Kd.R_slice ho; have HO3 := Lib.hid (Kd.R_reads' ho).2.2; have HB3 := Lib.hid hb; have HR3 := Lib.hid (Kd.R_grown2 HR2.out rfl hg_ (fun _ h => by cases h)); clear ho hb hg_)
          | ((with_reducible refine gate_builtin (b := .append) (xs := #[.tmp 19, .tmp 22]) rfl ?_); at_builtin; refine Kd.R_append_rows k94 (w0 := wr2) (w.heap.size + 1) rfl (.tmp 19) (.tmp 22) 89 94 (.agg #[.int .i32 0, .bool false, .bool false]) 8 rfl Try.underlying89 info_sign rfl (by decide) (by omega) _ acc [(⟨(rn s p : Int), false, false⟩ : S94)] A3 _ c3 (fun _ => True) (fun _ => False) rfl rfl HR3.out HO3.out (fun x_ cs_ h_ => by rw [k94_open h_]; exact k94_mkM _ _ _ x_) (fun _ h => h.elim) (fun _ _ => trivial) HB3.out (Nat.le_trans HSz.out HB3.out.size) (by have := HSs.out; simp; omega) ?_; intro v4 w4 ho hb hg_ hnew_; clear hg_ hnew_; have HR4 := Lib.hid ho; have HI4 := Lib.hid (HS.out.above hb); clear ho hb))
        go_roundw
        case rel => exact ⟨p + wd s p, acc ++ [(⟨(rn s p : Int), false, false⟩ : S94)], false, rfl, HW.out.2.1, by have := HW.out.1; simp; omega, HR4, Lib.hid (by rw [← HA.out, HF.out, List.map_cons]; simp [signsL]), HI4.out⟩
        case measure => rw [HI4.out.pos, HPos.out]; have := HW.out; omega
      | false =>
        have h92 := @HA
        by_cases r92 : rn s p = 92
        · have b92 : ((rn s p : Int) == 92) = true := beq_iff_eq.2 (by omega)
          have HQ := Lib.hid r92
          clear r92 h92
          go_wp2
          go_roundw
          case rel => exact ⟨p + wd s p, acc, true, rfl, HW.out.2.1, by have := HW.out.1; omega, HR2, Lib.hid (by rw [← HA.out, HF.out, List.map_cons, signsL, if_pos (by have := HQ.out; omega)]), HS.out⟩
          case measure => rw [HS.out.pos, HPos.out]; have := HW.out; omega
        · have b92 : ((rn s p : Int) == 92) = false := beq_eq_false_iff_ne.2 (by omega)
          by_cases r42 : rn s p = 42
          · have b42 : ((rn s p : Int) == 42) = true := beq_iff_eq.2 (by omega)
            have HQ := Lib.hid r42
            clear r92 h92 r42
            go_wp2_with (first
              | ((with_reducible refine gate_dst (N := 32) rfl ?_); refine Kd.R_lit k94 (w0 := wr2) (w.heap.size + 1) 94 ?hg32 (N := 32) ?hd32 (xs := [(⟨0, false, true⟩ : S94)]) (inner := [.int .i32 0, .bool false, .bool true]) (ok := fun _ => True) (okp := fun _ => True) ?hr32 ?hp32 (fun _ hk => hk) trivial (Below.refl _ _) HSz.out (by simp) ?_; (case hd32 => rfl); (case hg32 => rfl); (case hr32 => first | (go_simp; done) | (go_simp; rfl)); (case hp32 => exact (sign_reps _ _ _ (⟨0, false, true⟩ : S94))); intro v3 w3 ho hb hg_ hnew_; clear hnew_; obtain ⟨A3, c3, rfl⟩ := Kd.R_slice ho; have HO3 := Lib.hid (Kd.R_reads' ho).2.2; have HB3 := Lib.hid hb; have HR3 := Lib.hid (Kd.R_grown2 HR2.out rfl hg_ (fun _ h => by cases h)); clear ho hb hg_)
              | ((with_reducible refine gate_builtin (b := .append) (xs := #[.tmp 30, .tmp 32]) rfl ?_); at_builtin; refine Kd.R_append_rows k94 (w0 := wr2) (w.heap.size + 1) rfl (.tmp 30) (.tmp 32) 89 94 (.agg #[.int .i32 0, .bool false, .bool false]) 8 rfl Try.underlying89 info_sign rfl (by decide) (by omega) _ acc [(⟨0, false, true⟩ : S94)] A3 _ c3 (fun _ => True) (fun _ => False) rfl rfl HR3.out HO3.out (fun x_ cs_ h_ => by rw [k94_open h_]; exact k94_mkM _ _ _ x_) (fun _ h => h.elim) (fun _ _ => trivial) HB3.out (Nat.le_trans HSz.out HB3.out.size) (by have := HSs.out; simp; omega) ?_; intro v4 w4 ho hb hg_ hnew_; clear hg_ hnew_; have HR4 := Lib.hid ho; have HI4 := Lib.hid (HS.out.above hb); clear ho hb))
            go_roundw
            case rel => exact ⟨p + wd s p, acc ++ [(⟨0, false, true⟩ : S94)], false, rfl, HW.out.2.1, by have := HW.out.1; simp; omega, HR4, Lib.hid (by rw [← HA.out, HF.out, List.map_cons]; rw [signsL, if_neg (by have := HQ.out; omega), if_pos (by have := HQ.out; omega)]; simp), HI4.out⟩
            case measure => rw [HI4.out.pos, HPos.out]; have := HW.out; omega
          · have b42 : ((rn s p : Int) == 42) = false := beq_eq_false_iff_ne.2 (by omega)
            by_cases r63 : rn s p = 63
            · have b63 : ((rn s p : Int) == 63) = true := beq_iff_eq.2 (by omega)
              have HQ := Lib.hid r63
              clear r92 h92 r42 r63
              go_wp2_with (first
                | ((with_reducible refine gate_dst (N := 39) rfl ?_); refine Kd.R_lit k94 (w0 := wr2) (w.heap.size + 1) 94 ?hg39 (N := 39) ?hd39 (xs := [(⟨0, true, false⟩ : S94)]) (inner := [.int .i32 0, .bool true, .bool false]) (ok := fun _ => True) (okp := fun _ => True) ?hr39 ?hp39 (fun _ hk => hk) trivial (Below.refl _ _) HSz.out (by simp) ?_; (case hd39 => rfl); (case hg39 => rfl); (case hr39 => first | (go_simp; done) | (go_simp; rfl)); (case hp39 => exact (sign_reps _ _ _ (⟨0, true, false⟩ : S94))); intro v3 w3 ho hb hg_ hnew_; clear hnew_; obtain ⟨A3, c3, rfl⟩ := Kd.R_slice ho; have HO3 := Lib.hid (Kd.R_reads' ho).2.2; have HB3 := Lib.hid hb; have HR3 := Lib.hid (Kd.R_grown2 HR2.out rfl hg_ (fun _ h => by cases h)); clear ho hb hg_)
                | ((with_reducible refine gate_builtin (b := .append) (xs := #[.tmp 37, .tmp 39]) rfl ?_); at_builtin; refine Kd.R_append_rows k94 (w0 := wr2) (w.heap.size + 1) rfl (.tmp 37) (.tmp 39) 89 94 (.agg #[.int .i32 0, .bool false, .bool false]) 8 rfl Try.underlying89 info_sign rfl (by decide) (by omega) _ acc [(⟨0, true, false⟩ : S94)] A3 _ c3 (fun _ => True) (fun _ => False) rfl rfl HR3.out HO3.out (fun x_ cs_ h_ => by rw [k94_open h_]; exact k94_mkM _ _ _ x_) (fun _ h => h.elim) (fun _ _ => trivial) HB3.out (Nat.le_trans HSz.out HB3.out.size) (by have := HSs.out; simp; omega) ?_; intro v4 w4 ho hb hg_ hnew_; clear hg_ hnew_; have HR4 := Lib.hid ho; have HI4 := Lib.hid (HS.out.above hb); clear ho hb))
              go_roundw
              case rel => exact ⟨p + wd s p, acc ++ [(⟨0, true, false⟩ : S94)], false, rfl, HW.out.2.1, by have := HW.out.1; simp; omega, HR4, Lib.hid (by rw [← HA.out, HF.out, List.map_cons]; rw [signsL, if_neg (by have := HQ.out; omega), if_neg (by have := HQ.out; omega), if_pos (by have := HQ.out; omega)]; simp), HI4.out⟩
              case measure => rw [HI4.out.pos, HPos.out]; have := HW.out; omega
            · have b63 : ((rn s p : Int) == 63) = false := beq_eq_false_iff_ne.2 (by omega)
              have HQ := Lib.hid (show ¬ rn s p = 92 ∧ ¬ rn s p = 42 ∧ ¬ rn s p = 63 from ⟨r92, r42, r63⟩)
              clear r92 h92 r42 r63
              go_wp2_with (first
                | ((with_reducible refine gate_dst (N := 15) rfl ?_); refine Kd.R_lit k94 (w0 := wr2) (w.heap.size + 1) 94 ?hg15 (N := 15) ?hd15 (xs := [(⟨(rn s p : Int), false, false⟩ : S94)]) (inner := [.int .i32 (rn s p : Int), .bool false, .bool false]) (ok := fun _ => True) (okp := fun _ => True) ?hr15 ?hp15 (fun _ hk => hk) trivial (Below.refl _ _) HSz.out (by simp) ?_; (case hd15 => rfl); (case hg15 => rfl); (case hr15 => first | (go_simp; done) | (go_simp; rfl)); (case hp15 => exact (sign_reps _ _ _ (⟨(rn s p : Int), false, false⟩ : S94))); intro v3 w3 ho hb hg_ hnew_; clear hnew_; obtain ⟨A3, c3, rfl⟩ := Kd.R_slice ho; have HO3 := Lib.hid (Kd.R_reads' ho).2.2; have HB3 := Lib.hid hb; have HR3 := Lib.hid (Kd.R_grown2 HR2.out rfl hg_ (fun _ h => by cases h)); clear ho hb hg_)
                | ((with_reducible refine gate_builtin (b := .append) (xs := #[.tmp 12, .tmp 15]) rfl ?_); at_builtin; refine Kd.R_append_rows k94 (w0 := wr2) (w.heap.size + 1) rfl (.tmp 12) (.tmp 15) 89 94 (.agg #[.int .i32 0, .bool false, .bool false]) 8 rfl Try.underlying89 info_sign rfl (by decide) (by omega) _ acc [(⟨(rn s p : Int), false, false⟩ : S94)] A3 _ c3 (fun _ => True) (fun _ => False) rfl rfl HR3.out HO3.out (fun x_ cs_ h_ => by rw [k94_open h_]; exact k94_mkM _ _ _ x_) (fun _ h => h.elim) (fun _ _ => trivial) HB3.out (Nat.le_trans HSz.out HB3.out.size) (by have := HSs.out; simp; omega) ?_; intro v4 w4 ho hb hg_ hnew_; clear hg_ hnew_; have HR4 := Lib.hid ho; have HI4 := Lib.hid (HS.out.above hb); clear ho hb))
              go_roundw
              case rel => exact ⟨p + wd s p, acc ++ [(⟨(rn s p : Int), false, false⟩ : S94)], false, rfl, HW.out.2.1, by have := HW.out.1; simp; omega, HR4, Lib.hid (by rw [← HA.out, HF.out, List.map_cons]; rw [signsL, if_neg (by have := HQ.out; omega), if_neg (by have := HQ.out; omega), if_neg (by have := HQ.out; omega)]; simp), HI4.out⟩
              case measure => rw [HI4.out.pos, HPos.out]; have := HW.out; omega
    · have hnx := HI.done (P := Try.prog) hlt
      have HE := Lib.hid (from_ge hlt)
      have HB := Lib.hid HI.bw
      cases esc with
      | false =>
        go_wp2
        go_ret
        refine ⟨_, rfl, ?_, HB.out⟩
        have h := HA.out
        rw [HE.out] at h
        simp [signsL] at h
        rw [← h]
        exact Kd.R_lower HR.out (Nat.le_succ _)
      | true =>
        have HR2 := HR
        have HS := Lib.hid HI
        have HSz := Lib.hid (iter_size HI)
        go_wp2_with (first
          | ((with_reducible refine gate_dst (N := 44) rfl ?_); refine Kd.R_lit k94 (w0 := wr) (w.heap.size + 1) 94 ?hg44 (N := 44) ?hd44 (xs := [(⟨92, false, false⟩ : S94)]) (inner := [.int .i32 92, .bool false, .bool false]) (ok := fun _ => True) (okp := fun _ => True) ?hr44 ?hp44 (fun _ hk => hk) trivial (Below.refl _ _) HSz.out (by simp) ?_; (case hd44 => rfl); (case hg44 => rfl); (case hr44 => first | (go_simp; done) | (go_simp; rfl)); (case hp44 => exact (sign_reps _ _ _ (⟨92, false, false⟩ : S94))); intro v3 w3 ho hb hg_ hnew_; clear hnew_; obtain ⟨A3, c3, rfl⟩ := Kd.R_slice ho; have HO3 := Lib.hid (Kd.R_reads' ho).2.2; have HB3 := Lib.hid hb; have HR3 := Lib.hid (Kd.R_grown2 HR2.out rfl hg_ (fun _ h => by cases h)); clear ho hb hg_)
          | ((with_reducible refine gate_builtin (b := .append) (xs := #[.tmp 42, .tmp 44]) rfl ?_); at_builtin; refine Kd.R_append_rows k94 (w0 := wr) (w.heap.size + 1) rfl (.tmp 42) (.tmp 44) 89 94 (.agg #[.int .i32 0, .bool false, .bool false]) 8 rfl Try.underlying89 info_sign rfl (by decide) (by omega) _ acc [(⟨92, false, false⟩ : S94)] A3 _ c3 (fun _ => True) (fun _ => False) rfl rfl HR3.out HO3.out (fun x_ cs_ h_ => by rw [k94_open h_]; exact k94_mkM _ _ _ x_) (fun _ h => h.elim) (fun _ _ => trivial) HB3.out (Nat.le_trans HSz.out HB3.out.size) (by have := HSs.out; simp; omega) ?_; intro v4 w4 ho hb hg_ hnew_; clear hg_ hnew_; have HR4 := Lib.hid ho; have HI4 := Lib.hid (HS.out.above hb); clear ho hb))
        go_ret
        refine ⟨_, rfl, ?_, HI4.out.bw⟩
        have h := HA.out
        rw [HE.out] at h
        simp only [List.map_nil, signsL] at h
        rw [← h]
        exact Kd.R_lower HR4.out (Nat.le_succ _)

end Go.Proofs.Ytffggkhahambhaa.Text

namespace Go.Proofs.Ytffggkhahambhaa.PAll
open Go.RowKit Go.Proofs.YtffggkhahambhaaW.PrintWords Go.Proofs.YtffggkhahambhaaW.PrintLast Go.Proofs.YtffggkhahambhaaW.PrintMore Go.Proofs.Ytffggkhahambhaa.Math Go.Proofs.Ytffggkhahambhaa.Runes Go.Proofs.Ytffggkhahambhaa.Text
set_option linter.unusedVariables false
theorem guard_some {α : Type} {c : Prop} [Decidable c] {x r : α} (h : (if c then some x else none) = some r) : c ∧ x = r := by
  by_cases hc : c
  · rw [if_pos hc] at h; exact ⟨hc, Option.some.inj h⟩
  · rw [if_neg hc] at h; cases h

def text_runes.f (a0 : ByteArray) : Option (List Int) := if a0.size ≤ 1000000 then some (runesI a0) else none
theorem text_runes.calls (a0 : ByteArray) (r : List Int) (w : World) (h : text_runes.f a0 = some r) :
    Calls Try.prog 60 #[.string a0] w fun e w' => ∃ v0_ : Value, e = .returned (v0_) ∧ Kd.R (Kd.int .i32) 21 w' w.heap.size (fun _ => True) v0_ r ∧ Below w.heap.size w w' := by
  obtain ⟨h1, rfl⟩ := guard_some h
  exact runes_calls a0 w h1
def text_signs.f (a0 : ByteArray) : Option (List S94) := if a0.size ≤ 1000000 then some (signsL false (runesI a0)) else none
theorem text_signs.calls (a0 : ByteArray) (r : List S94) (w : World) (h : text_signs.f a0 = some r) :
    Calls Try.prog 59 #[.string a0] w fun e w' => ∃ v0_ : Value, e = .returned (v0_) ∧ Kd.R k94 94 w' w.heap.size (fun _ => True) v0_ r ∧ Below w.heap.size w w' := by
  obtain ⟨h1, rfl⟩ := guard_some h
  exact signs_calls a0 w h1
end Go.Proofs.Ytffggkhahambhaa.PAll

namespace Go.Proofs.Ytffggkhahambhaa.Tr
open Go.RowKit Go.Proofs.YtffggkhahambhaaW.PrintWords Go.Proofs.YtffggkhahambhaaW.PrintLast Go.Proofs.YtffggkhahambhaaW.PrintMore Go.Proofs.Ytffggkhahambhaa.Math Go.Proofs.Ytffggkhahambhaa.PAll
set_option linter.unusedVariables false
set_option linter.unusedSimpArgs false
/-- filter.All's closure tells of these spans the opposite of p, as long as nothing below B turns. -/
def Keeps (B : Nat) (w0 : World) (bq : Nat) (p : Sp → Bool) (l : List Sp) : Prop := ∀ s ∈ l, ∀ w, Below B w0 w → Calls Try.prog 25 #[.agg (encS s).toArray, .pointer (some ⟨bq, 0, none⟩)] w fun e w' => e = .returned (.bool (!p s)) ∧ Below w.heap.size w w'
theorem bel_then {B : Nat} {w0 w w1 : World} (h : Below B w0 w) (hB : B ≤ w.heap.size) (h1 : Below w.heap.size w w1) : Below B w0 w1 := h.trans ⟨h1.os, h1.tape, h1.output, h1.size, fun k hk => h1.block k (by omega)⟩
set_option maxHeartbeats 2000000 in
theorem clone_calls (A : Option Addr) (c : Nat) (l : List Sp) (w : World) (hr : Kd.C kS w A l.length l) (hl : l.length ≤ c) (hn : l.length ≤ 1000000) :
    Calls Try.prog 24 #[.slice A l.length c] w fun e w' => ∃ v, e = .returned v ∧ Kd.R kS 34 w' w.heap.size (fun _ => True) v l ∧ Below w.heap.size w w' := by
  have q : ∀ (w : World) (a : Option Addr) (n c n' c' : Nat), (binOp .eql 25 (.slice a n c) (.slice none n' c')).run Try.prog w = .ok (.bool a.isNone) w := fun w a n c n' c' => Lib.run_eql_slice_nil w _ _ a n c n' c' Try.underlying25
  rcases A with _ | ad
  · have h0 : l = [] := by
      rcases Nat.eq_zero_or_pos l.length with h0 | h0
      · exact List.length_eq_zero_iff.1 h0
      · obtain ⟨ad, h, _⟩ := hr.2.2 h0
        cases h
    subst h0
    go_enter Try.func24, Try.ntmps24
    go_wp2
    go_ret
    exact ⟨_, rfl, Kd.R_nil _ _ _ _ _, Below.refl _ _⟩
  · have HR := Lib.hid hr
    have HL := Lib.hid hn
    clear hr hn
    go_enter Try.func24, Try.ntmps24
    go_wp2_with (first | ((with_reducible refine gate_dst (N := 5) rfl ?_); refine Kd.R_lit kS _ 34 ?hg (N := 5) ?hd (xs := ([] : List Sp)) (inner := []) (ok := fun _ => True) (okp := fun _ => True) ?hr ?hp (fun _ hk => hk) trivial (Below.refl _ _) (Nat.le_refl _) (by simp) ?_; (case hd => rfl); (case hg => rfl); (case hr => first | (go_simp; done) | (go_simp; rfl)); (case hp => exact (Reps.none _ _)); intro v1 w1 ho hb hg_ hnew_; clear hg_ hnew_; have HO := Lib.hid ho; have HB := Lib.hid hb; clear ho hb) | ((with_reducible refine gate_builtin (b := .append) (xs := #[.tmp 5, .tmp 6]) rfl ?_); at_builtin; refine Kd.R_append_rows kS (w0 := w) w.heap.size rfl (.tmp 5) (.tmp 6) 25 34 (.agg #[(.int .u64 0), (.int .u64 0), (.int .u64 0), (.string ⟨#[]⟩), (.string ⟨#[]⟩), (.int .i64 0), (.int .i64 0), (.int .i64 0), (.slice none 0 0), (.slice none 0 0), (.slice none 0 0)]) 152 rfl Try.underlying25 infoS rfl (by decide) (by omega) v1 [] l _ _ _ (fun _ => True) (fun _ => False) rfl rfl ?aO ?aR (fun _ _ h => h) (fun _ h => h.elim) ?aF ?aB ?aS ?aL ?_; (case aR => exact Kd.C_below HR.out HB.out); (case aB => exact HB.out); (case aF => exact (fun _ _ => trivial)); (case aO => exact HO.out); (case aS => exact below_size HB.out); (case aL => have := HL.out; simp; omega); intro v2 w2 ho hb hg hat; have HO2 := Lib.hid ho; have HB2 := Lib.hid hb; clear ho hb hg hat))
    go_ret
    exact ⟨_, rfl, by simpa using HO2.out, HB2.out⟩

set_option maxHeartbeats 4000000 in
set_option maxRecDepth 100000 in
theorem indexf_calls (A : Option Addr) (c : Nat) (l : List Sp) {B bq : Nat} {p : Sp → Bool} {w0 w : World} (hP : Keeps B w0 bq p l) (hB0 : Below B w0 w) (hBs : B ≤ w.heap.size) (hr : Kd.C kS w A l.length l) (hl : l.length ≤ c) (hn : l.length ≤ 1000000) :
    Calls Try.prog 47 #[.slice A l.length c, .func (.func 25) #[] #[.pointer (some ⟨bq, 0, none⟩)]] w fun e w' => ∃ i : Int, e = .returned (.int .i64 i) ∧ ((i = -1 ∧ ∀ s ∈ l, p s = true) ∨ ∃ k : Nat, i = k ∧ k < l.length ∧ (∀ s ∈ l.take k, p s = true) ∧ ∀ s, l[k]? = some s → p s = false) ∧ Below w.heap.size w w' := by
  have HP := Lib.hid hP
  have HB0 := Lib.hid hB0
  have HBs := Lib.hid hBs
  have HR := Lib.hid hr
  have HN := Lib.hid hn
  clear hP hB0 hBs hr hn
  go_enter Try.func47, Try.ntmps47
  go_wp2
  go_loopw [5, 8] (fun _ i wr => ∃ k : Nat, k ≤ l.length ∧ i = .int .i64 k ∧ Hid (∀ s ∈ l.take k, p s = true) ∧ Hid (Below w.heap.size w wr)) (fun _ i _ => l.length - (intOf i).toNat)
  case atStart => exact ⟨0, by omega, rfl, Lib.hid (fun s hs => by simp at hs), Lib.hid (Below.refl _ _)⟩
  case round =>
    obtain ⟨k, hk, rfl, HA, HB⟩ := hrel
    by_cases hlt : k < l.length
    · obtain ⟨s, hs⟩ : ∃ s, l[k]? = some s := ⟨_, List.getElem?_eq_getElem hlt⟩
      obtain ⟨ad, rfl, x0, x1, x2, x3, x4, x5, x6, x7, x8, x9, x10⟩ := at_S (Kd.C_below HR.out HB.out) hs
      have HTk := Lib.hid (show l.take (k + 1) = l.take k ++ [s] by
        obtain ⟨hk2, e⟩ := List.getElem?_eq_some_iff.1 hs
        rw [List.take_succ_eq_append_getElem hk2, e])
      have q : (k : Int) < (l.length : Int) := by omega
      have HK := Lib.hid (show k + 1 ≤ l.length by omega)
      have HW := Lib.hid (show wrap64 ((k : Int) + 1) = ((k + 1 : Nat) : Int) by have := HN.out; unfold wrap64; omega)
      have HGS := Lib.hid hs
      have hcall := HP.out s (List.mem_of_getElem? hs) wr (bel_then HB0.out HBs.out HB.out)
      rw [arr_S] at hcall
      have HCALL := Lib.hid hcall
      clear hs hlt hk hcall
      go_wp2_with fail
      refine HCALL.out.mono ?_
      rintro e w1 ⟨rfl, hb⟩
      have HB1 := Lib.hid (below_step HB.out hb)
      clear hb x0 x1 x2 x3 x4 x5 x6 x7 x8 x9 x10
      cases hroot : p s with
      | true =>
        have HRT := Lib.hid hroot
        clear hroot
        go_wp2
        go_roundw
        case rel => exact ⟨k + 1, HK.out, by rw [HW.out], Lib.hid (by rw [HTk.out]; intro y hy; rcases List.mem_append.1 hy with hy | hy; exact HA.out y hy; rw [List.mem_singleton.1 hy]; exact HRT.out), HB1⟩
        case measure => exact meas_up HN.out HK.out
      | false =>
        have HRT := Lib.hid hroot
        clear hroot
        go_wp2
        go_ret
        exact ⟨k, rfl, .inr ⟨k, rfl, by have := HK.out; omega, HA.out, fun y hy => by rw [HGS.out] at hy; injection hy with hy; rw [← hy]; exact HRT.out⟩, HB1.out⟩
    · have hkl : k = l.length := by omega
      subst hkl
      have q : decide ((l.length : Int) < (l.length : Int)) = false := decide_eq_false (by omega)
      rw [List.take_length] at HA
      clear hlt hk
      go_wp2
      go_ret
      exact ⟨-1, rfl, .inl ⟨rfl, HA.out⟩, HB.out⟩

theorem take_set_snoc {ys : List Sp} {i : Nat} (hi : i < ys.length) (s : Sp) : (ys.set i s).take (i + 1) = ys.take i ++ [s] := by
  rw [List.take_succ_eq_append_getElem (by rw [List.length_set]; exact hi), List.getElem_set_self, List.take_set_of_le (Nat.le_refl _)]

set_option maxHeartbeats 4000000 in
set_option maxRecDepth 100000 in
theorem delf_calls (A : Option Addr) (c : Nat) (l : List Sp) {base bq : Nat} {p : Sp → Bool} {w0 w : World} (hP : Keeps base w0 bq p l) (hB0 : Below base w0 w) (hbs : base ≤ w.heap.size) (hr : Kd.R kS 34 w base (fun _ => True) (.slice A l.length c) l) (hn : l.length ≤ 1000000) :
    Calls Try.prog 23 #[.slice A l.length c, .func (.func 25) #[] #[.pointer (some ⟨bq, 0, none⟩)]] w fun e w' => ∃ v', e = .returned v' ∧ Kd.R kS 34 w' base (fun _ => True) v' (l.filter fun s => p s) ∧ Below base w w' := by
  have hix := indexf_calls A c l hP hB0 hbs (Kd.R_reads' hr).2.2 (Kd.R_reads' hr).2.1 hn
  have HIX := Lib.hid hix
  have HP := Lib.hid hP
  have HB0 := Lib.hid hB0
  have HR := Lib.hid hr
  have HN := Lib.hid hn
  have HBS := Lib.hid hbs
  clear hix hP hB0 hr hn hbs
  go_enter Try.func23, Try.ntmps23
  go_wp2_with fail
  refine HIX.out.mono ?_
  rintro e w1 ⟨ix, rfl, hix, hb⟩
  have HB1 := Lib.hid (show Below base w w1 from ⟨hb.os, hb.tape, hb.output, hb.size, fun k hk => hb.block k (by have := HBS.out; omega)⟩)
  have HR1 := Lib.hid (Kd.R_below HR.out hb)
  clear hb HIX
  rcases hix with ⟨rfl, hall⟩ | ⟨k0, rfl, hk0, hall, hno⟩
  · have HALL := Lib.hid hall
    clear hall
    go_wp2
    go_ret
    exact ⟨_, rfl, by rw [List.filter_eq_self.2 HALL.out]; exact HR1.out, HB1.out⟩
  · obtain ⟨ad, rfl⟩ : ∃ ad, A = some ad := by
      obtain ⟨ad, c', h⟩ := Kd.R_slice1 HR1.out (by omega)
      injection h with h
      exact ⟨ad, h⟩
    have q0 : ((k0 : Int) == -1) = false := beq_eq_false_iff_ne.2 (by omega)
    have HW0 := Lib.hid (show wrap64 ((k0 : Int) + 1) = ((k0 + 1 : Nat) : Int) by have := HN.out; unfold wrap64; omega)
    have HK0 := Lib.hid hk0
    have HT0 := Lib.hid (show l.take k0 = (l.take (k0 + 1)).filter fun s => p s by
      rw [List.take_succ_eq_append_getElem hk0, List.filter_append, List.filter_eq_self.2 hall, List.filter_cons_of_neg (by rw [hno _ (List.getElem?_eq_getElem hk0)]; decide)]
      simp)
    obtain ⟨k1, hk1⟩ : ∃ k1, k1 = k0 + 1 := ⟨_, rfl⟩
    rw [← hk1] at HW0 HT0
    have HK1 := Lib.hid hk1
    clear hall hno hk0 hk1
    go_wp2
    rw [HW0.out]
    go_loopw [5, 6, 7] (fun a5 a6 _ wr => ∃ (i j : Nat) (ys : List Sp), j ≤ l.length ∧ a5 = .int .i64 i ∧ a6 = .int .i64 j ∧ Hid (i < j) ∧ Hid (ys.length = l.length) ∧ Hid (ys.take i = (l.take j).filter fun s => p s) ∧ Hid (ys.drop j = l.drop j) ∧ Hid (Kd.R kS 34 wr base (fun _ => True) (.slice (some ad) l.length c) ys) ∧ Hid (Below base w wr)) (fun _ a6 _ _ => l.length - (intOf a6).toNat)
    case atStart => exact ⟨k0, k1, l, by have := HK0.out; have := HK1.out; omega, rfl, rfl, Lib.hid (by have := HK1.out; omega), Lib.hid rfl, HT0, Lib.hid rfl, HR1, HB1⟩
    case round =>
      clear HR1 HB1 HR HT0
      obtain ⟨i, j, ys, hj, rfl, rfl, HIJ, HYL, HYT, HYD, HR, HB⟩ := hrel
      have HBZ := Lib.hid (Nat.le_trans HBS.out HB.out.size)
      by_cases hlt : j < l.length
      · obtain ⟨s, hs⟩ : ∃ s, ys[j]? = some s := ⟨_, List.getElem?_eq_getElem (by rw [HYL.out]; exact hlt)⟩
        have HLS := Lib.hid (show l[j]? = some s by
          have h1 : (ys.drop j)[0]? = (l.drop j)[0]? := by rw [HYD.out]
          rw [List.getElem?_drop, List.getElem?_drop, Nat.add_zero, hs] at h1
          exact h1.symm)
        obtain ⟨ad2, he2, x0, x1, x2, x3, x4, x5, x6, x7, x8, x9, x10⟩ := at_S (Kd.R_reads' HR.out).2.2 hs
        injection he2 with he2
        subst he2
        have q : (j : Int) < (l.length : Int) := by omega
        have HK := Lib.hid (show j + 1 ≤ l.length by omega)
        have HW := Lib.hid (show wrap64 ((j : Int) + 1) = ((j + 1 : Nat) : Int) by have := HN.out; unfold wrap64; omega)
        have hz := below_alloc (Below.refl wr.heap.size wr) (.cells (encS s).toArray 34)
        have HRx := Lib.hid (Kd.R_below HR.out hz)
        have HBx := Lib.hid (show Below base w (wr.alloc (.cells (encS s).toArray 34)) from HB.out.alloc HBZ.out _)
        have KS := Lib.hid (heap_alloc_new wr (.cells (encS s).toArray 34))
        rw [arr_S] at HRx HBx KS
        clear hs hlt hj hz
        go_upto_region 8 with (fail)
        clear x0 x1 x2 x3 x4 x5 x6 x7 x8 x9 x10 q
        generalize (wr.alloc (.cells #[.int .u64 s.tr, .int .u64 s.id, .int .u64 s.par, .string s.svc, .string s.op, .int .i64 s.st, .int .i64 s.du, .int .i64 s.stt, .slice s.a.1 s.a.2.1 s.a.2.2, .slice s.e.1 s.e.2.1 s.e.2.2, .slice s.l.1 s.l.2.1 s.l.2.2] 34)) = w8 at HRx HBx KS ⊢
        generalize (Value.agg #[.int .u64 s.tr, .int .u64 s.id, .int .u64 s.par, .string s.svc, .string s.op, .int .i64 s.st, .int .i64 s.du, .int .i64 s.stt, .slice s.a.1 s.a.2.1 s.a.2.2, .slice s.e.1 s.e.2.1 s.e.2.2, .slice s.l.1 s.l.2.1 s.l.2.2]) = junk1
        obtain ⟨x0, x1, x2, x3, x4, x5, x6, x7, x8, x9, x10⟩ := blkS (s := s) KS.out
        have hcall := HP.out s (List.mem_of_getElem? HLS.out) w8 (HB0.out.trans HBx.out)
        rw [arr_S] at hcall
        have HCALL := Lib.hid hcall
        clear hcall
        go_wp2_with fail
        refine HCALL.out.mono ?_
        rintro e w9 ⟨rfl, hb⟩
        have HR9 := Lib.hid (Kd.R_below HRx.out hb)
        have HB9 := Lib.hid (show Below base w w9 from HBx.out.trans ⟨hb.os, hb.tape, hb.output, hb.size, fun k hk => hb.block k (by have := HBx.out.size; have := HBS.out; omega)⟩)
        have K9 := Lib.hid (block_below KS.out hb)
        clear hb x0 x1 x2 x3 x4 x5 x6 x7 x8 x9 x10
        cases hroot : p s with
        | true =>
          have hi : i < ys.length := by have := HIJ.out; have := HYL.out; have := HK.out; omega
          obtain ⟨z, hzz⟩ : ∃ z, ys[i]? = some z := ⟨_, List.getElem?_eq_getElem hi⟩
          obtain ⟨hr2, hb2, hf2, f0⟩ := row_put HR9.out hi s
          have f1 := hf2 1 (by omega)
          have f2 := hf2 2 (by omega)
          have f3 := hf2 3 (by omega)
          have f4 := hf2 4 (by omega)
          have f5 := hf2 5 (by omega)
          have f6 := hf2 6 (by omega)
          have f7 := hf2 7 (by omega)
          have f8 := hf2 8 (by omega)
          have f9 := hf2 9 (by omega)
          have f10 := hf2 10 (by omega)
          have HRP := Lib.hid hr2
          have HBP := Lib.hid (HB9.out.trans hb2)
          obtain ⟨ad3, he3, y0, y1, y2, y3, y4, y5, y6, y7, y8, y9, y10⟩ := at_S (Kd.R_reads' HR9.out).2.2 hzz
          injection he3 with he3
          subst he3
          obtain ⟨x0, x1, x2, x3, x4, x5, x6, x7, x8, x9, x10⟩ := blkS (s := s) K9.out
          have qi : (i : Int) < (l.length : Int) := by have := HYL.out; omega
          have HYT2 := Lib.hid (show (ys.set i s).take (i + 1) = (l.take (j + 1)).filter fun s => p s by
            obtain ⟨hk2, e⟩ := List.getElem?_eq_some_iff.1 HLS.out
            rw [take_set_snoc hi, HYT.out, List.take_succ_eq_append_getElem hk2, e, List.filter_append, List.filter_cons_of_pos hroot]
            rfl)
          have HYD2 := Lib.hid (show (ys.set i s).drop (j + 1) = l.drop (j + 1) by
            rw [List.drop_set_of_lt (by have := HIJ.out; omega), ← List.drop_drop, ← List.drop_drop, HYD.out])
          have HWI := Lib.hid (show wrap64 ((i : Int) + 1) = ((i + 1 : Nat) : Int) by have := HN.out; unfold wrap64; omega)
          obtain ⟨g, hg⟩ : ∃ g, ad = ⟨g, 0, none⟩ := by
            obtain ⟨g, cur, h, _⟩ := row_open HR9.out (by omega)
            exact ⟨g, h⟩
          have hadd : ad.add (i * 11) = ⟨g, i * 11, none⟩ := by rw [hg]; exact add_at g (i * 11)
          simp only [hadd] at f0 f1 f2 f3 f4 f5 f6 f7 f8 f9 f10 y0 y1 y2 y3 y4 y5 y6 y7 y8 y9 y10 HRP HBP
          clear hroot hr2 hb2 hf2 hzz hi hg
          go_upto_region 10 with (fail)
          change Hid (Kd.R kS 34 (((((((((((w9.setCell ⟨g, i * 11, none⟩ (.int .u64 s.tr)).setCell ⟨g, i * 11 + 1, none⟩ (.int .u64 s.id)).setCell ⟨g, i * 11 + 2, none⟩ (.int .u64 s.par)).setCell ⟨g, i * 11 + 3, none⟩ (.string s.svc)).setCell ⟨g, i * 11 + 4, none⟩ (.string s.op)).setCell ⟨g, i * 11 + 5, none⟩ (.int .i64 s.st)).setCell ⟨g, i * 11 + 6, none⟩ (.int .i64 s.du)).setCell ⟨g, i * 11 + 7, none⟩ (.int .i64 s.stt)).setCell ⟨g, i * 11 + 8, none⟩ (.slice s.a.1 s.a.2.1 s.a.2.2)).setCell ⟨g, i * 11 + 9, none⟩ (.slice s.e.1 s.e.2.1 s.e.2.2)).setCell ⟨g, i * 11 + 10, none⟩ (.slice s.l.1 s.l.2.1 s.l.2.2)) base (fun _ => True) (.slice (some ad) l.length c) (ys.set i s)) at HRP
          change Hid (Below base w (((((((((((w9.setCell ⟨g, i * 11, none⟩ (.int .u64 s.tr)).setCell ⟨g, i * 11 + 1, none⟩ (.int .u64 s.id)).setCell ⟨g, i * 11 + 2, none⟩ (.int .u64 s.par)).setCell ⟨g, i * 11 + 3, none⟩ (.string s.svc)).setCell ⟨g, i * 11 + 4, none⟩ (.string s.op)).setCell ⟨g, i * 11 + 5, none⟩ (.int .i64 s.st)).setCell ⟨g, i * 11 + 6, none⟩ (.int .i64 s.du)).setCell ⟨g, i * 11 + 7, none⟩ (.int .i64 s.stt)).setCell ⟨g, i * 11 + 8, none⟩ (.slice s.a.1 s.a.2.1 s.a.2.2)).setCell ⟨g, i * 11 + 9, none⟩ (.slice s.e.1 s.e.2.1 s.e.2.2)).setCell ⟨g, i * 11 + 10, none⟩ (.slice s.l.1 s.l.2.1 s.l.2.2))) at HBP
          generalize (((((((((((w9.setCell ⟨g, i * 11, none⟩ (.int .u64 s.tr)).setCell ⟨g, i * 11 + 1, none⟩ (.int .u64 s.id)).setCell ⟨g, i * 11 + 2, none⟩ (.int .u64 s.par)).setCell ⟨g, i * 11 + 3, none⟩ (.string s.svc)).setCell ⟨g, i * 11 + 4, none⟩ (.string s.op)).setCell ⟨g, i * 11 + 5, none⟩ (.int .i64 s.st)).setCell ⟨g, i * 11 + 6, none⟩ (.int .i64 s.du)).setCell ⟨g, i * 11 + 7, none⟩ (.int .i64 s.stt)).setCell ⟨g, i * 11 + 8, none⟩ (.slice s.a.1 s.a.2.1 s.a.2.2)).setCell ⟨g, i * 11 + 9, none⟩ (.slice s.e.1 s.e.2.1 s.e.2.2)).setCell ⟨g, i * 11 + 10, none⟩ (.slice s.l.1 s.l.2.1 s.l.2.2)) = w10 at HRP HBP ⊢
          clear x0 x1 x2 x3 x4 x5 x6 x7 x8 x9 x10 y0 y1 y2 y3 y4 y5 y6 y7 y8 y9 y10 f0 f1 f2 f3 f4 f5 f6 f7 f8 f9 f10 qi
          go_wp2
          go_roundw
          case rel => exact ⟨i + 1, j + 1, ys.set i s, HK.out, by rw [HWI.out], by rw [HW.out], Lib.hid (by have := HIJ.out; omega), Lib.hid (by rw [List.length_set]; exact HYL.out), HYT2, HYD2, HRP, HBP⟩
          case measure => exact meas_up HN.out HK.out
        | false =>
          have HYT2 := Lib.hid (show ys.take i = (l.take (j + 1)).filter fun s => p s by
            obtain ⟨hk2, e⟩ := List.getElem?_eq_some_iff.1 HLS.out
            rw [HYT.out, List.take_succ_eq_append_getElem hk2, e, List.filter_append, List.filter_cons_of_neg (by rw [hroot]; decide)]
            simp)
          have HYD2 := Lib.hid (show ys.drop (j + 1) = l.drop (j + 1) by rw [← List.drop_drop, ← List.drop_drop, HYD.out])
          clear hroot
          go_wp2
          go_roundw
          case rel => exact ⟨i, j + 1, ys, HK.out, rfl, by rw [HW.out], Lib.hid (by have := HIJ.out; omega), HYL, HYT2, HYD2, HR9, HB9⟩
          case measure => exact meas_up HN.out HK.out
      · have hkl : j = l.length := by omega
        subst hkl
        have q : decide ((l.length : Int) < (l.length : Int)) = false := decide_eq_false (by omega)
        rw [List.take_length] at HYT
        have hij := HIJ.out
        have hlc := (Kd.R_reads' HR.out).2.1
        obtain ⟨inf, hinf, hsz⟩ : ∃ inf, Try.prog.info? 34 = some inf ∧ inf.size = 11 := by
          obtain ⟨inf, h1, h2⟩ := Option.map_eq_some_iff.1 infoS
          simp only [Prod.mk.injEq] at h2
          exact ⟨inf, h1, h2.2.1⟩
        have kc1 := cut_from (P := Try.prog) 25 34 .i64 Try.underlying25 hinf 11 hsz (some ad) l.length c (i : Int) (by omega) (by omega)
        rw [Int.toNat_natCast, if_neg (by omega)] at kc1
        change ∀ W : World, _ = Result.ok (Value.slice (some (ad.add (i * 11))) (l.length - i) (c - i)) W at kc1
        have kc2 := cut_to (P := Try.prog) 25 34 .i64 Try.underlying25 hinf (some ad) l.length c (i : Int) (by omega) (by omega) hlc
        rw [Int.toNat_natCast] at kc2
        obtain ⟨W, hclr, hrW, hbW⟩ := row_clear HR.out (i := i) (by rw [HYL.out]; exact hij) (c - i)
        have hbc : ∀ ats ty cs args, builtin .clear ats ty cs args = (do pure (.value (← Builtin.clear_ ats ty args))) := fun _ _ _ _ => rfl
        have HRW := Lib.hid hrW
        have HBW := Lib.hid (HB.out.trans hbW)
        clear hlt hj hij hlc hinf hsz hrW hbW
        go_wp2
        go_ret
        exact ⟨_, rfl, by rw [← HYT.out]; exact HRW.out, HBW.out⟩

end Go.Proofs.Ytffggkhahambhaa.Tr

namespace Go.Proofs.Ytffggkhahambhaa.Math
open Go.RowKit Go.Proofs.YtffggkhahambhaaW.PrintWords
set_option linter.unusedVariables false

/-- Does one row come ahead of another one? -/
def lexLt : List Int → List Int → Bool
  | [], [] => false
  | [], _ :: _ => true
  | _ :: _, [] => false
  | a :: s, b :: t => if a = b then lexLt s t else decide (a < b)
theorem lexLt_irrefl : ∀ a : List Int, lexLt a a = false
  | [] => rfl
  | x :: s => by simp only [lexLt, if_true]; exact lexLt_irrefl s
theorem lexLt_tri : ∀ a b : List Int, lexLt a b = true ∨ a = b ∨ lexLt b a = true
  | [], [] => .inr (.inl rfl)
  | [], _ :: _ => .inl rfl
  | _ :: _, [] => .inr (.inr rfl)
  | a :: s, b :: t => by
    simp only [lexLt]
    by_cases h : a = b
    · subst h
      rw [if_pos rfl, if_pos rfl]
      rcases lexLt_tri s t with h | h | h
      · exact .inl h
      · exact .inr (.inl (by rw [h]))
      · exact .inr (.inr h)
    · rw [if_neg h, if_neg (fun e => h e.symm)]
      rcases Int.lt_or_lt_of_ne h with h1 | h1
      · exact .inl (decide_eq_true h1)
      · exact .inr (.inr (decide_eq_true h1))
theorem lexLt_asymm : ∀ a b : List Int, lexLt a b = true → lexLt b a = false
  | [], [] => fun h => by cases h
  | [], _ :: _ => fun _ => rfl
  | _ :: _, [] => fun h => by cases h
  | a :: s, b :: t => by
    simp only [lexLt]
    by_cases h : a = b
    · subst h
      rw [if_pos rfl, if_pos rfl]
      exact lexLt_asymm s t
    · rw [if_neg h, if_neg (fun e => h e.symm)]
      intro h1
      have := of_decide_eq_true h1
      exact decide_eq_false (by omega)
theorem lexLt_trans : ∀ a b c : List Int, lexLt a b = true → lexLt b c = true → lexLt a c = true
  | [], [], c => fun h _ => by cases h
  | [], _ :: _, [] => fun _ h => by cases h
  | [], _ :: _, _ :: _ => fun _ _ => rfl
  | _ :: _, [], c => fun h _ => by cases h
  | _ :: _, _ :: _, [] => fun _ h => by cases h
  | a :: s, b :: t, c :: u => by
    simp only [lexLt]
    by_cases h : a = b
    · subst h
      rw [if_pos rfl]
      by_cases h2 : a = c
      · subst h2; rw [if_pos rfl, if_pos rfl]; exact lexLt_trans s t u
      · rw [if_neg h2, if_neg h2]; exact fun _ h => h
    · rw [if_neg h]
      intro h1
      by_cases h2 : b = c
      · subst h2; rw [if_pos rfl, if_neg h]; exact fun _ => h1
      · rw [if_neg h2]
        intro h3
        have a1 := of_decide_eq_true h1
        have a2 := of_decide_eq_true h3
        rw [if_neg (by omega)]
        exact decide_eq_true (by omega)
end Go.Proofs.Ytffggkhahambhaa.Math

namespace Go.Proofs.Ytffggkhahambhaa.NumFacts
open Go.RowKit Go.Proofs.Ytffggkhahambhaa.PAll Go.Proofs.YtffggkhahambhaaW.PrintWords Go.Proofs.YtffggkhahambhaaW.PrintLast Go.Proofs.YtffggkhahambhaaW.PrintMore Go.Proofs.Ytffggkhahambhaa.Math
set_option linter.unusedVariables false

theorem less_l0 (a b : List Int) (ha : a.length ≤ 140737488355328) (d : Nat) : ∀ (k i : Nat), i ≤ a.length → i ≤ b.length → a.length - i = d → 2 * d + 1 < k →
    cambiumref01_Less.l0 k a b (i : Int) = some (lexLt (a.drop i) (b.drop i)) := by
  induction d with
  | zero =>
    intro k i h1 h2 hd hk
    obtain ⟨k, rfl⟩ : ∃ m, k = m + 1 + 1 := ⟨k - 2, by omega⟩
    have hi : i = a.length := by omega
    subst hi
    rw [cambiumref01_Less.l0, if_neg (by omega), cambiumref01_Less.j1, if_neg (by simp), List.drop_length]
    by_cases hb : a.length < b.length
    · rw [rd_drop hb]
      simp only [lexLt]
      rw [decide_eq_true (by omega)]
    · rw [List.drop_of_length_le (by omega)]
      simp only [lexLt]
      rw [decide_eq_false (by omega)]
  | succ d ih =>
    intro k i h1 h2 hd hk
    obtain ⟨k, rfl⟩ : ∃ m, k = m + 1 + 1 := ⟨k - 2, by omega⟩
    rw [cambiumref01_Less.l0, if_pos (by omega), cambiumref01_Less.j1]
    rw [rd_drop (l := a) (i := i) (by omega)]
    by_cases hb : i < b.length
    · rw [rd_drop hb, if_pos (by simpa using (by omega : (i : Int) < (b.length : Int))), if_pos (by omega), if_pos (by omega), if_pos (by omega)]
      simp only [lexLt]
      by_cases e : rd a (i : Int) = rd b (i : Int)
      · rw [if_pos e, if_pos e, wrap_id (by omega) (by omega)]
        exact ih k (i + 1) (by omega) (by omega) (by omega) (by omega)
      · rw [if_neg e, if_neg e]
    · rw [List.drop_of_length_le (l := b) (by omega), if_neg (by simpa using (by omega : (b.length : Int) ≤ (i : Int)))]
      simp only [lexLt]
      rw [decide_eq_false (by omega)]
theorem less_eq (k : Nat) (a b : List Int) (ha : a.length ≤ 140737488355328) (hk : 2 * a.length + 1 < k) : cambiumref01_Less.f k a b = some (lexLt a b) := by
  unfold cambiumref01_Less.f
  have := less_l0 a b ha a.length k 0 (by omega) (by omega) (by omega) hk
  simpa using this

end Go.Proofs.Ytffggkhahambhaa.NumFacts

namespace Go.Proofs.Ytffggkhahambhaa.Conv
open Go.RowKit Go.Proofs.YtffggkhahambhaaW.PrintWords Go.Proofs.YtffggkhahambhaaW.PrintLast Go.Proofs.YtffggkhahambhaaW.PrintMore
set_option linter.unusedVariables false
variable {P : Program} {ops : Array Oper} {rest : List Oper} {o : Oper} {a : Act} {Q : Exit → Act → World → Prop} {K Kc : Act → World → Prop}

theorem bytes_V (W : World) (base e : Nat) (s : ByteArray) (hs : s.size ≤ 140737488355328) :
    Kd.V (Kd.int .u8) e (Lib.bytesWorld W e s) base (fun k => W.heap.size ≤ k) (.slice (some ⟨W.heap.size, 0, none⟩) s.size (grownCap W s.size 0 e)) (bytesOf s) := by
  have hl := bytesOf_length s
  refine ⟨some ⟨W.heap.size, 0, none⟩, grownCap W s.size 0 e, by rw [hl], by rw [hl]; exact grownCap_ge _ _ _ _, ?_⟩
  intro W' hW
  have hb := hW W.heap.size (Nat.le_refl _) (by rw [Lib.bytesWorld_size]; omega)
  have hr := bytes_reads W e s (by omega)
  rw [hl]
  refine Kd.C_of_reads (d := (0 : Int)) ⟨hl, by omega, fun hp => ?_⟩
  obtain ⟨ad, he, hc⟩ := hr.2.2 hp
  refine ⟨ad, he, fun i hi => ?_⟩
  injection he with he
  subst he
  rw [← hc i hi, add_plain]
  exact World.cell?_of_block hb

theorem conv_wp {w0 W : World} (base e : Nat) (src dst : TypeId) (x : Operand) (ho : o.op = .convert src dst x) {u : TypeDesc} (hs : P.underlying src = some u) (hd : P.underlying dst = some (.slice e)) (he : P.underlying e = some (.int .u8))
    (s : ByteArray) (hx : a.eval x = .string s) (hm : (s.size : Int) ≤ 140737488355328) (HB : Below base w0 W) (hbase : base ≤ W.heap.size)
    (h : ∀ v1 w1, Kd.V (Kd.int .u8) e w1 base (fun k => W.heap.size ≤ k) v1 (bytesOf s) → Below base w0 w1 → W.grownBy w1 none → (∃ b, v1.ownBlock = some b ∧ W.heap.size ≤ b) → K (a.put o.dst v1) w1) : Oper.wp P o a W K Q := by
  have hrun := print_bytes (P := P) src dst e hs hd he s W
  have h2 := h _ _ (bytes_V W base e s (by omega)) (bytes_below HB hbase e s) ⟨rfl, rfl, rfl, by rw [Lib.bytesWorld_size]; omega, fun k hk _ => Lib.bytesWorld_at_old W e s k hk⟩ ⟨_, rfl, Nat.le_refl _⟩
  unfold Oper.wp
  simp [execOp, ho, hx, hrun, Result.andThen]
  exact h2

theorem V_conv_step {w0 W : World} (base e : Nat) (hw : Region.wanted o (yielded ops a.tmps) = true) {N' : Tmp} (hdst : o.dst = some N') (src dst : TypeId) (x : Operand) (ho : o.op = .convert src dst x) {u : TypeDesc} (hs : P.underlying src = some u) (hd : P.underlying dst = some (.slice e)) (he : P.underlying e = some (.int .u8))
    (s : ByteArray) (hx : a.eval x = .string s) (hm : (s.size : Int) ≤ 140737488355328) (HB : Below base w0 W) (hbase : base ≤ W.heap.size)
    (h : ∀ v1 w1, Kd.V (Kd.int .u8) e w1 base (fun k => W.heap.size ≤ k) v1 (bytesOf s) → Below base w0 w1 → W.grownBy w1 none → (∃ b, v1.ownBlock = some b ∧ W.heap.size ≤ b) → Kc (a.put o.dst v1) w1) :
    if Region.wanted o (yielded ops a.tmps) = true then Oper.wp P o a W Kc Q else Kc (a.put o.dst undef) W := by
  rw [if_pos hw]
  exact conv_wp base e src dst x ho hs hd he s hx hm HB hbase h

end Go.Proofs.Ytffggkhahambhaa.Conv

namespace Go.Proofs.Ytffggkhahambhaa.Stab
set_option linter.unusedVariables false
variable {α : Type}

/-- A strict weak order. -/
structure Swo (lt : α → α → Bool) : Prop where
  irr : ∀ x, lt x x = false
  asym : ∀ x y, lt x y = true → lt y x = false
  ntr : ∀ x y z, lt x y = false → lt y z = false → lt x z = false
def eqv (lt : α → α → Bool) (x y : α) : Bool := !lt x y && !lt y x
theorem eqv_iff {lt : α → α → Bool} {x y : α} : eqv lt x y = true ↔ lt x y = false ∧ lt y x = false := by unfold eqv; cases lt x y <;> cases lt y x <;> simp
theorem eqv_ne {lt : α → α → Bool} (h : Swo lt) {x a b : α} (ha : eqv lt x a = true) (hb : eqv lt x b = true) : lt a b = false := by
  rw [eqv_iff] at ha hb
  exact h.ntr a x b ha.2 hb.1
/-- In order. -/
def Sd (lt : α → α → Bool) (l : List α) : Prop := l.Pairwise fun a b => lt b a = false
/-- Alike ones stay in their order. -/
def Kp (lt : α → α → Bool) (xs ys : List α) : Prop := ∀ x, ys.filter (eqv lt x) = xs.filter (eqv lt x)
theorem Kp.refl (lt : α → α → Bool) (xs : List α) : Kp lt xs xs := fun _ => rfl
theorem Kp.trans {lt : α → α → Bool} {xs ys zs : List α} (h : Kp lt xs ys) (g : Kp lt ys zs) : Kp lt xs zs := fun x => (g x).trans (h x)
theorem Kp.symm {lt : α → α → Bool} {xs ys : List α} (h : Kp lt xs ys) : Kp lt ys xs := fun x => (h x).symm
theorem Kp.app {lt : α → α → Bool} {xs ys us vs : List α} (h : Kp lt xs ys) (g : Kp lt us vs) : Kp lt (xs ++ us) (ys ++ vs) := fun x => by rw [List.filter_append, List.filter_append, h x, g x]
theorem Kp.mem {lt : α → α → Bool} (hw : Swo lt) {xs ys : List α} (h : Kp lt xs ys) {y : α} : y ∈ ys ↔ y ∈ xs := by
  have e : ∀ l : List α, y ∈ l ↔ y ∈ l.filter (eqv lt y) := fun l => by
    rw [List.mem_filter, eqv_iff]
    exact ⟨fun g => ⟨g, hw.irr y, hw.irr y⟩, fun g => g.1⟩
  rw [e ys, e xs, h y]
theorem Kp.nil {lt : α → α → Bool} (hw : Swo lt) {ys : List α} (h : Kp lt [] ys) : ys = [] := by
  cases ys with
  | nil => rfl
  | cons y ys => exact absurd ((h.mem hw).1 List.mem_cons_self) (by simp)
/-- There's one such row. -/
theorem sd_unique {lt : α → α → Bool} (hw : Swo lt) : ∀ {ys zs : List α}, Sd lt ys → Sd lt zs → Kp lt ys zs → ys = zs
  | [], zs, _, _, h => (h.nil hw).symm
  | y :: ys, [], _, _, h => absurd ((h.symm.mem hw).1 List.mem_cons_self) (by simp)
  | y :: ys, z :: zs, hy, hz, h => by
    unfold Sd at hy hz
    rw [List.pairwise_cons] at hy hz
    have h1 : lt z y = false := by
      rcases List.mem_cons.1 ((h.mem hw).1 (List.mem_cons_self (a := z) (l := zs))) with e | e
      · rw [e]; exact hw.irr y
      · exact hy.1 z e
    have h2 : lt y z = false := by
      rcases List.mem_cons.1 ((h.symm.mem hw).1 (List.mem_cons_self (a := y) (l := ys))) with e | e
      · rw [e]; exact hw.irr z
      · exact hz.1 y e
    have hyz : y = z := by
      have := h y
      rw [List.filter_cons, if_pos (eqv_iff.2 ⟨h2, h1⟩), List.filter_cons, if_pos (eqv_iff.2 ⟨hw.irr y, hw.irr y⟩)] at this
      injection this with e _
      exact e.symm
    subst hyz
    rw [sd_unique hw hy.2 hz.2 (fun x => by
      have := h x
      rw [List.filter_cons, List.filter_cons] at this
      split at this
      · injection this
      · exact this)]
/-- Blocks that hold nothing alike may change places. -/
theorem Kp.swap {lt : α → α → Bool} (hw : Swo lt) {A B : List α} (h : ∀ a ∈ A, ∀ b ∈ B, lt b a = true) : Kp lt (A ++ B) (B ++ A) := fun x => by
  rw [List.filter_append, List.filter_append]
  cases hA : A.filter (eqv lt x) with
  | nil => simp
  | cons a r =>
    have ha := List.mem_filter.1 (show a ∈ A.filter (eqv lt x) by rw [hA]; exact List.mem_cons_self)
    have hB : B.filter (eqv lt x) = [] := by
      rw [List.filter_eq_nil_iff]
      intro b hb e
      have := eqv_ne hw e ha.2
      rw [h a ha.1 b hb] at this
      cases this
    rw [hB]; simp
theorem sd_app {lt : α → α → Bool} {A B : List α} : Sd lt (A ++ B) ↔ Sd lt A ∧ Sd lt B ∧ ∀ a ∈ A, ∀ b ∈ B, lt b a = false := by unfold Sd; rw [List.pairwise_append]
/-- A row sorted, alike ones as they were. -/
structure Stb (lt : α → α → Bool) (xs ys : List α) : Prop where
  srt : Sd lt ys
  keep : Kp lt xs ys
theorem Stb.unique {lt : α → α → Bool} (hw : Swo lt) {xs ys zs : List α} (h : Stb lt xs ys) (g : Stb lt xs zs) : ys = zs := sd_unique hw h.srt g.srt (h.keep.symm.trans g.keep)
theorem Stb.nil (lt : α → α → Bool) : Stb lt [] [] := ⟨List.Pairwise.nil, Kp.refl _ _⟩
/-- One more, laid in its place: A not above it, B above it. -/
theorem Stb.add {lt : α → α → Bool} (hw : Swo lt) {xs A B : List α} {v : α} (h : Stb lt xs (A ++ B)) (hA : ∀ a ∈ A, lt v a = false) (hB : ∀ b ∈ B, lt v b = true) : Stb lt (xs ++ [v]) (A ++ v :: B) := by
  obtain ⟨h1, h2, h3⟩ := sd_app.1 h.srt
  refine ⟨sd_app.2 ⟨h1, List.pairwise_cons.2 ⟨fun b hb => hw.asym v b (hB b hb), h2⟩, fun a ha b hb => ?_⟩, ?_⟩
  · rcases List.mem_cons.1 hb with rfl | hb
    · exact hA a ha
    · exact h3 a ha b hb
  · have h4 : Kp lt (A ++ B ++ [v]) (A ++ v :: B) := by
      rw [List.append_assoc]
      exact (Kp.refl lt A).app (Kp.swap hw (fun b hb x hx => by rw [List.mem_singleton.1 hx]; exact hB b hb))
    exact (h.keep.app (Kp.refl lt [v])).trans h4
/-- The last of those ahead tells of all. -/
theorem all_le {lt : α → α → Bool} (hw : Swo lt) {A : List α} {u v : α} (h : Sd lt (A ++ [u])) (hu : lt v u = false) : ∀ a ∈ A ++ [u], lt v a = false := by
  intro a ha
  rcases List.mem_append.1 ha with ha | ha
  · exact hw.ntr v u a hu ((sd_app.1 h).2.2 a ha u (by simp))
  · rw [List.mem_singleton.1 ha]; exact hu
/-- Two sorted rows, one behind the other, merged. -/
structure Mg (lt : α → α → Bool) (L R S : List α) : Prop where
  stb : Stb lt (L ++ R) S
  len : S.length = L.length + R.length
/-- .. by exchange of the middle blocks. -/
theorem Mg.join {lt : α → α → Bool} (hw : Swo lt) {L1 L2 R1 R2 S1 S2 : List α} (h1 : Mg lt L1 R1 S1) (h2 : Mg lt L2 R2 S2) (hL : Sd lt (L1 ++ L2)) (hR : Sd lt (R1 ++ R2)) (ha : ∀ a ∈ L1, ∀ b ∈ R2, lt b a = false) (hb : ∀ a ∈ L2, ∀ b ∈ R1, lt b a = true) : Mg lt (L1 ++ L2) (R1 ++ R2) (S1 ++ S2) := by
  refine ⟨⟨sd_app.2 ⟨h1.stb.srt, h2.stb.srt, fun a ha1 b hb1 => ?_⟩, ?_⟩, by rw [List.length_append, h1.len, h2.len, List.length_append, List.length_append]; omega⟩
  · rcases List.mem_append.1 ((h1.stb.keep.mem hw).1 ha1) with h3 | h3 <;> rcases List.mem_append.1 ((h2.stb.keep.mem hw).1 hb1) with h4 | h4
    · exact (sd_app.1 hL).2.2 a h3 b h4
    · exact ha a h3 b h4
    · exact hw.asym _ _ (hb b h4 a h3)
    · exact (sd_app.1 hR).2.2 a h3 b h4
  · have h3 : Kp lt (L1 ++ L2 ++ (R1 ++ R2)) (L1 ++ R1 ++ (L2 ++ R2)) := by
      have := ((Kp.refl lt L1).app (Kp.swap hw hb)).app (Kp.refl lt R2)
      simp only [List.append_assoc] at this ⊢
      exact this
    exact h3.trans (h1.stb.keep.app h2.stb.keep)
theorem Mg.nilL {lt : α → α → Bool} {R : List α} (h : Sd lt R) : Mg lt [] R R := ⟨⟨h, by rw [List.nil_append]; exact Kp.refl _ _⟩, by simp⟩
theorem Mg.nilR {lt : α → α → Bool} {L : List α} (h : Sd lt L) : Mg lt L [] L := ⟨⟨h, by rw [List.append_nil]; exact Kp.refl _ _⟩, by simp⟩
theorem Mg.oneL {lt : α → α → Bool} (hw : Swo lt) {v : α} {R1 R2 : List α} (h : Sd lt (R1 ++ R2)) (h1 : ∀ r ∈ R1, lt r v = true) (h2 : ∀ r ∈ R2, lt r v = false) : Mg lt [v] (R1 ++ R2) (R1 ++ v :: R2) := by
  have := Mg.join hw (Mg.nilL (sd_app.1 h).1) (Mg.mk (lt := lt) (L := [v]) (R := R2) (S := v :: R2) ⟨List.pairwise_cons.2 ⟨h2, (sd_app.1 h).2.1⟩, Kp.refl _ _⟩ (by simp [Nat.add_comm])) (L1 := []) (List.pairwise_singleton _ _) h (fun a ha => by cases ha) (fun a ha b hb => by rw [List.mem_singleton.1 ha]; exact h1 b hb)
  simpa using this
theorem Mg.oneR {lt : α → α → Bool} (hw : Swo lt) {v : α} {L1 L2 : List α} (h : Sd lt (L1 ++ L2)) (h1 : ∀ l ∈ L1, lt v l = false) (h2 : ∀ l ∈ L2, lt v l = true) : Mg lt (L1 ++ L2) [v] (L1 ++ v :: L2) := by
  refine ⟨?_, by simp; omega⟩
  exact Stb.add hw ⟨h, Kp.refl _ _⟩ h1 h2
theorem sd_get {lt : α → α → Bool} {l : List α} (h : Sd lt l) {i j : Nat} {x y : α} (hij : i < j) (hx : l[i]? = some x) (hy : l[j]? = some y) : lt y x = false := by
  obtain ⟨h1, rfl⟩ := List.getElem?_eq_some_iff.1 hx
  obtain ⟨h2, rfl⟩ := List.getElem?_eq_some_iff.1 hy
  exact (List.pairwise_iff_getElem.1 h) i j h1 h2 hij
theorem sd_get' {lt : α → α → Bool} (hw : Swo lt) {l : List α} (h : Sd lt l) {i j : Nat} {x y : α} (hij : i ≤ j) (hx : l[i]? = some x) (hy : l[j]? = some y) : lt y x = false := by
  rcases Nat.lt_or_ge i j with h1 | h1
  · exact sd_get h h1 hx hy
  · have : i = j := by omega
    subst this
    rw [hx] at hy
    injection hy with hy
    rw [hy]; exact hw.irr _
/-- The split's two sides, by its border. -/
theorem border_le {lt : α → α → Bool} (hw : Swo lt) {L R : List α} (hL : Sd lt L) (hR : Sd lt R) {k1 k2 : Nat} (hk : k1 ≤ L.length) (h : 0 < k1 → ∀ x y, L[k1 - 1]? = some x → R[k2]? = some y → lt y x = false) : ∀ a ∈ L.take k1, ∀ b ∈ R.drop k2, lt b a = false := by
  intro a ha b hb
  obtain ⟨i, hi⟩ := List.mem_iff_getElem?.1 ha
  obtain ⟨j, hj⟩ := List.mem_iff_getElem?.1 hb
  rw [List.getElem?_take] at hi
  split at hi
  · rename_i hik
    rw [List.getElem?_drop] at hj
    have h1 := (List.getElem?_eq_some_iff.1 hi).1
    have h2 := (List.getElem?_eq_some_iff.1 hj).1
    obtain ⟨x, hx⟩ : ∃ x, L[k1 - 1]? = some x := ⟨_, List.getElem?_eq_getElem (by omega)⟩
    obtain ⟨y, hy⟩ : ∃ y, R[k2]? = some y := ⟨_, List.getElem?_eq_getElem (by omega)⟩
    exact hw.ntr b y a (sd_get' hw hR (by omega) hy hj) (hw.ntr y x a (h (by omega) x y hx hy) (sd_get' hw hL (by omega) hi hx))
  · cases hi
theorem border_lt {lt : α → α → Bool} (hw : Swo lt) {L R : List α} (hL : Sd lt L) (hR : Sd lt R) {k1 k2 : Nat} (hk : k2 ≤ R.length) (h : 0 < k2 → ∀ x y, L[k1]? = some x → R[k2 - 1]? = some y → lt y x = true) : ∀ a ∈ L.drop k1, ∀ b ∈ R.take k2, lt b a = true := by
  intro a ha b hb
  obtain ⟨i, hi⟩ := List.mem_iff_getElem?.1 ha
  obtain ⟨j, hj⟩ := List.mem_iff_getElem?.1 hb
  rw [List.getElem?_take] at hj
  split at hj
  · rename_i hjk
    rw [List.getElem?_drop] at hi
    have h1 := (List.getElem?_eq_some_iff.1 hi).1
    have h2 := (List.getElem?_eq_some_iff.1 hj).1
    obtain ⟨x, hx⟩ : ∃ x, L[k1]? = some x := ⟨_, List.getElem?_eq_getElem (by omega)⟩
    obtain ⟨y, hy⟩ : ∃ y, R[k2 - 1]? = some y := ⟨_, List.getElem?_eq_getElem (by omega)⟩
    rw [← Bool.not_eq_false]
    intro e
    have h3 := hw.ntr y b x (sd_get' hw hR (by omega) hj hy) (hw.ntr b a x e (sd_get' hw hL (by omega) hx hi))
    rw [h (by omega) x y hx hy] at h3
    cases h3
  · cases hj
/-- Insertion, plainly: behind the last one that isn't above it. -/
def insS (lt : α → α → Bool) (v : α) (l : List α) : List α := l.takeWhile (fun x => !lt v x) ++ v :: l.dropWhile (fun x => !lt v x)
end Go.Proofs.Ytffggkhahambhaa.Stab

namespace Go.Proofs.Ytffggkhahambhaa.Tr
open Go.RowKit Go.Proofs.YtffggkhahambhaaW.PrintWords Go.Proofs.YtffggkhahambhaaW.PrintLast Go.Proofs.YtffggkhahambhaaW.PrintMore Go.Proofs.Ytffggkhahambhaa.Math Go.Proofs.Ytffggkhahambhaa.PAll Go.Proofs.Ytffggkhahambhaa.Stab
open Go.Sort (HoldsK flatK get_flatK size_flatK)
set_option linter.unusedVariables false
set_option linter.unusedSimpArgs false

/-- The row, and what else may have changed. -/
structure Sr (w0 w : World) (base g n c : Nat) (ys : List Sp) : Prop where
  row : Kd.R kS 34 w base (fun _ => True) (.slice (some ⟨g, 0, none⟩) n c) ys
  gr : w0.grownBy w (some g)
theorem grownBy_refl (w : World) (r : Option Nat) : w.grownBy w r := ⟨rfl, rfl, rfl, Nat.le_refl _, fun _ _ _ => rfl⟩
theorem grownBy_trans {w0 w1 w2 : World} {r : Option Nat} (h : w0.grownBy w1 r) (k : w1.grownBy w2 r) : w0.grownBy w2 r :=
  ⟨k.os.trans h.os, k.tape.trans h.tape, k.output.trans h.output, Nat.le_trans h.size k.size, fun i hi hn => (k.block i (Nat.lt_of_lt_of_le hi h.size) hn).trans (h.block i hi hn)⟩
theorem grownBy_below {w w1 : World} (r : Option Nat) (h : Below w.heap.size w w1) : w.grownBy w1 r := ⟨h.os, h.tape, h.output, h.size, fun k hk _ => h.block k hk⟩
theorem Sr.start {w : World} {base g n c : Nat} {ys : List Sp} (h : Kd.R kS 34 w base (fun _ => True) (.slice (some ⟨g, 0, none⟩) n c) ys) : Sr w w base g n c ys := ⟨h, grownBy_refl _ _⟩
theorem Sr.next {w0 w w1 : World} {base g n c : Nat} {ys : List Sp} (h : Sr w0 w base g n c ys) (hb : Below w.heap.size w w1) : Sr w0 w1 base g n c ys := ⟨Kd.R_below h.row hb, grownBy_trans h.gr (grownBy_below _ hb)⟩
theorem Sr.drew {w0 w : World} {base g n c : Nat} {ys : List Sp} (h : Sr w0 w base g n c ys) : Sr w0 w.drew base g n c ys := h.next (below_drew (Below.refl _ _))
theorem Sr.then_ {w0 w1 w2 : World} {base g n c : Nat} {ys zs : List Sp} (h : Sr w0 w1 base g n c ys) (k : Sr w1 w2 base g n c zs) : Sr w0 w2 base g n c zs := ⟨k.row, grownBy_trans h.gr k.gr⟩
theorem Sr.len {w0 w : World} {base g n c : Nat} {ys : List Sp} (h : Sr w0 w base g n c ys) : n = ys.length := (Kd.R_reads' h.row).1
theorem Sr.holds {w0 w : World} {base g n c : Nat} {ys : List Sp} (h : Sr w0 w base g n c ys) (h0 : 0 < ys.length) : HoldsK encS 11 w g 0 ys.toArray := by
  obtain ⟨g', cur, he, hn, hg, hh, hnc, hcm, hcs, hr⟩ := row_open h.row h0
  injection he with he
  subst he
  exact holds_of hh hnc hcs hr
theorem Sr.ld {w0 w : World} {base g n c : Nat} {ys : List Sp} (h : Sr w0 w base g n c ys) {i : Nat} {x : Sp} (hx : ys[i]? = some x) (P : Program) : Sem.run P (loadCellsFrom ⟨g, i * 11, none⟩ 0 11 #[]) w = .ok (encS x).toArray w := by
  obtain ⟨hi, he⟩ := List.getElem?_eq_some_iff.1 hx
  have hH := h.holds (by omega)
  have := run_loadCellsFrom_list P w ⟨g, 0 + i * 11, none⟩ (encS (ys.toArray[i]!)) 11 (encS_len _) (HoldsK.cells hH encS_len (by simpa using hi))
  rw [Nat.zero_add] at this
  rw [this]
  have e : ys.toArray[i]! = x := by simp [hi, he]
  rw [e]
theorem Sr.st {w0 w : World} {base g n c : Nat} {ys : List Sp} (h : Sr w0 w base g n c ys) {i : Nat} (hi : i < ys.length) (x : Sp) (P : Program) : Sem.run P (storeCells ⟨g, i * 11, none⟩ (encS x) 0) w = .ok () (w.setCells g (i * 11) (encS x)) := by
  have hH := h.holds (by omega)
  have := stores_of_holds P hH (i * 11) (encS x) (by rw [encS_len, size_flatK]; have : i * 11 + 11 ≤ ys.length * 11 := by omega
                                                     simpa using this) (encS_one x)
  rw [Nat.zero_add] at this
  exact this
theorem setCells_put (w : World) (g o : Nat) (x : Sp) : w.setCells g o (encS x) = putA w ⟨g, o, none⟩ x := rfl
theorem Sr.put {w0 w : World} {base g n c : Nat} {ys : List Sp} (h : Sr w0 w base g n c ys) {i : Nat} (hi : i < ys.length) (x : Sp) : Sr w0 (w.setCells g (i * 11) (encS x)) base g n c (ys.set i x) := by
  have hp := (row_put h.row hi x).1
  have hb := (row_put h.row hi x).2.1
  rw [add_at] at hp hb
  rw [setCells_put]
  exact ⟨hp, grownBy_trans h.gr ⟨hb.os, hb.tape, hb.output, hb.size, fun k _ hk => putA_far x (fun e => hk (by rw [e]))⟩⟩
theorem set_set {P M Q : List Sp} {x y : Sp} : ((P ++ x :: (M ++ y :: Q)).set P.length y).set (P.length + (M.length + 1)) x = P ++ y :: (M ++ x :: Q) := by
  rw [List.set_append_right _ _ (Nat.le_refl _), Nat.sub_self, List.set_cons_zero, List.set_append_right _ _ (by omega), show P.length + (M.length + 1) - P.length = M.length + 1 by omega, List.set_cons_succ, List.set_append_right _ _ (Nat.le_refl _), Nat.sub_self, List.set_cons_zero]

set_option maxHeartbeats 4000000 in
set_option maxRecDepth 1000000 in
theorem swapRange_calls (w0 : World) (base g n c : Nat) (A B M P Q : List Sp) (a b k : Nat) (f : Value) (w : World) (ha : P.length = a) (hb : P.length + A.length + M.length = b) (hA : A.length = k) (hB : B.length = k) (hn : n ≤ 1000000) (hS : Sr w0 w base g n c (P ++ A ++ M ++ B ++ Q)) :
    Calls Try.prog 81 #[.slice (some ⟨g, 0, none⟩) n c, .int .i64 a, .int .i64 b, .int .i64 k, f] w fun e w' => e = .returned (.tuple #[]) ∧ Sr w0 w' base g n c (P ++ B ++ M ++ A ++ Q) := by
  have HS := Lib.hid hS
  have HA := Lib.hid hA
  have HB := Lib.hid hB
  have HPa := Lib.hid ha
  have HPb := Lib.hid hb
  have HN := Lib.hid hn
  have HL := Lib.hid (show n = P.length + k + M.length + k + Q.length by have := hS.len; simp only [List.length_append] at this; omega)
  clear hS hA hB ha hb hn
  go_enter Try.func81, Try.ntmps81
  go_wp2
  go_loopw [10] (fun s wr => ∃ i : Nat, i ≤ k ∧ s = .int .i64 i ∧ Hid (Sr w0 wr base g n c (P ++ (B.take i ++ A.drop i) ++ M ++ (A.take i ++ B.drop i) ++ Q))) (fun s _ => k - (intOf s).toNat)
  case atStart => exact ⟨0, Nat.zero_le _, rfl, Lib.hid (by simpa using HS.out)⟩
  case round =>
    clear HS
    obtain ⟨i, hi, rfl, HS⟩ := hrel
    by_cases hlt : i < k
    · obtain ⟨x, hx⟩ : ∃ x, A[i]? = some x := ⟨_, List.getElem?_eq_getElem (by rw [HA.out]; exact hlt)⟩
      obtain ⟨y, hy⟩ : ∃ y, B[i]? = some y := ⟨_, List.getElem?_eq_getElem (by rw [HB.out]; exact hlt)⟩
      obtain ⟨hxl, hxe⟩ := List.getElem?_eq_some_iff.1 hx
      obtain ⟨hyl, hye⟩ := List.getElem?_eq_some_iff.1 hy
      have hs0 : P ++ (B.take i ++ A.drop i) ++ M ++ (A.take i ++ B.drop i) ++ Q = (P ++ B.take i) ++ x :: ((A.drop (i + 1) ++ M ++ A.take i) ++ y :: (B.drop (i + 1) ++ Q)) := by
        rw [List.drop_eq_getElem_cons hxl, List.drop_eq_getElem_cons hyl, hxe, hye]
        simp only [List.append_assoc, List.cons_append]
      have hs1 : (P ++ B.take i) ++ y :: ((A.drop (i + 1) ++ M ++ A.take i) ++ x :: (B.drop (i + 1) ++ Q)) = P ++ (B.take (i + 1) ++ A.drop (i + 1)) ++ M ++ (A.take (i + 1) ++ B.drop (i + 1)) ++ Q := by
        rw [List.take_succ_eq_append_getElem hxl, List.take_succ_eq_append_getElem hyl, hxe, hye]
        simp only [List.append_assoc, List.cons_append, List.singleton_append, List.nil_append]
      rw [hs0] at HS
      obtain ⟨P', hP'⟩ : ∃ P', P ++ B.take i = P' := ⟨_, rfl⟩
      obtain ⟨M', hM'⟩ : ∃ M', A.drop (i + 1) ++ M ++ A.take i = M' := ⟨_, rfl⟩
      obtain ⟨Q', hQ'⟩ : ∃ Q', B.drop (i + 1) ++ Q = Q' := ⟨_, rfl⟩
      have hPl : P'.length = a + i := by rw [← hP', List.length_append, List.length_take, HB.out, HPa.out]; omega
      have hMl : P'.length + (M'.length + 1) = b + i := by rw [hPl, ← hM', List.length_append, List.length_append, List.length_drop, List.length_take, HA.out, ← HPb.out, HPa.out, HA.out]; omega
      rw [hP', hM', hQ'] at HS hs1
      have HS1 := Lib.hid hs1
      clear hs0 hs1 hP' hM' hQ' hx hy hxl hxe hyl hye
      obtain ⟨X, hX⟩ : ∃ X, a + i = X := ⟨_, rfl⟩
      obtain ⟨Y, hY⟩ : ∃ Y, b + i = Y := ⟨_, rfl⟩
      rw [hX] at hPl
      rw [hY] at hMl
      have hsw := set_set (P := P') (M := M') (Q := Q') (x := x) (y := y)
      rw [hMl, hPl] at hsw
      have hgx : (P' ++ x :: (M' ++ y :: Q'))[X]? = some x := by rw [← hPl, List.getElem?_append_right (Nat.le_refl _), Nat.sub_self]; rfl
      have hgy : (P' ++ x :: (M' ++ y :: Q'))[Y]? = some y := by rw [← hMl, List.getElem?_append_right (by omega), show P'.length + (M'.length + 1) - P'.length = M'.length + 1 by omega, List.getElem?_cons_succ, List.getElem?_append_right (Nat.le_refl _), Nat.sub_self]; rfl
      have hXl : X < (P' ++ x :: (M' ++ y :: Q')).length := (List.getElem?_eq_some_iff.1 hgx).1
      have hYl : Y < (P' ++ x :: (M' ++ y :: Q')).length := (List.getElem?_eq_some_iff.1 hgy).1
      have hn2 := HS.out.len
      have HSd := HS.out.drew
      have HSx := HSd.put hXl y
      have HSy := HSx.put (i := Y) (by rw [List.length_set]; exact hYl) x
      rw [hsw, HS1.out] at HSy
      have HSZ := Lib.hid HSy
      have HWX := Lib.hid (show wrap64 ((a : Int) + (i : Int)) = (X : Int) by have := HN.out; unfold wrap64; omega)
      have HWY := Lib.hid (show wrap64 ((b : Int) + (i : Int)) = (Y : Int) by have := HN.out; unfold wrap64; omega)
      have HW := Lib.hid (show wrap64 ((i : Int) + 1) = ((i + 1 : Nat) : Int) by have := HN.out; have := HL.out; unfold wrap64; omega)
      have HK := Lib.hid (show i + 1 ≤ k by omega)
      have HKN := Lib.hid (show k ≤ 1000000 by have := HN.out; have := HL.out; omega)
      have q : (i : Int) < (k : Int) := by omega
      have e1 : ((X : Int)).toNat = X := by omega
      have p1 : (0 : Int) ≤ (X : Int) := by omega
      have b1 : (X : Int) < (n : Int) := by omega
      have r1 : IntKind.i64.wrap ((X : Int)) = (X : Int) := by rw [IntKind.wrap_i64]; have := HN.out; omega
      have e2 : ((Y : Int)).toNat = Y := by omega
      have p2 : (0 : Int) ≤ (Y : Int) := by omega
      have b2 : (Y : Int) < (n : Int) := by omega
      have r2 : IntKind.i64.wrap ((Y : Int)) = (Y : Int) := by rw [IntKind.wrap_i64]; have := HN.out; omega
      have la := HSd.ld hgx Try.prog
      have lb := HSd.ld hgy Try.prog
      have sa := HSd.st hXl y Try.prog
      have sb := HSx.st (i := Y) (by rw [List.length_set]; exact hYl) x Try.prog
      have na : (encS x).length = 11 := encS_len x
      have nb : (encS y).length = 11 := encS_len y
      have aX : (⟨g, 0, none⟩ : Addr).add (X * 11) = ⟨g, X * 11, none⟩ := add_at _ _
      have aY : (⟨g, 0, none⟩ : Addr).add (Y * 11) = ⟨g, Y * 11, none⟩ := add_at _ _
      have aE := Try.isAgg34
      have zE := Try.sizeOf34
      have hwx := HWX.out
      have hwy := HWY.out
      obtain ⟨kk, hkk⟩ : ∃ kk : Nat, kk = 11 := ⟨_, rfl⟩
      have HKK := Lib.hid hkk
      rw [← hkk] at la lb sa sb na nb aX aY HSZ
      simp only [← hkk] at zE
      generalize encS x = cx at la lb sa sb na HSZ
      generalize encS y = cy at lb sa sb nb HSZ
      clear hkk
      clear hgx hgy hXl hYl hn2 HSd HSx HSy hsw hPl hMl hX hY hlt hi
      have mixed : Try.prog.follows Departure.mixedOrders = true := by kernel_rfl
      go_upto_region 3 with (fail)
      go_big_region_o
      clear la lb sa sb
      generalize (wr.drew.setCells g (X * kk) cy).setCells g (Y * kk) cx = w2 at HSZ ⊢
      go_wp2
      go_roundw
      case rel => exact ⟨i + 1, HK.out, by rw [HW.out], HSZ⟩
      case measure => exact meas_up HKN.out HK.out
    · have hik : i = k := by omega
      subst hik
      have q : decide ((i : Int) < (i : Int)) = false := decide_eq_false (by omega)
      have HE := Lib.hid (show Sr w0 wr base g n c (P ++ B ++ M ++ A ++ Q) by
        have h := HS.out
        rw [List.take_of_length_le (by rw [HB.out]; exact Nat.le_refl _), List.drop_eq_nil_of_le (by rw [HA.out]; exact Nat.le_refl _), List.take_of_length_le (by rw [HA.out]; exact Nat.le_refl _), List.drop_eq_nil_of_le (by rw [HB.out]; exact Nat.le_refl _), List.append_nil, List.append_nil] at h
        exact h)
      clear hlt hi
      go_wp2
      go_end0
      exact ⟨rfl, HE.out⟩
end Go.Proofs.Ytffggkhahambhaa.Tr

namespace Go.Proofs.Ytffggkhahambhaa.Tr
open Go.RowKit Go.Proofs.YtffggkhahambhaaW.PrintWords Go.Proofs.YtffggkhahambhaaW.PrintLast Go.Proofs.YtffggkhahambhaaW.PrintMore Go.Proofs.Ytffggkhahambhaa.Math Go.Proofs.Ytffggkhahambhaa.PAll Go.Proofs.Ytffggkhahambhaa.Stab
set_option linter.unusedVariables false
set_option linter.unusedSimpArgs false
theorem w64 (x : Int) (h1 : -9223372036854775808 ≤ x) (h2 : x ≤ 9223372036854775807) : wrap64 x = x := by unfold wrap64; omega
theorem rot_meas1 {x y j : Nat} (hx : x = y - j) (hj : 0 < j) (hy : j < y) : (intOf (.int .i64 (x : Int)) + intOf (.int .i64 (j : Int))).toNat < (intOf (.int .i64 (y : Int)) + intOf (.int .i64 (j : Int))).toNat := by
  show ((x : Int) + (j : Int)).toNat < ((y : Int) + (j : Int)).toNat
  omega
theorem rot_meas2 {x y j : Nat} (hx : x = y - j) (hj : 0 < j) (hy : j < y) : (intOf (.int .i64 (j : Int)) + intOf (.int .i64 (x : Int))).toNat < (intOf (.int .i64 (j : Int)) + intOf (.int .i64 (y : Int))).toNat := by
  show ((j : Int) + (x : Int)).toNat < ((j : Int) + (y : Int)).toNat
  omega

set_option maxHeartbeats 4000000 in
set_option maxRecDepth 1000000 in
theorem rotate_calls (w0 : World) (base g n c : Nat) (P X Y Q : List Sp) (a m b : Nat) (f : Value) (w : World) (ha : P.length = a) (hm : P.length + X.length = m) (hb : m + Y.length = b) (hX : 0 < X.length) (hY : 0 < Y.length) (hn : n ≤ 1000000) (hS : Sr w0 w base g n c (P ++ X ++ Y ++ Q)) :
    Calls Try.prog 77 #[.slice (some ⟨g, 0, none⟩) n c, .int .i64 a, .int .i64 m, .int .i64 b, f] w fun e w' => e = .returned (.tuple #[]) ∧ Sr w0 w' base g n c (P ++ Y ++ X ++ Q) := by
  have HS := Lib.hid hS
  have HN := Lib.hid hn
  have hlen := hS.len
  simp only [List.length_append] at hlen
  have HM := Lib.hid (show m ≤ 1000000 by omega)
  have HX := Lib.hid hX
  have HY := Lib.hid hY
  have HPX := Lib.hid hm
  have HI := Lib.hid (show wrap64 ((m : Int) - (a : Int)) = (X.length : Int) by rw [w64 _ (by omega) (by omega)]; omega)
  have HJ := Lib.hid (show wrap64 ((b : Int) - (m : Int)) = (Y.length : Int) by rw [w64 _ (by omega) (by omega)]; omega)
  clear hS hn hlen ha hm hb hX hY
  go_enter Try.func77, Try.ntmps77
  have hi := HI.out
  have hj := HJ.out
  go_wp2
  clear hi hj
  go_loopw [10, 11] (fun s t wr => ∃ (P' X' Y' Q' : List Sp), s = .int .i64 X'.length ∧ t = .int .i64 Y'.length ∧ Hid (P'.length + X'.length = m) ∧ Hid (0 < X'.length) ∧ Hid (0 < Y'.length) ∧ Hid (P' ++ Y' ++ X' ++ Q' = P ++ Y ++ X ++ Q) ∧ Hid (Sr w0 wr base g n c (P' ++ X' ++ Y' ++ Q'))) (fun s t _ => (intOf s + intOf t).toNat)
  case atStart => exact ⟨P, X, Y, Q, by rw [HI.out], by rw [HJ.out], HPX, HX, HY, Lib.hid rfl, HS⟩
  case round =>
    clear HS HX HY HPX HI HJ
    obtain ⟨P', X', Y', Q', rfl, rfl, HPX, HX, HY, HE, HS⟩ := hrel
    have hlen := HS.out.len
    simp only [List.length_append] at hlen
    obtain ⟨p, hp⟩ : ∃ p, P'.length = p := ⟨_, rfl⟩
    obtain ⟨x, hx⟩ : ∃ x, X'.length = x := ⟨_, rfl⟩
    obtain ⟨y, hy⟩ : ∃ y, Y'.length = y := ⟨_, rfl⟩
    rw [hx, hy]
    have hpx := HPX.out
    have hx0 := HX.out
    have hy0 := HY.out
    have hn := HN.out
    rw [hp, hx] at hpx
    rw [hx] at hx0
    rw [hy] at hy0
    have HP := Lib.hid hp
    have HXl := Lib.hid hx
    have HYl := Lib.hid hy
    have HW := Lib.hid (show wrap64 ((m : Int) - (x : Int)) = (p : Int) by rw [w64 _ (by omega) (by omega)]; omega)
    rcases Nat.lt_trichotomy x y with hlt | heq | hgt
    · -- the rest of the right block stays
      have HSP := Lib.hid (List.take_append_drop (y - x) Y')
      have HL2 := Lib.hid (show (Y'.drop (y - x)).length = x by rw [List.length_drop, hy]; omega)
      have HL1 := Lib.hid (show (Y'.take (y - x)).length = y - x by rw [List.length_take, hy]; omega)
      obtain ⟨Y1, hY1⟩ : ∃ Y1, Y'.take (y - x) = Y1 := ⟨_, rfl⟩
      obtain ⟨Y2, hY2⟩ : ∃ Y2, Y'.drop (y - x) = Y2 := ⟨_, rfl⟩
      rw [hY1, hY2] at HSP
      rw [hY2] at HL2
      rw [hY1] at HL1
      obtain ⟨z, hz⟩ : ∃ z, y - x = z := ⟨_, rfl⟩
      rw [hz] at HL1
      have HZ := Lib.hid hz
      have HLT := Lib.hid hlt
      have hsr := HS.out
      rw [← HSP.out] at hsr
      have hcall := swapRange_calls w0 base g n c X' Y2 Y1 P' Q' p (m + z) x f wr HP.out (by rw [HP.out, HXl.out, HL1.out]; omega) HXl.out HL2.out HN.out (by simpa only [List.append_assoc] using hsr)
      obtain ⟨mz, hmz⟩ : ∃ mz, m + z = mz := ⟨_, rfl⟩
      rw [hmz] at hcall
      have HCALL := Lib.hid hcall
      have HW2 := Lib.hid (show wrap64 (wrap64 ((m : Int) + (y : Int)) - (x : Int)) = (mz : Int) by rw [w64 ((m : Int) + (y : Int)) (by omega) (by omega), w64 _ (by omega) (by omega)]; omega)
      have HW3 := Lib.hid (show wrap64 ((y : Int) - (x : Int)) = (z : Int) by rw [w64 _ (by omega) (by omega)]; omega)
      have q1 : ((x : Int) == (y : Int)) = false := beq_eq_false_iff_ne.2 (by omega)
      have q1' : ((x : Int) != (y : Int)) = true := by rw [bne, q1]; rfl
      have q2 : decide ((y : Int) < (x : Int)) = false := decide_eq_false (by omega)
      have q2' : (x : Int) < (y : Int) := by omega
      clear hcall hsr hlen hp hx hy hpx hx0 hn hz hmz hlt hY1 hY2
      have hw := HW.out
      have hw2 := HW2.out
      have hw3 := HW3.out
      go_wp2_with fail
      refine HCALL.out.mono ?_
      rintro e w2 ⟨rfl, hs2⟩
      have HS2 := Lib.hid hs2
      clear hs2
      go_wp2
      go_roundw
      case rel => exact ⟨P', Y2, Y1, X' ++ Q', by rw [HL2.out], by rw [HL1.out]; first | rfl | rw [hw3], by rw [HL2.out]; exact Lib.hid (by have := HPX.out; rw [HXl.out] at this; exact this), Lib.hid (by rw [HL2.out, ← HXl.out]; exact HX.out), Lib.hid (by rw [HL1.out]; have h1 := HZ.out; have h2 := HLT.out; omega), Lib.hid (by rw [← HE.out, ← HSP.out]; simp only [List.append_assoc]), Lib.hid (by have := HS2.out; simpa only [List.append_assoc] using this)⟩
      case measure => first | (rw [hw3]; exact rot_meas2 HZ.out.symm (by have := HX.out; rw [HXl.out] at this; exact this) HLT.out) | exact rot_meas2 HZ.out.symm (by have := HX.out; rw [HXl.out] at this; exact this) HLT.out
    · subst heq
      have q1 : ((x : Int) == (x : Int)) = true := beq_iff_eq.2 rfl
      have hcall := swapRange_calls w0 base g n c X' Y' [] P' Q' p m x f wr HP.out (by rw [HP.out, HXl.out, List.length_nil]; omega) HXl.out HYl.out HN.out (by simpa using HS.out)
      have HCALL := Lib.hid hcall
      clear hcall hlen hp hx hy hpx hx0 hy0 hn
      have hw := HW.out
      go_wp2_with fail
      refine HCALL.out.mono ?_
      rintro e w2 ⟨rfl, hs2⟩
      have HS2 := Lib.hid hs2
      clear hs2
      go_wp2
      go_end0
      exact ⟨rfl, by rw [← HE.out]; simpa using HS2.out⟩
    · have HSP := Lib.hid (List.take_append_drop y X')
      have HL1 := Lib.hid (show (X'.take y).length = y by rw [List.length_take, hx]; omega)
      have HL2 := Lib.hid (show (X'.drop y).length = x - y by rw [List.length_drop, hx])
      obtain ⟨X1, hX1⟩ : ∃ X1, X'.take y = X1 := ⟨_, rfl⟩
      obtain ⟨X2, hX2⟩ : ∃ X2, X'.drop y = X2 := ⟨_, rfl⟩
      rw [hX1, hX2] at HSP
      rw [hX1] at HL1
      rw [hX2] at HL2
      obtain ⟨z, hz⟩ : ∃ z, x - y = z := ⟨_, rfl⟩
      rw [hz] at HL2
      have HZ := Lib.hid hz
      have HGT := Lib.hid hgt
      have hsr := HS.out
      rw [← HSP.out] at hsr
      have hcall := swapRange_calls w0 base g n c X1 Y' X2 P' Q' p m y f wr HP.out (by rw [HP.out, HL1.out, HL2.out]; omega) HL1.out HYl.out HN.out (by simpa only [List.append_assoc] using hsr)
      have HCALL := Lib.hid hcall
      have HW3 := Lib.hid (show wrap64 ((x : Int) - (y : Int)) = (z : Int) by rw [w64 _ (by omega) (by omega)]; omega)
      have HPZ := Lib.hid (show p + y + z = m by omega)
      have q1 : ((x : Int) == (y : Int)) = false := beq_eq_false_iff_ne.2 (by omega)
      have q1' : ((x : Int) != (y : Int)) = true := by rw [bne, q1]; rfl
      have q2 : (y : Int) < (x : Int) := by omega
      clear hcall hsr hlen hp hx hy hpx hx0 hn hz hgt hX1 hX2
      have hw := HW.out
      have hw3 := HW3.out
      go_wp2_with fail
      refine HCALL.out.mono ?_
      rintro e w2 ⟨rfl, hs2⟩
      have HS2 := Lib.hid hs2
      clear hs2
      go_wp2
      go_roundw
      case rel => exact ⟨P' ++ Y', X2, X1, Q', by rw [HL2.out]; first | rfl | rw [hw3], by rw [HL1.out], Lib.hid (by rw [List.length_append, HL2.out, HP.out, HYl.out]; exact HPZ.out), Lib.hid (by rw [HL2.out]; have h1 := HZ.out; have h2 := HGT.out; omega), Lib.hid (by rw [HL1.out, ← HYl.out]; exact HY.out), Lib.hid (by rw [← HE.out, ← HSP.out]; simp only [List.append_assoc]), Lib.hid (by have := HS2.out; simpa only [List.append_assoc] using this)⟩
      case measure => first | (rw [hw3]; exact rot_meas1 HZ.out.symm (by have := HY.out; rw [HYl.out] at this; exact this) HGT.out) | exact rot_meas1 HZ.out.symm (by have := HY.out; rw [HYl.out] at this; exact this) HGT.out
end Go.Proofs.Ytffggkhahambhaa.Tr

namespace Go.Proofs.Ytffggkhahambhaa.Tr
open Go.RowKit Go.Proofs.YtffggkhahambhaaW.PrintWords Go.Proofs.YtffggkhahambhaaW.PrintLast Go.Proofs.YtffggkhahambhaaW.PrintMore Go.Proofs.Ytffggkhahambhaa.Math Go.Proofs.Ytffggkhahambhaa.PAll Go.Proofs.Ytffggkhahambhaa.Stab
set_option linter.unusedVariables false
set_option linter.unusedSimpArgs false
section
variable {P : Program} {ops : Array Oper} {Q : Exit → Act → World → Prop}
/-- A call of a function value: as goes_. -/
theorem goesv_ {oi : Oper} {N : Option Tmp} {a : Act} {w : World} {K : Act → World → Prop} {f : FuncId} {fn : Func} {x : Operand} {cap : Array Value} {as_ : Array Operand} {ts : Array TypeId} (hf : P.funcs[f]? = some fn) (hname : (fn.name == "runtime.NumGoroutine") = false) (hb : fn.body.isSome = true) (args : Array Value)
    (hw : Region.wanted oi (yielded ops a.tmps) = true) (hN : oi.dst = N) (hop : oi.op = .call { callee := .value x, args := as_, argTypes := ts }) (hx : a.eval x = .func (.func f) #[] cap) (hargs : as_.map a.eval ++ cap = args)
    (h : Calls P f args w fun e w' => ∃ v, e = .returned v ∧ K (a.put N v) w') : if Region.wanted oi (yielded ops a.tmps) = true then Oper.wp P oi a w K Q else K (a.put N undef) w := by
  refine call_ f args hw hN ?_ h
  have he := enters_ hf hname hb args w
  unfold execOp
  simp [hop, resolve, Deferred.ofValue, invoke, hargs, hx, he]
end
theorem ins_down (p : Nat) : (intOf (.int .i64 (p : Int))).toNat < (intOf (.int .i64 ((p + 1 : Nat) : Int))).toNat := by
  show ((p : Nat) : Int).toNat < ((p + 1 : Nat) : Int).toNat
  omega
theorem ins_meas {b I : Nat} (h : I < b) : b + 1 - (intOf (.int .i64 ((I + 1 : Nat) : Int))).toNat < b + 1 - (intOf (.int .i64 (I : Int))).toNat := by
  show b + 1 - ((I + 1 : Nat) : Int).toNat < b + 1 - ((I : Nat) : Int).toNat
  omega
/-- What compares, while the row is sorted: bq the query's block. -/
def Cmp (w0 : World) (g bq : Nat) (cf : Sp → Sp → Int) : Prop := ∀ (x y : Sp) (w : World), w0.grownBy w (some g) → Calls Try.prog 27 #[.agg (encS x).toArray, .agg (encS y).toArray, .pointer (some ⟨bq, 0, none⟩)] w fun e w' => e = .returned (.int .i64 (cf x y)) ∧ Below w.heap.size w w'
def ltC (cf : Sp → Sp → Int) (x y : Sp) : Bool := decide (cf x y < 0)
theorem set_set' {P Q : List Sp} {x y : Sp} : ((P ++ x :: y :: Q).set (P.length + 1) x).set P.length y = P ++ y :: x :: Q := by
  rw [List.set_append_right _ _ (by omega), show P.length + 1 - P.length = 1 by omega, List.set_cons_succ, List.set_cons_zero, List.set_append_right _ _ (Nat.le_refl _), Nat.sub_self, List.set_cons_zero]
theorem Sr.ldk {w0 w : World} {base g n c : Nat} {ys : List Sp} (h : Sr w0 w base g n c ys) {i : Nat} {x : Sp} (hx : ys[i]? = some x) {kk : Nat} (hk : kk = 11) (P : Program) : Sem.run P (loadCellsFrom ⟨g, i * kk, none⟩ 0 kk #[]) w = .ok (encS x).toArray w := by subst hk; exact h.ld hx P

set_option maxHeartbeats 8000000 in
set_option maxRecDepth 1000000 in
theorem insertion_calls (w0 : World) (base g n c bq : Nat) (cf : Sp → Sp → Int) (hw : Swo (ltC cf)) (HC : Hid (Cmp w0 g bq cf)) (P X Q : List Sp) (a b : Nat) (w : World) (ha : P.length = a) (hb : a + X.length = b) (hn : n ≤ 1000000) (hS : Sr w0 w base g n c (P ++ X ++ Q)) :
    Calls Try.prog 66 #[.slice (some ⟨g, 0, none⟩) n c, .int .i64 a, .int .i64 b, .func (.func 27) #[] #[.pointer (some ⟨bq, 0, none⟩)]] w fun e w' => e = .returned (.tuple #[]) ∧ ∃ S, S.length = X.length ∧ Stb (ltC cf) X S ∧ Sr w0 w' base g n c (P ++ S ++ Q) := by
  have HWO := Lib.hid hw
  have HN := Lib.hid hn
  have HPa := Lib.hid ha
  have hlen := hS.len
  simp only [List.length_append] at hlen
  have HAB := Lib.hid hb
  have HBN := Lib.hid (show b ≤ 1000000 by omega)
  have HS := Lib.hid (show Sr w0 w base g n c (P ++ X.take 1 ++ X.drop 1 ++ Q) by rw [List.append_assoc P, List.take_append_drop]; exact hS)
  have HS1 := Lib.hid (show Stb (ltC cf) (X.take 1) (X.take 1) by
    cases X with
    | nil => exact Stb.nil _
    | cons x r => exact ⟨List.pairwise_singleton _ _, Kp.refl _ _⟩)
  clear hw hn ha hb hS hlen
  have HA1 := Lib.hid (show wrap64 ((a : Int) + 1) = ((a + 1 : Nat) : Int) by rw [w64 _ (by omega) (by have := HAB.out; have := HBN.out; omega)]; omega)
  have mixed : Try.prog.follows Departure.mixedOrders = true := by kernel_rfl
  go_enter Try.func66, Try.ntmps66
  go_wp2
  go_loopw [8, 9] (fun s _ wr => ∃ (k I : Nat) (S : List Sp), s = .int .i64 I ∧ Hid (I = a + k) ∧ Hid (1 ≤ k) ∧ Hid (k ≤ X.length + 1) ∧ Hid (Stb (ltC cf) (X.take k) S) ∧ Hid (S.length = (X.take k).length) ∧ Hid (Sr w0 wr base g n c (P ++ S ++ X.drop k ++ Q))) (fun s _ _ => b + 1 - (intOf s).toNat)
  case atStart => exact ⟨1, a + 1, X.take 1, by rw [HA1.out], Lib.hid rfl, Lib.hid (Nat.le_refl _), Lib.hid (by omega), HS1, Lib.hid rfl, HS⟩
  case round =>
    clear HS HS1 HA1
    obtain ⟨k, I, S, rfl, HI, HK1, HKL, HST, HSL, HS⟩ := hrel
    by_cases hlt : I < b
    · have hkX : k < X.length := by have := HI.out; have := HAB.out; omega
      obtain ⟨v, hv⟩ : ∃ v, X[k]? = some v := ⟨_, List.getElem?_eq_getElem hkX⟩
      obtain ⟨hvl, hve⟩ := List.getElem?_eq_some_iff.1 hv
      have HTK := Lib.hid (show X.take (k + 1) = X.take k ++ [v] by rw [List.take_succ_eq_append_getElem hvl, hve])
      have hrow : P ++ S ++ X.drop k ++ Q = P ++ S ++ v :: ([] ++ (X.drop (k + 1) ++ Q)) := by
        rw [List.drop_eq_getElem_cons hvl, hve]; simp
      rw [hrow] at HS
      have HPS := Lib.hid (show P.length + S.length = I by rw [HPa.out, HSL.out, List.length_take, HI.out]; omega)
      have HLT := Lib.hid hlt
      have HKX := Lib.hid hkX
      have HWI := Lib.hid (show wrap64 ((I : Int) + 1) = ((I + 1 : Nat) : Int) by rw [w64 _ (by omega) (by have := HBN.out; omega)]; omega)
      obtain ⟨R, hR⟩ : ∃ R, X.drop (k + 1) ++ Q = R := ⟨_, rfl⟩
      have HRR := Lib.hid hR
      rw [hR] at HS
      have q : (I : Int) < (b : Int) := by omega
      clear hlt hkX hv hvl hve hrow hR
      go_wp2
      clear q
      go_loopw [9] (fun t wr => ∃ (j : Nat) (A B : List Sp), t = .int .i64 j ∧ Hid (P.length + A.length = j) ∧ Hid (j ≤ I) ∧ Hid (A ++ B = S) ∧ Hid (∀ x ∈ B, ltC cf v x = true) ∧ Hid (Sr w0 wr base g n c (P ++ A ++ v :: (B ++ R)))) (fun t _ => (intOf t).toNat)
      case atStart => exact ⟨I, S, [], rfl, HPS, Lib.hid (Nat.le_refl _), Lib.hid (List.append_nil S), Lib.hid (fun x hx => by cases hx), HS⟩
      case round =>
        clear HS HPS
        obtain ⟨j, A, B, rfl, HJ, HJI, HAB2, HBV, HS⟩ := hrel
        have OUT : Hid ((∀ x ∈ A, ltC cf v x = false) → ∀ wz, Sr w0 wz base g n c (P ++ A ++ v :: (B ++ R)) → Stb (ltC cf) (X.take (k + 1)) (A ++ v :: B) ∧ (A ++ v :: B).length = (X.take (k + 1)).length ∧ Sr w0 wz base g n c (P ++ (A ++ v :: B) ++ X.drop (k + 1) ++ Q)) := by
          show _ → _
          intro hA wz hz
          refine ⟨?_, ?_, ?_⟩
          · rw [HTK.out]
            have h := HST.out
            rw [← HAB2.out] at h
            exact Stb.add HWO.out h hA HBV.out
          · have h1 := HSL.out
            rw [← HAB2.out, List.length_append] at h1
            rw [HTK.out, List.length_append, List.length_append, List.length_cons, List.length_singleton]
            omega
          · have e : P ++ (A ++ v :: B) ++ X.drop (k + 1) ++ Q = P ++ A ++ v :: (B ++ R) := by rw [← HRR.out]; simp only [List.append_assoc, List.cons_append]
            rw [e]; exact hz
        rcases List.eq_nil_or_concat A with rfl | ⟨A, u, rfl⟩
        · have hja : j = a := by have := HJ.out; rw [List.length_nil] at this; have := HPa.out; omega
          have q1 : decide ((a : Int) < (j : Int)) = false := decide_eq_false (by omega)
          have q1n : decide (a < j) = false := decide_eq_false (by omega)
          have HO := Lib.hid (OUT.out (fun x hx => by cases hx) wr.drew HS.out.drew)
          clear hja
          go_upto_region 4 with (fail)
          refine start_ (n := 17) (S := fun w' => True) (ds := []) #[false, false, false, false, false, false, false, false, false, false, false, false, false, false, false, false, false] (by kernel_rfl) rfl rfl trivial (fun hHeld => ?_)
          generalize hwe : wr.drew = w5 at HO hHeld ⊢
          clear hwe
          refine pure_ (i := 0) (N := some 18) (v := ?_) (a' := ?_) #[true, false, false, false, false, false, false, false, false, false, false, false, false, false, false, false, false] rfl rfl (by kernel_rfl) (fun _ _ _ h => h) (Or.inl ⟨by rfl, ?_⟩) ?_ ?_
          rotate_left
          · intro w'
            go_simp
            with_reducible rfl
          rotate_left
          · simp only [Act.put, List.setIfInBounds_toArray, List.set_cons_zero, List.set_cons_succ, i64_w, i32_w]
            rfl
          refine pure_ (i := 1) (N := some 19) (v := ?_) (a' := ?_) #[true, true, false, false, false, false, false, false, false, false, false, false, false, false, false, false, false] rfl rfl (by kernel_rfl) (fun _ _ _ h => h) (Or.inl ⟨by rfl, ?_⟩) ?_ ?_
          rotate_left
          · intro w'
            go_simp
            with_reducible rfl
          rotate_left
          · simp only [Act.put, List.setIfInBounds_toArray, List.set_cons_zero, List.set_cons_succ, i64_w, i32_w]
            rfl
          refine pure_ (i := 2) (N := some 20) (v := ?_) (a' := ?_) #[true, true, true, false, false, false, false, false, false, false, false, false, false, false, false, false, false] rfl rfl (by kernel_rfl) (fun _ _ _ h => h) (Or.inl ⟨by rfl, ?_⟩) ?_ ?_
          rotate_left
          · intro w'
            go_simp
            with_reducible rfl
          rotate_left
          · simp only [Act.put, List.setIfInBounds_toArray, List.set_cons_zero, List.set_cons_succ, i64_w, i32_w]
            rfl
          refine pure_ (i := 3) (N := some 21) (v := ?_) (a' := ?_) #[true, true, true, true, false, false, false, false, false, false, false, false, false, false, false, false, false] rfl rfl (by kernel_rfl) (fun _ _ _ h => h) (Or.inl ⟨by rfl, ?_⟩) ?_ ?_
          rotate_left
          · intro w'
            go_simp
            with_reducible rfl
          rotate_left
          · simp only [Act.put, List.setIfInBounds_toArray, List.set_cons_zero, List.set_cons_succ, i64_w, i32_w]
            rfl
          refine pure_ (i := 4) (N := some 22) (v := undef) (a' := ?_) #[true, true, true, true, true, false, false, false, false, false, false, false, false, false, false, false, false] rfl rfl (by kernel_rfl) (fun _ _ _ h => h) (Or.inr ⟨by rfl, rfl⟩) ?_ ?_
          rotate_left
          · simp only [Act.put, List.setIfInBounds_toArray, List.set_cons_zero, List.set_cons_succ, i64_w, i32_w]
            rfl
          refine pure_ (i := 5) (N := some 23) (v := undef) (a' := ?_) #[true, true, true, true, true, true, false, false, false, false, false, false, false, false, false, false, false] rfl rfl (by kernel_rfl) (fun _ _ _ h => h) (Or.inr ⟨by rfl, rfl⟩) ?_ ?_
          rotate_left
          · simp only [Act.put, List.setIfInBounds_toArray, List.set_cons_zero, List.set_cons_succ, i64_w, i32_w]
            rfl
          refine pure_ (i := 6) (N := some 24) (v := undef) (a' := ?_) #[true, true, true, true, true, true, true, false, false, false, false, false, false, false, false, false, false] rfl rfl (by kernel_rfl) (fun _ _ _ h => h) (Or.inr ⟨by rfl, rfl⟩) ?_ ?_
          rotate_left
          · simp only [Act.put, List.setIfInBounds_toArray, List.set_cons_zero, List.set_cons_succ, i64_w, i32_w]
            rfl
          refine pure_ (i := 7) (N := some 25) (v := undef) (a' := ?_) #[true, true, true, true, true, true, true, true, false, false, false, false, false, false, false, false, false] rfl rfl (by kernel_rfl) (fun _ _ _ h => h) (Or.inr ⟨by rfl, rfl⟩) ?_ ?_
          rotate_left
          · simp only [Act.put, List.setIfInBounds_toArray, List.set_cons_zero, List.set_cons_succ, i64_w, i32_w]
            rfl
          refine pure_ (i := 8) (N := some 26) (v := undef) (a' := ?_) #[true, true, true, true, true, true, true, true, true, false, false, false, false, false, false, false, false] rfl rfl (by kernel_rfl) (fun _ _ _ h => h) (Or.inr ⟨by rfl, rfl⟩) ?_ ?_
          rotate_left
          · simp only [Act.put, List.setIfInBounds_toArray, List.set_cons_zero, List.set_cons_succ, i64_w, i32_w]
            rfl
          refine pure_ (i := 9) (N := some 27) (v := undef) (a' := ?_) #[true, true, true, true, true, true, true, true, true, true, false, false, false, false, false, false, false] rfl rfl (by kernel_rfl) (fun _ _ _ h => h) (Or.inr ⟨by rfl, rfl⟩) ?_ ?_
          rotate_left
          · simp only [Act.put, List.setIfInBounds_toArray, List.set_cons_zero, List.set_cons_succ, i64_w, i32_w]
            rfl
          refine pure_ (i := 10) (N := some 28) (v := undef) (a' := ?_) #[true, true, true, true, true, true, true, true, true, true, true, false, false, false, false, false, false] rfl rfl (by kernel_rfl) (fun _ _ _ h => h) (Or.inr ⟨by rfl, rfl⟩) ?_ ?_
          rotate_left
          · simp only [Act.put, List.setIfInBounds_toArray, List.set_cons_zero, List.set_cons_succ, i64_w, i32_w]
            rfl
          refine pure_ (i := 11) (N := some 29) (v := undef) (a' := ?_) #[true, true, true, true, true, true, true, true, true, true, true, true, false, false, false, false, false] rfl rfl (by kernel_rfl) (fun _ _ _ h => h) (Or.inr ⟨by rfl, rfl⟩) ?_ ?_
          rotate_left
          · simp only [Act.put, List.setIfInBounds_toArray, List.set_cons_zero, List.set_cons_succ, i64_w, i32_w]
            rfl
          refine pure_ (i := 12) (N := some 30) (v := undef) (a' := ?_) #[true, true, true, true, true, true, true, true, true, true, true, true, true, false, false, false, false] rfl rfl (by kernel_rfl) (fun _ _ _ h => h) (Or.inr ⟨by rfl, rfl⟩) ?_ ?_
          rotate_left
          · simp only [Act.put, List.setIfInBounds_toArray, List.set_cons_zero, List.set_cons_succ, i64_w, i32_w]
            rfl
          refine pure_ (i := 13) (N := some 31) (v := undef) (a' := ?_) #[true, true, true, true, true, true, true, true, true, true, true, true, true, true, false, false, false] rfl rfl (by kernel_rfl) (fun _ _ _ h => h) (Or.inr ⟨by rfl, rfl⟩) ?_ ?_
          rotate_left
          · simp only [Act.put, List.setIfInBounds_toArray, List.set_cons_zero, List.set_cons_succ, i64_w, i32_w]
            rfl
          refine pure_ (i := 14) (N := some 32) (v := undef) (a' := ?_) #[true, true, true, true, true, true, true, true, true, true, true, true, true, true, true, false, false] rfl rfl (by kernel_rfl) (fun _ _ _ h => h) (Or.inr ⟨by rfl, rfl⟩) ?_ ?_
          rotate_left
          · simp only [Act.put, List.setIfInBounds_toArray, List.set_cons_zero, List.set_cons_succ, i64_w, i32_w]
            rfl
          refine pure_ (i := 15) (N := some 33) (v := undef) (a' := ?_) #[true, true, true, true, true, true, true, true, true, true, true, true, true, true, true, true, false] rfl rfl (by kernel_rfl) (fun _ _ _ h => h) (Or.inr ⟨by rfl, rfl⟩) ?_ ?_
          rotate_left
          · simp only [Act.put, List.setIfInBounds_toArray, List.set_cons_zero, List.set_cons_succ, i64_w, i32_w]
            rfl
          refine pure_ (i := 16) (N := some 34) (v := ?_) (a' := ?_) #[true, true, true, true, true, true, true, true, true, true, true, true, true, true, true, true, true] rfl rfl (by kernel_rfl) (fun _ _ _ h => h) (Or.inl ⟨by rfl, ?_⟩) ?_ ?_
          rotate_left
          · intro w'
            go_simp
            with_reducible rfl
          rotate_left
          · simp only [Act.put, List.setIfInBounds_toArray, List.set_cons_zero, List.set_cons_succ, i64_w, i32_w]
            rfl
          refine done_ (by kernel_rfl) ?_
          go_wp2
          go_roundw
          case rel => exact ⟨k + 1, I + 1, _, by rw [HWI.out], Lib.hid (by have := HI.out; omega), Lib.hid (by omega), Lib.hid (by have := HKX.out; omega), Lib.hid HO.out.1, Lib.hid HO.out.2.1, Lib.hid HO.out.2.2⟩
          case measure => rw [HWI.out]; exact ins_meas HLT.out
        · rw [List.concat_eq_append] at HJ HAB2 HS OUT
          have hjl := HJ.out
          rw [List.length_append, List.length_singleton] at hjl
          obtain ⟨p, hp⟩ : ∃ p, P.length + A.length = p := ⟨_, rfl⟩
          have hjp : j = p + 1 := by omega
          have hap : a ≤ p := by have := HPa.out; omega
          have q1 : (a : Int) < (j : Int) := by omega
          have q1n : a < j := by omega
          have hrow : P ++ (A ++ [u]) ++ v :: (B ++ R) = (P ++ A) ++ u :: v :: (B ++ R) := by simp only [List.append_assoc, List.cons_append, List.nil_append]
          rw [hrow] at HS
          have hPl : (P ++ A).length = p := by rw [List.length_append]; exact hp
          have hgp : ((P ++ A) ++ u :: v :: (B ++ R))[p]? = some u := by rw [← hPl, List.getElem?_append_right (Nat.le_refl _), Nat.sub_self]; rfl
          have hgj : ((P ++ A) ++ u :: v :: (B ++ R))[j]? = some v := by rw [hjp, ← hPl, List.getElem?_append_right (by omega), show (P ++ A).length + 1 - (P ++ A).length = 1 by omega]; rfl
          have hsw := set_set' (P := P ++ A) (Q := B ++ R) (x := u) (y := v)
          rw [hPl] at hsw
          have hn2 := HS.out.len
          have hjn : j < n := by rw [hn2]; exact (List.getElem?_eq_some_iff.1 hgj).1
          have HGP := Lib.hid hgp
          have HGJ := Lib.hid hgj
          have HSW := Lib.hid hsw
          have HJP := Lib.hid hjp
          have HPJ := Lib.hid (show P.length + A.length = p from hp)
          have b1 : (j : Int) < (n : Int) := by omega
          have b2 : (p : Int) < (n : Int) := by omega
          have HJN := Lib.hid hjn
          have HWJ := Lib.hid (show wrap64 ((j : Int) - 1) = (p : Int) by rw [w64 _ (by omega) (by have := HN.out; omega)]; omega)
          obtain ⟨kk, hkk⟩ : ∃ kk : Nat, kk = 11 := ⟨_, rfl⟩
          have HKK := Lib.hid hkk
          have zE := Try.sizeOf34
          simp only [← hkk] at zE
          have aE := Try.isAgg34
          have la := HS.out.drew.ldk hgj hkk Try.prog
          have lb := HS.out.drew.ldk hgp hkk Try.prog
          obtain ⟨cv, hcv⟩ : ∃ cv, encS v = cv := ⟨_, rfl⟩
          obtain ⟨cu, hcu⟩ : ∃ cu, encS u = cu := ⟨_, rfl⟩
          have na : cv.length = kk := by rw [← hcv, hkk]; rfl
          have nb : cu.length = kk := by rw [← hcu, hkk]; rfl
          rw [hcv] at la
          rw [hcu] at lb
          have HCV := Lib.hid hcv
          have HCU := Lib.hid hcu
          have aX : (⟨g, 0, none⟩ : Addr).add (j * kk) = ⟨g, j * kk, none⟩ := add_at _ _
          have aY : (⟨g, 0, none⟩ : Addr).add (p * kk) = ⟨g, p * kk, none⟩ := add_at _ _
          have hwj := HWJ.out
          have HSd := Lib.hid HS.out.drew
          clear hjl hp hjp hap hrow hPl hgp hgj hsw hn2 hjn hkk hcv hcu
          go_upto_region 4 with (fail)
          refine start_ (n := 17) (S := fun w' => Sem.run Try.prog (loadCellsFrom ⟨g, j * kk, none⟩ 0 kk #[]) w' = .ok cv.toArray w' ∧ Sem.run Try.prog (loadCellsFrom ⟨g, p * kk, none⟩ 0 kk #[]) w' = .ok cu.toArray w') (ds := []) #[false, false, false, false, false, false, false, false, false, false, false, false, false, false, false, false, false] (by kernel_rfl) rfl rfl ⟨la, lb⟩ (fun hHeld => ?_)
          generalize hwe : wr.drew = w5 at la lb HSd hHeld ⊢
          clear hwe la lb
          refine pure_ (i := 0) (N := some 18) (v := ?_) (a' := ?_) #[true, false, false, false, false, false, false, false, false, false, false, false, false, false, false, false, false] rfl rfl (by kernel_rfl) (fun _ _ _ h => h) (Or.inl ⟨by rfl, ?_⟩) ?_ ?_
          rotate_left
          · intro w'
            go_simp
            with_reducible rfl
          rotate_left
          · simp only [Act.put, List.setIfInBounds_toArray, List.set_cons_zero, List.set_cons_succ, i64_w, i32_w]
            rfl
          refine pure_ (i := 1) (N := some 19) (v := ?_) (a' := ?_) #[true, true, false, false, false, false, false, false, false, false, false, false, false, false, false, false, false] rfl rfl (by kernel_rfl) (fun _ _ _ h => h) (Or.inl ⟨by rfl, ?_⟩) ?_ ?_
          rotate_left
          · intro w'
            go_simp
            with_reducible rfl
          rotate_left
          · simp only [Act.put, List.setIfInBounds_toArray, List.set_cons_zero, List.set_cons_succ, i64_w, i32_w]
            rfl
          refine pure_ (i := 2) (N := some 20) (v := ?_) (a' := ?_) #[true, true, true, false, false, false, false, false, false, false, false, false, false, false, false, false, false] rfl rfl (by kernel_rfl) (fun _ _ _ h => h) (Or.inl ⟨by rfl, ?_⟩) ?_ ?_
          rotate_left
          · intro w'
            go_simp
            with_reducible rfl
          rotate_left
          · simp only [Act.put, List.setIfInBounds_toArray, List.set_cons_zero, List.set_cons_succ, i64_w, i32_w]
            rfl
          refine pure_ (i := 3) (N := some 21) (v := ?_) (a' := ?_) #[true, true, true, true, false, false, false, false, false, false, false, false, false, false, false, false, false] rfl rfl (by kernel_rfl) (fun _ _ _ h => h) (Or.inl ⟨by rfl, ?_⟩) ?_ ?_
          rotate_left
          · intro w'
            go_simp
            with_reducible rfl
          rotate_left
          · simp only [Act.put, List.setIfInBounds_toArray, List.set_cons_zero, List.set_cons_succ, i64_w, i32_w]
            rfl
          refine pure_ (i := 4) (N := some 22) (v := ?_) (a' := ?_) #[true, true, true, true, true, false, false, false, false, false, false, false, false, false, false, false, false] rfl rfl (by kernel_rfl) (fun _ _ _ h => h) (Or.inl ⟨by rfl, ?_⟩) ?_ ?_
          rotate_left
          · intro w'
            go_simp
            with_reducible rfl
          rotate_left
          · simp only [Act.put, List.setIfInBounds_toArray, List.set_cons_zero, List.set_cons_succ, i64_w, i32_w]
            rfl
          refine pure_ (i := 5) (N := some 23) (v := ?_) (a' := ?_) #[true, true, true, true, true, true, false, false, false, false, false, false, false, false, false, false, false] rfl rfl (by kernel_rfl) (fun _ _ _ h => h) (Or.inl ⟨by rfl, ?_⟩) ?_ ?_
          rotate_left
          · intro w'
            go_simp
            with_reducible rfl
          rotate_left
          · simp only [Act.put, List.setIfInBounds_toArray, List.set_cons_zero, List.set_cons_succ, i64_w, i32_w]
            rfl
          refine pure_ (i := 6) (N := some 24) (v := ?_) (a' := ?_) #[true, true, true, true, true, true, true, false, false, false, false, false, false, false, false, false, false] rfl rfl (by kernel_rfl) (fun _ _ _ h => h) (Or.inl ⟨by rfl, ?_⟩) ?_ ?_
          rotate_left
          · intro w'
            go_simp
            with_reducible rfl
          rotate_left
          · simp only [Act.put, List.setIfInBounds_toArray, List.set_cons_zero, List.set_cons_succ, i64_w, i32_w]
            rfl
          refine pure_ (i := 7) (N := some 25) (v := ?_) (a' := ?_) #[true, true, true, true, true, true, true, true, false, false, false, false, false, false, false, false, false] rfl rfl (by kernel_rfl) (fun _ _ _ h => h) (Or.inl ⟨by rfl, ?_⟩) ?_ ?_
          rotate_left
          · intro w'
            go_simp
            with_reducible rfl
          rotate_left
          · simp only [Act.put, List.setIfInBounds_toArray, List.set_cons_zero, List.set_cons_succ, i64_w, i32_w]
            rfl
          refine pure_ (i := 9) (N := some 27) (v := ?_) (a' := ?_) #[true, true, true, true, true, true, true, true, false, true, false, false, false, false, false, false, false] rfl rfl (by kernel_rfl) (fun _ _ _ h => h) (Or.inl ⟨by rfl, ?_⟩) ?_ ?_
          rotate_left
          · intro w'
            go_simp
            with_reducible rfl
          rotate_left
          · simp only [Act.put, List.setIfInBounds_toArray, List.set_cons_zero, List.set_cons_succ, i64_w, i32_w]
            rfl
          refine pure_ (i := 10) (N := some 28) (v := ?_) (a' := ?_) #[true, true, true, true, true, true, true, true, false, true, true, false, false, false, false, false, false] rfl rfl (by kernel_rfl) (fun _ _ _ h => h) (Or.inl ⟨by rfl, ?_⟩) ?_ ?_
          rotate_left
          · intro w'
            go_simp
            with_reducible rfl
          rotate_left
          · simp only [Act.put, List.setIfInBounds_toArray, List.set_cons_zero, List.set_cons_succ, i64_w, i32_w]
            rfl
          refine pure_ (i := 11) (N := some 29) (v := ?_) (a' := ?_) #[true, true, true, true, true, true, true, true, false, true, true, true, false, false, false, false, false] rfl rfl (by kernel_rfl) (fun _ _ _ h => h) (Or.inl ⟨by rfl, ?_⟩) ?_ ?_
          rotate_left
          · intro w'
            go_simp
            with_reducible rfl
          rotate_left
          · simp only [Act.put, List.setIfInBounds_toArray, List.set_cons_zero, List.set_cons_succ, i64_w, i32_w]
            rfl
          refine pure_ (i := 12) (N := some 30) (v := ?_) (a' := ?_) #[true, true, true, true, true, true, true, true, false, true, true, true, true, false, false, false, false] rfl rfl (by kernel_rfl) (fun _ _ _ h => h) (Or.inl ⟨by rfl, ?_⟩) ?_ ?_
          rotate_left
          · intro w'
            go_simp
            with_reducible rfl
          rotate_left
          · simp only [Act.put, List.setIfInBounds_toArray, List.set_cons_zero, List.set_cons_succ, i64_w, i32_w]
            rfl
          refine take_ (i := 8) (N := some 26) (v := ?_) (a' := ?_) #[true, true, true, true, true, true, true, true, true, true, true, true, true, false, false, false, false] rfl rfl (by kernel_rfl) (fun _ _ _ h => h) (Or.inl ⟨by rfl, ?_⟩) hHeld ?_ ?_
          rotate_left
          · rintro w' ⟨s0, s1⟩
            go_simp
            with_reducible rfl
          rotate_left
          · simp only [Act.put, List.setIfInBounds_toArray, List.set_cons_zero, List.set_cons_succ, i64_w, i32_w]
            rfl
          refine take_ (i := 13) (N := some 31) (v := ?_) (a' := ?_) #[true, true, true, true, true, true, true, true, true, true, true, true, true, true, false, false, false] rfl rfl (by kernel_rfl) (fun _ _ _ h => h) (Or.inl ⟨by rfl, ?_⟩) hHeld ?_ ?_
          rotate_left
          · rintro w' ⟨s0, s1⟩
            go_simp
            with_reducible rfl
          rotate_left
          · simp only [Act.put, List.setIfInBounds_toArray, List.set_cons_zero, List.set_cons_succ, i64_w, i32_w]
            rfl
          refine one_ (i := 14) (N := some 32) #[true, true, true, true, true, true, true, true, true, true, true, true, true, true, true, false, false] rfl rfl (by kernel_rfl) (by decide) (fun K hK => ?_)
          have hcm := HC.out v u w5 HSd.out.gr
          rw [HCV.out, HCU.out] at hcm
          refine goesv_ Try.func27 (by kernel_rfl) rfl #[.agg cv.toArray, .agg cu.toArray, .pointer (some ⟨bq, 0, none⟩)] (by rfl) rfl rfl (by rfl) (by simp only [List.map_toArray, List.map_cons, List.map_nil]; rfl) ?_
          with_reducible refine (hcm).mono ?_
          rintro ee w6 ⟨rfl, hb⟩
          refine ⟨_, rfl, ?_⟩
          have HS6 := Lib.hid (HSd.out.next hb)
          clear hb hcm
          have la := HS6.out.ldk HGJ.out HKK.out Try.prog
          have lb := HS6.out.ldk HGP.out HKK.out Try.prog
          rw [HCV.out] at la
          rw [HCU.out] at lb
          refine hK.out _ _ ⟨la, lb⟩ (fun hHeld => ?_)
          clear hK K
          refine norm_ (a' := ?_) ?_ ?_
          rotate_left
          · show Act.put _ (some 32) _ = _
            simp only [Act.put, List.setIfInBounds_toArray, List.set_cons_zero, List.set_cons_succ, i64_w, i32_w]
            rfl
          refine pure_ (i := 15) (N := some 33) (v := ?_) (a' := ?_) #[true, true, true, true, true, true, true, true, true, true, true, true, true, true, true, true, false] rfl rfl (by kernel_rfl) (fun _ _ _ h => h) (Or.inl ⟨by rfl, ?_⟩) ?_ ?_
          rotate_left
          · intro w'
            go_simp
            with_reducible rfl
          rotate_left
          · simp only [Act.put, List.setIfInBounds_toArray, List.set_cons_zero, List.set_cons_succ, i64_w, i32_w]
            rfl
          refine pure_ (i := 16) (N := some 34) (v := ?_) (a' := ?_) #[true, true, true, true, true, true, true, true, true, true, true, true, true, true, true, true, true] rfl rfl (by kernel_rfl) (fun _ _ _ h => h) (Or.inl ⟨by rfl, ?_⟩) ?_ ?_
          rotate_left
          · intro w'
            go_simp
            with_reducible rfl
          rotate_left
          · simp only [Act.put, List.setIfInBounds_toArray, List.set_cons_zero, List.set_cons_succ, i64_w, i32_w]
            rfl
          refine done_ (by kernel_rfl) ?_
          clear la lb
          by_cases hr : cf v u < 0
          · have e1 : decide (cf v u < 0) = true := decide_eq_true hr
            have HLV := Lib.hid (show ltC cf v u = true from decide_eq_true hr)
            have hlj := (List.getElem?_eq_some_iff.1 HGJ.out).1
            have hlp := (List.getElem?_eq_some_iff.1 HGP.out).1
            have HSe := HS6.out.drew
            have HSx := HSe.put hlj u
            have HSy := HSx.put (i := p) (by rw [List.length_set]; exact hlp) v
            have hsw := HSW.out
            rw [← HJP.out] at hsw
            rw [hsw] at HSy
            have HSZ := Lib.hid HSy
            have la := HSe.ldk HGJ.out HKK.out Try.prog
            have lb := HSe.ldk HGP.out HKK.out Try.prog
            have sa := HSe.st hlj u Try.prog
            have sb := HSx.st (i := p) (by rw [List.length_set]; exact hlp) v Try.prog
            rw [HCV.out] at la sb HSZ
            rw [HCU.out] at lb sa HSZ
            rw [HCU.out] at sb
            rw [← HKK.out] at sa sb HSZ
            have e2 : ((j : Int)).toNat = j := by omega
            have p2 : (0 : Int) ≤ (j : Int) := by omega
            have r2 : IntKind.i64.wrap ((j : Int)) = (j : Int) := by rw [IntKind.wrap_i64]; have := HJN.out; have := HN.out; omega
            have e3 : ((p : Int)).toNat = p := by omega
            have p3 : (0 : Int) ≤ (p : Int) := by omega
            have r3 : IntKind.i64.wrap ((p : Int)) = (p : Int) := by rw [IntKind.wrap_i64]; have := HJN.out; have := HN.out; have := HJP.out; omega
            have hwj := HWJ.out
            clear hlj hlp HSe HSx HSy hsw
            go_upto_region 6 with (fail)
            go_big_region_o
            clear la lb sa sb
            generalize (w6.drew.setCells g (j * kk) cu).setCells g (p * kk) cv = w7 at HSZ ⊢
            go_wp2
            go_roundw
            case rel => exact ⟨p, A, u :: B, by rw [HWJ.out], HPJ, Lib.hid (by have := HJP.out; have := HJI.out; omega), Lib.hid (by rw [← HAB2.out]; simp), Lib.hid (fun x hx => (List.mem_cons.1 hx).elim (fun e => by rw [e]; exact HLV.out) (HBV.out x)), Lib.hid (by have := HSZ.out; simpa only [List.append_assoc, List.cons_append] using this)⟩
            case measure => rw [HWJ.out, HJP.out]; exact ins_down p
          · have e1 : decide (cf v u < 0) = false := decide_eq_false hr
            have hr2 : 0 ≤ cf v u := by omega
            have HLV := Lib.hid (show ltC cf v u = false from decide_eq_false hr)
            have HALL := Lib.hid (show ∀ x ∈ A ++ [u], ltC cf v x = false from all_le HWO.out (by have h := HST.out.srt; rw [← HAB2.out] at h; exact (sd_app.1 h).1) HLV.out)
            have HO := Lib.hid (OUT.out HALL.out w6 (by have h := HS6.out; rw [show (P ++ A) ++ u :: v :: (B ++ R) = P ++ (A ++ [u]) ++ v :: (B ++ R) by simp only [List.append_assoc, List.cons_append, List.nil_append]] at h; exact h))
            clear hr
            go_wp2
            go_roundw
            case rel => exact ⟨k + 1, I + 1, A ++ [u] ++ v :: B, by rw [HWI.out], Lib.hid (by have := HI.out; omega), Lib.hid (by omega), Lib.hid (by have := HKX.out; omega), Lib.hid HO.out.1, Lib.hid HO.out.2.1, Lib.hid HO.out.2.2⟩
            case measure => rw [HWI.out]; exact ins_meas HLT.out
    · have q : decide ((I : Int) < (b : Int)) = false := decide_eq_false (by omega)
      have qn : decide (I < b) = false := decide_eq_false hlt
      have HGE := Lib.hid (show X.length ≤ k by have := HI.out; have := HAB.out; omega)
      clear hlt
      go_wp2
      go_end0
      refine ⟨rfl, S, ?_, ?_, ?_⟩
      · rw [HSL.out, List.take_of_length_le HGE.out]
      · have h := HST.out
        rw [List.take_of_length_le HGE.out] at h
        exact h
      · have h := HS.out
        rw [List.drop_eq_nil_of_le HGE.out, List.append_nil] at h
        exact h
end Go.Proofs.Ytffggkhahambhaa.Tr

namespace Go.Proofs.Ytffggkhahambhaa.Tr
open Go.RowKit Go.Proofs.YtffggkhahambhaaW.PrintWords Go.Proofs.YtffggkhahambhaaW.PrintLast Go.Proofs.YtffggkhahambhaaW.PrintMore Go.Proofs.Ytffggkhahambhaa.Math Go.Proofs.Ytffggkhahambhaa.PAll Go.Proofs.Ytffggkhahambhaa.Stab
set_option linter.unusedVariables false
set_option linter.unusedSimpArgs false
/-- The middle of two places, as it is reckoned. -/
theorem half_eq {I J H : Nat} (hI : I ≤ 2000000) (hJ : J ≤ 2000000) (hH : (I + J) / 2 = H) : wrap64 (IntKind.u64.wrap (wrap64 ((I : Int) + (J : Int))) / 2) = (H : Int) := by
  rw [w64 ((I : Int) + (J : Int)) (by omega) (by omega)]
  have e : IntKind.u64.wrap ((I : Int) + (J : Int)) = (I : Int) + (J : Int) := by
    rw [IntKind.wrap_u64]; omega
  rw [e, w64 _ (by omega) (by omega)]
  omega
theorem bs_m1 {I J H : Nat} (h1 : I ≤ H) (h2 : H < J) : (intOf (.int .i64 (J : Int)) - intOf (.int .i64 ((H + 1 : Nat) : Int))).toNat < (intOf (.int .i64 (J : Int)) - intOf (.int .i64 (I : Int))).toNat := by
  show ((J : Int) - ((H + 1 : Nat) : Int)).toNat < ((J : Int) - (I : Int)).toNat
  omega
theorem bs_m2 {I J H : Nat} (h1 : I ≤ H) (h2 : H < J) : (intOf (.int .i64 (H : Int)) - intOf (.int .i64 (I : Int))).toNat < (intOf (.int .i64 (J : Int)) - intOf (.int .i64 (I : Int))).toNat := by
  show ((H : Int) - (I : Int)).toNat < ((J : Int) - (I : Int)).toNat
  omega
theorem bub_m {T Y z : Nat} (h : Y = T + 1) (hz : T < z) : z - (intOf (.int .i64 (Y : Int))).toNat < z - (intOf (.int .i64 (T : Int))).toNat := by
  show z - ((Y : Nat) : Int).toNat < z - ((T : Nat) : Int).toNat
  omega

set_option maxHeartbeats 8000000 in
set_option maxRecDepth 1000000 in
theorem symL_calls (w0 : World) (base g n c bq : Nat) (cf : Sp → Sp → Int) (hw : Swo (ltC cf)) (HC : Hid (Cmp w0 g bq cf)) (P R Q : List Sp) (v : Sp) (a m b : Nat) (w : World) (ha : P.length = a) (hm : a + 1 = m) (hb : m + R.length = b) (hR : Sd (ltC cf) R) (hn : n ≤ 1000000) (hS : Sr w0 w base g n c (P ++ v :: R ++ Q)) :
    Calls Try.prog 67 #[.slice (some ⟨g, 0, none⟩) n c, .int .i64 a, .int .i64 m, .int .i64 b, .func (.func 27) #[] #[.pointer (some ⟨bq, 0, none⟩)]] w fun e w' => e = .returned (.tuple #[]) ∧ ∃ S, Mg (ltC cf) [v] R S ∧ Sr w0 w' base g n c (P ++ S ++ Q) := by
  have HWO := Lib.hid hw
  have HN := Lib.hid hn
  have HPa := Lib.hid ha
  have hlen := hS.len
  simp only [List.length_append, List.length_cons] at hlen
  have HBN := Lib.hid (show b ≤ n by omega)
  have HS := Lib.hid hS
  have HSR := Lib.hid hR
  have HM := Lib.hid hm
  have HB := Lib.hid hb
  clear hw hn hlen hS hR
  have HMA := Lib.hid (show wrap64 ((m : Int) - (a : Int)) = 1 by rw [w64 _ (by omega) (by omega)]; omega)
  clear ha hm hb
  have mixed : Try.prog.follows Departure.mixedOrders = true := by kernel_rfl
  go_enter Try.func67, Try.ntmps67
  have hma := HMA.out
  go_wp2
  clear hma
  go_loopw [10, 11, 12] (fun s u _ wr => ∃ (i j I J : Nat), Hid (i ≤ j) ∧ Hid (j ≤ R.length) ∧ s = .int .i64 I ∧ u = .int .i64 J ∧ Hid (m + i = I) ∧ Hid (m + j = J) ∧ Hid (0 < i → ∀ x, R[i - 1]? = some x → ltC cf x v = true) ∧ Hid (∀ x, R[j]? = some x → ltC cf x v = false) ∧ Hid (Sr w0 wr base g n c (P ++ v :: R ++ Q))) (fun s u _ _ => (intOf u - intOf s).toNat)
  case atStart => exact ⟨0, R.length, m, b, Lib.hid (Nat.zero_le _), Lib.hid (Nat.le_refl _), rfl, rfl, Lib.hid (Nat.add_zero m), HB, Lib.hid (fun h => absurd h (Nat.lt_irrefl _)), Lib.hid (fun x hx => by simp at hx), HS⟩
  case round =>
    clear HS
    obtain ⟨i, j, I, J, HIJ, HJR, rfl, rfl, HMI, HMJ, HI, HJ, HS⟩ := hrel
    by_cases hlt : I < J
    · have q : (I : Int) < (J : Int) := by omega
      obtain ⟨H, hH⟩ : ∃ H, (I + J) / 2 = H := ⟨_, rfl⟩
      obtain ⟨h, hh⟩ : ∃ h, (i + j) / 2 = h := ⟨_, rfl⟩
      have hmi := HMI.out
      have hmj := HMJ.out
      have hmh : m + h = H := by omega
      have hih : i ≤ h := by omega
      have hhj : h < j := by omega
      have hjr := HJR.out
      obtain ⟨x, hx⟩ : ∃ x, R[h]? = some x := ⟨_, List.getElem?_eq_getElem (by omega)⟩
      have hpa := HPa.out
      have hma2 := HM.out
      have HGX := Lib.hid (show (P ++ v :: R ++ Q)[H]? = some x by rw [List.append_assoc, List.getElem?_append_right (by omega), show H - P.length = h + 1 by omega, List.cons_append, List.getElem?_cons_succ, List.getElem?_append_left (by omega)]; exact hx)
      have HGY := Lib.hid (show (P ++ v :: R ++ Q)[a]? = some v by rw [List.append_assoc, List.getElem?_append_right (by omega), show a - P.length = 0 by omega]; rfl)
      have HX := Lib.hid hx
      have HHL := Lib.hid (show I ≤ H by omega)
      have HHJ := Lib.hid (show H < J by omega)
      have HIH := Lib.hid hih
      have HHj := Lib.hid hhj
      have HMH := Lib.hid hmh
      have hbn := HBN.out
      have hnn := HN.out
      have hbb := HB.out
      have b1 : (H : Int) < (n : Int) := by omega
      have b2 : (a : Int) < (n : Int) := by omega
      have HHALF := Lib.hid (half_eq (by omega) (by omega) hH)
      have HWH := Lib.hid (show wrap64 ((H : Int) + 1) = ((H + 1 : Nat) : Int) by rw [w64 _ (by omega) (by omega)]; omega)
      clear hlt hH hh hmi hmj hmh hih hhj hjr hx hpa hma2 hbn hnn hbb
      obtain ⟨kk, hkk⟩ : ∃ kk : Nat, kk = 11 := ⟨_, rfl⟩
      have HKK := Lib.hid hkk
      have zE := Try.sizeOf34
      simp only [← hkk] at zE
      have aE := Try.isAgg34
      have la := HS.out.drew.ldk HGX.out hkk Try.prog
      have lb := HS.out.drew.ldk HGY.out hkk Try.prog
      obtain ⟨cx, hcx⟩ : ∃ cx, encS x = cx := ⟨_, rfl⟩
      obtain ⟨cy, hcy⟩ : ∃ cy, encS v = cy := ⟨_, rfl⟩
      have na : cx.length = kk := by rw [← hcx, hkk]; rfl
      have nb : cy.length = kk := by rw [← hcy, hkk]; rfl
      rw [hcx] at la
      rw [hcy] at lb
      have HCX := Lib.hid hcx
      have HCY := Lib.hid hcy
      have aX : (⟨g, 0, none⟩ : Addr).add (H * kk) = ⟨g, H * kk, none⟩ := add_at _ _
      have aY : (⟨g, 0, none⟩ : Addr).add (a * kk) = ⟨g, a * kk, none⟩ := add_at _ _
      have HSd := Lib.hid HS.out.drew
      clear hkk hcx hcy
      have hhalf := HHALF.out
      go_upto_region 5 with (fail)
      refine start_ (n := 11) (S := fun w' => Sem.run Try.prog (loadCellsFrom ⟨g, H * kk, none⟩ 0 kk #[]) w' = .ok cx.toArray w' ∧ Sem.run Try.prog (loadCellsFrom ⟨g, a * kk, none⟩ 0 kk #[]) w' = .ok cy.toArray w') (ds := []) #[false, false, false, false, false, false, false, false, false, false, false] (by kernel_rfl) rfl rfl ⟨la, lb⟩ (fun hHeld => ?_)
      generalize hwe : wr.drew = w5 at la lb HSd hHeld ⊢
      clear hwe la lb
      refine pure_ (i := 0) (N := some 40) (v := ?_) (a' := ?_) #[true, false, false, false, false, false, false, false, false, false, false] rfl rfl (by kernel_rfl) (fun _ _ _ h => h) (Or.inl ⟨by rfl, ?_⟩) ?_ ?_
      rotate_left
      · intro w'
        go_simp
        with_reducible rfl
      rotate_left
      · simp only [Act.put, List.setIfInBounds_toArray, List.set_cons_zero, List.set_cons_succ, i64_w, i32_w]
        rfl
      refine pure_ (i := 1) (N := some 41) (v := ?_) (a' := ?_) #[true, true, false, false, false, false, false, false, false, false, false] rfl rfl (by kernel_rfl) (fun _ _ _ h => h) (Or.inl ⟨by rfl, ?_⟩) ?_ ?_
      rotate_left
      · intro w'
        go_simp
        with_reducible rfl
      rotate_left
      · simp only [Act.put, List.setIfInBounds_toArray, List.set_cons_zero, List.set_cons_succ, i64_w, i32_w]
        rfl
      refine pure_ (i := 2) (N := some 42) (v := ?_) (a' := ?_) #[true, true, true, false, false, false, false, false, false, false, false] rfl rfl (by kernel_rfl) (fun _ _ _ h => h) (Or.inl ⟨by rfl, ?_⟩) ?_ ?_
      rotate_left
      · intro w'
        go_simp
        with_reducible rfl
      rotate_left
      · simp only [Act.put, List.setIfInBounds_toArray, List.set_cons_zero, List.set_cons_succ, i64_w, i32_w]
        rfl
      refine pure_ (i := 3) (N := some 43) (v := ?_) (a' := ?_) #[true, true, true, true, false, false, false, false, false, false, false] rfl rfl (by kernel_rfl) (fun _ _ _ h => h) (Or.inl ⟨by rfl, ?_⟩) ?_ ?_
      rotate_left
      · intro w'
        go_simp
        with_reducible rfl
      rotate_left
      · simp only [Act.put, List.setIfInBounds_toArray, List.set_cons_zero, List.set_cons_succ, i64_w, i32_w]
        rfl
      refine pure_ (i := 5) (N := some 45) (v := ?_) (a' := ?_) #[true, true, true, true, false, true, false, false, false, false, false] rfl rfl (by kernel_rfl) (fun _ _ _ h => h) (Or.inl ⟨by rfl, ?_⟩) ?_ ?_
      rotate_left
      · intro w'
        go_simp
        with_reducible rfl
      rotate_left
      · simp only [Act.put, List.setIfInBounds_toArray, List.set_cons_zero, List.set_cons_succ, i64_w, i32_w]
        rfl
      refine pure_ (i := 6) (N := some 46) (v := ?_) (a' := ?_) #[true, true, true, true, false, true, true, false, false, false, false] rfl rfl (by kernel_rfl) (fun _ _ _ h => h) (Or.inl ⟨by rfl, ?_⟩) ?_ ?_
      rotate_left
      · intro w'
        go_simp
        with_reducible rfl
      rotate_left
      · simp only [Act.put, List.setIfInBounds_toArray, List.set_cons_zero, List.set_cons_succ, i64_w, i32_w]
        rfl
      refine pure_ (i := 7) (N := some 47) (v := ?_) (a' := ?_) #[true, true, true, true, false, true, true, true, false, false, false] rfl rfl (by kernel_rfl) (fun _ _ _ h => h) (Or.inl ⟨by rfl, ?_⟩) ?_ ?_
      rotate_left
      · intro w'
        go_simp
        with_reducible rfl
      rotate_left
      · simp only [Act.put, List.setIfInBounds_toArray, List.set_cons_zero, List.set_cons_succ, i64_w, i32_w]
        rfl
      refine take_ (i := 4) (N := some 44) (v := ?_) (a' := ?_) #[true, true, true, true, true, true, true, true, false, false, false] rfl rfl (by kernel_rfl) (fun _ _ _ h => h) (Or.inl ⟨by rfl, ?_⟩) hHeld ?_ ?_
      rotate_left
      · rintro w' ⟨s0, s1⟩
        go_simp
        with_reducible rfl
      rotate_left
      · simp only [Act.put, List.setIfInBounds_toArray, List.set_cons_zero, List.set_cons_succ, i64_w, i32_w]
        rfl
      refine take_ (i := 8) (N := some 48) (v := ?_) (a' := ?_) #[true, true, true, true, true, true, true, true, true, false, false] rfl rfl (by kernel_rfl) (fun _ _ _ h => h) (Or.inl ⟨by rfl, ?_⟩) hHeld ?_ ?_
      rotate_left
      · rintro w' ⟨s0, s1⟩
        go_simp
        with_reducible rfl
      rotate_left
      · simp only [Act.put, List.setIfInBounds_toArray, List.set_cons_zero, List.set_cons_succ, i64_w, i32_w]
        rfl
      refine one_ (i := 9) (N := some 49) #[true, true, true, true, true, true, true, true, true, true, false] rfl rfl (by kernel_rfl) (by decide) (fun K hK => ?_)
      have hcm := HC.out x v w5 HSd.out.gr
      rw [HCX.out, HCY.out] at hcm
      refine goesv_ Try.func27 (by kernel_rfl) rfl #[.agg cx.toArray, .agg cy.toArray, .pointer (some ⟨bq, 0, none⟩)] (by rfl) rfl rfl (by rfl) (by simp only [List.map_toArray, List.map_cons, List.map_nil]; rfl) ?_
      with_reducible refine (hcm).mono ?_
      rintro ee w6 ⟨rfl, hb⟩
      refine ⟨_, rfl, ?_⟩
      have HS6 := Lib.hid (HSd.out.next hb)
      clear hb hcm
      have la := HS6.out.ldk HGX.out HKK.out Try.prog
      have lb := HS6.out.ldk HGY.out HKK.out Try.prog
      rw [HCX.out] at la
      rw [HCY.out] at lb
      refine hK.out _ _ ⟨la, lb⟩ (fun hHeld => ?_)
      clear hK K
      refine norm_ (a' := ?_) ?_ ?_
      rotate_left
      · show Act.put _ (some 49) _ = _
        simp only [Act.put, List.setIfInBounds_toArray, List.set_cons_zero, List.set_cons_succ, i64_w, i32_w]
        rfl
      refine pure_ (i := 10) (N := some 50) (v := ?_) (a' := ?_) #[true, true, true, true, true, true, true, true, true, true, true] rfl rfl (by kernel_rfl) (fun _ _ _ h => h) (Or.inl ⟨by rfl, ?_⟩) ?_ ?_
      rotate_left
      · intro w'
        go_simp
        with_reducible rfl
      rotate_left
      · simp only [Act.put, List.setIfInBounds_toArray, List.set_cons_zero, List.set_cons_succ, i64_w, i32_w]
        rfl
      refine done_ (by kernel_rfl) ?_
      clear la lb
      clear hhalf b1 b2
      by_cases hr : cf x v < 0
      · have e1 : decide (cf x v < 0) = true := decide_eq_true hr
        have HLV := Lib.hid (show ltC cf x v = true from decide_eq_true hr)
        go_wp2
        go_roundw
        case rel => exact ⟨h + 1, j, H + 1, J, Lib.hid (by have := HHj.out; omega), HJR, by rw [HHALF.out, HWH.out], rfl, Lib.hid (by have := HMH.out; omega), HMJ, Lib.hid (fun _ y hy => by rw [Nat.add_sub_cancel, HX.out] at hy; injection hy with hy; rw [← hy]; exact HLV.out), HJ, HS6⟩
        case measure => rw [HHALF.out, HWH.out]; exact bs_m1 HHL.out HHJ.out
      · have e1 : decide (cf x v < 0) = false := decide_eq_false hr
        have hr2 : 0 ≤ cf x v := by omega
        have HLV := Lib.hid (show ltC cf x v = false from decide_eq_false hr)
        clear hr
        go_wp2
        go_roundw
        case rel => exact ⟨i, h, I, H, HIH, Lib.hid (by have h1 := HHj.out; have h2 := HJR.out; omega), rfl, by rw [HHALF.out], HMI, HMH, HI, Lib.hid (fun y hy => by rw [HX.out] at hy; injection hy with hy; rw [← hy]; exact HLV.out), HS6⟩
        case measure => rw [HHALF.out]; exact bs_m2 HHL.out HHJ.out
    · have hij : i = j := by have h1 := HMI.out; have h2 := HMJ.out; have h3 := HIJ.out; omega
      subst hij
      have q : decide ((I : Int) < (J : Int)) = false := decide_eq_false (by omega)
      have qn : decide (I < J) = false := decide_eq_false hlt
      have HT := Lib.hid (show Mg (ltC cf) [v] R (R.take i ++ v :: R.drop i) by
        have h1 := border_lt (L := [v]) (k1 := 0) HWO.out (List.pairwise_singleton _ _) HSR.out HJR.out (fun h x y hx hy => by injection hx with hx; rw [← hx]; exact HI.out h y hy)
        have h2 := border_le (L := [v]) (k1 := 1) HWO.out (List.pairwise_singleton _ _) HSR.out (Nat.le_refl _) (fun h x y hx hy => by injection hx with hx; rw [← hx]; exact HJ.out y hy)
        have h3 := Mg.oneL (v := v) (R1 := R.take i) (R2 := R.drop i) HWO.out (by rw [List.take_append_drop]; exact HSR.out) (fun r hr => h1 v (by simp) r hr) (fun r hr => h2 v (by simp) r hr)
        rw [List.take_append_drop] at h3
        exact h3)
      have HWI := Lib.hid (show wrap64 ((I : Int) - 1) = (a : Int) + (i : Int) by
        have h1 := HMI.out; have h2 := HM.out; have h3 := HN.out; have h4 := HBN.out; have h5 := HB.out; have h6 := HJR.out
        rw [w64 _ (by omega) (by omega)]; omega)
      have HS0 := Lib.hid (show Sr w0 wr base g n c (P ++ R.take 0 ++ v :: (R.drop 0 ++ Q)) by
        have h := HS.out
        rw [List.take_zero, List.drop_zero, List.append_nil]
        rwa [List.append_assoc] at h)
      clear hlt HS HI HJ HMJ HIJ
      go_wp2
      clear q qn
      go_loopw [13] (fun s wr => ∃ (t T : Nat), Hid (t ≤ i) ∧ s = .int .i64 T ∧ Hid (a + t = T) ∧ Hid (Sr w0 wr base g n c (P ++ R.take t ++ v :: (R.drop t ++ Q)))) (fun s _ => a + i - (intOf s).toNat)
      case atStart => exact ⟨0, a, Lib.hid (Nat.zero_le _), rfl, Lib.hid (Nat.add_zero a), HS0⟩
      case round =>
        clear HS0
        obtain ⟨t, T, HTI, rfl, HAT, HS⟩ := hrel
        by_cases htl : t < i
        · have hjr := HJR.out
          have hat := HAT.out
          have hpa := HPa.out
          have hbn := HBN.out
          have hbb := HB.out
          have hmm := HM.out
          have hnn := HN.out
          obtain ⟨y, hy⟩ : ∃ y, R[t]? = some y := ⟨_, List.getElem?_eq_getElem (by omega)⟩
          obtain ⟨hyl, hye⟩ := List.getElem?_eq_some_iff.1 hy
          have hrow : P ++ R.take t ++ v :: (R.drop t ++ Q) = (P ++ R.take t) ++ v :: y :: (R.drop (t + 1) ++ Q) := by rw [List.drop_eq_getElem_cons hyl, hye]; rfl
          rw [hrow] at HS
          have hPl : (P ++ R.take t).length = T := by rw [List.length_append, List.length_take]; omega
          obtain ⟨Y, hY⟩ : ∃ Y, T + 1 = Y := ⟨_, rfl⟩
          have HGX := Lib.hid (show ((P ++ R.take t) ++ v :: y :: (R.drop (t + 1) ++ Q))[T]? = some v by rw [← hPl, List.getElem?_append_right (Nat.le_refl _), Nat.sub_self]; rfl)
          have HGY := Lib.hid (show ((P ++ R.take t) ++ v :: y :: (R.drop (t + 1) ++ Q))[Y]? = some y by rw [← hY, ← hPl, List.getElem?_append_right (by omega), show (P ++ R.take t).length + 1 - (P ++ R.take t).length = 1 by omega]; rfl)
          have HSW := Lib.hid (show (((P ++ R.take t) ++ v :: y :: (R.drop (t + 1) ++ Q)).set T y).set Y v = P ++ R.take (t + 1) ++ v :: (R.drop (t + 1) ++ Q) by
            have h := set_set (P := P ++ R.take t) (M := []) (Q := R.drop (t + 1) ++ Q) (x := v) (y := y)
            rw [hPl, List.length_nil, Nat.zero_add, hY] at h
            simp only [List.nil_append] at h
            rw [h, List.take_succ_eq_append_getElem hyl, hye]
            simp only [List.append_assoc, List.cons_append, List.nil_append])
          have HXN := Lib.hid (show T < n by omega)
          have HYN := Lib.hid (show Y < n by omega)
          have HWJ := Lib.hid (show wrap64 ((T : Int) + 1) = (Y : Int) by rw [w64 _ (by omega) (by omega)]; omega)
          have HTY := Lib.hid (show a + (t + 1) = Y by omega)
          have HTI2 := Lib.hid (show t + 1 ≤ i by omega)
          have HTL := Lib.hid htl
          have HTYe := Lib.hid hY
          obtain ⟨kk, hkk⟩ : ∃ kk : Nat, kk = 11 := ⟨_, rfl⟩
          have HKK := Lib.hid hkk
          have zE := Try.sizeOf34
          simp only [← hkk] at zE
          have aE := Try.isAgg34
          obtain ⟨cx, hcx⟩ : ∃ cx, encS v = cx := ⟨_, rfl⟩
          obtain ⟨cy, hcy⟩ : ∃ cy, encS y = cy := ⟨_, rfl⟩
          have na : cx.length = kk := by rw [← hcx, hkk]; rfl
          have nb : cy.length = kk := by rw [← hcy, hkk]; rfl
          have HCX := Lib.hid hcx
          have HCY := Lib.hid hcy
          have aX : (⟨g, 0, none⟩ : Addr).add (T * kk) = ⟨g, T * kk, none⟩ := add_at _ _
          have aY : (⟨g, 0, none⟩ : Addr).add (Y * kk) = ⟨g, Y * kk, none⟩ := add_at _ _
          have q : (T : Int) < (a : Int) + (i : Int) := by omega
          clear hjr hat hpa hbn hbb hmm hnn hy hyl hye hrow hPl hY htl hkk hcx hcy
          have hl1 := (List.getElem?_eq_some_iff.1 HGX.out).1
          have hl2 := (List.getElem?_eq_some_iff.1 HGY.out).1
          have HSe := HS.out.drew
          have HSx := HSe.put hl1 y
          have HSy := HSx.put (i := Y) (by rw [List.length_set]; exact hl2) v
          rw [HSW.out] at HSy
          have HSZ := Lib.hid HSy
          have la := HSe.ldk HGX.out HKK.out Try.prog
          have lb := HSe.ldk HGY.out HKK.out Try.prog
          have sa := HSe.st hl1 y Try.prog
          have sb := HSx.st (i := Y) (by rw [List.length_set]; exact hl2) v Try.prog
          rw [HCX.out] at la
          rw [HCY.out] at lb
          rw [HCY.out] at sa
          rw [HCX.out, HCY.out] at HSZ
          simp only [HCX.out, HCY.out] at sb
          rw [← HKK.out] at sa sb HSZ
          have e2 : ((T : Int)).toNat = T := by omega
          have p2 : (0 : Int) ≤ (T : Int) := by omega
          have r2 : IntKind.i64.wrap ((T : Int)) = (T : Int) := by rw [IntKind.wrap_i64]; have := HXN.out; have := HN.out; omega
          have e3 : ((Y : Int)).toNat = Y := by omega
          have p3 : (0 : Int) ≤ (Y : Int) := by omega
          have r3 : IntKind.i64.wrap ((Y : Int)) = (Y : Int) := by rw [IntKind.wrap_i64]; have := HYN.out; have := HN.out; omega
          have b2 : (T : Int) < (n : Int) := by have := HXN.out; omega
          have b3 : (Y : Int) < (n : Int) := by have := HYN.out; omega
          have hwj := HWJ.out
          have hwi := HWI.out
          clear hl1 hl2 HSe HSx HSy
          go_upto_region 11 with (fail)
          go_big_region_o
          clear la lb sa sb hwj e2 p2 r2 e3 p3 r3 b2 b3
          generalize (wr.drew.setCells g (T * kk) cy).setCells g (Y * kk) cx = w7 at HSZ ⊢
          clear q
          go_wp2
          go_roundw
          case rel => exact ⟨t + 1, Y, HTI2, by rw [HWJ.out], HTY, HSZ⟩
          case measure => rw [HWJ.out]; exact bub_m (by have := HTYe.out; omega) (by have h1 := HAT.out; have h2 := HTL.out; omega)
        · have hti : t = i := by have := HTI.out; omega
          subst hti
          have hat := HAT.out
          have q : decide ((T : Int) < (a : Int) + (t : Int)) = false := decide_eq_false (by omega)
          have q2 : ¬ (T : Int) < (a : Int) + (t : Int) := by omega
          have hwi := HWI.out
          have HE := Lib.hid (show Sr w0 wr base g n c (P ++ (R.take t ++ v :: R.drop t) ++ Q) by
            have h := HS.out
            have e : P ++ (R.take t ++ v :: R.drop t) ++ Q = P ++ R.take t ++ v :: (R.drop t ++ Q) := by simp only [List.append_assoc, List.cons_append]
            rw [e]; exact h)
          clear htl hat
          go_wp2
          refine bodyPost_ret (results_none rfl _ _ _) rfl ?_
          exact ⟨rfl, _, HT.out, by have h := HE.out; simpa only [List.append_assoc, List.cons_append] using h⟩

set_option maxHeartbeats 8000000 in
set_option maxRecDepth 1000000 in
theorem symR_calls (w0 : World) (base g n c bq : Nat) (cf : Sp → Sp → Int) (hw : Swo (ltC cf)) (HC : Hid (Cmp w0 g bq cf)) (P L Q : List Sp) (v : Sp) (a m b : Nat) (w : World) (ha : P.length = a) (hm : a + L.length = m) (hb : m + 1 = b) (hL2 : 1 < L.length) (hL : Sd (ltC cf) L) (hn : n ≤ 1000000) (hS : Sr w0 w base g n c (P ++ L ++ v :: Q)) :
    Calls Try.prog 67 #[.slice (some ⟨g, 0, none⟩) n c, .int .i64 a, .int .i64 m, .int .i64 b, .func (.func 27) #[] #[.pointer (some ⟨bq, 0, none⟩)]] w fun e w' => e = .returned (.tuple #[]) ∧ ∃ S, Mg (ltC cf) L [v] S ∧ Sr w0 w' base g n c (P ++ S ++ Q) := by
  have HWO := Lib.hid hw
  have HN := Lib.hid hn
  have HPa := Lib.hid ha
  have hlen := hS.len
  simp only [List.length_append, List.length_cons] at hlen
  have HBN := Lib.hid (show b ≤ n by omega)
  have HS := Lib.hid hS
  have HSL := Lib.hid hL
  have HM := Lib.hid hm
  have HB := Lib.hid hb
  clear hw hn hlen hS hL
  have hnn := HN.out
  have hbn := HBN.out
  have HMA := Lib.hid (show wrap64 ((m : Int) - (a : Int)) = (L.length : Int) by rw [w64 _ (by omega) (by omega)]; omega)
  have HBM := Lib.hid (show wrap64 ((b : Int) - (m : Int)) = 1 by rw [w64 _ (by omega) (by omega)]; omega)
  have e0 : ((L.length : Int) == 1) = false := beq_eq_false_iff_ne.2 (by omega)
  clear ha hm hb hL2 hnn hbn
  have mixed : Try.prog.follows Departure.mixedOrders = true := by kernel_rfl
  go_enter Try.func67, Try.ntmps67
  have hma := HMA.out
  have hbm := HBM.out
  go_wp2
  clear hma hbm e0
  go_loopw [14, 15, 16] (fun s u _ wr => ∃ (i j I J : Nat), Hid (i ≤ j) ∧ Hid (j ≤ L.length) ∧ s = .int .i64 I ∧ u = .int .i64 J ∧ Hid (a + i = I) ∧ Hid (a + j = J) ∧ Hid (0 < i → ∀ x, L[i - 1]? = some x → ltC cf v x = false) ∧ Hid (∀ x, L[j]? = some x → ltC cf v x = true) ∧ Hid (Sr w0 wr base g n c (P ++ L ++ v :: Q))) (fun s u _ _ => (intOf u - intOf s).toNat)
  case atStart => exact ⟨0, L.length, a, m, Lib.hid (Nat.zero_le _), Lib.hid (Nat.le_refl _), rfl, rfl, Lib.hid (Nat.add_zero a), HM, Lib.hid (fun h => absurd h (Nat.lt_irrefl _)), Lib.hid (fun x hx => by simp at hx), HS⟩
  case round =>
    clear HS
    obtain ⟨i, j, I, J, HIJ, HJR, rfl, rfl, HMI, HMJ, HI, HJ, HS⟩ := hrel
    by_cases hlt : I < J
    · have q : (I : Int) < (J : Int) := by omega
      obtain ⟨H, hH⟩ : ∃ H, (I + J) / 2 = H := ⟨_, rfl⟩
      obtain ⟨h, hh⟩ : ∃ h, (i + j) / 2 = h := ⟨_, rfl⟩
      have hmi := HMI.out
      have hmj := HMJ.out
      have hmh : a + h = H := by omega
      have hih : i ≤ h := by omega
      have hhj : h < j := by omega
      have hjr := HJR.out
      obtain ⟨x, hx⟩ : ∃ x, L[h]? = some x := ⟨_, List.getElem?_eq_getElem (by omega)⟩
      have hpa := HPa.out
      have hma2 := HM.out
      have HGY := Lib.hid (show (P ++ L ++ v :: Q)[H]? = some x by rw [List.append_assoc, List.getElem?_append_right (by omega), show H - P.length = h by omega, List.getElem?_append_left (by omega)]; exact hx)
      have HGX := Lib.hid (show (P ++ L ++ v :: Q)[m]? = some v by rw [List.getElem?_append_right (by rw [List.length_append]; omega), List.length_append, show m - (P.length + L.length) = 0 by omega]; rfl)
      have HX := Lib.hid hx
      have HHL := Lib.hid (show I ≤ H by omega)
      have HHJ := Lib.hid (show H < J by omega)
      have HIH := Lib.hid hih
      have HHj := Lib.hid hhj
      have HMH := Lib.hid hmh
      have hbn := HBN.out
      have hnn := HN.out
      have hbb := HB.out
      have b1 : (H : Int) < (n : Int) := by omega
      have b2 : (m : Int) < (n : Int) := by omega
      have HHALF := Lib.hid (half_eq (by omega) (by omega) hH)
      have HWH := Lib.hid (show wrap64 ((H : Int) + 1) = ((H + 1 : Nat) : Int) by rw [w64 _ (by omega) (by omega)]; omega)
      clear hlt hH hh hmi hmj hmh hih hhj hjr hx hpa hma2 hbn hnn hbb
      obtain ⟨kk, hkk⟩ : ∃ kk : Nat, kk = 11 := ⟨_, rfl⟩
      have HKK := Lib.hid hkk
      have zE := Try.sizeOf34
      simp only [← hkk] at zE
      have aE := Try.isAgg34
      have la := HS.out.drew.ldk HGX.out hkk Try.prog
      have lb := HS.out.drew.ldk HGY.out hkk Try.prog
      obtain ⟨cx, hcx⟩ : ∃ cx, encS v = cx := ⟨_, rfl⟩
      obtain ⟨cy, hcy⟩ : ∃ cy, encS x = cy := ⟨_, rfl⟩
      have na : cx.length = kk := by rw [← hcx, hkk]; rfl
      have nb : cy.length = kk := by rw [← hcy, hkk]; rfl
      rw [hcx] at la
      rw [hcy] at lb
      have HCX := Lib.hid hcx
      have HCY := Lib.hid hcy
      have aX : (⟨g, 0, none⟩ : Addr).add (m * kk) = ⟨g, m * kk, none⟩ := add_at _ _
      have aY : (⟨g, 0, none⟩ : Addr).add (H * kk) = ⟨g, H * kk, none⟩ := add_at _ _
      have HSd := Lib.hid HS.out.drew
      clear hkk hcx hcy
      have hhalf := HHALF.out
      go_upto_region 17 with (fail)
      refine start_ (n := 12) (S := fun w' => Sem.run Try.prog (loadCellsFrom ⟨g, m * kk, none⟩ 0 kk #[]) w' = .ok cx.toArray w' ∧ Sem.run Try.prog (loadCellsFrom ⟨g, H * kk, none⟩ 0 kk #[]) w' = .ok cy.toArray w') (ds := []) #[false, false, false, false, false, false, false, false, false, false, false, false] (by kernel_rfl) rfl rfl ⟨la, lb⟩ (fun hHeld => ?_)
      generalize hwe : wr.drew = w5 at la lb HSd hHeld ⊢
      clear hwe la lb
      refine pure_ (i := 0) (N := some 92) (v := ?_) (a' := ?_) #[true, false, false, false, false, false, false, false, false, false, false, false] rfl rfl (by kernel_rfl) (fun _ _ _ h => h) (Or.inl ⟨by rfl, ?_⟩) ?_ ?_
      rotate_left
      · intro w'
        go_simp
        with_reducible rfl
      rotate_left
      · simp only [Act.put, List.setIfInBounds_toArray, List.set_cons_zero, List.set_cons_succ, i64_w, i32_w]
        rfl
      refine pure_ (i := 1) (N := some 93) (v := ?_) (a' := ?_) #[true, true, false, false, false, false, false, false, false, false, false, false] rfl rfl (by kernel_rfl) (fun _ _ _ h => h) (Or.inl ⟨by rfl, ?_⟩) ?_ ?_
      rotate_left
      · intro w'
        go_simp
        with_reducible rfl
      rotate_left
      · simp only [Act.put, List.setIfInBounds_toArray, List.set_cons_zero, List.set_cons_succ, i64_w, i32_w]
        rfl
      refine pure_ (i := 2) (N := some 94) (v := ?_) (a' := ?_) #[true, true, true, false, false, false, false, false, false, false, false, false] rfl rfl (by kernel_rfl) (fun _ _ _ h => h) (Or.inl ⟨by rfl, ?_⟩) ?_ ?_
      rotate_left
      · intro w'
        go_simp
        with_reducible rfl
      rotate_left
      · simp only [Act.put, List.setIfInBounds_toArray, List.set_cons_zero, List.set_cons_succ, i64_w, i32_w]
        rfl
      refine pure_ (i := 3) (N := some 95) (v := ?_) (a' := ?_) #[true, true, true, true, false, false, false, false, false, false, false, false] rfl rfl (by kernel_rfl) (fun _ _ _ h => h) (Or.inl ⟨by rfl, ?_⟩) ?_ ?_
      rotate_left
      · intro w'
        go_simp
        with_reducible rfl
      rotate_left
      · simp only [Act.put, List.setIfInBounds_toArray, List.set_cons_zero, List.set_cons_succ, i64_w, i32_w]
        rfl
      refine pure_ (i := 5) (N := some 97) (v := ?_) (a' := ?_) #[true, true, true, true, false, true, false, false, false, false, false, false] rfl rfl (by kernel_rfl) (fun _ _ _ h => h) (Or.inl ⟨by rfl, ?_⟩) ?_ ?_
      rotate_left
      · intro w'
        go_simp
        with_reducible rfl
      rotate_left
      · simp only [Act.put, List.setIfInBounds_toArray, List.set_cons_zero, List.set_cons_succ, i64_w, i32_w]
        rfl
      refine pure_ (i := 6) (N := some 98) (v := ?_) (a' := ?_) #[true, true, true, true, false, true, true, false, false, false, false, false] rfl rfl (by kernel_rfl) (fun _ _ _ h => h) (Or.inl ⟨by rfl, ?_⟩) ?_ ?_
      rotate_left
      · intro w'
        go_simp
        with_reducible rfl
      rotate_left
      · simp only [Act.put, List.setIfInBounds_toArray, List.set_cons_zero, List.set_cons_succ, i64_w, i32_w]
        rfl
      refine pure_ (i := 7) (N := some 99) (v := ?_) (a' := ?_) #[true, true, true, true, false, true, true, true, false, false, false, false] rfl rfl (by kernel_rfl) (fun _ _ _ h => h) (Or.inl ⟨by rfl, ?_⟩) ?_ ?_
      rotate_left
      · intro w'
        go_simp
        with_reducible rfl
      rotate_left
      · simp only [Act.put, List.setIfInBounds_toArray, List.set_cons_zero, List.set_cons_succ, i64_w, i32_w]
        rfl
      refine take_ (i := 4) (N := some 96) (v := ?_) (a' := ?_) #[true, true, true, true, true, true, true, true, false, false, false, false] rfl rfl (by kernel_rfl) (fun _ _ _ h => h) (Or.inl ⟨by rfl, ?_⟩) hHeld ?_ ?_
      rotate_left
      · rintro w' ⟨s0, s1⟩
        go_simp
        with_reducible rfl
      rotate_left
      · simp only [Act.put, List.setIfInBounds_toArray, List.set_cons_zero, List.set_cons_succ, i64_w, i32_w]
        rfl
      refine take_ (i := 8) (N := some 100) (v := ?_) (a' := ?_) #[true, true, true, true, true, true, true, true, true, false, false, false] rfl rfl (by kernel_rfl) (fun _ _ _ h => h) (Or.inl ⟨by rfl, ?_⟩) hHeld ?_ ?_
      rotate_left
      · rintro w' ⟨s0, s1⟩
        go_simp
        with_reducible rfl
      rotate_left
      · simp only [Act.put, List.setIfInBounds_toArray, List.set_cons_zero, List.set_cons_succ, i64_w, i32_w]
        rfl
      refine one_ (i := 9) (N := some 101) #[true, true, true, true, true, true, true, true, true, true, false, false] rfl rfl (by kernel_rfl) (by decide) (fun K hK => ?_)
      have hcm := HC.out v x w5 HSd.out.gr
      rw [HCX.out, HCY.out] at hcm
      refine goesv_ Try.func27 (by kernel_rfl) rfl #[.agg cx.toArray, .agg cy.toArray, .pointer (some ⟨bq, 0, none⟩)] (by rfl) rfl rfl (by rfl) (by simp only [List.map_toArray, List.map_cons, List.map_nil]; rfl) ?_
      with_reducible refine (hcm).mono ?_
      rintro ee w6 ⟨rfl, hb⟩
      refine ⟨_, rfl, ?_⟩
      have HS6 := Lib.hid (HSd.out.next hb)
      clear hb hcm
      have la := HS6.out.ldk HGX.out HKK.out Try.prog
      have lb := HS6.out.ldk HGY.out HKK.out Try.prog
      rw [HCX.out] at la
      rw [HCY.out] at lb
      refine hK.out _ _ ⟨la, lb⟩ (fun hHeld => ?_)
      clear hK K
      refine norm_ (a' := ?_) ?_ ?_
      rotate_left
      · show Act.put _ (some 101) _ = _
        simp only [Act.put, List.setIfInBounds_toArray, List.set_cons_zero, List.set_cons_succ, i64_w, i32_w]
        rfl
      refine pure_ (i := 10) (N := some 102) (v := ?_) (a' := ?_) #[true, true, true, true, true, true, true, true, true, true, true, false] rfl rfl (by kernel_rfl) (fun _ _ _ h => h) (Or.inl ⟨by rfl, ?_⟩) ?_ ?_
      rotate_left
      · intro w'
        go_simp
        with_reducible rfl
      rotate_left
      · simp only [Act.put, List.setIfInBounds_toArray, List.set_cons_zero, List.set_cons_succ, i64_w, i32_w]
        rfl
      refine pure_ (i := 11) (N := some 103) (v := ?_) (a' := ?_) #[true, true, true, true, true, true, true, true, true, true, true, true] rfl rfl (by kernel_rfl) (fun _ _ _ h => h) (Or.inl ⟨by rfl, ?_⟩) ?_ ?_
      rotate_left
      · intro w'
        go_simp
        with_reducible rfl
      rotate_left
      · simp only [Act.put, List.setIfInBounds_toArray, List.set_cons_zero, List.set_cons_succ, i64_w, i32_w]
        rfl
      refine done_ (by kernel_rfl) ?_
      clear la lb
      clear hhalf b1 b2
      obtain ⟨rb, hrb⟩ : ∃ rb, decide (cf v x < 0) = rb := ⟨_, rfl⟩
      rw [hrb]
      cases rb with
      | true =>
        have HLV := Lib.hid (show ltC cf v x = true from hrb)
        clear hrb
        go_wp2
        go_roundw
        case rel => exact ⟨i, h, I, H, HIH, Lib.hid (by have h1 := HHj.out; have h2 := HJR.out; omega), rfl, by rw [HHALF.out], HMI, HMH, HI, Lib.hid (fun y hy => by rw [HX.out] at hy; injection hy with hy; rw [← hy]; exact HLV.out), HS6⟩
        case measure => rw [HHALF.out]; exact bs_m2 HHL.out HHJ.out
      | false =>
        have HLV := Lib.hid (show ltC cf v x = false from hrb)
        clear hrb
        go_wp2
        go_roundw
        case rel => exact ⟨h + 1, j, H + 1, J, Lib.hid (by have := HHj.out; omega), HJR, by rw [HHALF.out, HWH.out], rfl, Lib.hid (by have := HMH.out; omega), HMJ, Lib.hid (fun _ y hy => by rw [Nat.add_sub_cancel, HX.out] at hy; injection hy with hy; rw [← hy]; exact HLV.out), HJ, HS6⟩
        case measure => rw [HHALF.out, HWH.out]; exact bs_m1 HHL.out HHJ.out
    · have hij : i = j := by have h1 := HMI.out; have h2 := HMJ.out; have h3 := HIJ.out; omega
      subst hij
      have q : decide ((I : Int) < (J : Int)) = false := decide_eq_false (by omega)
      have qn : decide (I < J) = false := decide_eq_false hlt
      have HT := Lib.hid (show Mg (ltC cf) L [v] (L.take i ++ v :: L.drop i) by
        have h1 := border_le (R := [v]) (k1 := i) (k2 := 0) HWO.out HSL.out (List.pairwise_singleton _ _) HJR.out (fun h x y hx hy => by injection hy with hy; rw [← hy]; exact HI.out h x hx)
        have h2 := border_lt (R := [v]) (k1 := i) (k2 := 1) HWO.out HSL.out (List.pairwise_singleton _ _) (Nat.le_refl _) (fun h x y hx hy => by injection hy with hy; rw [← hy]; exact HJ.out x hx)
        have h3 := Mg.oneR (v := v) (L1 := L.take i) (L2 := L.drop i) HWO.out (by rw [List.take_append_drop]; exact HSL.out) (fun r hr => h1 r hr v (by simp)) (fun r hr => h2 r hr v (by simp))
        rw [List.take_append_drop] at h3
        exact h3)
      have HS0 := Lib.hid (show Sr w0 wr base g n c (P ++ L.take L.length ++ v :: (L.drop L.length ++ Q)) by
        have h := HS.out
        rw [List.take_length, List.drop_length, List.nil_append]
        exact h)
      clear hlt HS HI HJ HMJ HIJ
      go_wp2
      clear q qn
      go_loopw [17] (fun s wr => ∃ (t T : Nat), Hid (i ≤ t) ∧ Hid (t ≤ L.length) ∧ s = .int .i64 T ∧ Hid (a + t = T) ∧ Hid (Sr w0 wr base g n c (P ++ L.take t ++ v :: (L.drop t ++ Q)))) (fun s _ => (intOf s).toNat)
      case atStart => exact ⟨L.length, m, HJR, Lib.hid (Nat.le_refl _), rfl, HM, HS0⟩
      case round =>
        clear HS0
        obtain ⟨t, T, HTI, HTL, rfl, HAT, HS⟩ := hrel
        by_cases htl : i < t
        · have hjr := HTL.out
          have hat := HAT.out
          have hpa := HPa.out
          have hbn := HBN.out
          have hbb := HB.out
          have hmm := HM.out
          have hnn := HN.out
          have hmi := HMI.out
          obtain ⟨t, rfl⟩ : ∃ t', t = t' + 1 := ⟨t - 1, by omega⟩
          obtain ⟨y, hy⟩ : ∃ y, L[t]? = some y := ⟨_, List.getElem?_eq_getElem (by omega)⟩
          obtain ⟨hyl, hye⟩ := List.getElem?_eq_some_iff.1 hy
          have hrow : P ++ L.take (t + 1) ++ v :: (L.drop (t + 1) ++ Q) = (P ++ L.take t) ++ y :: v :: (L.drop (t + 1) ++ Q) := by rw [List.take_succ_eq_append_getElem hyl, hye]; simp only [List.append_assoc, List.cons_append, List.nil_append]
          rw [hrow] at HS
          obtain ⟨Y, hY⟩ : ∃ Y, a + t = Y := ⟨_, rfl⟩
          have hYT : T = Y + 1 := by omega
          have hPl : (P ++ L.take t).length = Y := by rw [List.length_append, List.length_take]; omega
          have HGY := Lib.hid (show ((P ++ L.take t) ++ y :: v :: (L.drop (t + 1) ++ Q))[Y]? = some y by rw [← hPl, List.getElem?_append_right (Nat.le_refl _), Nat.sub_self]; rfl)
          have HGX := Lib.hid (show ((P ++ L.take t) ++ y :: v :: (L.drop (t + 1) ++ Q))[T]? = some v by rw [hYT, ← hPl, List.getElem?_append_right (by omega), show (P ++ L.take t).length + 1 - (P ++ L.take t).length = 1 by omega]; rfl)
          have HSW := Lib.hid (show (((P ++ L.take t) ++ y :: v :: (L.drop (t + 1) ++ Q)).set T y).set Y v = P ++ L.take t ++ v :: (L.drop t ++ Q) by
            have h := set_set' (P := P ++ L.take t) (Q := L.drop (t + 1) ++ Q) (x := y) (y := v)
            rw [hPl, ← hYT] at h
            rw [h, List.drop_eq_getElem_cons hyl, hye]
            simp only [List.append_assoc, List.cons_append, List.nil_append])
          have HXN := Lib.hid (show T < n by omega)
          have HYN := Lib.hid (show Y < n by omega)
          have HWJ := Lib.hid (show wrap64 ((T : Int) - 1) = (Y : Int) by rw [w64 _ (by omega) (by omega)]; omega)
          have HAY := Lib.hid hY
          have HTI2 := Lib.hid (show i ≤ t by omega)
          have HTL2 := Lib.hid (show t ≤ L.length by omega)
          have HYT := Lib.hid hYT
          obtain ⟨kk, hkk⟩ : ∃ kk : Nat, kk = 11 := ⟨_, rfl⟩
          have HKK := Lib.hid hkk
          have zE := Try.sizeOf34
          simp only [← hkk] at zE
          have aE := Try.isAgg34
          obtain ⟨cx, hcx⟩ : ∃ cx, encS v = cx := ⟨_, rfl⟩
          obtain ⟨cy, hcy⟩ : ∃ cy, encS y = cy := ⟨_, rfl⟩
          have na : cx.length = kk := by rw [← hcx, hkk]; rfl
          have nb : cy.length = kk := by rw [← hcy, hkk]; rfl
          have HCX := Lib.hid hcx
          have HCY := Lib.hid hcy
          have aX : (⟨g, 0, none⟩ : Addr).add (T * kk) = ⟨g, T * kk, none⟩ := add_at _ _
          have aY : (⟨g, 0, none⟩ : Addr).add (Y * kk) = ⟨g, Y * kk, none⟩ := add_at _ _
          have q : (I : Int) < (T : Int) := by omega
          clear hjr hat hpa hbn hbb hmm hnn hmi hy hyl hye hrow hPl hY hYT htl hkk hcx hcy
          have hl1 := (List.getElem?_eq_some_iff.1 HGX.out).1
          have hl2 := (List.getElem?_eq_some_iff.1 HGY.out).1
          have HSe := HS.out.drew
          have HSx := HSe.put hl1 y
          have HSy := HSx.put (i := Y) (by rw [List.length_set]; exact hl2) v
          rw [HSW.out] at HSy
          have HSZ := Lib.hid HSy
          have la := HSe.ldk HGX.out HKK.out Try.prog
          have lb := HSe.ldk HGY.out HKK.out Try.prog
          have sa := HSe.st hl1 y Try.prog
          have sb := HSx.st (i := Y) (by rw [List.length_set]; exact hl2) v Try.prog
          rw [HCX.out] at la
          rw [HCY.out] at lb
          rw [HCY.out] at sa
          rw [HCX.out, HCY.out] at HSZ
          simp only [HCX.out, HCY.out] at sb
          rw [← HKK.out] at sa sb HSZ
          have e2 : ((T : Int)).toNat = T := by omega
          have p2 : (0 : Int) ≤ (T : Int) := by omega
          have r2 : IntKind.i64.wrap ((T : Int)) = (T : Int) := by rw [IntKind.wrap_i64]; have := HXN.out; have := HN.out; omega
          have e3 : ((Y : Int)).toNat = Y := by omega
          have p3 : (0 : Int) ≤ (Y : Int) := by omega
          have r3 : IntKind.i64.wrap ((Y : Int)) = (Y : Int) := by rw [IntKind.wrap_i64]; have := HYN.out; have := HN.out; omega
          have b2 : (T : Int) < (n : Int) := by have := HXN.out; omega
          have b3 : (Y : Int) < (n : Int) := by have := HYN.out; omega
          have hwj := HWJ.out
          skip
          clear hl1 hl2 HSe HSx HSy
          go_upto_region 23 with (fail)
          go_big_region_o
          clear la lb sa sb hwj e2 p2 r2 e3 p3 r3 b2 b3
          generalize (wr.drew.setCells g (T * kk) cy).setCells g (Y * kk) cx = w7 at HSZ ⊢
          clear q
          go_wp2
          go_roundw
          case rel => exact ⟨t, Y, HTI2, HTL2, by rw [HWJ.out], HAY, HSZ⟩
          case measure => rw [HWJ.out, HYT.out]; exact ins_down Y
        · have hti : t = i := by have := HTI.out; omega
          subst hti
          have hTI : T = I := by have h1 := HAT.out; have h2 := HMI.out; omega
          subst hTI
          have q : decide ((T : Int) < (T : Int)) = false := decide_eq_false (by omega)
          have HE := Lib.hid (show Sr w0 wr base g n c (P ++ (L.take t ++ v :: L.drop t) ++ Q) by
            have h := HS.out
            have e : P ++ (L.take t ++ v :: L.drop t) ++ Q = P ++ L.take t ++ v :: (L.drop t ++ Q) := by simp only [List.append_assoc, List.cons_append]
            rw [e]; exact h)
          clear htl
          go_wp2
          refine bodyPost_ret (results_none rfl _ _ _) rfl ?_
          exact ⟨rfl, _, HT.out, by have h := HE.out; simpa only [List.append_assoc, List.cons_append] using h⟩
end Go.Proofs.Ytffggkhahambhaa.Tr

namespace Go.Proofs.Ytffggkhahambhaa.Stab
set_option linter.unusedVariables false
variable {α : Type} {lt : α → α → Bool}
/-- Sorted in blocks of s; the last one may be shorter. -/
inductive Lv (lt : α → α → Bool) (s : Nat) : List α → List α → Prop
  | last (A S : List α) : A.length ≤ s → S.length = A.length → Stb lt A S → Lv lt s A S
  | cons (A S xs ys : List α) : A.length = s → S.length = s → Stb lt A S → Lv lt s xs ys → Lv lt s (A ++ xs) (S ++ ys)
/-- .. all blocks whole. -/
inductive Full (lt : α → α → Bool) (s : Nat) : List α → List α → Prop
  | nil : Full lt s [] []
  | cons (A S xs ys : List α) : A.length = s → S.length = s → Stb lt A S → Full lt s xs ys → Full lt s (A ++ xs) (S ++ ys)
theorem Full.snoc {s : Nat} {xs ys A S : List α} (h : Full lt s xs ys) (hA : A.length = s) (hS : S.length = s) (hst : Stb lt A S) : Full lt s (xs ++ A) (ys ++ S) := by
  induction h with
  | nil => have := Full.cons A S [] [] hA hS hst Full.nil; simpa using this
  | cons B T us vs h1 h2 h3 _ ih => rw [List.append_assoc, List.append_assoc]; exact Full.cons B T _ _ h1 h2 h3 ih
theorem Full.app {s : Nat} {xs ys us vs : List α} (h : Full lt s xs ys) (g : Lv lt s us vs) : Lv lt s (xs ++ us) (ys ++ vs) := by
  induction h with
  | nil => exact g
  | cons B T cs bs h1 h2 h3 _ ih => rw [List.append_assoc, List.append_assoc]; exact Lv.cons B T _ _ h1 h2 h3 ih
theorem Lv.len {s : Nat} {xs ys : List α} (h : Lv lt s xs ys) : ys.length = xs.length := by
  induction h with
  | last A S _ h _ => exact h
  | cons A S xs ys h1 h2 _ _ ih => rw [List.length_append, List.length_append, ih, h1, h2]
theorem Full.len {s : Nat} {xs ys : List α} (h : Full lt s xs ys) : ys.length = xs.length := by
  induction h with
  | nil => rfl
  | cons A S xs ys h1 h2 _ _ ih => rw [List.length_append, List.length_append, ih, h1, h2]
/-- No longer than a block: sorted. -/
theorem Lv.one {s : Nat} {xs ys : List α} (h : Lv lt s xs ys) (hl : ys.length ≤ s) : Stb lt xs ys := by
  cases h with
  | last _ _ _ _ h => exact h
  | cons A S us vs h1 h2 h3 h4 =>
    have hv : vs = [] := List.eq_nil_of_length_eq_zero (by rw [List.length_append] at hl; omega)
    subst hv
    have hu : us = [] := List.eq_nil_of_length_eq_zero (by rw [← h4.len]; rfl)
    subst hu
    simpa using h3
/-- Two blocks at the front. -/
theorem Lv.two {s : Nat} {xs ys : List α} (h : Lv lt s xs ys) (hs : 0 < s) (hl : 2 * s ≤ ys.length) : ∃ A1 A2 xr S1 S2 r, xs = A1 ++ A2 ++ xr ∧ ys = S1 ++ S2 ++ r ∧ A1.length = s ∧ A2.length = s ∧ S1.length = s ∧ S2.length = s ∧ Stb lt A1 S1 ∧ Stb lt A2 S2 ∧ Lv lt s xr r := by
  cases h with
  | last A S h1 h2 h3 => omega
  | cons A S us vs h1 h2 h3 h4 =>
    rw [List.length_append] at hl
    cases h4 with
    | last _ _ g1 g2 g3 => exact ⟨A, us, [], S, vs, [], by simp, by simp, h1, by omega, h2, by omega, h3, g3, .last [] [] (Nat.zero_le _) rfl (Stb.nil lt)⟩
    | cons B T cs bs g1 g2 g3 g4 => exact ⟨A, B, cs, S, T, bs, by simp, by simp, h1, g1, h2, g2, h3, g3, g4⟩
/-- A block and a shorter one. -/
theorem Lv.oneAnd {s : Nat} {xs ys : List α} (h : Lv lt s xs ys) (hl : s < ys.length) (hl2 : ys.length < 2 * s) : ∃ A1 A2 S1 S2, xs = A1 ++ A2 ∧ ys = S1 ++ S2 ∧ S1.length = s ∧ A1.length = s ∧ S2.length = A2.length ∧ 0 < S2.length ∧ Stb lt A1 S1 ∧ Stb lt A2 S2 := by
  cases h with
  | last A S h1 h2 h3 => omega
  | cons A S us vs h1 h2 h3 h4 =>
    rw [List.length_append] at hl hl2
    exact ⟨A, us, S, vs, rfl, rfl, h2, h1, h4.len, by omega, h3, h4.one (by omega)⟩
theorem Mg.of {A1 A2 S1 S2 S : List α} (h : Mg lt S1 S2 S) (h1 : Stb lt A1 S1) (h2 : Stb lt A2 S2) : Stb lt (A1 ++ A2) S := ⟨h.stb.srt, (h1.keep.app h2.keep).trans h.stb.keep⟩
end Go.Proofs.Ytffggkhahambhaa.Stab

namespace Go.Proofs.Ytffggkhahambhaa.Sq
open Go.RowKit Go.Proofs.YtffggkhahambhaaW.PrintWords Go.Proofs.YtffggkhahambhaaW.PrintLast
set_option linter.unusedVariables false
variable {P : Program} {md : Region.Mode} {ops : Array Oper} {Q : Exit → Act → World → Prop} {S : World → Prop} {ds : List Nat}
/-- Which operations have run: the bits of a number. -/
def fl (n m : Nat) : Array Bool := ((List.range n).map (Nat.testBit m)).toArray
theorem pu (i : Nat) (N : Option Tmp) {oi : Oper} {v : Value} {fuel : Nat} {l : Array Bool} {a : Act} {w : World} (l' : Array Bool) {a' : Act}
    (h : wpAnyLast P md ops Q S ds fuel l' a' w) (hi : ops[i]? = some oi := by rfl) (hN : oi.dst = N := by rfl) (hc : anyB md ops l l' i = true := by kernel_rfl) (hQ : ∀ c a w, Q (.panic c) (a.put oi.dst v) w → Q (.panic c) a w := by exact fun _ _ _ h => h)
    (hw : Region.wanted oi (yielded ops a.tmps) = true := by rfl) (hy : ∀ w', (execOp a.eval oi).run P w' = .ok (.value v) w' := by intro w'; go_simp; with_reducible rfl)
    (ha : a.put N v = a' := by first | (simp only [Act.put, List.setIfInBounds_toArray, List.set_cons_zero, List.set_cons_succ, i64_w, i32_w]; rfl) | rfl) : wpAnyLast P md ops Q S ds (fuel + 1) l a w :=
  pure_ l' hi hN hc hQ (Or.inl ⟨hw, hy⟩) ha h
theorem off (i : Nat) (N : Option Tmp) {oi : Oper} {fuel : Nat} {l : Array Bool} {a : Act} {w : World} (l' : Array Bool) {a' : Act}
    (h : wpAnyLast P md ops Q S ds fuel l' a' w) (hi : ops[i]? = some oi := by rfl) (hN : oi.dst = N := by rfl) (hc : anyB md ops l l' i = true := by kernel_rfl) (hQ : ∀ c a w, Q (.panic c) (a.put oi.dst undef) w → Q (.panic c) a w := by exact fun _ _ _ h => h)
    (hw : Region.wanted oi (yielded ops a.tmps) = false := by rfl)
    (ha : a.put N undef = a' := by first | (simp only [Act.put, List.setIfInBounds_toArray, List.set_cons_zero, List.set_cons_succ, i64_w, i32_w]; rfl) | rfl) : wpAnyLast P md ops Q S ds (fuel + 1) l a w :=
  pure_ l' hi hN hc hQ (Or.inr ⟨hw, rfl⟩) ha h
theorem tk (i : Nat) (N : Option Tmp) {oi : Oper} {v : Value} {fuel : Nat} {l : Array Bool} {a : Act} {w : World} (l' : Array Bool) (hS : S w) {a' : Act}
    (h : wpAnyLast P md ops Q S ds fuel l' a' w) (hi : ops[i]? = some oi := by rfl) (hN : oi.dst = N := by rfl) (hc : takeB md ops ds l l' i = true := by kernel_rfl) (hQ : ∀ c a w, Q (.panic c) (a.put oi.dst v) w → Q (.panic c) a w := by exact fun _ _ _ h => h)
    (hw : Region.wanted oi (yielded ops a.tmps) = true := by rfl) (hy : ∀ w', S w' → (execOp a.eval oi).run P w' = .ok (.value v) w' := by intro w' hS_; (repeat (obtain ⟨_, hS_⟩ := hS_)); go_simp; with_reducible rfl)
    (ha : a.put N v = a' := by first | (simp only [Act.put, List.setIfInBounds_toArray, List.set_cons_zero, List.set_cons_succ, i64_w, i32_w]; rfl) | rfl) : wpAnyLast P md ops Q S ds (fuel + 1) l a w :=
  take_ l' hi hN hc hQ (Or.inl ⟨hw, hy⟩) hS ha h
theorem on_ (i : Nat) (N : Option Tmp) {oi : Oper} {fuel : Nat} {l : Array Bool} {a : Act} {w : World} (l' : Array Bool)
    (h : ∀ K : Act → World → Prop, Shut (∀ a' w', S w' → (S w' → wpAnyLast P md ops Q S ds fuel l' a' w') → K a' w') → if Region.wanted oi (yielded ops a.tmps) = true then Oper.wp P oi a w K Q else K (a.put N undef) w)
    (hi : ops[i]? = some oi := by rfl) (hN : oi.dst = N := by rfl) (hc : readyB md ops l l' i = true := by kernel_rfl) (hd : i ∉ ds := by decide) : wpAnyLast P md ops Q S ds (fuel + 1) l a w :=
  one_ l' hi hN hc hd h
theorem nm {fuel : Nat} {l : Array Bool} {a a' : Act} {w : World} (h : wpAnyLast P md ops Q S ds fuel l a' w) (ha : a = a' := by simp only [putAll, Act.put, List.setIfInBounds_toArray, List.set_cons_zero, List.set_cons_succ, i64_w, i32_w]; rfl) : wpAnyLast P md ops Q S ds fuel l a w := norm_ ha h
theorem gs {oi : Oper} {N : Option Tmp} {a : Act} {w : World} {K : Act → World → Prop} {f : FuncId} {fn : Func} (hf : P.funcs[f]? = some fn) {ags : Array Operand} {ts : Array TypeId} (args : Array Value)
    (h : Calls P f args w fun e w' => ∃ v, e = .returned v ∧ K (a.put N v) w') (hw : Region.wanted oi (yielded ops a.tmps) = true := by rfl) (hN : oi.dst = N := by rfl) (hop : oi.op = .call { callee := .value (.func f), args := ags, argTypes := ts } := by rfl)
    (hname : (fn.name == "runtime.NumGoroutine") = false := by kernel_rfl) (hb : fn.body.isSome = true := by rfl) (hargs : ags.map a.eval = args := by first | (simp only [List.map_toArray, List.map_cons, List.map_nil]; rfl) | simp only [List.map_toArray, List.map_nil]) :
    if Region.wanted oi (yielded ops a.tmps) = true then Oper.wp P oi a w K Q else K (a.put N undef) w := goes_ hf hname hb args hw hN hop hargs h
end Go.Proofs.Ytffggkhahambhaa.Sq
