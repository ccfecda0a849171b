/- Traces (chapter 26), plainly: those that count, by time; lines; the longest way; sums. No program in sight. -/
import Derived.Below
namespace Go.Proofs.Ytoigebnhnkdbbaa.Tr
open Go
set_option linter.unusedVariables false

/-- A span, as its cells: the rows within by where they lie. -/
structure Sp where
  tr : Int
  id : Int
  par : Int
  svc : ByteArray
  op : ByteArray
  st : Int
  du : Int
  stt : Int
  a : Option Addr × Nat × Nat
  e : Option Addr × Nat × Nat
  l : Option Addr × Nat × Nat
instance : Inhabited Sp := ⟨⟨0, 0, 0, ⟨#[]⟩, ⟨#[]⟩, 0, 0, 0, (none, 0, 0), (none, 0, 0), (none, 0, 0)⟩⟩
structure Ln where
  sp : Sp
  d : Int
  o : Bool
/-- Was the number told? -/
def hasId (l : List Sp) (i : Int) : Bool := l.any fun s => s.id == i
def toldId (l : List Ln) (i : Int) : Bool := l.any fun x => x.sp.id == i
theorem hasId_iff {l : List Sp} {i : Int} : hasId l i = true ↔ ∃ s ∈ l, s.id = i := by simp [hasId]
theorem hasId_false {l : List Sp} {i : Int} : hasId l i = false ↔ ∀ s ∈ l, s.id ≠ i := by simp [hasId]
theorem toldId_iff {l : List Ln} {i : Int} : toldId l i = true ↔ ∃ s ∈ l, s.sp.id = i := by simp [toldId]
theorem toldId_false {l : List Ln} {i : Int} : toldId l i = false ↔ ∀ s ∈ l, s.sp.id ≠ i := by simp [toldId]
theorem hasId_app {l m : List Sp} {i : Int} : hasId (l ++ m) i = (hasId l i || hasId m i) := by simp [hasId]
theorem toldId_app {l m : List Ln} {i : Int} : toldId (l ++ m) i = (toldId l i || toldId m i) := by simp [toldId]
theorem hasId_perm {l m : List Sp} {i : Int} (h : l.Perm m) : hasId l i = hasId m i := by
  rw [Bool.eq_iff_iff, hasId_iff, hasId_iff]
  exact ⟨fun ⟨s, hs, e⟩ => ⟨s, h.mem_iff.1 hs, e⟩, fun ⟨s, hs, e⟩ => ⟨s, h.mem_iff.2 hs, e⟩⟩

/-! ### those that count -/
/-- The first of each number. -/
def uq1 (acc : List Sp) (s : Sp) : List Sp := if hasId acc s.id = true then acc else acc ++ [s]
def uq (l : List Sp) : List Sp := l.foldl uq1 []
theorem uq_snoc (l : List Sp) (s : Sp) : uq (l ++ [s]) = uq1 (uq l) s := by simp [uq]
theorem uq_has (l : List Sp) (i : Int) : hasId (uq l) i = hasId l i := by
  suffices h : ∀ (l acc : List Sp), hasId (l.foldl uq1 acc) i = (hasId acc i || hasId l i) by
    have := h l []
    simpa [uq, hasId] using this
  intro l
  induction l with
  | nil => intro acc; simp [hasId]
  | cons s l ih =>
    intro acc
    rw [List.foldl_cons, ih]
    unfold uq1
    split
    · rename_i h
      by_cases e : s.id = i
      · subst e
        rw [h]
        simp
      · have e2 : (s.id == i) = false := beq_eq_false_iff_ne.2 e
        simp [hasId, e2]
    · rw [hasId_app]
      simp [hasId, Bool.or_assoc]
def Dis (l : List Sp) : Prop := l.Pairwise fun a b => a.id ≠ b.id
theorem uq1_dis {acc : List Sp} {s : Sp} (h : Dis acc) : Dis (uq1 acc s) := by
  unfold uq1
  split
  · exact h
  · rename_i hn
    unfold Dis at *
    rw [List.pairwise_append]
    refine ⟨h, List.pairwise_singleton _ _, fun a ha b hb => ?_⟩
    rw [List.mem_singleton.1 hb]
    intro e
    exact hn (hasId_iff.2 ⟨a, ha, e⟩)
theorem uq_dis (l : List Sp) : Dis (uq l) := by
  suffices h : ∀ (l acc : List Sp), Dis acc → Dis (l.foldl uq1 acc) by exact h l [] List.Pairwise.nil
  intro l
  induction l with
  | nil => intro acc h; exact h
  | cons s l ih => intro acc h; exact ih _ (uq1_dis h)
theorem uq_mem {l : List Sp} {s : Sp} (h : s ∈ uq l) : s ∈ l := by
  suffices g : ∀ (l acc : List Sp), s ∈ l.foldl uq1 acc → s ∈ acc ∨ s ∈ l by
    rcases g l [] h with h | h
    · cases h
    · exact h
  intro l
  induction l with
  | nil => intro acc h; exact .inl h
  | cons x l ih =>
    intro acc h
    rcases ih _ h with h | h
    · unfold uq1 at h
      split at h
      · exact .inl h
      · rcases List.mem_append.1 h with h | h
        · exact .inl h
        · rw [List.mem_singleton.1 h]; exact .inr (List.mem_cons_self)
    · exact .inr (List.mem_cons_of_mem _ h)
theorem uq_len (l : List Sp) : (uq l).length ≤ l.length := by
  suffices g : ∀ (l acc : List Sp), (l.foldl uq1 acc).length ≤ acc.length + l.length by
    have := g l []
    simpa [uq] using this
  intro l
  induction l with
  | nil => intro acc; simp
  | cons x l ih =>
    intro acc
    refine Nat.le_trans (ih _) ?_
    unfold uq1
    split <;> simp <;> omega
/-- By time. -/
def ltS (a b : Sp) : Bool := decide (a.st < b.st ∨ a.st = b.st ∧ a.id < b.id)
theorem ltS_iff {a b : Sp} : ltS a b = true ↔ a.st < b.st ∨ a.st = b.st ∧ a.id < b.id := by simp [ltS]
theorem ltS_trans {a b c : Sp} (h : ltS a b = true) (g : ltS b c = true) : ltS a c = true := by rw [ltS_iff] at *; omega
theorem ltS_irrefl (a : Sp) : ltS a a = false := by rw [Bool.eq_false_iff]; intro h; rw [ltS_iff] at h; omega
theorem ltS_total {a b : Sp} (h : a.id ≠ b.id) : ltS a b = false → ltS b a = true := by
  intro g
  rw [Bool.eq_false_iff] at g
  rw [ltS_iff]
  have : ¬ (a.st < b.st ∨ a.st = b.st ∧ a.id < b.id) := fun x => g (ltS_iff.2 x)
  omega
/-- In rising order. -/
def Srt (l : List Sp) : Prop := l.Pairwise fun a b => ltS a b = true
theorem srt_unique : ∀ {l m : List Sp}, Srt l → Srt m → l.Perm m → l = m
  | [], m, _, _, h => (h.nil_eq)
  | a :: l, [], _, _, h => absurd h.symm (by simp)
  | a :: l, b :: m, hl, hm, h => by
    unfold Srt at hl hm
    rw [List.pairwise_cons] at hl hm
    have hab : a = b := by
      rcases List.mem_cons.1 (h.mem_iff.1 (List.mem_cons_self (a := a) (l := l))) with e | e
      · exact e
      · rcases List.mem_cons.1 (h.mem_iff.2 (List.mem_cons_self (a := b) (l := m))) with e2 | e2
        · exact e2.symm
        · have h1 := hm.1 a e
          have h2 := hl.1 b e2
          have := ltS_trans h1 h2
          rw [ltS_irrefl] at this
          cases this
    subst hab
    rw [srt_unique hl.2 hm.2 ((List.perm_cons a).1 h)]
/-- Laid in its place. -/
def ins (s : Sp) (l : List Sp) : List Sp := l.takeWhile (fun x => ltS x s) ++ s :: l.dropWhile (fun x => ltS x s)
theorem ins_perm (s : Sp) (l : List Sp) : (ins s l).Perm (l ++ [s]) := by
  unfold ins
  have h := List.takeWhile_append_dropWhile (p := fun x => ltS x s) (l := l)
  refine List.perm_middle.trans ?_
  rw [h]
  exact (List.perm_append_singleton s l).symm
theorem ins_srt {s : Sp} : ∀ {l : List Sp}, Srt l → (∀ x ∈ l, x.id ≠ s.id) → Srt (ins s l)
  | [], _, _ => by simp [ins, Srt]
  | x :: l, h, hn => by
    unfold Srt at h
    rw [List.pairwise_cons] at h
    have ih := ins_srt (s := s) (l := l) h.2 (fun y hy => hn y (List.mem_cons_of_mem _ hy))
    unfold ins
    by_cases g : ltS x s = true
    · simp only [List.takeWhile_cons, List.dropWhile_cons, g, if_true]
      show Srt (x :: ins s l)
      unfold Srt
      rw [List.pairwise_cons]
      refine ⟨fun y hy => ?_, ih⟩
      rcases List.mem_append.1 ((ins_perm s l).mem_iff.1 hy) with hy | hy
      · exact h.1 y hy
      · rw [List.mem_singleton.1 hy]; exact g
    · rw [Bool.not_eq_true] at g
      simp only [List.takeWhile_cons, List.dropWhile_cons, g, Bool.false_eq_true, if_false, List.nil_append]
      show Srt (s :: x :: l)
      have gs : ltS s x = true := ltS_total (hn x List.mem_cons_self) g
      unfold Srt
      rw [List.pairwise_cons, List.pairwise_cons]
      refine ⟨fun y hy => ?_, h.1, h.2⟩
      rcases List.mem_cons.1 hy with rfl | hy
      · exact gs
      · exact ltS_trans gs (h.1 y hy)
def cnt (l : List Sp) : List Sp := (uq l).foldl (fun o s => ins s o) []
theorem cnt_facts : ∀ (u acc : List Sp), Srt acc → Dis (acc ++ u) → Srt (u.foldl (fun o s => ins s o) acc) ∧ (u.foldl (fun o s => ins s o) acc).Perm (acc ++ u)
  | [], acc, h, _ => ⟨h, by rw [List.append_nil]; exact List.Perm.refl _⟩
  | s :: u, acc, h, hd => by
    have hd2 := hd
    unfold Dis at hd
    rw [List.pairwise_append] at hd
    have hs : ∀ x ∈ acc, x.id ≠ s.id := fun x hx => hd.2.2 x hx s List.mem_cons_self
    have hp : (ins s acc ++ u).Perm (acc ++ s :: u) := by
      refine ((ins_perm s acc).append_right u).trans ?_
      rw [List.append_assoc]
      exact List.Perm.refl _
    have := cnt_facts u (ins s acc) (ins_srt h hs) (by
      unfold Dis at *
      exact (hp.pairwise_iff (fun {a b} hab => Ne.symm hab)).2 hd2)
    exact ⟨this.1, this.2.trans hp⟩
theorem cnt_srt (l : List Sp) : Srt (cnt l) := (cnt_facts (uq l) [] List.Pairwise.nil (uq_dis l)).1
theorem cnt_perm (l : List Sp) : (cnt l).Perm (uq l) := (cnt_facts (uq l) [] List.Pairwise.nil (uq_dis l)).2
theorem cnt_dis (l : List Sp) : Dis (cnt l) := ((cnt_perm l).pairwise_iff (fun {a b} hab => Ne.symm hab)).2 (uq_dis l)
theorem cnt_has (l : List Sp) (i : Int) : hasId (cnt l) i = hasId l i := (hasId_perm (cnt_perm l)).trans (uq_has l i)
theorem cnt_len (l : List Sp) : (cnt l).length ≤ l.length := by rw [(cnt_perm l).length_eq]; exact uq_len l
theorem cnt_mem {l : List Sp} {s : Sp} (h : s ∈ cnt l) : s ∈ l := uq_mem ((cnt_perm l).mem_iff.1 h)
/-- What sorts them gives them. -/
theorem cnt_unique {l m : List Sp} (hp : m.Perm (uq l)) (hs : ∀ i j, i < j → (hj : j < m.length) → (hi : i < m.length) → ltS m[j] m[i] = false) : m = cnt l := by
  refine srt_unique ?_ (cnt_srt l) (hp.trans (cnt_perm l).symm)
  have hd : Dis m := (hp.pairwise_iff (fun {a b} hab => Ne.symm hab)).2 (uq_dis l)
  unfold Srt Dis at *
  rw [List.pairwise_iff_getElem] at *
  intro i j hi hj hij
  exact ltS_total (Ne.symm (hd i j hi hj hij)) (hs i j hij hj hi)
theorem dis_eq {l : List Sp} (h : Dis l) {a b : Sp} (ha : a ∈ l) (hb : b ∈ l) (e : a.id = b.id) : a = b := by
  unfold Dis at h
  induction l with
  | nil => cases ha
  | cons x l ih =>
    rw [List.pairwise_cons] at h
    rcases List.mem_cons.1 ha with e1 | ha
    · rcases List.mem_cons.1 hb with e2 | hb
      · rw [e1, e2]
      · exact absurd (e1 ▸ e) (h.1 b hb)
    · rcases List.mem_cons.1 hb with e2 | hb
      · exact absurd (e2 ▸ e.symm) (h.1 a ha)
      · exact ih h.2 ha hb

/-! ### roots, kids -/
def kidsOf (C : List Sp) (p : Int) : List Sp := C.filter fun s => s.par == p
theorem kids_mem {C : List Sp} {p : Int} {s : Sp} : s ∈ kidsOf C p ↔ s ∈ C ∧ s.par = p := by simp [kidsOf]
def rootB (C : List Sp) (s : Sp) : Bool := s.par == 0 || !hasId C s.par
end Go.Proofs.Ytoigebnhnkdbbaa.Tr

namespace Go.Proofs.Ytoigebnhnkdbbaa.Tr
open Go
set_option linter.unusedVariables false

def tellF (C : List Sp) : Nat → Sp → Int → Bool → List Ln → List Ln
  | 0, _, _, _, out => out
  | n + 1, s, d, o, out => if toldId out s.id = true then out else if s.id = 0 then out ++ [⟨s, d, o⟩] else
    (kidsOf C s.id).foldl (fun o2 k => tellF C n k (d + 1) false o2) (out ++ [⟨s, d, o⟩])
/-- Those that weren't told. -/
def left (C : List Sp) (out : List Ln) : Nat := (C.filter fun s => !toldId out s.id).length
theorem left_le (C : List Sp) (out : List Ln) : left C out ≤ C.length := List.length_filter_le _ _
theorem left_more (C : List Sp) (out more : List Ln) : left C (out ++ more) ≤ left C out := by
  unfold left
  induction C with
  | nil => simp
  | cons s C ih =>
    rw [List.filter_cons, List.filter_cons, toldId_app]
    cases toldId out s.id <;> cases toldId more s.id <;> simp <;> omega
theorem left_one {C : List Sp} {out : List Ln} {s : Sp} {d : Int} {o : Bool} (hC : Dis C) (hs : s ∈ C) (ht : toldId out s.id = false) : left C (out ++ [⟨s, d, o⟩]) + 1 = left C out := by
  unfold left
  induction C with
  | nil => cases hs
  | cons x C ih =>
    unfold Dis at hC
    rw [List.pairwise_cons] at hC
    have hone : ∀ i : Int, toldId [(⟨s, d, o⟩ : Ln)] i = (s.id == i) := fun i => by simp [toldId]
    rcases List.mem_cons.1 hs with e | hs
    · subst e
      have hrest : (C.filter fun y => !toldId (out ++ [⟨s, d, o⟩]) y.id) = C.filter fun y => !toldId out y.id := by
        refine List.filter_congr fun y hy => ?_
        rw [toldId_app, hone, beq_eq_false_iff_ne.2 (hC.1 y hy), Bool.or_false]
      rw [List.filter_cons, List.filter_cons, hrest, toldId_app, hone, ht]
      simp
    · have hne : (s.id == x.id) = false := beq_eq_false_iff_ne.2 (fun e => hC.1 s hs e.symm)
      have := ih hC.2 hs
      rw [List.filter_cons, List.filter_cons, toldId_app, hone, hne, Bool.or_false]
      split
      · simp only [List.length_cons]; omega
      · exact this
theorem left_zero {C : List Sp} {out : List Ln} (h : left C out = 0) : ∀ s ∈ C, toldId out s.id = true := by
  intro s hs
  unfold left at h
  have := List.eq_nil_of_length_eq_zero h
  rw [List.filter_eq_nil_iff] at this
  simpa using this s hs

/-- Telling only adds. -/
theorem fold_more {α : Type} (f : List Ln → α → List Ln) (hf : ∀ o k, ∃ m, f o k = o ++ m) : ∀ (l : List α) (out : List Ln), ∃ m, l.foldl f out = out ++ m
  | [], out => ⟨[], by simp⟩
  | k :: l, out => by
    obtain ⟨m, hm⟩ := hf out k
    obtain ⟨m2, hm2⟩ := fold_more f hf l (f out k)
    exact ⟨m ++ m2, by rw [List.foldl_cons, hm2, hm, List.append_assoc]⟩
theorem tellF_more (C : List Sp) : ∀ (n : Nat) (s : Sp) (d : Int) (o : Bool) (out : List Ln), ∃ m, tellF C n s d o out = out ++ m
  | 0, s, d, o, out => ⟨[], by simp [tellF]⟩
  | n + 1, s, d, o, out => by
    rw [tellF]
    split
    · exact ⟨[], by simp⟩
    · split
      · exact ⟨_, rfl⟩
      · obtain ⟨m, hm⟩ := fold_more (fun o2 k => tellF C n k (d + 1) false o2) (fun o2 k => tellF_more C n k (d + 1) false o2) (kidsOf C s.id) (out ++ [⟨s, d, o⟩])
        exact ⟨[⟨s, d, o⟩] ++ m, by rw [hm, List.append_assoc]⟩
theorem fold_same {α : Type} (C : List Sp) (f g : List Ln → α → List Ln) (hf : ∀ o k, ∃ m, f o k = o ++ m) : ∀ (l : List α) (out : List Ln) (b : Nat), left C out ≤ b → (∀ o, left C o ≤ b → ∀ k ∈ l, f o k = g o k) → l.foldl f out = l.foldl g out
  | [], _, _, _, _ => rfl
  | k :: l, out, b, hb, h => by
    rw [List.foldl_cons, List.foldl_cons, ← h out hb k List.mem_cons_self]
    obtain ⟨m, hm⟩ := hf out k
    rw [hm]
    exact fold_same C f g hf l _ b (Nat.le_trans (left_more C out m) hb) (fun o ho k hk => h o ho k (List.mem_cons_of_mem _ hk))
theorem tellF_fuel {C : List Sp} (hC : Dis C) : ∀ (n m : Nat) (s : Sp) (d : Int) (o : Bool) (out : List Ln), s ∈ C → left C out < n → left C out < m → tellF C n s d o out = tellF C m s d o out
  | 0, _, _, _, _, _, _, h, _ => absurd h (Nat.not_lt_zero _)
  | _ + 1, 0, _, _, _, _, _, _, h => absurd h (Nat.not_lt_zero _)
  | n + 1, m + 1, s, d, o, out, hs, hn, hm => by
    rw [tellF, tellF]
    split
    · rfl
    · rename_i ht
      split
      · rfl
      · have h1 := left_one (d := d) (o := o) hC hs (by simpa using ht)
        refine fold_same C _ _ (fun o2 k => tellF_more C n k (d + 1) false o2) _ _ (left C (out ++ [⟨s, d, o⟩])) (Nat.le_refl _) (fun o2 ho2 k hk => ?_)
        exact tellF_fuel hC n m k (d + 1) false o2 (kids_mem.1 hk).1 (by omega) (by omega)
def tell (C : List Sp) (s : Sp) (d : Int) (o : Bool) (out : List Ln) : List Ln := tellF C (C.length + 1) s d o out
theorem tell_fuel {C : List Sp} (hC : Dis C) {n : Nat} {s : Sp} {d : Int} {o : Bool} {out : List Ln} (hs : s ∈ C) (hn : left C out < n) : tellF C n s d o out = tell C s d o out :=
  tellF_fuel hC n (C.length + 1) s d o out hs hn (Nat.lt_succ_of_le (left_le C out))
theorem tell_eq {C : List Sp} (hC : Dis C) {s : Sp} {d : Int} {o : Bool} {out : List Ln} (hs : s ∈ C) : tell C s d o out = if toldId out s.id = true then out else if s.id = 0 then out ++ [⟨s, d, o⟩] else
    (kidsOf C s.id).foldl (fun o2 k => tell C k (d + 1) false o2) (out ++ [⟨s, d, o⟩]) := by
  unfold tell
  rw [tellF]
  split
  · rfl
  · rename_i ht
    split
    · rfl
    · have h1 := left_one (d := d) (o := o) hC hs (by simpa using ht)
      have h2 := left_le C out
      refine fold_same C _ _ (fun o2 k => tellF_more C C.length k (d + 1) false o2) _ _ (left C (out ++ [⟨s, d, o⟩])) (Nat.le_refl _) (fun o2 ho2 k hk => ?_)
      exact tellF_fuel hC C.length (C.length + 1) k (d + 1) false o2 (kids_mem.1 hk).1 (by omega) (by omega)
theorem tell_more (C : List Sp) (s : Sp) (d : Int) (o : Bool) (out : List Ln) : ∃ m, tell C s d o out = out ++ m := tellF_more C _ s d o out
/-- Lines put together. -/
def asm1 (C : List Sp) : List Ln := C.foldl (fun o s => if rootB C s = true then tell C s 0 (s.par != 0) o else o) []
def asm (C : List Sp) : List Ln := C.foldl (fun o s => tell C s 0 true o) (asm1 C)

/-- What holds of the lines told so far. -/
structure Good (C : List Sp) (out : List Ln) : Prop where
  sum : left C out + out.length = C.length
  mem : ∀ x ∈ out, x.sp ∈ C
  dis : out.Pairwise fun a b => a.sp.id ≠ b.sp.id
  pos : ∀ x ∈ out, 0 ≤ x.d
  par : ∀ i (hi : i < out.length), out[i].d ≠ 0 → ∃ k, ∃ hk : k < i, (out[k]'(by omega)).d = out[i].d - 1 ∧ (out[k]'(by omega)).sp.id = out[i].sp.par ∧ out[i].o = false ∧ ∀ j, k < j → (hj : j < i) → out[i].d ≤ (out[j]'(by omega)).d
theorem Good.nil (C : List Sp) : Good C [] := ⟨by simp [left, toldId], (fun x h => by cases h), List.Pairwise.nil, (fun x h => by cases h), (fun i hi => by simp at hi)⟩
theorem Good.len {C : List Sp} {out : List Ln} (h : Good C out) : out.length ≤ C.length := by have := h.sum; omega
/-- What is asked ahead of telling a span. -/
def Pre (out : List Ln) (s : Sp) (d : Int) (o : Bool) : Prop := 0 ≤ d ∧ (d ≠ 0 → ∃ k, ∃ hk : k < out.length, (out[k]'hk).d = d - 1 ∧ (out[k]'hk).sp.id = s.par ∧ o = false ∧ ∀ j, k < j → (hj : j < out.length) → d ≤ (out[j]'hj).d)
theorem Good.add {C : List Sp} {out : List Ln} {s : Sp} {d : Int} {o : Bool} (hC : Dis C) (h : Good C out) (hs : s ∈ C) (ht : toldId out s.id = false) (hp : Pre out s d o) : Good C (out ++ [⟨s, d, o⟩]) := by
  refine ⟨?_, ?_, ?_, ?_, ?_⟩
  · have := left_one (d := d) (o := o) hC hs ht
    have := h.sum
    rw [List.length_append, List.length_singleton]
    omega
  · intro x hx
    rcases List.mem_append.1 hx with hx | hx
    · exact h.mem x hx
    · rw [List.mem_singleton.1 hx]; exact hs
  · rw [List.pairwise_append]
    refine ⟨h.dis, List.pairwise_singleton _ _, fun a ha b hb => ?_⟩
    rw [List.mem_singleton.1 hb]
    exact toldId_false.1 ht a ha
  · intro x hx
    rcases List.mem_append.1 hx with hx | hx
    · exact h.pos x hx
    · rw [List.mem_singleton.1 hx]; exact hp.1
  · intro i hi hd
    rw [List.length_append, List.length_singleton] at hi
    by_cases hio : i < out.length
    · rw [List.getElem_append_left hio] at hd ⊢
      obtain ⟨k, hk, h1, h2, h3, h4⟩ := h.par i hio hd
      refine ⟨k, hk, ?_, ?_, h3, fun j hj hji => ?_⟩
      · rw [List.getElem_append_left (by omega)]; exact h1
      · rw [List.getElem_append_left (by omega)]; exact h2
      · rw [List.getElem_append_left (by omega)]; exact h4 j hj hji
    · obtain rfl : i = out.length := by omega
      have e : (out ++ [(⟨s, d, o⟩ : Ln)])[out.length]'(by simp) = ⟨s, d, o⟩ := by simp
      rw [e] at hd ⊢
      obtain ⟨k, hk, h1, h2, h3, h4⟩ := hp.2 hd
      refine ⟨k, hk, ?_, ?_, h3, fun j hj hji => ?_⟩
      · rw [List.getElem_append_left hk]; exact h1
      · rw [List.getElem_append_left hk]; exact h2
      · rw [List.getElem_append_left hji]; exact h4 j hj hji
/-- Lines behind a place are deeper than it. -/
def Deep (out : List Ln) (k : Nat) (d : Int) : Prop := ∀ j, k ≤ j → (hj : j < out.length) → d ≤ (out[j]'hj).d
theorem tellF_good {C : List Sp} (hC : Dis C) : ∀ (n : Nat) (s : Sp) (d : Int) (o : Bool) (out : List Ln), s ∈ C → Good C out → Pre out s d o → Good C (tellF C n s d o out) ∧ Deep (tellF C n s d o out) out.length d ∧ (0 < n → toldId (tellF C n s d o out) s.id = true)
  | 0, s, d, o, out, hs, hg, hp => by
    rw [tellF]
    exact ⟨hg, fun j hj hj2 => by omega, fun h => absurd h (Nat.lt_irrefl _)⟩
  | n + 1, s, d, o, out, hs, hg, hp => by
    rw [tellF]
    split
    · rename_i ht
      exact ⟨hg, fun j hj hj2 => by omega, fun _ => ht⟩
    · rename_i ht
      have ht : toldId out s.id = false := by simpa using ht
      have g1 := hg.add hC hs ht hp
      have t1 : toldId (out ++ [(⟨s, d, o⟩ : Ln)]) s.id = true := by rw [toldId_app]; simp [toldId]
      have d1 : Deep (out ++ [(⟨s, d, o⟩ : Ln)]) out.length d := fun j hj hj2 => by
        rw [List.length_append, List.length_singleton] at hj2
        obtain rfl : j = out.length := by omega
        simp
      split
      · exact ⟨g1, d1, fun _ => t1⟩
      · -- the kids
        suffices h : ∀ (l : List Sp) (o2 : List Ln), (∀ k ∈ l, k ∈ C ∧ k.par = s.id) → Good C o2 → (∃ m, o2 = out ++ [(⟨s, d, o⟩ : Ln)] ++ m) → Deep o2 out.length d → Deep o2 (out.length + 1) (d + 1) → toldId o2 s.id = true →
            Good C (l.foldl (fun o2 k => tellF C n k (d + 1) false o2) o2) ∧ Deep (l.foldl (fun o2 k => tellF C n k (d + 1) false o2) o2) out.length d ∧ toldId (l.foldl (fun o2 k => tellF C n k (d + 1) false o2) o2) s.id = true by
          have := h (kidsOf C s.id) _ (fun k hk => kids_mem.1 hk) g1 ⟨[], by simp⟩ d1 (fun j hj hj2 => by rw [List.length_append, List.length_singleton] at hj2; omega) t1
          exact ⟨this.1, this.2.1, fun _ => this.2.2⟩
        intro l
        induction l with
        | nil => intro o2 _ hg2 _ hd2 _ ht2; exact ⟨hg2, hd2, ht2⟩
        | cons k l ih =>
          rintro o2 hl hg2 ⟨m, hm⟩ hd2 hd3 ht2
          rw [List.foldl_cons]
          have hk := hl k List.mem_cons_self
          have hlen : out.length < o2.length := by rw [hm]; simp
          have hat : o2[out.length]'hlen = ⟨s, d, o⟩ := by simp [hm]
          have hpk : Pre o2 k (d + 1) false := by
            refine ⟨by have := hp.1; omega, fun _ => ⟨out.length, hlen, ?_, ?_, rfl, fun j hj hj2 => hd3 j hj hj2⟩⟩
            · rw [hat]; show d = d + 1 - 1; omega
            · rw [hat]; exact hk.2.symm
          obtain ⟨r1, r2, _⟩ := tellF_good hC n k (d + 1) false o2 hk.1 hg2 hpk
          obtain ⟨m2, hm2⟩ := tellF_more C n k (d + 1) false o2
          rw [hm2] at r1 r2 ⊢
          refine ih (o2 ++ m2) (fun y hy => hl y (List.mem_cons_of_mem _ hy)) r1 ⟨m ++ m2, by rw [hm]; simp [List.append_assoc]⟩ ?_ ?_ (by rw [toldId_app, ht2, Bool.true_or])
          · intro j hj hj2
            by_cases hjo : j < o2.length
            · rw [List.getElem_append_left hjo]; exact hd2 j hj hjo
            · have := r2 j (by omega) hj2; omega
          · intro j hj hj2
            by_cases hjo : j < o2.length
            · rw [List.getElem_append_left hjo]; exact hd3 j hj hjo
            · exact r2 j (by omega) hj2
theorem pre_root (out : List Ln) (s : Sp) (o : Bool) : Pre out s 0 o := ⟨Int.le_refl _, fun h => absurd rfl h⟩
theorem tell_good {C : List Sp} (hC : Dis C) {s : Sp} {d : Int} {o : Bool} {out : List Ln} (hs : s ∈ C) (hg : Good C out) (hp : Pre out s d o) : Good C (tell C s d o out) ∧ toldId (tell C s d o out) s.id = true :=
  have h := tellF_good hC (C.length + 1) s d o out hs hg hp
  ⟨h.1, h.2.2 (Nat.succ_pos _)⟩
theorem asm1_good {C : List Sp} (hC : Dis C) : Good C (asm1 C) := by
  suffices h : ∀ (l : List Sp) (o : List Ln), (∀ s ∈ l, s ∈ C) → Good C o → Good C (l.foldl (fun o s => if rootB C s = true then tell C s 0 (s.par != 0) o else o) o) from h C [] (fun _ h => h) (Good.nil C)
  intro l
  induction l with
  | nil => intro o _ h; exact h
  | cons s l ih =>
    intro o hl h
    rw [List.foldl_cons]
    refine ih _ (fun y hy => hl y (List.mem_cons_of_mem _ hy)) ?_
    split
    · exact (tell_good hC (hl s List.mem_cons_self) h (pre_root o s _)).1
    · exact h
theorem asm_good {C : List Sp} (hC : Dis C) : Good C (asm C) ∧ (asm C).length = C.length := by
  suffices h : ∀ (l : List Sp) (o : List Ln), (∀ s ∈ l, s ∈ C) → Good C o → Good C (l.foldl (fun o s => tell C s 0 true o) o) ∧ (∀ s ∈ l, toldId (l.foldl (fun o s => tell C s 0 true o) o) s.id = true) ∧ ∃ m, l.foldl (fun o s => tell C s 0 true o) o = o ++ m by
    obtain ⟨h1, h2, _⟩ := h C (asm1 C) (fun _ h => h) (asm1_good hC)
    refine ⟨h1, ?_⟩
    have hz : left C (asm C) = 0 := by
      unfold left
      rw [List.length_eq_zero_iff, List.filter_eq_nil_iff]
      intro s hs
      have := h2 s hs
      show ¬ (!toldId (asm C) s.id) = true
      rw [show toldId (asm C) s.id = true from this]
      simp
    have := h1.sum
    show (asm C).length = C.length
    unfold asm at hz ⊢
    omega
  intro l
  induction l with
  | nil => intro o _ h; exact ⟨h, fun s hs => (by cases hs), [], by simp⟩
  | cons s l ih =>
    intro o hl h
    rw [List.foldl_cons]
    obtain ⟨g1, t1⟩ := tell_good hC (hl s List.mem_cons_self) h (pre_root o s true)
    obtain ⟨g2, t2, m, hm⟩ := ih _ (fun y hy => hl y (List.mem_cons_of_mem _ hy)) g1
    refine ⟨g2, fun y hy => ?_, ?_⟩
    · rcases List.mem_cons.1 hy with rfl | hy
      · rw [hm, toldId_app, t1, Bool.true_or]
      · exact t2 y hy
    · obtain ⟨m2, hm2⟩ := tell_more C s 0 true o
      exact ⟨m2 ++ m, by rw [hm, hm2, List.append_assoc]⟩
theorem fold_sum {α : Type} (C : List Sp) (f : List Ln → α → List Ln) : ∀ (l : List α) (out : List Ln), out.length + left C out = C.length → (∀ o, o.length + left C o = C.length → ∀ k ∈ l, (f o k).length + left C (f o k) = C.length) → (l.foldl f out).length + left C (l.foldl f out) = C.length
  | [], out, h, _ => h
  | k :: l, out, h, hf => by
    rw [List.foldl_cons]
    exact fold_sum C f l _ (hf out h k List.mem_cons_self) (fun o ho k hk => hf o ho k (List.mem_cons_of_mem _ hk))
theorem tellF_sum {C : List Sp} (hC : Dis C) : ∀ (n : Nat) (s : Sp) (d : Int) (o : Bool) (out : List Ln), s ∈ C → out.length + left C out = C.length → (tellF C n s d o out).length + left C (tellF C n s d o out) = C.length
  | 0, _, _, _, out, _, h => h
  | n + 1, s, d, o, out, hs, h => by
    rw [tellF]
    split
    · exact h
    · rename_i ht
      have h1 := left_one (d := d) (o := o) hC hs (by simpa using ht)
      have h2 : (out ++ [(⟨s, d, o⟩ : Ln)]).length + left C (out ++ [⟨s, d, o⟩]) = C.length := by
        rw [List.length_append, List.length_singleton]; omega
      split
      · exact h2
      · exact fold_sum C _ _ _ h2 (fun o2 ho2 k hk => tellF_sum hC n k (d + 1) false o2 (kids_mem.1 hk).1 ho2)
theorem tellF_left {C : List Sp} (n : Nat) (s : Sp) (d : Int) (o : Bool) (out : List Ln) : left C (tellF C n s d o out) ≤ left C out := by
  obtain ⟨m, hm⟩ := tellF_more C n s d o out
  rw [hm]
  exact left_more C out m
theorem toldId_snoc (out : List Ln) (x : Ln) (i : Int) : toldId (out ++ [x]) i = (toldId out i || x.sp.id == i) := by simp [toldId]
end Go.Proofs.Ytoigebnhnkdbbaa.Tr

namespace Go.Proofs.Ytoigebnhnkdbbaa.Tr
open Go
set_option linter.unusedVariables false

def enD (s : Sp) : Int := s.st + s.du
def best1 (m x : Sp) : Sp := if enD m < enD x then x else m
/-- The one that ends last, the first of alike ones. -/
def lastS : List Sp → Option Sp
  | [] => none
  | a :: r => some (r.foldl best1 a)
theorem lastS_snoc (l : List Sp) (x : Sp) : lastS (l ++ [x]) = some (match lastS l with | none => x | some m => best1 m x) := by
  cases l with
  | nil => rfl
  | cons a r => simp [lastS]
theorem lastS_none {l : List Sp} : lastS l = none ↔ l = [] := by cases l <;> simp [lastS]
theorem snoc_rec {α : Type} {P : List α → Prop} (h0 : P []) (h1 : ∀ l b, P l → P (l ++ [b])) (l : List α) : P l := by
  have h : ∀ m : List α, P m.reverse := by
    intro m
    induction m with
    | nil => exact h0
    | cons a m ih => rw [List.reverse_cons]; exact h1 _ _ ih
  have := h l.reverse
  rwa [List.reverse_reverse] at this
theorem lastS_facts : ∀ {l : List Sp} {m : Sp}, lastS l = some m → m ∈ l ∧ ∀ x ∈ l, enD x ≤ enD m := by
  intro l
  induction l using snoc_rec with
  | h0 => intro m h; cases h
  | h1 l x ih =>
    intro m h
    rw [lastS_snoc] at h
    injection h with h
    cases hl : lastS l with
    | none =>
      rw [hl] at h
      have h : x = m := h
      have e := lastS_none.1 hl
      subst e
      subst h
      exact ⟨by simp, fun y hy => by simp at hy; rw [hy]; exact Int.le_refl _⟩
    | some m0 =>
      rw [hl] at h
      have h : best1 m0 x = m := h
      obtain ⟨h1, h2⟩ := ih hl
      unfold best1 at h
      split at h
      · subst h
        refine ⟨by simp, fun y hy => ?_⟩
        rcases List.mem_append.1 hy with hy | hy
        · have := h2 y hy; omega
        · rw [List.mem_singleton.1 hy]; exact Int.le_refl _
      · subst h
        refine ⟨List.mem_append_left _ h1, fun y hy => ?_⟩
        rcases List.mem_append.1 hy with hy | hy
        · exact h2 y hy
        · rw [List.mem_singleton.1 hy]; omega
/-- The way on from those that may come next. -/
def wayF (C : List Sp) : Nat → List Sp → List Sp
  | 0, _ => []
  | n + 1, c => match lastS c with
    | none => []
    | some s => s :: (if s.id = 0 then [] else wayF C n (kidsOf C s.id))
def rootsOf (C : List Sp) : List Sp := C.filter fun s => rootB C s
def long (C : List Sp) : List Sp := wayF C (C.length + 1) (rootsOf C)
/-- Those that come next behind a way. -/
def nextOf (C out : List Sp) : List Sp := match out.getLast? with
  | none => rootsOf C
  | some s => kidsOf C s.id
/-- A way: it begins at a root, each is a kid of the one ahead. -/
structure Way (C out : List Sp) : Prop where
  mem : ∀ s ∈ out, s ∈ C
  top : ∀ s, out.head? = some s → rootB C s = true
  step : ∀ i (h : i + 1 < out.length), (out[i + 1]'h).par = (out[i]'(by omega)).id ∧ (out[i]'(by omega)).id ≠ 0
theorem Way.nil (C : List Sp) : Way C [] := ⟨(fun s h => by cases h), (fun s h => by cases h), (fun i h => by simp at h)⟩
theorem Way.add {C out : List Sp} {s : Sp} (h : Way C out) (hs : s ∈ nextOf C out) (h0 : ∀ x, out.getLast? = some x → x.id ≠ 0) : Way C (out ++ [s]) := by
  have hsC : s ∈ C := by
    unfold nextOf at hs
    split at hs
    · exact (List.mem_filter.1 hs).1
    · exact (kids_mem.1 hs).1
  refine ⟨fun x hx => ?_, fun x hx => ?_, fun i hi => ?_⟩
  · rcases List.mem_append.1 hx with hx | hx
    · exact h.mem x hx
    · rw [List.mem_singleton.1 hx]; exact hsC
  · cases out with
    | nil =>
      simp only [List.nil_append, List.head?_cons, Option.some.injEq] at hx
      subst hx
      unfold nextOf at hs
      simpa [rootsOf] using (List.mem_filter.1 hs).2
    | cons a r => exact h.top x (by simpa using hx)
  · rw [List.length_append, List.length_singleton] at hi
    by_cases hio : i + 1 < out.length
    · rw [List.getElem_append_left hio, List.getElem_append_left (by omega)]
      exact h.step i hio
    · have e : i + 1 = out.length := by omega
      have hi2 : i < out.length := by omega
      have hl : out.getLast? = some (out[i]'hi2) := by
        rw [List.getLast?_eq_getElem?, List.getElem?_eq_getElem (by omega)]
        congr 2
        omega
      unfold nextOf at hs
      rw [hl] at hs
      rw [List.getElem_append_left hi2]
      have e2 : (out ++ [s])[i + 1]'(by simp; omega) = s := by
        rw [List.getElem_append_right (by omega)]
        simp
      rw [e2]
      exact ⟨(kids_mem.1 hs).2, h0 _ hl⟩
/-- No span comes twice in a way. -/
theorem Way.apart {C out : List Sp} (hC : Dis C) (h : Way C out) : ∀ (i j : Nat) (hi : i < out.length) (hj : j < out.length), i < j → (out[i]'hi).id ≠ (out[j]'hj).id
  | i, 0, _, _, hij => absurd hij (Nat.not_lt_zero _)
  | 0, j + 1, hi, hj, _ => by
    intro e
    have he := dis_eq hC (h.mem _ (List.getElem_mem hi)) (h.mem _ (List.getElem_mem hj)) e
    have ht := h.top _ (by rw [List.head?_eq_getElem?, List.getElem?_eq_getElem hi])
    have hst := h.step j hj
    unfold rootB at ht
    rw [he] at ht
    rw [hst.1] at ht
    have h1 : ((out[j]'(by omega)).id == 0) = false := beq_eq_false_iff_ne.2 hst.2
    have h2 : hasId C (out[j]'(by omega)).id = true := hasId_iff.2 ⟨_, h.mem _ (List.getElem_mem (by omega)), rfl⟩
    rw [h1, h2] at ht
    cases ht
  | i + 1, j + 1, hi, hj, hij => by
    intro e
    have he := dis_eq hC (h.mem _ (List.getElem_mem hi)) (h.mem _ (List.getElem_mem hj)) e
    have h1 := (h.step i hi).1
    have h2 := (h.step j hj).1
    rw [he, h2] at h1
    exact Way.apart hC h i j (by omega) (by omega) (by omega) h1.symm
theorem len_sub : ∀ {l : List Sp} {C : List Sp}, l.Pairwise (fun a b => a.id ≠ b.id) → (∀ s ∈ l, s ∈ C) → l.length ≤ C.length
  | [], C, _, _ => Nat.zero_le _
  | a :: l, C, h, hm => by
    rw [List.pairwise_cons] at h
    obtain ⟨p, q, hC⟩ := List.append_of_mem (hm a List.mem_cons_self)
    have hm2 : ∀ s ∈ l, s ∈ p ++ q := fun s hs => by
      have h1 := hm s (List.mem_cons_of_mem _ hs)
      rw [hC] at h1
      rcases List.mem_append.1 h1 with h1 | h1
      · exact List.mem_append_left _ h1
      · rcases List.mem_cons.1 h1 with e | h1
        · exact absurd (by rw [e]) (h.1 s hs)
        · exact List.mem_append_right _ h1
    have := len_sub h.2 hm2
    rw [hC]
    simp only [List.length_append, List.length_cons] at this ⊢
    omega
theorem Way.len {C out : List Sp} (hC : Dis C) (h : Way C out) : out.length ≤ C.length := by
  refine len_sub ?_ h.mem
  rw [List.pairwise_iff_getElem]
  exact fun i j hi hj hij => h.apart hC i j hi hj hij
/-- One step on: what is left of the way. -/
theorem wayF_none {C : List Sp} {n : Nat} {c : List Sp} (h : c = []) : wayF C n c = [] := by
  cases n with
  | zero => rfl
  | succ n => subst h; rfl
theorem wayF_some {C : List Sp} {n : Nat} {c : List Sp} {s : Sp} (h : lastS c = some s) : wayF C (n + 1) c = s :: (if s.id = 0 then [] else wayF C n (kidsOf C s.id)) := by
  rw [wayF, h]
theorem nextOf_snoc (C out : List Sp) (s : Sp) : nextOf C (out ++ [s]) = kidsOf C s.id := by unfold nextOf; simp
/-- The whole way, by its facts. -/
structure Whole (C w : List Sp) : Prop where
  way : Way C w
  stop : ∀ s, w.getLast? = some s → s.id = 0 ∨ kidsOf C s.id = []
  none_ : w = [] → rootsOf C = []
  best : ∀ s, w.head? = some s → ∀ x ∈ rootsOf C, enD x ≤ enD s
theorem wayF_whole {C : List Sp} (hC : Dis C) : ∀ (n : Nat) (out : List Sp), Way C out → (∀ x, out.getLast? = some x → x.id ≠ 0) → out.length + n = C.length + 1 →
    (∀ s, out.head? = some s → ∀ x ∈ rootsOf C, enD x ≤ enD s) → Whole C (out ++ wayF C n (nextOf C out))
  | 0, out, h, _, hn, _ => absurd (h.len hC) (by omega)
  | n + 1, out, h, h0, hn, hb => by
    cases hl : lastS (nextOf C out) with
    | none =>
      have e := lastS_none.1 hl
      rw [wayF_none e, List.append_nil]
      refine ⟨h, fun s hs => .inr ?_, fun ho => ?_, hb⟩
      · unfold nextOf at e
        rw [hs] at e
        exact e
      · subst ho
        exact e
    | some s =>
      rw [wayF_some hl]
      have hf := lastS_facts hl
      have hw := h.add hf.1 h0
      have hb2 : ∀ t, (out ++ [s]).head? = some t → ∀ x ∈ rootsOf C, enD x ≤ enD t := by
        intro t ht
        cases out with
        | nil =>
          simp only [List.nil_append, List.head?_cons, Option.some.injEq] at ht
          subst ht
          exact hf.2
        | cons a r => exact hb t (by simpa using ht)
      by_cases hz : s.id = 0
      · rw [if_pos hz]
        refine ⟨hw, fun t ht => .inl ?_, fun ho => by simp at ho, hb2⟩
        simp at ht
        rw [← ht]
        exact hz
      · rw [if_neg hz]
        have := wayF_whole hC n (out ++ [s]) hw (fun x hx => by simp at hx; rw [← hx]; exact hz) (by simp; omega) hb2
        rw [nextOf_snoc, List.append_assoc] at this
        exact this
theorem long_whole {C : List Sp} (hC : Dis C) : Whole C (long C) := by
  have := wayF_whole hC (C.length + 1) [] (Way.nil C) (fun x h => by cases h) (by simp) (fun s h => by cases h)
  rwa [List.nil_append] at this

/-! ### sums -/
def hasSvc (l : List Sp) (s : ByteArray) : Bool := l.any fun x => decide (x.svc = s)
structure Sm where
  n : Int
  er : Int
  st : Int
  en : Int
  sv : Int
def sum1 (l : List Sp) (x : Sm) (s : Sp) : Sm :=
  ⟨x.n + 1, if s.stt = 2 then x.er + 1 else x.er, if l = [] then s.st else min x.st s.st, if l = [] then enD s else max x.en (enD s), if hasSvc l s.svc = true then x.sv else x.sv + 1⟩
/-- The sum of a list, from its first ones on. -/
def sumF : List Sp → List Sp → Sm → Sm
  | _, [], x => x
  | p, s :: l, x => sumF (p ++ [s]) l (sum1 p x s)
def sumS (l : List Sp) : Sm := sumF [] l ⟨0, 0, 0, 0, 0⟩
theorem sumF_snoc : ∀ (l p : List Sp) (x : Sm) (s : Sp), sumF p (l ++ [s]) x = sum1 (p ++ l) (sumF p l x) s
  | [], p, x, s => by simp [sumF]
  | a :: l, p, x, s => by
    show sumF (p ++ [a]) (l ++ [s]) (sum1 p x a) = _
    rw [sumF_snoc l (p ++ [a]) (sum1 p x a) s]
    simp [sumF, List.append_assoc]
theorem sumS_snoc (l : List Sp) (s : Sp) : sumS (l ++ [s]) = sum1 l (sumS l) s := by
  unfold sumS
  rw [sumF_snoc]
  simp
end Go.Proofs.Ytoigebnhnkdbbaa.Tr
