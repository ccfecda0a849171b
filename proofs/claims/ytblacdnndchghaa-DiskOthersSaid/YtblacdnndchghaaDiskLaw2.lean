/- What several laws of chapter 5 use. -/
import Derived.Test.YtblacdnndchghaaDiskLaw1
import Derived.Test.YtblacdnndchghaaPAllx1
import Derived.Test.YtblacdnndchghaaSame
namespace Go.Proofs.Ytblacdnndchghaa.D
open Go.RowKit Go.Proofs.YtblacdnndchghaaW.PrintWords Go.Proofs.YtblacdnndchghaaW.PrintLast Go.Proofs.YtblacdnndchghaaW.PrintMore Go.Proofs.Ytblacdnndchghaa.Math Go.Proofs.Ytblacdnndchghaa.PAll
set_option linter.unusedVariables false
set_option linter.unusedSimpArgs false

/-- Two rows that are the same, or not. -/
theorem same_rw {w : World} {v u : Value} {a b : List Int} (hv : Rw w v a) (hu : Rw w u b) (ha : a.length ≤ 100000) : ∀ w1, Below w.heap.size w w1 → Calls Try.prog 17 #[v, u] w1 fun e w' => e = .returned (.bool (decide (a = b))) ∧ Below w1.heap.size w1 w' := by
  intro w1 hb
  obtain ⟨A, c, rfl, hc, hC⟩ := hv.reads
  obtain ⟨A', c', rfl, hc', hC'⟩ := hu.reads
  refine (cambiumref01_Same.calls 200000 A c a A' c' b _ w1 (Kd.C_below hC hb) hc (Kd.C_below hC' hb) hc' (Same.same_eq 200000 a b (by omega) (by omega))).mono ?_
  rintro e w' ⟨e1, e2⟩
  exact ⟨e1, e2.below⟩
theorem same_take {w : World} {A B : Option Addr} {c d n : Nat} {a b : List Int} (hn : a.length = n) (ha : Kd.C (Kd.int .u8) w A a.length a) (hc : n ≤ c) (hb : Kd.C (Kd.int .u8) w B b.length b) (hm : b.length = n) (hd : n ≤ d) (hs : n ≤ 100000 := by decide) :
    Calls Try.prog 17 #[.slice A n c, .slice B n d] w fun e w' => e = .returned (.bool (decide (a = b))) ∧ Below w.heap.size w w' := by
  subst hn
  rw [← hm] at hd
  have h := cambiumref01_Same.calls 200000 A c a B d b _ w ha hc hb hd (Same.same_eq 200000 a b (by omega) (by omega))
  rw [hm] at h
  refine h.mono ?_
  rintro e w' ⟨e1, e2⟩
  exact ⟨e1, e2.below⟩
theorem DSt.notT {w : World} {B p gm : Nat} {vS vW : Value} {s : St} (h : DSt w B p gm vS vW s) {g : Nat} {c : Array Value} {U : TypeId} {fr : Nat × Nat} (hg : w.heap[g]? = some (.cells c U fr)) (h1 : U ≠ 60) (h2 : U ≠ 34) (h3 : U ≠ 64) : ¬ DO p gm vS vW g := by
  obtain ⟨Sl, Wl, es, clk, e1, e2, hr, hm, hok⟩ := h.body
  rintro (rfl | rfl | hS | hW)
  · exact sep hg h.blk h1 rfl
  · exact sepm hg hm rfl
  · obtain ⟨_, c2, k2⟩ := own_block hr.s hS
    exact sep hg k2 h2 rfl
  · obtain ⟨_, c2, k2⟩ := own_block hr.w_ hW
    exact sep hg k2 h3 rfl
theorem LD.new2 (W w : World) (hb : Below W.heap.size W w) (n : Int) : Calls Try.prog 10 #[.int .i64 n] w fun e w' => ∃ p, e = .returned (.pointer (some ⟨p, 0, none⟩)) ∧ ∃ gm vS, LD W w' p gm vS nilS (fresh (npages n)) ∧ Below w.heap.size w w' := by
  refine (new_calls w n).mono ?_
  rintro e w' ⟨rfl, vS, hd, hb'⟩
  have hd' : DSt w' W.heap.size (w.heap.size + 1) w.heap.size vS nilS (fresh (npages n)) := by
    obtain ⟨Sl, Wl, es, clk, e1, e2, hr, hm, hok⟩ := hd.body
    have hs := hb.size
    have hpw : ∀ {v : Value} {b : List Int}, Pg w' w.heap.size v b → Pg w' W.heap.size v b := fun h => ⟨h.1, h.2.1, own_weaken h.2.2 hs⟩
    exact ⟨hd.blk, ⟨Nat.le_trans hs hd.pb.1, Nat.le_trans hs hd.pb.2⟩, hd.left0, Sl, Wl, es, clk, e1, e2, ⟨own_weaken hr.s hs, own_weaken hr.w_ hs, fun x hx => hpw (hr.sp x hx), fun x hx => hpw (hr.wp x hx), hr.wr⟩, hm, hok⟩
  exact ⟨_, rfl, _, vS, ⟨hd', below_step hb hb'⟩, hb'⟩
end Go.Proofs.Ytblacdnndchghaa.D
