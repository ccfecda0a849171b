/- Both disks of a law of chapter 5, side by side. -/
import Derived.Test.YtblacdnndchghaaDiskLaw3
import Derived.Test.YtblacdnndchghaaPAllx1
namespace Go.Proofs.Ytblacdnndchghaa.D
open Go.RowKit Go.Proofs.YtblacdnndchghaaW.PrintWords Go.Proofs.YtblacdnndchghaaW.PrintLast Go.Proofs.YtblacdnndchghaaW.PrintMore Go.Proofs.Ytblacdnndchghaa.Math Go.Proofs.Ytblacdnndchghaa.PAll Go.Proofs.Ytblacdnndchghaa.Open
set_option linter.unusedVariables false
set_option linter.unusedSimpArgs false

structure L2 (W w : World) (p gm q : Nat) (vS vW uS uW : Value) (s t : St) : Prop where
  d : DSt w W.heap.size p gm vS vW s
  r : RSt w W.heap.size q uS uW t
  below : Below W.heap.size W w
  ne : ∀ k, vS.ownBlock = some k → uS.ownBlock ≠ some k
/-- A local copy of a step stays. -/
def KeepDo (w w' : World) : Prop := ∀ (g : Nat) (c : Array Value), w.heap[g]? = some (Obj.cells c 31 (0, 0)) → w'.heap[g]? = some (Obj.cells c 31 (0, 0))
theorem RSt.notT {w : World} {B p : Nat} {vS vW : Value} {s : St} (h : RSt w B p vS vW s) {g : Nat} {c : Array Value} {U : TypeId} {fr : Nat × Nat} (hg : w.heap[g]? = some (.cells c U fr)) (h1 : U ≠ 54) (h2 : U ≠ 34) (h3 : U ≠ 66) : ¬ RO p vS vW g := by
  obtain ⟨Sl, Wl, e1, e2, hr⟩ := h.body
  rintro (rfl | hS | hW)
  · exact sep hg h.blk h1 rfl
  · obtain ⟨_, c2, k2⟩ := own_block hr.s hS
    exact sep hg k2 h2 rfl
  · obtain ⟨_, c2, k2⟩ := own_block hr.w_ hW
    exact sep hg k2 h3 rfl
theorem keepD {w w' : World} {B p gm : Nat} {vS vW : Value} {s : St} (h : DSt w B p gm vS vW s) (ht : Turn (DO p gm vS vW) w w') : KeepDo w w' := fun g c hg => blk_turn ht hg (h.notT hg (by decide) (by decide) (by decide))
theorem keepR {w w' : World} {B p : Nat} {vS vW : Value} {s : St} (h : RSt w B p vS vW s) (ht : Turn (RO p vS vW) w w') : KeepDo w w' := fun g c hg => blk_turn ht hg (h.notT hg (by decide) (by decide) (by decide))
theorem keepB {w w' : World} (hb : Below w.heap.size w w') : KeepDo w w' := fun g c hg => blk_turn (O := fun _ => False) (Turn.of_below hb) hg id
section
variable {W w w1 : World} {p gm q : Nat} {vS vW vW' uS uW uW' : Value} {s s' t t' : St}
theorem L2.next (h : L2 W w p gm q vS vW uS uW s t) (hb : Below w.heap.size w w1) : L2 W w1 p gm q vS vW uS uW s t := ⟨h.d.below hb, h.r.below hb, below_step h.below hb, h.ne⟩
theorem L2.onD (h : L2 W w p gm q vS vW uS uW s t) (hd : DSt w1 W.heap.size p gm vS vW' s') (ht : Turn (DO p gm vS vW) w w1) : L2 W w1 p gm q vS vW' uS uW s' t :=
  ⟨hd, h.r.turn ht (fun k c hk => h.d.pages k c hk) (apart h.d h.r h.ne), below_turn h.below ht h.d.fresh_, h.ne⟩
theorem L2.onR (h : L2 W w p gm q vS vW uS uW s t) (hr : RSt w1 W.heap.size q uS uW' t') (ht : Turn (RO q uS uW) w w1) : L2 W w1 p gm q vS vW uS uW' s t' :=
  ⟨h.d.turn ht (fun k c hk => h.r.pages k c hk) (fun k hD hR => apart h.d h.r h.ne k hR hD), hr, below_turn h.below ht h.r.fresh_, h.ne⟩
theorem L2.new (hb : Below W.heap.size W w) (n : Int) : Calls Try.prog 10 #[.int .i64 n] w fun e w' => ∃ p, e = .returned (.pointer (some ⟨p, 0, none⟩)) ∧ ∃ gm vS, LD W w' p gm vS nilS (fresh (npages n)) := LD.new_ W w hb n
theorem LD.new2R (h : LD W w p gm vS vW s) (n : Int) : Calls Try.prog 11 #[.int .i64 n] w fun e w' => ∃ q, e = .returned (.pointer (some ⟨q, 0, none⟩)) ∧ ∃ uS, L2 W w' p gm q vS vW uS nilS s (fresh (npages n)) := by
  refine (newR_calls w n).mono ?_
  rintro e w' ⟨rfl, uS, hr, hb⟩
  have hs := h.below.size
  obtain ⟨Sl, Wl, e1, e2, hrr⟩ := hr.body
  have hpw : ∀ {v : Value} {b : List Int}, Pg w' w.heap.size v b → Pg w' W.heap.size v b := fun h => ⟨h.1, h.2.1, own_weaken h.2.2 hs⟩
  refine ⟨_, rfl, uS, h.d.below hb, ⟨hr.blk, Nat.le_trans hs hr.pb, hr.left0, Sl, Wl, e1, e2, ⟨own_weaken hrr.s hs, own_weaken hrr.w_ hs, fun x hx => hpw (hrr.sp x hx), fun x hx => hpw (hrr.wp x hx), hrr.wr⟩⟩, below_step h.below hb, fun k hk hu => ?_⟩
  obtain ⟨Sd, Wd, es, clk, f1, f2, hrd, _, _⟩ := h.d.body
  obtain ⟨_, c2, h2⟩ := own_block hrd.s hk
  have h3 := (own_block hrr.s hu).1
  have := blk_lt h2
  omega
theorem L2.writeD (h : L2 W w p gm q vS vW uS uW s t) (no : Int) {v : Value} {b : List Int} (hv : Rw w v b) (hb : b.length ≤ 1000000) (hib : IsB b) (hlen : s.W.length ≤ 1000000) :
    Calls Try.prog 12 #[.pointer (some ⟨p, 0, none⟩), .int .i64 no, v] w fun e w' => e = .returned (.int .i64 (write s no b).1) ∧ (∃ vW', L2 W w' p gm q vS vW' uS uW (write s no b).2 t) ∧ KeepDo w w' := by
  obtain ⟨A, c, rfl, hc, hC⟩ := hv.reads
  refine (write_calls h.d h.below.size no A c b hc hC hb hib hlen).mono ?_
  rintro e w' ⟨rfl, vW', hd, ht, _⟩
  exact ⟨rfl, ⟨vW', h.onD hd ht⟩, keepD h.d ht⟩
theorem L2.writeR (h : L2 W w p gm q vS vW uS uW s t) (no : Int) {v : Value} {b : List Int} (hv : Rw w v b) (hb : b.length ≤ 1000000) (hib : IsB b) (hlen : t.W.length ≤ 1000000) :
    Calls Try.prog 14 #[.pointer (some ⟨q, 0, none⟩), .int .i64 no, v] w fun e w' => e = .returned (.int .i64 (write t no b).1) ∧ (∃ uW', L2 W w' p gm q vS vW uS uW' s (write t no b).2) ∧ KeepDo w w' := by
  obtain ⟨A, c, rfl, hc, hC⟩ := hv.reads
  refine (writeR_calls h.r h.below.size no A c b hc hC hb hib hlen).mono ?_
  rintro e w' ⟨rfl, uW', hr, ht, _⟩
  exact ⟨rfl, ⟨uW', h.onR hr ht⟩, keepR h.r ht⟩
theorem L2.syncD (h : L2 W w p gm q vS vW uS uW s t) :
    Calls Try.prog 19 #[.pointer (some ⟨p, 0, none⟩)] w fun e w' => e = .returned (.int .i64 (sync s).1) ∧ (∃ vW', L2 W w' p gm q vS vW' uS uW (sync s).2 t) ∧ KeepDo w w' := by
  refine (sync_calls h.d).mono ?_
  rintro e w' ⟨rfl, vW', hd, ht, _⟩
  exact ⟨rfl, ⟨vW', h.onD hd ht⟩, keepD h.d ht⟩
theorem L2.syncR (h : L2 W w p gm q vS vW uS uW s t) :
    Calls Try.prog 25 #[.pointer (some ⟨q, 0, none⟩)] w fun e w' => e = .returned (.int .i64 (sync t).1) ∧ (∃ uW', L2 W w' p gm q vS vW uS uW' s (sync t).2) ∧ KeepDo w w' := by
  refine (syncR_calls h.r).mono ?_
  rintro e w' ⟨rfl, uW', hr, ht, _⟩
  exact ⟨rfl, ⟨uW', h.onR hr ht⟩, keepR h.r ht⟩
theorem L2.armD (h : L2 W w p gm q vS vW uS uW s t) (n : Int) (hn : n ≤ 9223372036854775807) :
    Calls Try.prog 22 #[.pointer (some ⟨p, 0, none⟩), .int .i64 n] w fun e w' => e = .returned (.tuple #[]) ∧ L2 W w' p gm q vS vW uS uW (arm s n) t ∧ KeepDo w w' := by
  refine (arm_calls h.d n hn).mono ?_
  rintro e w' ⟨rfl, hd, ht⟩
  exact ⟨rfl, h.onD hd ht, keepD h.d ht⟩
theorem L2.armR (h : L2 W w p gm q vS vW uS uW s t) (n : Int) (hn : n ≤ 9223372036854775807) :
    Calls Try.prog 26 #[.pointer (some ⟨q, 0, none⟩), .int .i64 n] w fun e w' => e = .returned (.tuple #[]) ∧ L2 W w' p gm q vS vW uS uW s (arm t n) ∧ KeepDo w w' := by
  refine (armR_calls h.r n hn).mono ?_
  rintro e w' ⟨rfl, hr, ht⟩
  exact ⟨rfl, h.onR hr ht, keepR h.r ht⟩
/-- A row of truths that came in: where it lies. -/
theorem keep_apart {W : World} {A : Option Addr} {l : List Bool} (hC : Kd.C Kd.bool W A l.length l) (hp : 0 < l.length) : ∀ ad, A = some ad → ad.block < W.heap.size := by
  intro ad hA
  obtain ⟨ad', hA', hcell⟩ := C_bool hC (k := 0) hp
  rw [hA'] at hA
  injection hA with hA
  subst hA
  have hlt := World.block_lt_of_cell? W _ hcell
  have hb : (ad'.add 0).block = ad'.block := by unfold Addr.add; split <;> rfl
  rw [hb] at hlt
  exact hlt
theorem L2.crashD (h : L2 W w p gm q vS vW uS uW s t) (A : Option Addr) (c : Nat) (l : List Bool) (hl : l.length ≤ c) (hC : Kd.C Kd.bool W A l.length l) (tn : Int) (hlen : s.W.length ≤ 1000000) :
    Calls Try.prog 20 #[.pointer (some ⟨p, 0, none⟩), .slice A l.length c, .int .i64 tn] w fun e w' => e = .returned (.tuple #[]) ∧ L2 W w' p gm q vS nilS uS uW (crash s l tn) t ∧ KeepDo w w' := by
  refine (crash_calls h.d h.below.size A c l hl (Kd.C_below hC h.below) (fun hp ad hA => ?_) tn hlen).mono ?_
  · have hlt := keep_apart hC hp ad hA
    exact ⟨Nat.lt_of_lt_of_le hlt h.below.size, fun hD => by have := h.d.fresh_ _ hD; omega⟩
  · rintro e w' ⟨rfl, hd, ht⟩
    exact ⟨rfl, h.onD hd ht, keepD h.d ht⟩
theorem L2.crashR (h : L2 W w p gm q vS vW uS uW s t) (A : Option Addr) (c : Nat) (l : List Bool) (hl : l.length ≤ c) (hC : Kd.C Kd.bool W A l.length l) (tn : Int) :
    Calls Try.prog 27 #[.pointer (some ⟨q, 0, none⟩), .slice A l.length c, .int .i64 tn] w fun e w' => e = .returned (.tuple #[]) ∧ L2 W w' p gm q vS vW uS nilS s (crash t l tn) ∧ KeepDo w w' := by
  refine (crashR_calls h.r h.below.size A c l hl (Kd.C_below hC h.below) (fun hp ad hA => ?_) tn).mono ?_
  · have hlt := keep_apart hC hp ad hA
    exact ⟨Nat.lt_of_lt_of_le hlt h.below.size, fun hD => by have := h.r.fresh_ _ hD; omega⟩
  · rintro e w' ⟨rfl, hr, ht⟩
    exact ⟨rfl, h.onR hr ht, keepR h.r ht⟩
theorem L2.vW_len (h : L2 W w p gm q vS vW uS uW s t) : s.W.length = s.W.length := rfl
/-- The rows' numbers are the same. -/
theorem ints_same (xs : List Int) (hx : xs.length ≤ 1000000) : ∀ (d i k : Nat), i + d = xs.length → d < k → cambiumref05_Ints.l0 k xs xs (i : Int) = some true := by
  intro d
  induction d with
  | zero =>
    intro i k hi hk
    obtain ⟨k, rfl⟩ : ∃ m, k = m + 1 := ⟨k - 1, by omega⟩
    rw [cambiumref05_Ints.l0, if_neg (by omega)]
  | succ d ih =>
    intro i k hi hk
    obtain ⟨k, rfl⟩ : ∃ m, k = m + 1 := ⟨k - 1, by omega⟩
    rw [cambiumref05_Ints.l0, if_pos (by omega), if_pos (by omega), if_pos (by omega), if_pos rfl, wrap_id (by omega) (by omega)]
    have := ih (i + 1) k (by omega) (by omega)
    simpa using this
theorem ints_calls {w : World} {v u : Value} {xs : List Int} {N M : Nat} {ok ok' : Nat → Prop} (hv : Kd.R (Kd.int .i64) 3 w N ok v xs) (hu : Kd.R (Kd.int .i64) 3 w M ok' u xs) (hx : xs.length ≤ 1000000) :
    Calls Try.prog 28 #[v, u] w fun e w' => e = .returned (.bool true) ∧ Below w.heap.size w w' := by
  obtain ⟨A, c, rfl, hc, hC⟩ := Kd.R_reads hv
  obtain ⟨A', c', rfl, hc', hC'⟩ := Kd.R_reads hu
  refine (cambiumref05_Ints.calls (xs.length + 1) A c xs A' c' xs true w hC hc hC' hc' ?_).mono ?_
  · unfold cambiumref05_Ints.f
    rw [if_pos rfl]
    exact ints_same xs hx xs.length 0 _ (by omega) (by omega)
  · rintro e w' ⟨e1, e2⟩
    exact ⟨e1, e2.below⟩
end
/-- What a step leaves. -/
theorem write_len (s : St) (no : Int) (b : List Int) : (write s no b).2.W.length ≤ s.W.length + 1 ∧ (write s no b).2.S = s.S := by
  unfold write
  split
  · exact ⟨by show s.W.length ≤ _; omega, rfl⟩
  split
  · exact ⟨by show s.W.length ≤ _; omega, rfl⟩
  · refine ⟨?_, (goes_S _).1⟩
    rw [(goes_S _).2]
    show (s.W ++ [(no, b)]).length ≤ _
    rw [List.length_append]
    exact Nat.le_refl _
theorem sync_len (s : St) : (sync s).2.W.length ≤ s.W.length ∧ (sync s).2.S.length = s.S.length := by
  unfold sync
  split
  · exact ⟨Nat.le_refl _, rfl⟩
  split
  · exact ⟨by rw [(goes_S _).2]; exact Nat.le_refl _, by rw [(goes_S _).1]⟩
  · exact ⟨Nat.zero_le _, syncS_len _ _⟩
theorem crash_len (s : St) (l : List Bool) (tn : Int) : (crash s l tn).W.length = 0 ∧ (crash s l tn).S.length = s.S.length := ⟨rfl, crashN_len ..⟩
theorem DSt.read_len {w : World} {B p gm : Nat} {vS vW : Value} {s : St} (h : DSt w B p gm vS vW s) (no : Int) : (readP s no).length ≤ 1024 := by
  unfold readP
  split
  · rename_i hin
    unfold seenP
    have h2 := h.body
    obtain ⟨Sl, Wl, es, clk, e1, e2, hr, hm, hok⟩ := h2
    rw [e2]
    rcases last_both Wl no with ⟨_, hl⟩ | ⟨x, hx, _, _, hl⟩
    · rw [hl]
      obtain ⟨h0, h1⟩ := hin
      obtain ⟨_, _, _, _, _, hp⟩ := h.page no.toNat (by omega)
      exact Nat.le_of_eq hp.1
    · rw [hl]
      exact Nat.le_of_eq (hr.wp x hx).1
  · exact Nat.zero_le _
theorem Pg.rw_ {w : World} {B : Nat} {v : Value} {b : List Int} (h : Pg w B v b) : Rw w v b := by
  unfold Rw
  rw [h.1]
  exact own_weaken h.2.2 (Nat.zero_le _)
theorem safe_in (s : St) {j : Nat} (hj : j < s.S.length) : safeP s (j : Int) = s.S.getD j [] := by
  unfold safeP
  rw [if_pos ⟨by omega, by omega⟩, Int.toNat_natCast]
theorem safe_out (s : St) {no : Int} (h : ¬ (0 ≤ no ∧ no < s.S.length)) : safeP s no = [] := by
  unfold safeP
  rw [if_neg h]
theorem zeros_isB (m : Nat) : IsB (List.replicate m 0) := by
  intro x hx
  have := List.eq_of_mem_replicate hx
  omega
end Go.Proofs.Ytblacdnndchghaa.D
