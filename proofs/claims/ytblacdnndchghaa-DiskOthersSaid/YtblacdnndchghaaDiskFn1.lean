/- The disks' small methods: contracts by hand. -/
import Derived.Test.YtblacdnndchghaaDiskBase
import Derived.Outline
import Derived.BigRegion
import Derived.BigQuiet
import Derived.Deep.RegionHeld3
import Derived.Lib.SliceRun
namespace Go.Proofs.Ytblacdnndchghaa.D
open Go.RowKit Go.Proofs.YtblacdnndchghaaW.PrintWords Go.Proofs.YtblacdnndchghaaW.PrintLast Go.Proofs.YtblacdnndchghaaW.PrintMore Go.Proofs.Ytblacdnndchghaa.Math
open Go.ChangeMaps (setBlock)
set_option linter.unusedVariables false
set_option linter.unusedSimpArgs false

theorem own_sl {w : World} {B e size n : Nat} {v : Value} {xs : List Value} (ho : w.ownsRow B e size v n xs) : ∃ A c, v = .slice A n c ∧ n ≤ c := by
  rcases ho.2 with ⟨rfl, rfl⟩ | ⟨g, cap, cur, rfl, _, _, hnc, _⟩
  · exact ⟨none, 0, rfl, Nat.le_refl _⟩
  · exact ⟨_, cap, rfl, hnc⟩
theorem own_len {w : World} {B e size n : Nat} {v : Value} {xs : List Value} (ho : w.ownsRow B e size v n xs) : n ≤ 9223372036854775807 := by
  rcases ho.2 with ⟨_, rfl⟩ | ⟨g, cap, cur, _, _, _, hnc, hcm, _⟩
  · omega
  · unfold maxLen at hcm; omega
theorem DSt.vS {w : World} {B p gm : Nat} {vS vW : Value} {s : St} (h : DSt w B p gm vS vW s) : ∃ A c, vS = .slice A s.S.length c ∧ s.S.length ≤ c ∧ s.S.length ≤ 9223372036854775807 := by
  obtain ⟨Sl, Wl, es, clk, e1, e2, hr, hm, hok⟩ := h.body
  obtain ⟨A, c, h1, h2⟩ := own_sl hr.s
  rw [e1, List.length_map]
  exact ⟨A, c, h1, h2, own_len hr.s⟩
theorem RSt.vS {w : World} {B p : Nat} {vS vW : Value} {s : St} (h : RSt w B p vS vW s) : ∃ A c, vS = .slice A s.S.length c ∧ s.S.length ≤ c ∧ s.S.length ≤ 9223372036854775807 := by
  obtain ⟨Sl, Wl, e1, e2, hr⟩ := h.body
  obtain ⟨A, c, h1, h2⟩ := own_sl hr.s
  rw [e1, List.length_map]
  exact ⟨A, c, h1, h2, own_len hr.s⟩
/-- The fields that hold numbers are laid anew. -/
theorem DSt.set3 {w : World} {B p gm : Nat} {vS vW : Value} {s : St} (h : DSt w B p gm vS vW s) (l : Int) (hl : 0 ≤ l ∧ l ≤ 9223372036854775807) : DSt (w.setCell ⟨p, 3, none⟩ (.int .i64 l)) B p gm vS vW { s with left := l } := by
  obtain ⟨Sl, Wl, es, clk, e1, e2, hr, hm, hok⟩ := h.body
  have ht : Turn (fun k => k = p) w (w.setCell ⟨p, 3, none⟩ (.int .i64 l)) := Turn.set w p 3 _ rfl
  refine ⟨blk_set h.blk 3 _, h.pb, hl, Sl, Wl, es, clk, e1, e2, hr.turn ht (fun k c hk e => h.pages k c hk (.inl e)) (fun k hk e => ?_) (fun k hk e => ?_), blk_turn ht hm (fun e => sepm h.blk hm e.symm), hok⟩
  · obtain ⟨_, c2, h2⟩ := own_block hr.s hk
    exact sep h2 h.blk (by decide) e
  · obtain ⟨_, c2, h2⟩ := own_block hr.w_ hk
    exact sep h2 h.blk (by decide) e
theorem DSt.set4 {w : World} {B p gm : Nat} {vS vW : Value} {s : St} (h : DSt w B p gm vS vW s) (b : Bool) : DSt (w.setCell ⟨p, 4, none⟩ (.bool b)) B p gm vS vW { s with down := b } := by
  obtain ⟨Sl, Wl, es, clk, e1, e2, hr, hm, hok⟩ := h.body
  have ht : Turn (fun k => k = p) w (w.setCell ⟨p, 4, none⟩ (.bool b)) := Turn.set w p 4 _ rfl
  refine ⟨blk_set h.blk 4 _, h.pb, h.left0, Sl, Wl, es, clk, e1, e2, hr.turn ht (fun k c hk e => h.pages k c hk (.inl e)) (fun k hk e => ?_) (fun k hk e => ?_), blk_turn ht hm (fun e => sepm h.blk hm e.symm), hok⟩
  · obtain ⟨_, c2, h2⟩ := own_block hr.s hk
    exact sep h2 h.blk (by decide) e
  · obtain ⟨_, c2, h2⟩ := own_block hr.w_ hk
    exact sep h2 h.blk (by decide) e
theorem RSt.set2 {w : World} {B p : Nat} {vS vW : Value} {s : St} (h : RSt w B p vS vW s) (l : Int) (hl : 0 ≤ l ∧ l ≤ 9223372036854775807) : RSt (w.setCell ⟨p, 2, none⟩ (.int .i64 l)) B p vS vW { s with left := l } := by
  obtain ⟨Sl, Wl, e1, e2, hr⟩ := h.body
  have ht : Turn (fun k => k = p) w (w.setCell ⟨p, 2, none⟩ (.int .i64 l)) := Turn.set w p 2 _ rfl
  refine ⟨blk_set h.blk 2 _, h.pb, hl, Sl, Wl, e1, e2, hr.turn ht (fun k c hk e => h.pages k c hk (.inl e)) (fun k hk e => ?_) (fun k hk e => ?_)⟩
  · obtain ⟨_, c2, h2⟩ := own_block hr.s hk
    exact sep h2 h.blk (by decide) e
  · obtain ⟨_, c2, h2⟩ := own_block hr.w_ hk
    exact sep h2 h.blk (by decide) e
theorem RSt.set3 {w : World} {B p : Nat} {vS vW : Value} {s : St} (h : RSt w B p vS vW s) (b : Bool) : RSt (w.setCell ⟨p, 3, none⟩ (.bool b)) B p vS vW { s with down := b } := by
  obtain ⟨Sl, Wl, e1, e2, hr⟩ := h.body
  have ht : Turn (fun k => k = p) w (w.setCell ⟨p, 3, none⟩ (.bool b)) := Turn.set w p 3 _ rfl
  refine ⟨blk_set h.blk 3 _, h.pb, h.left0, Sl, Wl, e1, e2, hr.turn ht (fun k c hk e => h.pages k c hk (.inl e)) (fun k hk e => ?_) (fun k hk e => ?_)⟩
  · obtain ⟨_, c2, h2⟩ := own_block hr.s hk
    exact sep h2 h.blk (by decide) e
  · obtain ⟨_, c2, h2⟩ := own_block hr.w_ hk
    exact sep h2 h.blk (by decide) e

set_option maxHeartbeats 1000000 in
theorem there_calls {w : World} {B p gm : Nat} {vS vW : Value} {s : St} (h : DSt w B p gm vS vW s) (no : Int) :
    Calls Try.prog 30 #[.pointer (some ⟨p, 0, none⟩), .int .i64 no] w fun e w' => e = .returned (.bool (decide (0 ≤ no ∧ no < s.S.length))) ∧ w = w' := by
  obtain ⟨A, c, rfl, hc, hl⟩ := h.vS
  have k0 : w.cell? ⟨p, 0, none⟩ = some (.slice A s.S.length c) := (blk_cell h.blk 0).trans rfl
  clear h
  by_cases h0 : 0 ≤ no
  · have d0 : decide (no ≥ 0) = true := decide_eq_true h0
    have d1 : decide (0 ≤ no ∧ no < s.S.length) = decide (no < (s.S.length : Int)) := by simp [h0]
    rw [d1]
    clear d1
    go_enter Try.func30, Try.ntmps30
    go_wp2
    go_ret
    exact ⟨rfl, rfl⟩
  · have d0 : decide (no ≥ 0) = false := decide_eq_false h0
    have d1 : decide (0 ≤ no ∧ no < s.S.length) = false := by simp [h0]
    rw [d1]
    go_enter Try.func30, Try.ntmps30
    go_wp2
    go_ret
    exact ⟨rfl, rfl⟩

/-- An act begins: whether the power goes, and the state behind. -/
def goes (s : St) : Bool × St := if s.left = 0 then (false, s) else (decide (s.left - 1 = 0), { s with left := s.left - 1, down := decide (s.left - 1 = 0) })

set_option maxHeartbeats 1000000 in
theorem goes_calls {w : World} {B p gm : Nat} {vS vW : Value} {s : St} (h : DSt w B p gm vS vW s) :
    Calls Try.prog 32 #[.pointer (some ⟨p, 0, none⟩)] w fun e w' => e = .returned (.bool (goes s).1) ∧ DSt w' B p gm vS vW (goes s).2 ∧ Turn (DO p gm vS vW) w w' := by
  have k3 : w.cell? ⟨p, 3, none⟩ = some (.int .i64 s.left) := (blk_cell h.blk 3).trans rfl
  have f3 := blk_frozen h.blk 3
  have hl := h.left0
  unfold goes
  by_cases h0 : s.left = 0
  · rw [if_pos h0]
    have HD := Lib.hid h
    rw [h0] at k3
    clear h hl h0
    go_enter Try.func32, Try.ntmps32
    go_wp2
    go_ret
    exact ⟨rfl, HD.out, Turn.refl _ _⟩
  · rw [if_neg h0]
    have d0 : (s.left == 0) = false := beq_eq_false_iff_ne.2 h0
    have hw : wrap64 (s.left - 1) = s.left - 1 := by unfold wrap64; omega
    have h2 := h.set3 (s.left - 1) (by omega)
    have h3 := h2.set4 (decide (s.left - 1 = 0))
    have t1 : Turn (DO p gm vS vW) w (w.setCell ⟨p, 3, none⟩ (.int .i64 (s.left - 1))) := Turn.set w p 3 _ (.inl rfl)
    have t2 : Turn (DO p gm vS vW) w ((w.setCell ⟨p, 3, none⟩ (.int .i64 (s.left - 1))).setCell ⟨p, 4, none⟩ (.bool (decide (s.left - 1 = 0)))) := t1.trans (Turn.set _ p 4 _ (.inl rfl)) (fun k hk => .inl hk)
    have m3 : (w.setCell ⟨p, 3, none⟩ (.int .i64 (s.left - 1))).cell? ⟨p, 3, none⟩ = some (.int .i64 (s.left - 1)) := (blk_cell h2.blk 3).trans rfl
    have g4 := blk_frozen h2.blk 4
    have k4 : (w.setCell ⟨p, 3, none⟩ (.int .i64 (s.left - 1))).cell? ⟨p, 4, none⟩ = some (.bool s.down) := (blk_cell h2.blk 4).trans rfl
    have m4 : ((w.setCell ⟨p, 3, none⟩ (.int .i64 (s.left - 1))).setCell ⟨p, 4, none⟩ (.bool (decide (s.left - 1 = 0)))).cell? ⟨p, 4, none⟩ = some (.bool (decide (s.left - 1 = 0))) := (blk_cell h3.blk 4).trans rfl
    have HD := Lib.hid h3
    have HT := Lib.hid t2
    have hbd : (s.left - 1 == 0) = decide (s.left - 1 = 0) := rfl
    clear h h2 h3 t1 t2 h0 hl
    go_enter Try.func32, Try.ntmps32
    go_wp2
    go_ret
    exact ⟨rfl, HD.out, HT.out⟩

set_option maxHeartbeats 1000000 in
theorem goesR_calls {w : World} {B p : Nat} {vS vW : Value} {s : St} (h : RSt w B p vS vW s) (hd : s.down = false) :
    Calls Try.prog 33 #[.pointer (some ⟨p, 0, none⟩)] w fun e w' => e = .returned (.bool (goes s).1) ∧ RSt w' B p vS vW (goes s).2 ∧ Turn (RO p vS vW) w w' := by
  have k3 : w.cell? ⟨p, 2, none⟩ = some (.int .i64 s.left) := (blk_cell h.blk 2).trans rfl
  have k4 : w.cell? ⟨p, 3, none⟩ = some (.bool false) := by rw [← hd]; exact (blk_cell h.blk 3).trans rfl
  have f3 := blk_frozen h.blk 2
  have hl := h.left0
  unfold goes
  by_cases h0 : s.left = 0
  · rw [if_pos h0]
    have HD := Lib.hid h
    rw [h0] at k3
    clear h hl h0
    go_enter Try.func33, Try.ntmps33
    go_wp2
    go_ret
    exact ⟨rfl, HD.out, Turn.refl _ _⟩
  · rw [if_neg h0]
    have d0 : decide (s.left > 0) = true := decide_eq_true (by omega)
    have d1 : decide (0 < s.left) = true := decide_eq_true (by omega)
    have hw : wrap64 (s.left - 1) = s.left - 1 := by unfold wrap64; omega
    have h2 := h.set2 (s.left - 1) (by omega)
    have t1 : Turn (RO p vS vW) w (w.setCell ⟨p, 2, none⟩ (.int .i64 (s.left - 1))) := Turn.set w p 2 _ (.inl rfl)
    have m3 : (w.setCell ⟨p, 2, none⟩ (.int .i64 (s.left - 1))).cell? ⟨p, 2, none⟩ = some (.int .i64 (s.left - 1)) := (blk_cell h2.blk 2).trans rfl
    have m4 : (w.setCell ⟨p, 2, none⟩ (.int .i64 (s.left - 1))).cell? ⟨p, 3, none⟩ = some (.bool false) := by rw [← hd]; exact (blk_cell h2.blk 3).trans rfl
    have g4 := blk_frozen h2.blk 3
    by_cases h1 : s.left - 1 = 0
    · have hbd : (s.left - 1 == 0) = true := beq_iff_eq.2 h1
      have h3 := h2.set3 true
      have t2 : Turn (RO p vS vW) w ((w.setCell ⟨p, 2, none⟩ (.int .i64 (s.left - 1))).setCell ⟨p, 3, none⟩ (.bool true)) := t1.trans (Turn.set _ p 3 _ (.inl rfl)) (fun k hk => .inl hk)
      have m5 : ((w.setCell ⟨p, 2, none⟩ (.int .i64 (s.left - 1))).setCell ⟨p, 3, none⟩ (.bool true)).cell? ⟨p, 3, none⟩ = some (.bool true) := (blk_cell h3.blk 3).trans rfl
      have hdd : decide (s.left - 1 = 0) = true := decide_eq_true h1
      rw [hdd]
      have HD := Lib.hid h3
      have HT := Lib.hid t2
      clear h h2 h3 t1 t2 h0 hl h1 hdd k4
      go_enter Try.func33, Try.ntmps33
      go_wp2
      go_ret
      exact ⟨rfl, HD.out, HT.out⟩
    · have hbd : (s.left - 1 == 0) = false := beq_eq_false_iff_ne.2 h1
      have hdd : decide (s.left - 1 = 0) = false := decide_eq_false h1
      rw [hdd]
      have h3 : RSt (w.setCell ⟨p, 2, none⟩ (.int .i64 (s.left - 1))) B p vS vW { s with left := s.left - 1, down := false } := by
        have := h2
        rw [← hd]
        exact this
      have HD := Lib.hid h3
      have HT := Lib.hid t1
      clear h h2 h3 t1 h0 hl h1 hdd k4
      go_enter Try.func33, Try.ntmps33
      go_wp2
      go_ret
      exact ⟨rfl, HD.out, HT.out⟩

set_option maxHeartbeats 1000000 in
theorem pages_calls {w : World} {B p gm : Nat} {vS vW : Value} {s : St} (h : DSt w B p gm vS vW s) :
    Calls Try.prog 21 #[.pointer (some ⟨p, 0, none⟩)] w fun e w' => e = .returned (.int .i64 s.S.length) ∧ w = w' := by
  obtain ⟨A, c, rfl, hc, hl⟩ := h.vS
  have k0 : w.cell? ⟨p, 0, none⟩ = some (.slice A s.S.length c) := (blk_cell h.blk 0).trans rfl
  clear h
  go_enter Try.func21, Try.ntmps21
  go_wp2
  go_ret
  exact ⟨rfl, rfl⟩
set_option maxHeartbeats 1000000 in
theorem down_calls {w : World} {B p gm : Nat} {vS vW : Value} {s : St} (h : DSt w B p gm vS vW s) :
    Calls Try.prog 23 #[.pointer (some ⟨p, 0, none⟩)] w fun e w' => e = .returned (.bool s.down) ∧ w = w' := by
  have k0 : w.cell? ⟨p, 4, none⟩ = some (.bool s.down) := (blk_cell h.blk 4).trans rfl
  clear h
  go_enter Try.func23, Try.ntmps23
  go_wp2
  go_ret
  exact ⟨rfl, rfl⟩
def arm (s : St) (n : Int) : St := { s with left := max n 0 }
set_option maxHeartbeats 1000000 in
theorem arm_calls {w : World} {B p gm : Nat} {vS vW : Value} {s : St} (h : DSt w B p gm vS vW s) (n : Int) (hn : n ≤ 9223372036854775807) :
    Calls Try.prog 22 #[.pointer (some ⟨p, 0, none⟩), .int .i64 n] w fun e w' => e = .returned (.tuple #[]) ∧ DSt w' B p gm vS vW (arm s n) ∧ Turn (DO p gm vS vW) w w' := by
  have f3 := blk_frozen h.blk 3
  have k3 : w.cell? ⟨p, 3, none⟩ = some (.int .i64 s.left) := (blk_cell h.blk 3).trans rfl
  have h2 : ∀ l, l = max n 0 → DSt (w.setCell ⟨p, 3, none⟩ (.int .i64 l)) B p gm vS vW (arm s n) := fun l hl => by rw [hl]; exact h.set3 (max n 0) (by omega)
  have t1 : ∀ l, Turn (DO p gm vS vW) w (w.setCell ⟨p, 3, none⟩ (.int .i64 l)) := fun l => Turn.set w p 3 _ (.inl rfl)
  have HD := Lib.hid h2
  have HT := Lib.hid t1
  clear h h2 t1
  go_enter Try.func22, Try.ntmps22
  go_wp2
  all_goals
    go_end0
    exact ⟨rfl, HD.out _ (by omega), HT.out _⟩
set_option maxHeartbeats 1000000 in
theorem armR_calls {w : World} {B p : Nat} {vS vW : Value} {s : St} (h : RSt w B p vS vW s) (n : Int) (hn : n ≤ 9223372036854775807) :
    Calls Try.prog 26 #[.pointer (some ⟨p, 0, none⟩), .int .i64 n] w fun e w' => e = .returned (.tuple #[]) ∧ RSt w' B p vS vW (arm s n) ∧ Turn (RO p vS vW) w w' := by
  have f3 := blk_frozen h.blk 2
  have k3 : w.cell? ⟨p, 2, none⟩ = some (.int .i64 s.left) := (blk_cell h.blk 2).trans rfl
  have h2 := h.set2 0 (by omega)
  have t1 : Turn (RO p vS vW) w (w.setCell ⟨p, 2, none⟩ (.int .i64 0)) := Turn.set w p 2 _ (.inl rfl)
  by_cases hp : n > 0
  · have d0 : decide (n > 0) = true := decide_eq_true hp
    have d1 : decide (0 < n) = true := decide_eq_true hp
    have h3 := h2.set2 n (by omega)
    have e : arm s n = { s with left := n } := by unfold arm; rw [show max n 0 = n by omega]
    have g4 := blk_frozen h2.blk 2
    have m3 : (w.setCell ⟨p, 2, none⟩ (.int .i64 0)).cell? ⟨p, 2, none⟩ = some (.int .i64 0) := (blk_cell h2.blk 2).trans rfl
    have t2 := t1.trans (Turn.set (O := RO p vS vW) _ p 2 (.int .i64 n) (.inl rfl)) (fun k hk => .inl hk)
    rw [e]
    have HD := Lib.hid h3
    have HT := Lib.hid t2
    clear h h2 h3 t1 t2 hp e
    go_enter Try.func26, Try.ntmps26
    go_wp2
    go_end0
    exact ⟨rfl, HD.out, HT.out⟩
  · have d0 : decide (n > 0) = false := decide_eq_false hp
    have d1 : decide (0 < n) = false := decide_eq_false hp
    have e : arm s n = { s with left := 0 } := by unfold arm; rw [show max n 0 = 0 by omega]
    rw [e]
    have HD := Lib.hid h2
    have HT := Lib.hid t1
    clear h h2 t1 hp e
    go_enter Try.func26, Try.ntmps26
    go_wp2
    go_end0
    exact ⟨rfl, HD.out, HT.out⟩
end Go.Proofs.Ytblacdnndchghaa.D
