/- A value as what it is: a text, a number, a truth, by hand (span.plain); what the assertions on it tell. -/
import Derived.Test.YtkeepnmlphbffaaDoorBlocks
import Derived.Test.YtkeepnmlphbffaaDoorRd
import Derived.Outline
import Derived.Test.YtkeepnmlphbffaaDoorPSpx0
import Derived.Test.YtkeepnmlphbffaaDoorPLowx1
import Derived.Test.YtkeepnmlphbffaaDoorLays
namespace Go.Proofs.YtkeepnmlphbffaaDoor.Span
open Go.RowKit Go.Proofs.YtkeepnmlphbffaaDoorW.PrintWords Go.Proofs.YtkeepnmlphbffaaDoorW.PrintLast Go.Proofs.YtkeepnmlphbffaaDoorW.PrintMore Go.Proofs.YtkeepnmlphbffaaDoor.Math
set_option linter.unusedVariables false
set_option linter.unusedSimpArgs false
/-- What plain tells of a value. -/
def plainV (k : Int) (s : ByteArray) (n : Int) (b : Bool) : Value :=
  if k = 0 then .iface 9 (.string s) else if k = 1 then .iface 2 (.int .i64 n) else if k = 2 then .iface 4 (.bool b) else .nilIface
def val (k : Int) (s : ByteArray) (n : Int) (b : Bool) : Value := .agg #[.int .i64 k, .string s, .int .i64 n, .bool b]
theorem plain_calls (k : Int) (s : ByteArray) (n : Int) (b : Bool) (w : World) :
    Calls Tryd.prog 20 #[val k s n b] w fun e w' => e = .returned (plainV k s n b) ∧ Below w.heap.size w w' := by
  unfold val
  by_cases h0 : k = 0
  · subst h0
    go_enter Tryd.func20, Tryd.ntmps20
    go_wp2
    go_ret
    exact ⟨rfl, below_alloc (Below.refl _ _) _⟩
  · have h0b : (k == 0) = false := beq_eq_false_iff_ne.mpr h0
    by_cases h1 : k = 1
    · subst h1
      go_enter Tryd.func20, Tryd.ntmps20
      go_wp2
      go_ret
      exact ⟨rfl, below_alloc (Below.refl _ _) _⟩
    · have h1b : (k == 1) = false := beq_eq_false_iff_ne.mpr h1
      by_cases h2 : k = 2
      · subst h2
        go_enter Tryd.func20, Tryd.ntmps20
        go_wp2
        go_ret
        exact ⟨rfl, below_alloc (Below.refl _ _) _⟩
      · have h2b : (k == 2) = false := beq_eq_false_iff_ne.mpr h2
        go_enter Tryd.func20, Tryd.ntmps20
        go_wp2
        go_ret
        exact ⟨by unfold plainV; rw [if_neg h0, if_neg h1, if_neg h2]; rfl, below_alloc (Below.refl _ _) _⟩
section
variable (w : World)
theorem ta_s (s : ByteArray) (xT : TypeId) : (Instr.typeAssert (.iface 9 (.string s)) xT 9 true).run Tryd.prog w = .ok (.tuple #[.string s, .bool true]) w := by
  simp [Instr.typeAssert, run_underlying Tryd.underlying9]
theorem ta_s1 (s : ByteArray) (xT : TypeId) : (Instr.typeAssert (.iface 9 (.string s)) xT 9 false).run Tryd.prog w = .ok (.string s) w := by
  simp [Instr.typeAssert, run_underlying Tryd.underlying9]
theorem ta_n (n : Int) (xT : TypeId) : (Instr.typeAssert (.iface 2 (.int .i64 n)) xT 2 true).run Tryd.prog w = .ok (.tuple #[.int .i64 n, .bool true]) w := by
  simp [Instr.typeAssert, run_underlying Tryd.underlying2]
theorem ta_n1 (n : Int) (xT : TypeId) : (Instr.typeAssert (.iface 2 (.int .i64 n)) xT 2 false).run Tryd.prog w = .ok (.int .i64 n) w := by
  simp [Instr.typeAssert, run_underlying Tryd.underlying2]
theorem ta_b (b : Bool) (xT : TypeId) : (Instr.typeAssert (.iface 4 (.bool b)) xT 4 true).run Tryd.prog w = .ok (.tuple #[.bool b, .bool true]) w := by
  simp [Instr.typeAssert, run_underlying Tryd.underlying4]
theorem ta_b1 (b : Bool) (xT : TypeId) : (Instr.typeAssert (.iface 4 (.bool b)) xT 4 false).run Tryd.prog w = .ok (.bool b) w := by
  simp [Instr.typeAssert, run_underlying Tryd.underlying4]
theorem ta_sn (v : Value) (xT : TypeId) : (Instr.typeAssert (.iface 2 v) xT 9 true).run Tryd.prog w = .ok (.tuple #[.string ⟨#[]⟩, .bool false]) w := by
  simp [Instr.typeAssert, run_underlying Tryd.underlying9, Tryd.zeroValue9]
theorem ta_sb (v : Value) (xT : TypeId) : (Instr.typeAssert (.iface 4 v) xT 9 true).run Tryd.prog w = .ok (.tuple #[.string ⟨#[]⟩, .bool false]) w := by
  simp [Instr.typeAssert, run_underlying Tryd.underlying9, Tryd.zeroValue9]
theorem ta_snil (xT : TypeId) : (Instr.typeAssert .nilIface xT 9 true).run Tryd.prog w = .ok (.tuple #[.string ⟨#[]⟩, .bool false]) w := by
  simp [Instr.typeAssert, run_underlying Tryd.underlying9, Tryd.zeroValue9]
theorem ta_nb (v : Value) (xT : TypeId) : (Instr.typeAssert (.iface 4 v) xT 2 true).run Tryd.prog w = .ok (.tuple #[.int .i64 0, .bool false]) w := by
  simp [Instr.typeAssert, run_underlying Tryd.underlying2, Tryd.zeroValue2]
theorem ta_nnil (xT : TypeId) : (Instr.typeAssert .nilIface xT 2 true).run Tryd.prog w = .ok (.tuple #[.int .i64 0, .bool false]) w := by
  simp [Instr.typeAssert, run_underlying Tryd.underlying2, Tryd.zeroValue2]
theorem ta_bnil (xT : TypeId) : (Instr.typeAssert .nilIface xT 4 true).run Tryd.prog w = .ok (.tuple #[.bool false, .bool false]) w := by
  simp [Instr.typeAssert, run_underlying Tryd.underlying4, Tryd.zeroValue4]
end
end Go.Proofs.YtkeepnmlphbffaaDoor.Span

namespace Go.Proofs.YtkeepnmlphbffaaDoor.Span
open Go.RowKit Go.Proofs.YtkeepnmlphbffaaDoorW.PrintWords Go.Proofs.YtkeepnmlphbffaaDoorW.PrintLast Go.Proofs.YtkeepnmlphbffaaDoorW.PrintMore Go.Proofs.YtkeepnmlphbffaaDoor.Math Go.Proofs.YtkeepnmlphbffaaDoor.Runes Go.Proofs.YtkeepnmlphbffaaDoor.Text
open Go.Proofs.YtkeepnmlphbffaaDoor.PLow Go.Proofs.YtkeepnmlphbffaaDoor.PSp
set_option linter.unusedVariables false
set_option linter.unusedSimpArgs false
def timeB (n : Int) : Bool := if n ≥ 0 then decide (n ≤ 1152921504606846976) else false
def rightT (s : ByteArray) : Bool := Lib.validD s.data.toList && (runesI s).all okI
def nameB (s : ByteArray) : Bool := if s.toList = ([] : List UInt8) then false else if (s.size : Int) ≤ 32 then rightT s else false
theorem time_eq (n : Int) : span_mayTime.f n = some (timeB n) := by
  unfold span_mayTime.f timeB
  split <;> rfl
theorem name_eq (s : ByteArray) : span_mayName.f s = some (nameB s) := by
  unfold span_mayName.f nameB
  split
  · rfl
  · split
    · have : text_Right.f s = some (rightT s) := by unfold text_Right.f rightT; rw [if_pos (by omega)]
      rw [this]
      rfl
    · rfl
def evBad (x : S59) : Bool := !(timeB x.f0) || !(nameB x.f1)
def liBad (x : S62) : Bool := x.f0 == 0 || x.f1 == 0
/-- The first place at which p holds, or -1. -/
def fidx {α : Type} (p : α → Bool) : List α → Int → Int
  | [], _ => -1
  | x :: t, k => if p x = true then k else fidx p t (k + 1)
theorem fidx_any {α : Type} (p : α → Bool) : ∀ (l : List α) (k : Int), 0 ≤ k → decide (fidx p l k ≥ 0) = l.any p := by
  intro l
  induction l with
  | nil => intro k _; rfl
  | cons x t ih =>
    intro k hk
    rw [fidx, List.any_cons]
    cases hx : p x with
    | true => rw [if_pos rfl, Bool.true_or]; exact decide_eq_true hk
    | false => rw [if_neg Bool.false_ne_true, Bool.false_or]; exact ih (k + 1) (by omega)
theorem drop_z {α : Type} {l : List α} {z : α} {i : Nat} (h : i < l.length) : l.drop i = l.getD i z :: l.drop (i + 1) := by
  rw [List.drop_eq_getElem_cons h, List.getD_eq_getElem?_getD, List.getElem?_eq_getElem h]
  rfl
set_option maxHeartbeats 1000000 in
theorem ev_calls (x : S59) (w : World) (hT : Tabs w) :
    Calls Tryd.prog 45 #[.agg #[.int .i64 x.f0, .string x.f1]] w fun e w' => e = .returned (.bool (evBad x)) ∧ Below w.heap.size w w' := by
  have HT := Lib.hid hT
  clear hT
  have HB0 := Lib.hid (below_alloc (Below.refl w.heap.size w) (.cells #[.int .i64 x.f0, .string x.f1] 59))
  cases ht : timeB x.f0 with
  | false =>
    have hbad : evBad x = true := by unfold evBad; rw [ht]; rfl
    rw [hbad]
    have H1 := Lib.hid ((time_eq x.f0).trans (congrArg some ht))
    clear ht hbad
    go_enter Tryd.func45, Tryd.ntmps45
    go_wp2_with (first | (go_at_call 31; (with_reducible refine (span_mayTime.calls x.f0 false _ H1.out).mono ?_); rintro e w1 ⟨rfl, hb⟩; have HB1 := Lib.hid (below_step HB0.out hb.below); clear hb))
    go_ret
    exact ⟨rfl, HB1.out⟩
  | true =>
    have H1 := Lib.hid ((time_eq x.f0).trans (congrArg some ht))
    have H2 := Lib.hid (name_eq x.f1)
    have hbad : evBad x = !(nameB x.f1) := by unfold evBad; rw [ht]; rfl
    rw [hbad]
    clear ht hbad
    generalize nameB x.f1 = nb at H2 ⊢
    go_enter Tryd.func45, Tryd.ntmps45
    go_wp2_with (first | (go_at_call 31; (with_reducible refine (span_mayTime.calls x.f0 true _ H1.out).mono ?_); rintro e w1 ⟨rfl, hb⟩; have HB1 := Lib.hid (below_step HB0.out hb.below); have HC1 := Lib.hid (block_below (heap_alloc_new w (.cells #[.int .i64 x.f0, .string x.f1] 59)) hb.below); clear hb; have hcz1 : w1.cell? ⟨w.heap.size, 1, none⟩ = some (.string x.f1) := (blk_cell HC1.out 1).trans rfl) | (go_at_call 30; (with_reducible refine (span_mayName.calls x.f1 nb _ H2.out (tabs_below HT.out HB1.out)).mono ?_); rintro e w2 ⟨rfl, hb⟩; have HB2 := Lib.hid (below_step HB1.out hb); clear hb))
    go_ret
    exact ⟨rfl, HB2.out⟩
set_option maxHeartbeats 1000000 in
theorem li_calls (x : S62) (w : World) :
    Calls Tryd.prog 47 #[.agg #[.int .u64 x.f0, .int .u64 x.f1]] w fun e w' => e = .returned (.bool (liBad x)) ∧ Below w.heap.size w w' := by
  unfold liBad
  cases h0 : x.f0 == 0 with
  | true =>
    go_enter Tryd.func47, Tryd.ntmps47
    go_wp2
    go_ret
    exact ⟨rfl, below_alloc (Below.refl _ _) _⟩
  | false =>
    go_enter Tryd.func47, Tryd.ntmps47
    go_wp2
    go_ret
    exact ⟨rfl, below_alloc (Below.refl _ _) _⟩
set_option maxHeartbeats 1000000 in
theorem ev_index (A : Option Addr) (c : Nat) (l : List S59) (w : World) (h : Kd.C k59 w A l.length l) (hT : Tabs w) :
    Calls Tryd.prog 51 #[.slice A l.length c, .func (.func 45) #[] #[]] w fun e w' => e = .returned (.int .i64 (fidx evBad l 0)) ∧ Below w.heap.size w w' := by
  have hn := h.2.1
  have H := Lib.hid h
  have HT := Lib.hid hT
  have eg : ∀ args w, (callFunc 45 args).run Tryd.prog w = .ok (.enter 45 args) w := fun args w => enters_ Tryd.func45 (by kernel_rfl) rfl args w
  clear h hT
  obtain ⟨R, hR⟩ : ∃ R, R = fidx evBad l 0 := ⟨_, rfl⟩
  rw [← hR]
  have HR := Lib.hid hR
  clear hR
  go_enter Tryd.func51, Tryd.ntmps51
  go_wp2
  go_loopw [5, 8] (fun _ i wr => ∃ k : Nat, k ≤ l.length ∧ i = .int .i64 k ∧ Hid (R = fidx evBad (l.drop k) (k : Int)) ∧ Hid (Below w.heap.size w wr)) (fun _ i _ => l.length - (intOf i).toNat)
  case atStart => exact ⟨0, Nat.zero_le _, rfl, Lib.hid HR.out, Lib.hid (Below.refl _ _)⟩
  case round =>
    obtain ⟨k, hk, rfl, HK, HB⟩ := hrel
    by_cases hlt : k < l.length
    · have hd := drop_z (z := z59) hlt
      have hkk := HK.out
      rw [hd, fidx] at hkk
      obtain ⟨ad, e, hx0, hx1⟩ := at_T59 (Kd.C_below H.out HB.out) (k : Int) (by omega) (by omega)
      subst e
      rw [Int.toNat_natCast] at hx0 hx1
      have hrd : rd_T59 l (k : Int) = l.getD k z59 := rfl
      rw [hrd] at hx0 hx1
      generalize l.getD k z59 = x at *
      have q : (k : Int) < (l.length : Int) := by omega
      clear hrd hd
      cases hbad : evBad x with
      | true =>
        rw [if_pos hbad] at hkk
        have hcl := ev_calls x wr (tabs_below HT.out HB.out)
        rw [hbad] at hcl
        have HCL := Lib.hid hcl
        have HKK := Lib.hid hkk
        clear hcl hkk hbad
        go_wp2_with fail
        refine HCL.out.mono ?_
        rintro e w1 ⟨rfl, hb⟩
        have HB1 := Lib.hid (below_step HB.out hb)
        clear hb
        go_wp2
        go_ret
        exact ⟨by rw [HKK.out]; rfl, HB1.out⟩
      | false =>
        rw [if_neg (by rw [hbad]; exact Bool.false_ne_true)] at hkk
        have hcl := ev_calls x wr (tabs_below HT.out HB.out)
        rw [hbad] at hcl
        have HCL := Lib.hid hcl
        have HKK := Lib.hid hkk
        clear hcl hkk hbad
        go_wp2_with fail
        refine HCL.out.mono ?_
        rintro e w1 ⟨rfl, hb⟩
        have HB1 := Lib.hid (below_step HB.out hb)
        clear hb
        go_wp2
        go_round
        case rel => exact ⟨k + 1, by omega, by go_num, Lib.hid HKK.out, HB1⟩
        case measure => simp [intOf]; omega
    · have hk2 : k = l.length := by omega
      subst hk2
      have hkk := HK.out
      rw [List.drop_length, fidx] at hkk
      have HKK := Lib.hid hkk
      clear hkk
      go_wp2
      go_ret
      exact ⟨by rw [HKK.out]; rfl, HB.out⟩

set_option maxHeartbeats 1000000 in
theorem li_index (A : Option Addr) (c : Nat) (l : List S62) (w : World) (h : Kd.C k62 w A l.length l) :
    Calls Tryd.prog 52 #[.slice A l.length c, .func (.func 47) #[] #[]] w fun e w' => e = .returned (.int .i64 (fidx liBad l 0)) ∧ Below w.heap.size w w' := by
  have hn := h.2.1
  have H := Lib.hid h

  have eg : ∀ args w, (callFunc 47 args).run Tryd.prog w = .ok (.enter 47 args) w := fun args w => enters_ Tryd.func47 (by kernel_rfl) rfl args w
  clear h
  obtain ⟨R, hR⟩ : ∃ R, R = fidx liBad l 0 := ⟨_, rfl⟩
  rw [← hR]
  have HR := Lib.hid hR
  clear hR
  go_enter Tryd.func52, Tryd.ntmps52
  go_wp2
  go_loopw [5, 8] (fun _ i wr => ∃ k : Nat, k ≤ l.length ∧ i = .int .i64 k ∧ Hid (R = fidx liBad (l.drop k) (k : Int)) ∧ Hid (Below w.heap.size w wr)) (fun _ i _ => l.length - (intOf i).toNat)
  case atStart => exact ⟨0, Nat.zero_le _, rfl, Lib.hid HR.out, Lib.hid (Below.refl _ _)⟩
  case round =>
    obtain ⟨k, hk, rfl, HK, HB⟩ := hrel
    by_cases hlt : k < l.length
    · have hd := drop_z (z := z62) hlt
      have hkk := HK.out
      rw [hd, fidx] at hkk
      obtain ⟨ad, e, hx0, hx1⟩ := at_T62 (Kd.C_below H.out HB.out) (k : Int) (by omega) (by omega)
      subst e
      rw [Int.toNat_natCast] at hx0 hx1
      have hrd : rd_T62 l (k : Int) = l.getD k z62 := rfl
      rw [hrd] at hx0 hx1
      generalize l.getD k z62 = x at *
      have q : (k : Int) < (l.length : Int) := by omega
      clear hrd hd
      cases hbad : liBad x with
      | true =>
        rw [if_pos hbad] at hkk
        have hcl := li_calls x wr
        rw [hbad] at hcl
        have HCL := Lib.hid hcl
        have HKK := Lib.hid hkk
        clear hcl hkk hbad
        go_wp2_with fail
        refine HCL.out.mono ?_
        rintro e w1 ⟨rfl, hb⟩
        have HB1 := Lib.hid (below_step HB.out hb)
        clear hb
        go_wp2
        go_ret
        exact ⟨by rw [HKK.out]; rfl, HB1.out⟩
      | false =>
        rw [if_neg (by rw [hbad]; exact Bool.false_ne_true)] at hkk
        have hcl := li_calls x wr
        rw [hbad] at hcl
        have HCL := Lib.hid hcl
        have HKK := Lib.hid hkk
        clear hcl hkk hbad
        go_wp2_with fail
        refine HCL.out.mono ?_
        rintro e w1 ⟨rfl, hb⟩
        have HB1 := Lib.hid (below_step HB.out hb)
        clear hb
        go_wp2
        go_round
        case rel => exact ⟨k + 1, by omega, by go_num, Lib.hid HKK.out, HB1⟩
        case measure => simp [intOf]; omega
    · have hk2 : k = l.length := by omega
      subst hk2
      have hkk := HK.out
      rw [List.drop_length, fidx] at hkk
      have HKK := Lib.hid hkk
      clear hkk
      go_wp2
      go_ret
      exact ⟨by rw [HKK.out]; rfl, HB.out⟩
set_option maxHeartbeats 1000000 in
theorem ev_contains (A : Option Addr) (c : Nat) (l : List S59) (w : World) (h : Kd.C k59 w A l.length l) (hT : Tabs w) :
    Calls Tryd.prog 44 #[.slice A l.length c, .func (.func 45) #[] #[]] w fun e w' => e = .returned (.bool (l.any evBad)) ∧ Below w.heap.size w w' := by
  have hi := ev_index A c l w h hT
  rw [← fidx_any evBad l 0 (by omega)]
  generalize fidx evBad l 0 = R at hi ⊢
  have HI := Lib.hid hi
  clear hi h hT
  go_enter Tryd.func44, Tryd.ntmps44
  go_wp2_with (go_at_call 51; refine HI.out.mono ?_; rintro e w1 ⟨rfl, hb⟩; have HB1 := Lib.hid hb; clear hb)
  go_ret
  exact ⟨rfl, HB1.out⟩
set_option maxHeartbeats 1000000 in
theorem evs_calls (A : Option Addr) (c : Nat) (l : List S59) (w : World) (h : Kd.C k59 w A l.length l) (hT : Tabs w) :
    Calls Tryd.prog 33 #[.slice A l.length c] w fun e w' => e = .returned (.bool (decide ((l.length : Int) ≤ 16) && !(l.any evBad))) ∧ Below w.heap.size w w' := by
  have hc := ev_contains A c l w h hT
  generalize l.any evBad = b at hc ⊢
  have HC := Lib.hid hc
  clear hc h hT
  by_cases hl : (l.length : Int) ≤ 16
  · have hd : decide ((l.length : Int) ≤ 16) = true := decide_eq_true hl
    rw [hd, Bool.true_and]
    clear hl
    go_enter Tryd.func33, Tryd.ntmps33
    go_wp2_with (go_at_call 44; refine HC.out.mono ?_; rintro e w1 ⟨rfl, hb⟩; have HB1 := Lib.hid hb; clear hb)
    go_ret
    exact ⟨rfl, HB1.out⟩
  · have hd : decide ((l.length : Int) ≤ 16) = false := decide_eq_false hl
    rw [hd, Bool.false_and]
    clear hl
    go_enter Tryd.func33, Tryd.ntmps33
    go_wp2
    go_ret
    exact ⟨rfl, Below.refl _ _⟩
set_option maxHeartbeats 1000000 in
theorem li_contains (A : Option Addr) (c : Nat) (l : List S62) (w : World) (h : Kd.C k62 w A l.length l) :
    Calls Tryd.prog 46 #[.slice A l.length c, .func (.func 47) #[] #[]] w fun e w' => e = .returned (.bool (l.any liBad)) ∧ Below w.heap.size w w' := by
  have hi := li_index A c l w h
  rw [← fidx_any liBad l 0 (by omega)]
  generalize fidx liBad l 0 = R at hi ⊢
  have HI := Lib.hid hi
  clear hi h
  go_enter Tryd.func46, Tryd.ntmps46
  go_wp2_with (go_at_call 52; refine HI.out.mono ?_; rintro e w1 ⟨rfl, hb⟩; have HB1 := Lib.hid hb; clear hb)
  go_ret
  exact ⟨rfl, HB1.out⟩
set_option maxHeartbeats 1000000 in
theorem lis_calls (A : Option Addr) (c : Nat) (l : List S62) (w : World) (h : Kd.C k62 w A l.length l) :
    Calls Tryd.prog 34 #[.slice A l.length c] w fun e w' => e = .returned (.bool (decide ((l.length : Int) ≤ 16) && !(l.any liBad))) ∧ Below w.heap.size w w' := by
  have hc := li_contains A c l w h
  generalize l.any liBad = b at hc ⊢
  have HC := Lib.hid hc
  clear hc h
  by_cases hl : (l.length : Int) ≤ 16
  · have hd : decide ((l.length : Int) ≤ 16) = true := decide_eq_true hl
    rw [hd, Bool.true_and]
    clear hl
    go_enter Tryd.func34, Tryd.ntmps34
    go_wp2_with (go_at_call 46; refine HC.out.mono ?_; rintro e w1 ⟨rfl, hb⟩; have HB1 := Lib.hid hb; clear hb)
    go_ret
    exact ⟨rfl, HB1.out⟩
  · have hd : decide ((l.length : Int) ≤ 16) = false := decide_eq_false hl
    rw [hd, Bool.false_and]
    clear hl
    go_enter Tryd.func34, Tryd.ntmps34
    go_wp2
    go_ret
    exact ⟨rfl, Below.refl _ _⟩
end Go.Proofs.YtkeepnmlphbffaaDoor.Span

namespace Go.Proofs.YtkeepnmlphbffaaDoor.Span
open Go.RowKit Go.Proofs.YtkeepnmlphbffaaDoorW.PrintWords Go.Proofs.YtkeepnmlphbffaaDoorW.PrintLast Go.Proofs.YtkeepnmlphbffaaDoorW.PrintMore Go.Proofs.YtkeepnmlphbffaaDoor.Math Go.Proofs.YtkeepnmlphbffaaDoor.Runes Go.Proofs.YtkeepnmlphbffaaDoor.Text
set_option linter.unusedVariables false
set_option linter.unusedSimpArgs false
/-- A value's bare form is the value. -/
def bareB (k : Int) (s : ByteArray) (n : Int) (b : Bool) : Bool :=
  if k = 0 then (n == 0) && !b else if k = 1 then (s.toList == ([] : List UInt8)) && !b else if k = 2 then (s.toList == ([] : List UInt8)) && (n == 0) else false
def mvB (k : Int) (s : ByteArray) (n : Int) (b : Bool) : Bool := bareB k s n b && (decide ((s.size : Int) ≤ 200) && rightT s)
theorem right_eq (s : ByteArray) (h : (s.size : Int) ≤ 200) : text_Right.f s = some (rightT s) := by unfold text_Right.f rightT; rw [if_pos (by omega)]
theorem nil_of (s : ByteArray) (h : s.toList = ([] : List UInt8)) : s = ⟨#[]⟩ := by
  ext1
  apply Array.ext'
  rw [← ByteArray.toList_eq, h]
set_option maxHeartbeats 4000000 in
set_option maxRecDepth 100000 in
theorem mayValue_calls (k : Int) (s : ByteArray) (n : Int) (b : Bool) (w : World) (hT : Tabs w) :
    Calls Tryd.prog 11 #[.agg #[.int .i64 k, .string s, .int .i64 n, .bool b]] w fun e w' => e = .returned (.bool (mvB k s n b)) ∧ Below w.heap.size w w' := by
  have hu23 := Tryd.underlying23
  have HT := Lib.hid hT
  clear hT
  unfold mvB
  by_cases h0 : k = 0
  · subst h0
    have hbb : bareB 0 s n b = ((n == 0) && !b) := rfl
    rw [hbb]
    clear hbb
    cases hn : n == 0 with
    | false =>
      rw [Bool.false_and]
      rw [Bool.false_and]
      go_enter Tryd.func11, Tryd.ntmps11
      go_wp2
      go_ret
      exact ⟨rfl, (by repeat (first | exact Below.refl _ _ | apply below_alloc))⟩
    | true =>
      obtain rfl := beq_iff_eq.mp hn
      clear hn
      cases b with
      | true =>
        have hz : (true && !true) = false := rfl
        rw [hz]
        rw [Bool.false_and]
        go_enter Tryd.func11, Tryd.ntmps11
        go_wp2
        go_ret
        exact ⟨rfl, (by repeat (first | exact Below.refl _ _ | apply below_alloc))⟩
      | false =>
        have hz : (true && !false) = true := rfl
        rw [hz, Bool.true_and]
        by_cases hs : (s.size : Int) ≤ 200
        · have hd : decide ((s.size : Int) ≤ 200) = true := decide_eq_true hs
          have HR := Lib.hid (right_eq s hs)
          rw [hd, Bool.true_and]
          clear hz hs
          generalize rightT s = r at HR ⊢
          go_enter Tryd.func11, Tryd.ntmps11
          go_wp2_with (first | (go_at_call 26; (with_reducible refine (text_Right.calls s r _ HR.out (tabs_below HT.out (by repeat (first | exact Below.refl _ _ | apply below_alloc)))).mono ?_); rintro e w1 ⟨rfl, hb⟩; have HB1 := Lib.hid (below_step (w := w) (by repeat (first | exact Below.refl _ _ | apply below_alloc)) hb); clear hb))
          go_ret
          exact ⟨rfl, HB1.out⟩
        · have hd : decide ((s.size : Int) ≤ 200) = false := decide_eq_false hs
          rw [hd]
          clear hz hs
          rw [Bool.false_and]
          go_enter Tryd.func11, Tryd.ntmps11
          go_wp2
          go_ret
          exact ⟨rfl, (by repeat (first | exact Below.refl _ _ | apply below_alloc))⟩
  · have h0b : (k == 0) = false := beq_eq_false_iff_ne.mpr h0
    by_cases h1 : k = 1
    · subst h1
      have hbb : bareB 1 s n b = ((s.toList == ([] : List UInt8)) && !b) := rfl
      rw [hbb]
      clear hbb h0 h0b
      by_cases hs : s.toList = ([] : List UInt8)
      · obtain rfl := nil_of s hs
        have hz : ((⟨#[]⟩ : ByteArray).toList == ([] : List UInt8)) = true := by rw [hs]; rfl
        rw [hz]
        clear hz hs
        cases b with
        | true =>
          have hz : (true && !true) = false := rfl
          rw [hz]
          clear hz
          rw [Bool.false_and]
          go_enter Tryd.func11, Tryd.ntmps11
          go_wp2
          go_ret
          exact ⟨rfl, (by repeat (first | exact Below.refl _ _ | apply below_alloc))⟩
        | false =>
          have hz : (true && !false) = true := rfl
          have hd : decide (((⟨#[]⟩ : ByteArray).size : Int) ≤ 200) = true := rfl
          have HR := Lib.hid (right_eq ⟨#[]⟩ (by decide))
          rw [hz, Bool.true_and, hd, Bool.true_and]
          clear hz hd
          generalize rightT ⟨#[]⟩ = r at HR ⊢
          go_enter Tryd.func11, Tryd.ntmps11
          go_wp2_with (first | (go_at_call 26; (with_reducible refine (text_Right.calls ⟨#[]⟩ r _ HR.out (tabs_below HT.out (by repeat (first | exact Below.refl _ _ | apply below_alloc)))).mono ?_); rintro e w1 ⟨rfl, hb⟩; have HB1 := Lib.hid (below_step (w := w) (by repeat (first | exact Below.refl _ _ | apply below_alloc)) hb); clear hb))
          go_ret
          exact ⟨rfl, HB1.out⟩
      · have hsb : (s.toList == ([] : List UInt8)) = false := beq_eq_false_iff_ne.mpr hs
        rw [hsb, Bool.false_and]
        clear hs
        rw [Bool.false_and]
        go_enter Tryd.func11, Tryd.ntmps11
        go_wp2
        go_ret
        exact ⟨rfl, (by repeat (first | exact Below.refl _ _ | apply below_alloc))⟩
    · have h1b : (k == 1) = false := beq_eq_false_iff_ne.mpr h1
      by_cases h2 : k = 2
      · subst h2
        have hbb : bareB 2 s n b = ((s.toList == ([] : List UInt8)) && (n == 0)) := rfl
        rw [hbb]
        clear hbb h0 h0b h1 h1b
        by_cases hs : s.toList = ([] : List UInt8)
        · obtain rfl := nil_of s hs
          have hz : ((⟨#[]⟩ : ByteArray).toList == ([] : List UInt8)) = true := by rw [hs]; rfl
          rw [hz]
          clear hz hs
          cases hn : n == 0 with
          | false =>
            rw [Bool.true_and]
            rw [Bool.false_and]
            go_enter Tryd.func11, Tryd.ntmps11
            go_wp2
            go_ret
            exact ⟨rfl, (by repeat (first | exact Below.refl _ _ | apply below_alloc))⟩
          | true =>
            obtain rfl := beq_iff_eq.mp hn
            clear hn
            have hd : decide (((⟨#[]⟩ : ByteArray).size : Int) ≤ 200) = true := rfl
            have HR := Lib.hid (right_eq ⟨#[]⟩ (by decide))
            rw [Bool.true_and, Bool.true_and, hd, Bool.true_and]
            clear hd
            generalize rightT ⟨#[]⟩ = r at HR ⊢
            go_enter Tryd.func11, Tryd.ntmps11
            go_wp2_with (first | (go_at_call 26; (with_reducible refine (text_Right.calls ⟨#[]⟩ r _ HR.out (tabs_below HT.out (by repeat (first | exact Below.refl _ _ | apply below_alloc)))).mono ?_); rintro e w1 ⟨rfl, hb⟩; have HB1 := Lib.hid (below_step (w := w) (by repeat (first | exact Below.refl _ _ | apply below_alloc)) hb); clear hb))
            go_ret
            exact ⟨rfl, HB1.out⟩
        · have hsb : (s.toList == ([] : List UInt8)) = false := beq_eq_false_iff_ne.mpr hs
          rw [hsb, Bool.false_and]
          clear hs
          rw [Bool.false_and]
          go_enter Tryd.func11, Tryd.ntmps11
          go_wp2
          go_ret
          exact ⟨rfl, (by repeat (first | exact Below.refl _ _ | apply below_alloc))⟩
      · have h2b : (k == 2) = false := beq_eq_false_iff_ne.mpr h2
        have hbb : bareB k s n b = false := by unfold bareB; rw [if_neg h0, if_neg h1, if_neg h2]
        rw [hbb]
        clear hbb h0 h1 h2
        rw [Bool.false_and]
        go_enter Tryd.func11, Tryd.ntmps11
        go_wp2
        go_ret
        exact ⟨rfl, (by repeat (first | exact Below.refl _ _ | apply below_alloc))⟩
end Go.Proofs.YtkeepnmlphbffaaDoor.Span

namespace Go.Proofs.YtkeepnmlphbffaaDoor.Span
open Go.RowKit Go.Proofs.YtkeepnmlphbffaaDoorW.PrintWords Go.Proofs.YtkeepnmlphbffaaDoorW.PrintLast Go.Proofs.YtkeepnmlphbffaaDoorW.PrintMore Go.Proofs.YtkeepnmlphbffaaDoor.Math
open Go.Proofs.YtkeepnmlphbffaaDoor.PLow
attribute [local go_sem] ta_s ta_s1 ta_n ta_n1 ta_b ta_b1 ta_sn ta_sb ta_snil ta_nb ta_nnil ta_bnil
set_option linter.unusedVariables false
set_option linter.unusedSimpArgs false
def cmpI (a b : Int) : Int := if a < b then -1 else if a > b then 1 else 0
def b2i (b : Bool) : Int := if b = true then 1 else 0
/-- How two values stand. -/
def cmpV (k0 : Int) (s0 : ByteArray) (n0 : Int) (b0 : Bool) (k1 : Int) (s1 : ByteArray) (n1 : Int) (b1 : Bool) : Int × Bool :=
  if k0 = k1 then (if k0 = 0 then (Lib.compareBytes s0.data.toList s1.data.toList, true) else if k0 = 1 then (cmpI n0 n1, true) else if k0 = 2 then (cmpI (b2i b0) (b2i b1), true) else (0, false)) else (0, false)
theorem cmp64 (a b : Int) : cmp_Compare_int64.f a b = some (cmpI a b) := by
  unfold cmp_Compare_int64.f cmp_isNaN_int64.f cmpI
  simp
  split
  · rfl
  · split <;> rfl
theorem cmpInt (a b : Int) : cmp_Compare_int.f a b = some (cmpI a b) := by
  unfold cmp_Compare_int.f cmp_isNaN_int.f cmpI
  simp
  split
  · rfl
  · split <;> rfl
theorem orderB (b : Bool) : span_order.f b = some (b2i b) := by
  unfold span_order.f b2i
  split <;> rfl
theorem strcmp_calls (a b : ByteArray) (w : World) :
    Calls Tryd.prog 21 #[.string a, .string b] w fun e w' => e = .returned (.int .i64 (Lib.compareBytes a.data.toList b.data.toList)) ∧ w' = w := by
  have h := Any.strings_Compare Tryd.laysCompare a b w
  change Calls Tryd.prog 21 _ _ _ at h
  exact h
set_option maxHeartbeats 4000000 in
set_option maxRecDepth 100000 in
theorem compare_calls (k0 : Int) (s0 : ByteArray) (n0 : Int) (b0 : Bool) (k1 : Int) (s1 : ByteArray) (n1 : Int) (b1 : Bool) (w : World) :
    Calls Tryd.prog 9 #[val k0 s0 n0 b0, val k1 s1 n1 b1] w fun e w' => e = .returned (.tuple #[.int .i64 (cmpV k0 s0 n0 b0 k1 s1 n1 b1).1, .bool (cmpV k0 s0 n0 b0 k1 s1 n1 b1).2]) ∧ Below w.heap.size w w' := by
  by_cases hk : k0 = k1
  · subst hk
    have hkb : (k0 != k0) = false := bne_self_eq_false k0
    obtain ⟨X0, hX0⟩ : ∃ X, X = plainV k0 s0 n0 b0 := ⟨_, rfl⟩
    obtain ⟨X1, hX1⟩ : ∃ X, X = plainV k0 s1 n1 b1 := ⟨_, rfl⟩
    have hp0 : ∀ w, Calls Tryd.prog 20 #[.agg #[.int .i64 k0, .string s0, .int .i64 n0, .bool b0]] w fun e w' => e = .returned X0 ∧ Below w.heap.size w w' := fun w => by rw [hX0]; exact plain_calls k0 s0 n0 b0 w
    have hp1 : ∀ w, Calls Tryd.prog 20 #[.agg #[.int .i64 k0, .string s1, .int .i64 n1, .bool b1]] w fun e w' => e = .returned X1 ∧ Below w.heap.size w w' := fun w => by rw [hX1]; exact plain_calls k0 s1 n1 b1 w
    have HP0 := Lib.hid hp0
    have HP1 := Lib.hid hp1
    have HX0 := Lib.hid hX0
    have HX1 := Lib.hid hX1
    clear hp0 hp1 hX0 hX1
    have ha := heap_alloc2_old w (.cells #[.int .i64 k0, .string s0, .int .i64 n0, .bool b0] 23) (.cells #[.int .i64 k0, .string s1, .int .i64 n1, .bool b1] 23)
    have hb := heap_alloc2_new w (.cells #[.int .i64 k0, .string s0, .int .i64 n0, .bool b0] 23) (.cells #[.int .i64 k0, .string s1, .int .i64 n1, .bool b1] 23)
    have HBW := Lib.hid (below_alloc (below_alloc (Below.refl w.heap.size w) (.cells #[.int .i64 k0, .string s0, .int .i64 n0, .bool b0] 23)) (.cells #[.int .i64 k0, .string s1, .int .i64 n1, .bool b1] 23))
    have HA := Lib.hid ha
    have HB := Lib.hid hb
    clear ha hb
    unfold val
    go_enter Tryd.func9, Tryd.ntmps9
    go_wp2
    have ha := blk_drew HA.out
    have hb := blk_drew HB.out
    have hbw := HBW.out.drew
    clear HA HB HBW
    refine start_ (n := 6) (S := fun w' => w'.cell? ⟨w.heap.size, 0, none⟩ = some (.int .i64 k0) ∧ w'.cell? ⟨w.heap.size, 1, none⟩ = some (.string s0) ∧ w'.cell? ⟨w.heap.size, 2, none⟩ = some (.int .i64 n0) ∧ w'.cell? ⟨w.heap.size, 3, none⟩ = some (.bool b0) ∧ w'.cell? ⟨w.heap.size + 1, 0, none⟩ = some (.int .i64 k0) ∧ w'.cell? ⟨w.heap.size + 1, 1, none⟩ = some (.string s1) ∧ w'.cell? ⟨w.heap.size + 1, 2, none⟩ = some (.int .i64 n1) ∧ w'.cell? ⟨w.heap.size + 1, 3, none⟩ = some (.bool b1)) (ds := []) #[false, false, false, false, false, false] (by kernel_rfl) rfl rfl ⟨(blk_cell ha 0).trans rfl, (blk_cell ha 1).trans rfl, (blk_cell ha 2).trans rfl, (blk_cell ha 3).trans rfl, (blk_cell hb 0).trans rfl, (blk_cell hb 1).trans rfl, (blk_cell hb 2).trans rfl, (blk_cell hb 3).trans rfl⟩ (fun hHeld => ?_)
    generalize ((w.alloc (.cells #[.int .i64 k0, .string s0, .int .i64 n0, .bool b0] 23)).alloc (.cells #[.int .i64 k0, .string s1, .int .i64 n1, .bool b1] 23)).drew = w5 at ha hb hbw hHeld ⊢
    have HA5 := Lib.hid ha
    have HB5 := Lib.hid hb
    have HBW5 := Lib.hid hbw
    clear ha hb hbw
    refine take_ (i := 0) (N := some 19) (v := ?_) (a' := ?_) #[true, false, false, false, false, false] rfl rfl (by kernel_rfl) (fun _ _ _ h => h) (Or.inl ⟨by rfl, ?_⟩) hHeld ?_ ?_
    rotate_left
    · rintro w' ⟨s0, s1, s2, s3, s4, s5, s6, s7⟩
      go_simp
      with_reducible rfl
    rotate_left
    · simp only [Act.put, List.setIfInBounds_toArray, List.set_cons_zero, List.set_cons_succ, i64_w, i32_w]
      rfl
    refine take_ (i := 2) (N := some 21) (v := ?_) (a' := ?_) #[true, false, true, false, false, false] rfl rfl (by kernel_rfl) (fun _ _ _ h => h) (Or.inl ⟨by rfl, ?_⟩) hHeld ?_ ?_
    rotate_left
    · rintro w' ⟨s0, s1, s2, s3, s4, s5, s6, s7⟩
      go_simp
      with_reducible rfl
    rotate_left
    · simp only [Act.put, List.setIfInBounds_toArray, List.set_cons_zero, List.set_cons_succ, i64_w, i32_w]
      rfl
    refine one_ (i := 1) (N := some 20) #[true, true, true, false, false, false] rfl rfl (by kernel_rfl) (by decide) (fun K hK => ?_)
    refine goes_ Tryd.func20 (by kernel_rfl) rfl #[.agg #[.int .i64 k0, .string s0, .int .i64 n0, .bool b0]] (by rfl) rfl rfl (by simp only [List.map_toArray, List.map_cons, List.map_nil]; rfl) ?_
    with_reducible refine (HP0.out _).mono ?_
    rintro e w6 ⟨rfl, hb6⟩
    refine ⟨_, rfl, ?_⟩
    have HA6 := Lib.hid (block_below HA5.out hb6)
    have HB6 := Lib.hid (block_below HB5.out hb6)
    have HBW6 := Lib.hid (below_step HBW5.out hb6)
    clear hb6
    refine hK.out _ _ ⟨(blk_cell HA6.out 0).trans rfl, (blk_cell HA6.out 1).trans rfl, (blk_cell HA6.out 2).trans rfl, (blk_cell HA6.out 3).trans rfl, (blk_cell HB6.out 0).trans rfl, (blk_cell HB6.out 1).trans rfl, (blk_cell HB6.out 2).trans rfl, (blk_cell HB6.out 3).trans rfl⟩ (fun hHeld => ?_)
    clear hK K
    refine norm_ (a' := ?_) ?_ ?_
    rotate_left
    · show Act.put _ (some 20) _ = _
      simp only [Act.put, List.setIfInBounds_toArray, List.set_cons_zero, List.set_cons_succ, i64_w, i32_w]
      rfl
    refine one_ (i := 3) (N := some 22) #[true, true, true, true, false, false] rfl rfl (by kernel_rfl) (by decide) (fun K hK => ?_)
    refine goes_ Tryd.func20 (by kernel_rfl) rfl #[.agg #[.int .i64 k0, .string s1, .int .i64 n1, .bool b1]] (by rfl) rfl rfl (by simp only [List.map_toArray, List.map_cons, List.map_nil]; rfl) ?_
    with_reducible refine (HP1.out _).mono ?_
    rintro e w7 ⟨rfl, hb7⟩
    refine ⟨_, rfl, ?_⟩
    have HA7 := Lib.hid (block_below HA6.out hb7)
    have HB7 := Lib.hid (block_below HB6.out hb7)
    have HBW7 := Lib.hid (below_step HBW6.out hb7)
    clear hb7
    refine hK.out _ _ ⟨(blk_cell HA7.out 0).trans rfl, (blk_cell HA7.out 1).trans rfl, (blk_cell HA7.out 2).trans rfl, (blk_cell HA7.out 3).trans rfl, (blk_cell HB7.out 0).trans rfl, (blk_cell HB7.out 1).trans rfl, (blk_cell HB7.out 2).trans rfl, (blk_cell HB7.out 3).trans rfl⟩ (fun hHeld => ?_)
    clear hK K
    refine norm_ (a' := ?_) ?_ ?_
    rotate_left
    · show Act.put _ (some 22) _ = _
      simp only [Act.put, List.setIfInBounds_toArray, List.set_cons_zero, List.set_cons_succ, i64_w, i32_w]
      rfl
    refine pure_ (i := 4) (N := some 6) (v := ?_) (a' := ?_) #[true, true, true, true, true, false] rfl rfl (by kernel_rfl) (fun _ _ _ h => h) (Or.inl ⟨by rfl, ?_⟩) ?_ ?_
    rotate_left
    · intro w'
      go_simp
      with_reducible rfl
    rotate_left
    · simp only [Act.put, List.setIfInBounds_toArray, List.set_cons_zero, List.set_cons_succ, i64_w, i32_w]
      rfl
    refine pure_ (i := 5) (N := some 7) (v := ?_) (a' := ?_) #[true, true, true, true, true, true] rfl rfl (by kernel_rfl) (fun _ _ _ h => h) (Or.inl ⟨by rfl, ?_⟩) ?_ ?_
    rotate_left
    · intro w'
      go_simp
      with_reducible rfl
    rotate_left
    · simp only [Act.put, List.setIfInBounds_toArray, List.set_cons_zero, List.set_cons_succ, i64_w, i32_w]
      rfl
    refine done_ (by kernel_rfl) ?_
    have hx0 := HX0.out
    have hx1 := HX1.out
    have hbw := HBW7.out
    clear HA5 HB5 HBW5 HA6 HB6 HBW6 HA7 HB7 HBW7 HP0 HP1 HX0 HX1
    by_cases h0 : k0 = 0
    · subst h0
      have e0 : X0 = .iface 9 (.string s0) := hx0
      have e1 : X1 = .iface 9 (.string s1) := hx1
      have hc : cmpV 0 s0 n0 b0 0 s1 n1 b1 = (Lib.compareBytes s0.data.toList s1.data.toList, true) := rfl
      have HC := Lib.hid hc
      clear hx0 hx1 hc
      subst e0 e1
      have HBW := Lib.hid hbw
      clear hbw
      go_wp2_with (first | (go_at_call 21; (with_reducible refine (strcmp_calls s0 s1 _).mono ?_); rintro e w8 ⟨rfl, rfl⟩))
      go_ret2
      exact ⟨by rw [HC.out]; rfl, HBW.out⟩
    · by_cases h1 : k0 = 1
      · subst h1
        have e0 : X0 = .iface 2 (.int .i64 n0) := hx0
        have e1 : X1 = .iface 2 (.int .i64 n1) := hx1
        have hc : cmpV 1 s0 n0 b0 1 s1 n1 b1 = (cmpI n0 n1, true) := rfl
        have HC := Lib.hid hc
        clear hx0 hx1 hc
        subst e0 e1
        have HBW := Lib.hid hbw
        clear hbw
        go_wp2_with (first | (go_at_call 22; (with_reducible refine (cmp_Compare_int64.calls n0 n1 _ _ (cmp64 n0 n1)).mono ?_); rintro e w8 ⟨rfl, hb8⟩; have HBW8 := Lib.hid (below_step HBW.out hb8.below); clear hb8))
        go_ret2
        exact ⟨by rw [HC.out]; rfl, HBW8.out⟩
      · by_cases h2 : k0 = 2
        · subst h2
          have e0 : X0 = .iface 4 (.bool b0) := hx0
          have e1 : X1 = .iface 4 (.bool b1) := hx1
          have hc : cmpV 2 s0 n0 b0 2 s1 n1 b1 = (cmpI (b2i b0) (b2i b1), true) := rfl
          have HC := Lib.hid hc
          clear hx0 hx1 hc
          subst e0 e1
          have HBW := Lib.hid hbw
          clear hbw
          go_wp2
          have hbw := HBW.out.drew
          clear HBW
          refine start_ (n := 8) (S := fun w' => True) (ds := []) #[false, false, false, false, false, false, false, false] (by kernel_rfl) rfl rfl trivial (fun hHeld => ?_)
          generalize w7.drew = w8 at hbw ⊢
          have HBW8 := Lib.hid hbw
          clear hbw
          refine pure_ (i := 0) (N := some 49) (v := ?_) (a' := ?_) #[true, false, false, false, false, false, false, false] rfl rfl (by kernel_rfl) (fun _ _ _ h => h) (Or.inl ⟨by rfl, ?_⟩) ?_ ?_
          rotate_left
          · intro w'
            go_simp
            with_reducible rfl
          rotate_left
          · simp only [Act.put, List.setIfInBounds_toArray, List.set_cons_zero, List.set_cons_succ, i64_w, i32_w]
            rfl
          refine pure_ (i := 2) (N := some 51) (v := ?_) (a' := ?_) #[true, false, true, false, false, false, false, false] rfl rfl (by kernel_rfl) (fun _ _ _ h => h) (Or.inl ⟨by rfl, ?_⟩) ?_ ?_
          rotate_left
          · intro w'
            go_simp
            with_reducible rfl
          rotate_left
          · simp only [Act.put, List.setIfInBounds_toArray, List.set_cons_zero, List.set_cons_succ, i64_w, i32_w]
            rfl
          refine pure_ (i := 3) (N := some 52) (v := ?_) (a' := ?_) #[true, false, true, true, false, false, false, false] rfl rfl (by kernel_rfl) (fun _ _ _ h => h) (Or.inl ⟨by rfl, ?_⟩) ?_ ?_
          rotate_left
          · intro w'
            go_simp
            with_reducible rfl
          rotate_left
          · simp only [Act.put, List.setIfInBounds_toArray, List.set_cons_zero, List.set_cons_succ, i64_w, i32_w]
            rfl
          refine one_ (i := 1) (N := some 50) #[true, true, true, true, false, false, false, false] rfl rfl (by kernel_rfl) (by decide) (fun K hK => ?_)
          refine goes_ Tryd.func24 (by kernel_rfl) rfl #[.bool b0] (by rfl) rfl rfl (by simp only [List.map_toArray, List.map_cons, List.map_nil]; rfl) ?_
          with_reducible refine (span_order.calls b0 _ _ (orderB b0)).mono ?_
          rintro e w9 ⟨rfl, hb9⟩
          refine ⟨_, rfl, ?_⟩
          have HBW9 := Lib.hid (below_step HBW8.out hb9.below)
          clear hb9
          refine hK.out _ _ trivial (fun hHeld => ?_)
          clear hK K
          refine norm_ (a' := ?_) ?_ ?_
          rotate_left
          · show Act.put _ (some 50) _ = _
            simp only [Act.put, List.setIfInBounds_toArray, List.set_cons_zero, List.set_cons_succ, i64_w, i32_w]
            rfl
          refine one_ (i := 4) (N := some 53) #[true, true, true, true, true, false, false, false] rfl rfl (by kernel_rfl) (by decide) (fun K hK => ?_)
          refine goes_ Tryd.func24 (by kernel_rfl) rfl #[.bool b1] (by rfl) rfl rfl (by simp only [List.map_toArray, List.map_cons, List.map_nil]; rfl) ?_
          with_reducible refine (span_order.calls b1 _ _ (orderB b1)).mono ?_
          rintro e w10 ⟨rfl, hb10⟩
          refine ⟨_, rfl, ?_⟩
          have HBW10 := Lib.hid (below_step HBW9.out hb10.below)
          clear hb10
          refine hK.out _ _ trivial (fun hHeld => ?_)
          clear hK K
          refine norm_ (a' := ?_) ?_ ?_
          rotate_left
          · show Act.put _ (some 53) _ = _
            simp only [Act.put, List.setIfInBounds_toArray, List.set_cons_zero, List.set_cons_succ, i64_w, i32_w]
            rfl
          refine one_ (i := 5) (N := some 54) #[true, true, true, true, true, true, false, false] rfl rfl (by kernel_rfl) (by decide) (fun K hK => ?_)
          refine goes_ Tryd.func23 (by kernel_rfl) rfl #[.int .i64 (b2i b0), .int .i64 (b2i b1)] (by rfl) rfl rfl (by simp only [List.map_toArray, List.map_cons, List.map_nil]; rfl) ?_
          with_reducible refine (cmp_Compare_int.calls _ _ _ _ (cmpInt (b2i b0) (b2i b1))).mono ?_
          rintro e w11 ⟨rfl, hb11⟩
          refine ⟨_, rfl, ?_⟩
          have HBW11 := Lib.hid (below_step HBW10.out hb11.below)
          clear hb11
          refine hK.out _ _ trivial (fun hHeld => ?_)
          clear hK K
          refine norm_ (a' := ?_) ?_ ?_
          rotate_left
          · show Act.put _ (some 54) _ = _
            simp only [Act.put, List.setIfInBounds_toArray, List.set_cons_zero, List.set_cons_succ, i64_w, i32_w]
            rfl
          refine pure_ (i := 6) (N := some 4) (v := ?_) (a' := ?_) #[true, true, true, true, true, true, true, false] rfl rfl (by kernel_rfl) (fun _ _ _ h => h) (Or.inl ⟨by rfl, ?_⟩) ?_ ?_
          rotate_left
          · intro w'
            go_simp
            with_reducible rfl
          rotate_left
          · simp only [Act.put, List.setIfInBounds_toArray, List.set_cons_zero, List.set_cons_succ, i64_w, i32_w]
            rfl
          refine pure_ (i := 7) (N := some 5) (v := ?_) (a' := ?_) #[true, true, true, true, true, true, true, true] rfl rfl (by kernel_rfl) (fun _ _ _ h => h) (Or.inl ⟨by rfl, ?_⟩) ?_ ?_
          rotate_left
          · intro w'
            go_simp
            with_reducible rfl
          rotate_left
          · simp only [Act.put, List.setIfInBounds_toArray, List.set_cons_zero, List.set_cons_succ, i64_w, i32_w]
            rfl
          refine done_ (by kernel_rfl) ?_
          go_wp2
          go_ret2
          exact ⟨by rw [HC.out]; rfl, HBW11.out⟩
        · have e0 : X0 = .nilIface := by rw [hx0]; unfold plainV; rw [if_neg h0, if_neg h1, if_neg h2]
          have hc : cmpV k0 s0 n0 b0 k0 s1 n1 b1 = (0, false) := by unfold cmpV; rw [if_pos rfl, if_neg h0, if_neg h1, if_neg h2]
          have HC := Lib.hid hc
          clear hx0 hx1 hc
          subst e0
          have HBW := Lib.hid hbw
          clear hbw
          go_wp2
          go_ret2
          exact ⟨by rw [HC.out]; rfl, HBW.out⟩
  · have hkb : (k0 != k1) = true := bne_iff_ne.mpr hk
    have hc : cmpV k0 s0 n0 b0 k1 s1 n1 b1 = (0, false) := by unfold cmpV; rw [if_neg hk]
    rw [hc]
    unfold val
    go_enter Tryd.func9, Tryd.ntmps9
    go_wp2
    go_ret2
    exact ⟨rfl, below_alloc (below_alloc (Below.refl _ _) _) _⟩
end Go.Proofs.YtkeepnmlphbffaaDoor.Span

namespace Go.Proofs.YtkeepnmlphbffaaDoor.Text
open Go.RowKit Go.Proofs.YtkeepnmlphbffaaDoorW.PrintWords Go.Proofs.YtkeepnmlphbffaaDoorW.PrintLast Go.Proofs.YtkeepnmlphbffaaDoorW.PrintMore Go.Proofs.YtkeepnmlphbffaaDoor.Math Go.Proofs.YtkeepnmlphbffaaDoor.Runes Go.Proofs.YtkeepnmlphbffaaDoor.Span
open Go.Proofs.YtkeepnmlphbffaaDoor.PSp
set_option linter.unusedVariables false
def span_Compare.f (a0_0 : Int) (a0_1 : ByteArray) (a0_2 : Int) (a0_3 : Bool) (a1_0 : Int) (a1_1 : ByteArray) (a1_2 : Int) (a1_3 : Bool) : Option (Int × Bool) := some (cmpV a0_0 a0_1 a0_2 a0_3 a1_0 a1_1 a1_2 a1_3)
theorem span_Compare.calls (a0_0 : Int) (a0_1 : ByteArray) (a0_2 : Int) (a0_3 : Bool) (a1_0 : Int) (a1_1 : ByteArray) (a1_2 : Int) (a1_3 : Bool) (r1 : Int) (r2 : Bool) (w : World) (h : span_Compare.f a0_0 a0_1 a0_2 a0_3 a1_0 a1_1 a1_2 a1_3 = some (r1, r2)) :
    Calls Tryd.prog 9 #[.agg #[.int .i64 a0_0, .string a0_1, .int .i64 a0_2, .bool a0_3], .agg #[.int .i64 a1_0, .string a1_1, .int .i64 a1_2, .bool a1_3]] w fun e w' => e = .returned (.tuple #[.int .i64 r1, .bool r2]) ∧ Below w.heap.size w w' := by
  have hc := compare_calls a0_0 a0_1 a0_2 a0_3 a1_0 a1_1 a1_2 a1_3 w
  rw [Option.some.inj h] at hc
  exact hc
def span_mayEvents.f (l0 : List S59) : Option Bool := some (decide ((l0.length : Int) ≤ 16) && !(l0.any evBad))
theorem span_mayEvents.calls (A0 : Option Addr) (c0 : Nat) (l0 : List S59) (r : Bool) (w : World) (hr0 : Kd.C k59 w A0 l0.length l0) (hc0 : l0.length ≤ c0) (h : span_mayEvents.f l0 = some r) (hT_ : Tabs w) :
    Calls Tryd.prog 33 #[.slice A0 l0.length c0] w fun e w' => e = .returned (.bool r) ∧ Below w.heap.size w w' := by
  have hc := evs_calls A0 c0 l0 w hr0 hT_
  rw [Option.some.inj h] at hc
  exact hc
def span_mayLinks.f (l0 : List S62) : Option Bool := some (decide ((l0.length : Int) ≤ 16) && !(l0.any liBad))
theorem span_mayLinks.calls (A0 : Option Addr) (c0 : Nat) (l0 : List S62) (r : Bool) (w : World) (hr0 : Kd.C k62 w A0 l0.length l0) (hc0 : l0.length ≤ c0) (h : span_mayLinks.f l0 = some r) :
    Calls Tryd.prog 34 #[.slice A0 l0.length c0] w fun e w' => e = .returned (.bool r) ∧ Below w.heap.size w w' := by
  have hc := lis_calls A0 c0 l0 w hr0
  rw [Option.some.inj h] at hc
  exact hc
def span_MayValue.f (a0_0 : Int) (a0_1 : ByteArray) (a0_2 : Int) (a0_3 : Bool) : Option Bool := some (mvB a0_0 a0_1 a0_2 a0_3)
theorem span_MayValue.calls (a0_0 : Int) (a0_1 : ByteArray) (a0_2 : Int) (a0_3 : Bool) (r : Bool) (w : World) (h : span_MayValue.f a0_0 a0_1 a0_2 a0_3 = some r) (hT_ : Tabs w) :
    Calls Tryd.prog 11 #[.agg #[.int .i64 a0_0, .string a0_1, .int .i64 a0_2, .bool a0_3]] w fun e w' => e = .returned (.bool r) ∧ Below w.heap.size w w' := by
  have hc := mayValue_calls a0_0 a0_1 a0_2 a0_3 w hT_
  rw [Option.some.inj h] at hc
  exact hc
end Go.Proofs.YtkeepnmlphbffaaDoor.Text
