/- (Out of XSpanFuncs, for chapter 17.) Events and links that may be, by hand (span.mayEvents, span.mayLinks): slices.ContainsFunc with a closure. -/
import Derived.Test.YtkgpnfjmahjlcaaDoorPAllx0
import Derived.Test.YtkgpnfjmahjlcaaDoorPLowx1
import Derived.Test.YtkgpnfjmahjlcaaDoorWiCut
import Derived.Outline
import Derived.Test.YtkgpnfjmahjlcaaDoorPAllx14
import Derived.Lib.SlBytesConst
import Derived.ArgAppend
namespace Go.Proofs.YtkgpnfjmahjlcaaDoor.Span
open Go.RowKit Go.Proofs.YtkgpnfjmahjlcaaDoorW.PrintWords Go.Proofs.YtkgpnfjmahjlcaaDoorW.PrintLast Go.Proofs.YtkgpnfjmahjlcaaDoorW.PrintMore Go.Proofs.YtkgpnfjmahjlcaaDoor.Math Go.Proofs.YtkgpnfjmahjlcaaDoor.Runes Go.Proofs.YtkgpnfjmahjlcaaDoor.Text
open Go.Proofs.YtkgpnfjmahjlcaaDoor.PLow Go.Proofs.YtkgpnfjmahjlcaaDoor.PAll
set_option linter.unusedVariables false
set_option linter.unusedSimpArgs false
def timeB (n : Int) : Bool := if n ≥ 0 then decide (n ≤ 1152921504606846976) else false
def rightT (s : ByteArray) : Bool := Lib.validD s.data.toList && (runesI s).all okI
def nameB (s : ByteArray) : Bool := if s.toList = ([] : List UInt8) then false else if (s.size : Int) ≤ 32 then rightT s else false
theorem time_eq (n : Int) : span_mayTime.f n = some (timeB n) := by
  unfold span_mayTime.f timeB
  split <;> rfl
theorem name_eq (s : ByteArray) : span_mayName.f s = some (nameB s) := by
  unfold span_mayName.f nameB
  split
  · rfl
  · split
    · have : text_Right.f s = some (rightT s) := by unfold text_Right.f rightT; rw [if_pos (by omega)]
      rw [this]
      rfl
    · rfl
def evBad (x : S55) : Bool := !(timeB x.f0) || !(nameB x.f1)
def liBad (x : S68) : Bool := x.f0 == 0 || x.f1 == 0
/-- The first place at which p holds, or -1. -/
def fidx {α : Type} (p : α → Bool) : List α → Int → Int
  | [], _ => -1
  | x :: t, k => if p x = true then k else fidx p t (k + 1)
theorem fidx_any {α : Type} (p : α → Bool) : ∀ (l : List α) (k : Int), 0 ≤ k → decide (fidx p l k ≥ 0) = l.any p := by
  intro l
  induction l with
  | nil => intro k _; rfl
  | cons x t ih =>
    intro k hk
    rw [fidx, List.any_cons]
    cases hx : p x with
    | true => rw [if_pos rfl, Bool.true_or]; exact decide_eq_true hk
    | false => rw [if_neg Bool.false_ne_true, Bool.false_or]; exact ih (k + 1) (by omega)
theorem drop_z {α : Type} {l : List α} {z : α} {i : Nat} (h : i < l.length) : l.drop i = l.getD i z :: l.drop (i + 1) := by
  rw [List.drop_eq_getElem_cons h, List.getD_eq_getElem?_getD, List.getElem?_eq_getElem h]
  rfl
set_option maxHeartbeats 1000000 in
theorem ev_calls (x : S55) (w : World) (hT : Tabs w) :
    Calls Tryd.prog 74 #[.agg #[.int .i64 x.f0, .string x.f1]] w fun e w' => e = .returned (.bool (evBad x)) ∧ Below w.heap.size w w' := by
  have HT := Lib.hid hT
  clear hT
  have HB0 := Lib.hid (below_alloc (Below.refl w.heap.size w) (.cells #[.int .i64 x.f0, .string x.f1] 55))
  cases ht : timeB x.f0 with
  | false =>
    have hbad : evBad x = true := by unfold evBad; rw [ht]; rfl
    rw [hbad]
    have H1 := Lib.hid ((time_eq x.f0).trans (congrArg some ht))
    clear ht hbad
    go_enter Tryd.func74, Tryd.ntmps74
    go_wp2_with (first | (go_at_call 57; (with_reducible refine (span_mayTime.calls x.f0 false _ H1.out).mono ?_); rintro e w1 ⟨rfl, hb⟩; have HB1 := Lib.hid (below_step HB0.out hb.below); clear hb))
    go_ret
    exact ⟨rfl, HB1.out⟩
  | true =>
    have H1 := Lib.hid ((time_eq x.f0).trans (congrArg some ht))
    have H2 := Lib.hid (name_eq x.f1)
    have hbad : evBad x = !(nameB x.f1) := by unfold evBad; rw [ht]; rfl
    rw [hbad]
    clear ht hbad
    generalize nameB x.f1 = nb at H2 ⊢
    go_enter Tryd.func74, Tryd.ntmps74
    go_wp2_with (first | (go_at_call 57; (with_reducible refine (span_mayTime.calls x.f0 true _ H1.out).mono ?_); rintro e w1 ⟨rfl, hb⟩; have HB1 := Lib.hid (below_step HB0.out hb.below); have HC1 := Lib.hid (block_below (heap_alloc_new w (.cells #[.int .i64 x.f0, .string x.f1] 55)) hb.below); clear hb; have hcz1 : w1.cell? ⟨w.heap.size, 1, none⟩ = some (.string x.f1) := (blk_cell HC1.out 1).trans rfl) | (go_at_call 56; (with_reducible refine (span_mayName.calls x.f1 nb _ H2.out (tabs_below HT.out HB1.out)).mono ?_); rintro e w2 ⟨rfl, hb⟩; have HB2 := Lib.hid (below_step HB1.out hb); clear hb))
    go_ret
    exact ⟨rfl, HB2.out⟩
set_option maxHeartbeats 1000000 in
theorem li_calls (x : S68) (w : World) :
    Calls Tryd.prog 76 #[.agg #[.int .u64 x.f0, .int .u64 x.f1]] w fun e w' => e = .returned (.bool (liBad x)) ∧ Below w.heap.size w w' := by
  unfold liBad
  cases h0 : x.f0 == 0 with
  | true =>
    go_enter Tryd.func76, Tryd.ntmps76
    go_wp2
    go_ret
    exact ⟨rfl, below_alloc (Below.refl _ _) _⟩
  | false =>
    go_enter Tryd.func76, Tryd.ntmps76
    go_wp2
    go_ret
    exact ⟨rfl, below_alloc (Below.refl _ _) _⟩
set_option maxHeartbeats 1000000 in
theorem ev_index (A : Option Addr) (c : Nat) (l : List S55) (w : World) (h : Kd.C k55 w A l.length l) (hT : Tabs w) :
    Calls Tryd.prog 82 #[.slice A l.length c, .func (.func 74) #[] #[]] w fun e w' => e = .returned (.int .i64 (fidx evBad l 0)) ∧ Below w.heap.size w w' := by
  have hn := h.2.1
  have H := Lib.hid h
  have HT := Lib.hid hT
  have eg : ∀ args w, (callFunc 74 args).run Tryd.prog w = .ok (.enter 74 args) w := fun args w => enters_ Tryd.func74 (by kernel_rfl) rfl args w
  clear h hT
  obtain ⟨R, hR⟩ : ∃ R, R = fidx evBad l 0 := ⟨_, rfl⟩
  rw [← hR]
  have HR := Lib.hid hR
  clear hR
  go_enter Tryd.func82, Tryd.ntmps82
  go_wp2
  go_loopw [5, 8] (fun _ i wr => ∃ k : Nat, k ≤ l.length ∧ i = .int .i64 k ∧ Hid (R = fidx evBad (l.drop k) (k : Int)) ∧ Hid (Below w.heap.size w wr)) (fun _ i _ => l.length - (intOf i).toNat)
  case atStart => exact ⟨0, Nat.zero_le _, rfl, Lib.hid HR.out, Lib.hid (Below.refl _ _)⟩
  case round =>
    obtain ⟨k, hk, rfl, HK, HB⟩ := hrel
    by_cases hlt : k < l.length
    · have hd := drop_z (z := z55) hlt
      have hkk := HK.out
      rw [hd, fidx] at hkk
      obtain ⟨ad, e, hx0, hx1⟩ := at_T55 (Kd.C_below H.out HB.out) (k : Int) (by omega) (by omega)
      subst e
      rw [Int.toNat_natCast] at hx0 hx1
      have hrd : rd_T55 l (k : Int) = l.getD k z55 := rfl
      rw [hrd] at hx0 hx1
      generalize l.getD k z55 = x at *
      have q : (k : Int) < (l.length : Int) := by omega
      clear hrd hd
      cases hbad : evBad x with
      | true =>
        rw [if_pos hbad] at hkk
        have hcl := ev_calls x wr (tabs_below HT.out HB.out)
        rw [hbad] at hcl
        have HCL := Lib.hid hcl
        have HKK := Lib.hid hkk
        clear hcl hkk hbad
        go_wp2_with fail
        refine HCL.out.mono ?_
        rintro e w1 ⟨rfl, hb⟩
        have HB1 := Lib.hid (below_step HB.out hb)
        clear hb
        go_wp2
        go_ret
        exact ⟨by rw [HKK.out]; rfl, HB1.out⟩
      | false =>
        rw [if_neg (by rw [hbad]; exact Bool.false_ne_true)] at hkk
        have hcl := ev_calls x wr (tabs_below HT.out HB.out)
        rw [hbad] at hcl
        have HCL := Lib.hid hcl
        have HKK := Lib.hid hkk
        clear hcl hkk hbad
        go_wp2_with fail
        refine HCL.out.mono ?_
        rintro e w1 ⟨rfl, hb⟩
        have HB1 := Lib.hid (below_step HB.out hb)
        clear hb
        go_wp2
        go_round
        case rel => exact ⟨k + 1, by omega, by go_num, Lib.hid HKK.out, HB1⟩
        case measure => simp [intOf]; omega
    · have hk2 : k = l.length := by omega
      subst hk2
      have hkk := HK.out
      rw [List.drop_length, fidx] at hkk
      have HKK := Lib.hid hkk
      clear hkk
      go_wp2
      go_ret
      exact ⟨by rw [HKK.out]; rfl, HB.out⟩

set_option maxHeartbeats 1000000 in
theorem li_index (A : Option Addr) (c : Nat) (l : List S68) (w : World) (h : Kd.C k68 w A l.length l) :
    Calls Tryd.prog 83 #[.slice A l.length c, .func (.func 76) #[] #[]] w fun e w' => e = .returned (.int .i64 (fidx liBad l 0)) ∧ Below w.heap.size w w' := by
  have hn := h.2.1
  have H := Lib.hid h

  have eg : ∀ args w, (callFunc 76 args).run Tryd.prog w = .ok (.enter 76 args) w := fun args w => enters_ Tryd.func76 (by kernel_rfl) rfl args w
  clear h
  obtain ⟨R, hR⟩ : ∃ R, R = fidx liBad l 0 := ⟨_, rfl⟩
  rw [← hR]
  have HR := Lib.hid hR
  clear hR
  go_enter Tryd.func83, Tryd.ntmps83
  go_wp2
  go_loopw [5, 8] (fun _ i wr => ∃ k : Nat, k ≤ l.length ∧ i = .int .i64 k ∧ Hid (R = fidx liBad (l.drop k) (k : Int)) ∧ Hid (Below w.heap.size w wr)) (fun _ i _ => l.length - (intOf i).toNat)
  case atStart => exact ⟨0, Nat.zero_le _, rfl, Lib.hid HR.out, Lib.hid (Below.refl _ _)⟩
  case round =>
    obtain ⟨k, hk, rfl, HK, HB⟩ := hrel
    by_cases hlt : k < l.length
    · have hd := drop_z (z := z68) hlt
      have hkk := HK.out
      rw [hd, fidx] at hkk
      obtain ⟨ad, e, hx0, hx1⟩ := at_T68 (Kd.C_below H.out HB.out) (k : Int) (by omega) (by omega)
      subst e
      rw [Int.toNat_natCast] at hx0 hx1
      have hrd : rd_T68 l (k : Int) = l.getD k z68 := rfl
      rw [hrd] at hx0 hx1
      generalize l.getD k z68 = x at *
      have q : (k : Int) < (l.length : Int) := by omega
      clear hrd hd
      cases hbad : liBad x with
      | true =>
        rw [if_pos hbad] at hkk
        have hcl := li_calls x wr
        rw [hbad] at hcl
        have HCL := Lib.hid hcl
        have HKK := Lib.hid hkk
        clear hcl hkk hbad
        go_wp2_with fail
        refine HCL.out.mono ?_
        rintro e w1 ⟨rfl, hb⟩
        have HB1 := Lib.hid (below_step HB.out hb)
        clear hb
        go_wp2
        go_ret
        exact ⟨by rw [HKK.out]; rfl, HB1.out⟩
      | false =>
        rw [if_neg (by rw [hbad]; exact Bool.false_ne_true)] at hkk
        have hcl := li_calls x wr
        rw [hbad] at hcl
        have HCL := Lib.hid hcl
        have HKK := Lib.hid hkk
        clear hcl hkk hbad
        go_wp2_with fail
        refine HCL.out.mono ?_
        rintro e w1 ⟨rfl, hb⟩
        have HB1 := Lib.hid (below_step HB.out hb)
        clear hb
        go_wp2
        go_round
        case rel => exact ⟨k + 1, by omega, by go_num, Lib.hid HKK.out, HB1⟩
        case measure => simp [intOf]; omega
    · have hk2 : k = l.length := by omega
      subst hk2
      have hkk := HK.out
      rw [List.drop_length, fidx] at hkk
      have HKK := Lib.hid hkk
      clear hkk
      go_wp2
      go_ret
      exact ⟨by rw [HKK.out]; rfl, HB.out⟩
set_option maxHeartbeats 1000000 in
theorem ev_contains (A : Option Addr) (c : Nat) (l : List S55) (w : World) (h : Kd.C k55 w A l.length l) (hT : Tabs w) :
    Calls Tryd.prog 73 #[.slice A l.length c, .func (.func 74) #[] #[]] w fun e w' => e = .returned (.bool (l.any evBad)) ∧ Below w.heap.size w w' := by
  have hi := ev_index A c l w h hT
  rw [← fidx_any evBad l 0 (by omega)]
  generalize fidx evBad l 0 = R at hi ⊢
  have HI := Lib.hid hi
  clear hi h hT
  go_enter Tryd.func73, Tryd.ntmps73
  go_wp2_with (go_at_call 82; refine HI.out.mono ?_; rintro e w1 ⟨rfl, hb⟩; have HB1 := Lib.hid hb; clear hb)
  go_ret
  exact ⟨rfl, HB1.out⟩
set_option maxHeartbeats 1000000 in
theorem evs_calls (A : Option Addr) (c : Nat) (l : List S55) (w : World) (h : Kd.C k55 w A l.length l) (hT : Tabs w) :
    Calls Tryd.prog 59 #[.slice A l.length c] w fun e w' => e = .returned (.bool (decide ((l.length : Int) ≤ 16) && !(l.any evBad))) ∧ Below w.heap.size w w' := by
  have hc := ev_contains A c l w h hT
  generalize l.any evBad = b at hc ⊢
  have HC := Lib.hid hc
  clear hc h hT
  by_cases hl : (l.length : Int) ≤ 16
  · have hd : decide ((l.length : Int) ≤ 16) = true := decide_eq_true hl
    rw [hd, Bool.true_and]
    clear hl
    go_enter Tryd.func59, Tryd.ntmps59
    go_wp2_with (go_at_call 73; refine HC.out.mono ?_; rintro e w1 ⟨rfl, hb⟩; have HB1 := Lib.hid hb; clear hb)
    go_ret
    exact ⟨rfl, HB1.out⟩
  · have hd : decide ((l.length : Int) ≤ 16) = false := decide_eq_false hl
    rw [hd, Bool.false_and]
    clear hl
    go_enter Tryd.func59, Tryd.ntmps59
    go_wp2
    go_ret
    exact ⟨rfl, Below.refl _ _⟩
set_option maxHeartbeats 1000000 in
theorem li_contains (A : Option Addr) (c : Nat) (l : List S68) (w : World) (h : Kd.C k68 w A l.length l) :
    Calls Tryd.prog 75 #[.slice A l.length c, .func (.func 76) #[] #[]] w fun e w' => e = .returned (.bool (l.any liBad)) ∧ Below w.heap.size w w' := by
  have hi := li_index A c l w h
  rw [← fidx_any liBad l 0 (by omega)]
  generalize fidx liBad l 0 = R at hi ⊢
  have HI := Lib.hid hi
  clear hi h
  go_enter Tryd.func75, Tryd.ntmps75
  go_wp2_with (go_at_call 83; refine HI.out.mono ?_; rintro e w1 ⟨rfl, hb⟩; have HB1 := Lib.hid hb; clear hb)
  go_ret
  exact ⟨rfl, HB1.out⟩
set_option maxHeartbeats 1000000 in
theorem lis_calls (A : Option Addr) (c : Nat) (l : List S68) (w : World) (h : Kd.C k68 w A l.length l) :
    Calls Tryd.prog 60 #[.slice A l.length c] w fun e w' => e = .returned (.bool (decide ((l.length : Int) ≤ 16) && !(l.any liBad))) ∧ Below w.heap.size w w' := by
  have hc := li_contains A c l w h
  generalize l.any liBad = b at hc ⊢
  have HC := Lib.hid hc
  clear hc h
  by_cases hl : (l.length : Int) ≤ 16
  · have hd : decide ((l.length : Int) ≤ 16) = true := decide_eq_true hl
    rw [hd, Bool.true_and]
    clear hl
    go_enter Tryd.func60, Tryd.ntmps60
    go_wp2_with (go_at_call 75; refine HC.out.mono ?_; rintro e w1 ⟨rfl, hb⟩; have HB1 := Lib.hid hb; clear hb)
    go_ret
    exact ⟨rfl, HB1.out⟩
  · have hd : decide ((l.length : Int) ≤ 16) = false := decide_eq_false hl
    rw [hd, Bool.false_and]
    clear hl
    go_enter Tryd.func60, Tryd.ntmps60
    go_wp2
    go_ret
    exact ⟨rfl, Below.refl _ _⟩
end Go.Proofs.YtkgpnfjmahjlcaaDoor.Span

namespace Go.Proofs.YtkgpnfjmahjlcaaDoor.Span
open Go.RowKit Go.Proofs.YtkgpnfjmahjlcaaDoorW.PrintWords Go.Proofs.YtkgpnfjmahjlcaaDoorW.PrintLast Go.Proofs.YtkgpnfjmahjlcaaDoorW.PrintMore Go.Proofs.YtkgpnfjmahjlcaaDoor.Math Go.Proofs.YtkgpnfjmahjlcaaDoor.Runes Go.Proofs.YtkgpnfjmahjlcaaDoor.Text
set_option linter.unusedVariables false
set_option linter.unusedSimpArgs false
/-- A value's bare form is the value. -/
def bareB (k : Int) (s : ByteArray) (n : Int) (b : Bool) : Bool :=
  if k = 0 then (n == 0) && !b else if k = 1 then (s.toList == ([] : List UInt8)) && !b else if k = 2 then (s.toList == ([] : List UInt8)) && (n == 0) else false
def mvB (k : Int) (s : ByteArray) (n : Int) (b : Bool) : Bool := bareB k s n b && (decide ((s.size : Int) ≤ 200) && rightT s)
theorem right_eq (s : ByteArray) (h : (s.size : Int) ≤ 200) : text_Right.f s = some (rightT s) := by unfold text_Right.f rightT; rw [if_pos (by omega)]
theorem nil_of (s : ByteArray) (h : s.toList = ([] : List UInt8)) : s = ⟨#[]⟩ := by
  ext1
  apply Array.ext'
  rw [← ByteArray.toList_eq, h]
set_option maxHeartbeats 4000000 in
set_option maxRecDepth 100000 in
theorem mayValue_calls (k : Int) (s : ByteArray) (n : Int) (b : Bool) (w : World) (hT : Tabs w) :
    Calls Tryd.prog 72 #[.agg #[.int .i64 k, .string s, .int .i64 n, .bool b]] w fun e w' => e = .returned (.bool (mvB k s n b)) ∧ Below w.heap.size w w' := by
  have hu23 := Tryd.underlying51
  have HT := Lib.hid hT
  clear hT
  unfold mvB
  by_cases h0 : k = 0
  · subst h0
    have hbb : bareB 0 s n b = ((n == 0) && !b) := rfl
    rw [hbb]
    clear hbb
    cases hn : n == 0 with
    | false =>
      rw [Bool.false_and]
      rw [Bool.false_and]
      go_enter Tryd.func72, Tryd.ntmps72
      go_wp2
      go_ret
      exact ⟨rfl, (by repeat (first | exact Below.refl _ _ | apply below_alloc))⟩
    | true =>
      obtain rfl := beq_iff_eq.mp hn
      clear hn
      cases b with
      | true =>
        have hz : (true && !true) = false := rfl
        rw [hz]
        rw [Bool.false_and]
        go_enter Tryd.func72, Tryd.ntmps72
        go_wp2
        go_ret
        exact ⟨rfl, (by repeat (first | exact Below.refl _ _ | apply below_alloc))⟩
      | false =>
        have hz : (true && !false) = true := rfl
        rw [hz, Bool.true_and]
        by_cases hs : (s.size : Int) ≤ 200
        · have hd : decide ((s.size : Int) ≤ 200) = true := decide_eq_true hs
          have HR := Lib.hid (right_eq s hs)
          rw [hd, Bool.true_and]
          clear hz hs
          generalize rightT s = r at HR ⊢
          go_enter Tryd.func72, Tryd.ntmps72
          go_wp2_with (first | (go_at_call 71; (with_reducible refine (text_Right.calls s r _ HR.out (tabs_below HT.out (by repeat (first | exact Below.refl _ _ | apply below_alloc)))).mono ?_); rintro e w1 ⟨rfl, hb⟩; have HB1 := Lib.hid (below_step (w := w) (by repeat (first | exact Below.refl _ _ | apply below_alloc)) hb); clear hb))
          go_ret
          exact ⟨rfl, HB1.out⟩
        · have hd : decide ((s.size : Int) ≤ 200) = false := decide_eq_false hs
          rw [hd]
          clear hz hs
          rw [Bool.false_and]
          go_enter Tryd.func72, Tryd.ntmps72
          go_wp2
          go_ret
          exact ⟨rfl, (by repeat (first | exact Below.refl _ _ | apply below_alloc))⟩
  · have h0b : (k == 0) = false := beq_eq_false_iff_ne.mpr h0
    by_cases h1 : k = 1
    · subst h1
      have hbb : bareB 1 s n b = ((s.toList == ([] : List UInt8)) && !b) := rfl
      rw [hbb]
      clear hbb h0 h0b
      by_cases hs : s.toList = ([] : List UInt8)
      · obtain rfl := nil_of s hs
        have hz : ((⟨#[]⟩ : ByteArray).toList == ([] : List UInt8)) = true := by rw [hs]; rfl
        rw [hz]
        clear hz hs
        cases b with
        | true =>
          have hz : (true && !true) = false := rfl
          rw [hz]
          clear hz
          rw [Bool.false_and]
          go_enter Tryd.func72, Tryd.ntmps72
          go_wp2
          go_ret
          exact ⟨rfl, (by repeat (first | exact Below.refl _ _ | apply below_alloc))⟩
        | false =>
          have hz : (true && !false) = true := rfl
          have hd : decide (((⟨#[]⟩ : ByteArray).size : Int) ≤ 200) = true := rfl
          have HR := Lib.hid (right_eq ⟨#[]⟩ (by decide))
          rw [hz, Bool.true_and, hd, Bool.true_and]
          clear hz hd
          generalize rightT ⟨#[]⟩ = r at HR ⊢
          go_enter Tryd.func72, Tryd.ntmps72
          go_wp2_with (first | (go_at_call 71; (with_reducible refine (text_Right.calls ⟨#[]⟩ r _ HR.out (tabs_below HT.out (by repeat (first | exact Below.refl _ _ | apply below_alloc)))).mono ?_); rintro e w1 ⟨rfl, hb⟩; have HB1 := Lib.hid (below_step (w := w) (by repeat (first | exact Below.refl _ _ | apply below_alloc)) hb); clear hb))
          go_ret
          exact ⟨rfl, HB1.out⟩
      · have hsb : (s.toList == ([] : List UInt8)) = false := beq_eq_false_iff_ne.mpr hs
        rw [hsb, Bool.false_and]
        clear hs
        rw [Bool.false_and]
        go_enter Tryd.func72, Tryd.ntmps72
        go_wp2
        go_ret
        exact ⟨rfl, (by repeat (first | exact Below.refl _ _ | apply below_alloc))⟩
    · have h1b : (k == 1) = false := beq_eq_false_iff_ne.mpr h1
      by_cases h2 : k = 2
      · subst h2
        have hbb : bareB 2 s n b = ((s.toList == ([] : List UInt8)) && (n == 0)) := rfl
        rw [hbb]
        clear hbb h0 h0b h1 h1b
        by_cases hs : s.toList = ([] : List UInt8)
        · obtain rfl := nil_of s hs
          have hz : ((⟨#[]⟩ : ByteArray).toList == ([] : List UInt8)) = true := by rw [hs]; rfl
          rw [hz]
          clear hz hs
          cases hn : n == 0 with
          | false =>
            rw [Bool.true_and]
            rw [Bool.false_and]
            go_enter Tryd.func72, Tryd.ntmps72
            go_wp2
            go_ret
            exact ⟨rfl, (by repeat (first | exact Below.refl _ _ | apply below_alloc))⟩
          | true =>
            obtain rfl := beq_iff_eq.mp hn
            clear hn
            have hd : decide (((⟨#[]⟩ : ByteArray).size : Int) ≤ 200) = true := rfl
            have HR := Lib.hid (right_eq ⟨#[]⟩ (by decide))
            rw [Bool.true_and, Bool.true_and, hd, Bool.true_and]
            clear hd
            generalize rightT ⟨#[]⟩ = r at HR ⊢
            go_enter Tryd.func72, Tryd.ntmps72
            go_wp2_with (first | (go_at_call 71; (with_reducible refine (text_Right.calls ⟨#[]⟩ r _ HR.out (tabs_below HT.out (by repeat (first | exact Below.refl _ _ | apply below_alloc)))).mono ?_); rintro e w1 ⟨rfl, hb⟩; have HB1 := Lib.hid (below_step (w := w) (by repeat (first | exact Below.refl _ _ | apply below_alloc)) hb); clear hb))
            go_ret
            exact ⟨rfl, HB1.out⟩
        · have hsb : (s.toList == ([] : List UInt8)) = false := beq_eq_false_iff_ne.mpr hs
          rw [hsb, Bool.false_and]
          clear hs
          rw [Bool.false_and]
          go_enter Tryd.func72, Tryd.ntmps72
          go_wp2
          go_ret
          exact ⟨rfl, (by repeat (first | exact Below.refl _ _ | apply below_alloc))⟩
      · have h2b : (k == 2) = false := beq_eq_false_iff_ne.mpr h2
        have hbb : bareB k s n b = false := by unfold bareB; rw [if_neg h0, if_neg h1, if_neg h2]
        rw [hbb]
        clear hbb h0 h1 h2
        rw [Bool.false_and]
        go_enter Tryd.func72, Tryd.ntmps72
        go_wp2
        go_ret
        exact ⟨rfl, (by repeat (first | exact Below.refl _ _ | apply below_alloc))⟩
end Go.Proofs.YtkgpnfjmahjlcaaDoor.Span

namespace Go.Proofs.YtkgpnfjmahjlcaaDoor.Text
open Go.RowKit Go.Proofs.YtkgpnfjmahjlcaaDoorW.PrintWords Go.Proofs.YtkgpnfjmahjlcaaDoorW.PrintLast Go.Proofs.YtkgpnfjmahjlcaaDoorW.PrintMore Go.Proofs.YtkgpnfjmahjlcaaDoor.Math Go.Proofs.YtkgpnfjmahjlcaaDoor.Runes Go.Proofs.YtkgpnfjmahjlcaaDoor.Span
open Go.Proofs.YtkgpnfjmahjlcaaDoor.PAll
set_option linter.unusedVariables false
def span_mayEvents.f (l0 : List S55) : Option Bool := some (decide ((l0.length : Int) ≤ 16) && !(l0.any evBad))
theorem span_mayEvents.calls (A0 : Option Addr) (c0 : Nat) (l0 : List S55) (r : Bool) (w : World) (hr0 : Kd.C k55 w A0 l0.length l0) (hc0 : l0.length ≤ c0) (h : span_mayEvents.f l0 = some r) (hT_ : Tabs w) :
    Calls Tryd.prog 59 #[.slice A0 l0.length c0] w fun e w' => e = .returned (.bool r) ∧ Below w.heap.size w w' := by
  have hc := evs_calls A0 c0 l0 w hr0 hT_
  rw [Option.some.inj h] at hc
  exact hc
def span_mayLinks.f (l0 : List S68) : Option Bool := some (decide ((l0.length : Int) ≤ 16) && !(l0.any liBad))
theorem span_mayLinks.calls (A0 : Option Addr) (c0 : Nat) (l0 : List S68) (r : Bool) (w : World) (hr0 : Kd.C k68 w A0 l0.length l0) (hc0 : l0.length ≤ c0) (h : span_mayLinks.f l0 = some r) :
    Calls Tryd.prog 60 #[.slice A0 l0.length c0] w fun e w' => e = .returned (.bool r) ∧ Below w.heap.size w w' := by
  have hc := lis_calls A0 c0 l0 w hr0
  rw [Option.some.inj h] at hc
  exact hc
def span_MayValue.f (a0_0 : Int) (a0_1 : ByteArray) (a0_2 : Int) (a0_3 : Bool) : Option Bool := some (mvB a0_0 a0_1 a0_2 a0_3)
theorem span_MayValue.calls (a0_0 : Int) (a0_1 : ByteArray) (a0_2 : Int) (a0_3 : Bool) (r : Bool) (w : World) (h : span_MayValue.f a0_0 a0_1 a0_2 a0_3 = some r) (hT_ : Tabs w) :
    Calls Tryd.prog 72 #[.agg #[.int .i64 a0_0, .string a0_1, .int .i64 a0_2, .bool a0_3]] w fun e w' => e = .returned (.bool r) ∧ Below w.heap.size w w' := by
  have hc := mayValue_calls a0_0 a0_1 a0_2 a0_3 w hT_
  rw [Option.some.inj h] at hc
  exact hc
end Go.Proofs.YtkgpnfjmahjlcaaDoor.Text

namespace Go.Proofs.YtkgpnfjmahjlcaaDoor.Pure
open Go.RowKit Go.Proofs.YtkgpnfjmahjlcaaDoorW.PrintWords Go.Proofs.YtkgpnfjmahjlcaaDoorW.PrintLast Go.Proofs.YtkgpnfjmahjlcaaDoorW.PrintMore Go.Proofs.YtkgpnfjmahjlcaaDoor.Math
open Go.Proofs.YtkgpnfjmahjlcaaDoor.PAll Go.Proofs.YtkgpnfjmahjlcaaDoor.Runes Go.Proofs.YtkgpnfjmahjlcaaDoor.Text Go.Proofs.YtkgpnfjmahjlcaaDoor.Span Go.Proofs.YtkgpnfjmahjlcaaDoor.NumFacts
set_option linter.unusedVariables false
set_option linter.unusedSimpArgs false
def nums (l : List UInt8) : List Int := l.map fun b => (b.toNat : Int)
theorem less_txt (k : Nat) (s t : ByteArray) (hs : s.size ≤ 1000) (hk : 2100 < k) : cambiumref01_Less.f k (bytesOf s) (bytesOf t) = some (lexLt (nums s.data.toList) (nums t.data.toList)) := by
  rw [less_eq k _ _ (by rw [bytesOf_length]; omega) (by rw [bytesOf_length]; omega)]
  rfl
theorem right_ref (k : Nat) (s : ByteArray) (h : (s.size : Int) ≤ 200) (hk : 500 < k) : cambiumref02_Right.f k s = some (rightT s) := by
  rw [Runes.right_eq k s (by omega) (by omega)]
  unfold rightT
  rw [Tells.right_same]
theorem refval (k : Nat) (k0 : Int) (s : ByteArray) (n : Int) (b : Bool) (hk : 500 < k) : cambiumref16_Value.f k k0 s n b = some (mvB k0 s n b) := by
  have hr : (if (s.size : Int) ≤ 200 then ((cambiumref02_Right.f k s).bind fun t => some t) else some false) = some (decide ((s.size : Int) ≤ 200) && rightT s) := by
    by_cases h : (s.size : Int) ≤ 200
    · rw [if_pos h, right_ref k s h hk, Option.bind_some, decide_eq_true h, Bool.true_and]
    · rw [if_neg h, decide_eq_false h, Bool.false_and]
  unfold cambiumref16_Value.f mvB bareB
  by_cases h1 : k0 < 0
  · rw [if_pos h1, if_neg (by omega), if_neg (by omega), if_neg (by omega), Bool.false_and]
  rw [if_neg h1]
  by_cases h2 : k0 > 2
  · rw [if_pos h2, if_neg (by omega), if_neg (by omega), if_neg (by omega), Bool.false_and]
  rw [if_neg h2]
  by_cases z0 : k0 = 0
  · rw [if_pos z0, if_neg (show ¬ k0 = 1 by omega), if_neg (show ¬ k0 = 2 by omega), if_pos z0, hr]
    by_cases hn : n = 0
    · rw [if_pos hn, beq_iff_eq.mpr hn]
      cases b
      · rw [if_neg Bool.false_ne_true]; rfl
      · rw [if_pos rfl]; rfl
    · rw [if_neg hn, beq_eq_false_iff_ne.mpr hn]; rfl
  · rw [if_neg z0, if_neg z0]
    by_cases hs : s.toList = ([] : List UInt8)
    · rw [if_pos hs, beq_iff_eq.mpr hs, hr]
      by_cases z1 : k0 = 1
      · rw [if_pos z1, if_neg (show ¬ k0 = 2 by omega), if_pos z1]
        cases b
        · rw [if_neg Bool.false_ne_true]; rfl
        · rw [if_pos rfl]; rfl
      · have z2 : k0 = 2 := by omega
        rw [if_neg z1, if_pos z2, if_neg z1, if_pos z2]
        by_cases hn : n = 0
        · rw [if_pos hn, beq_iff_eq.mpr hn]; rfl
        · rw [if_neg hn, beq_eq_false_iff_ne.mpr hn]; rfl
    · rw [if_neg hs, beq_eq_false_iff_ne.mpr hs]
      by_cases z1 : k0 = 1
      · rw [if_pos z1]; rfl
      · rw [if_neg z1, if_pos (by omega)]; rfl
end Go.Proofs.YtkgpnfjmahjlcaaDoor.Pure

namespace Go.Proofs.YtkgpnfjmahjlcaaDoor.Wi
open Go.RowKit Go.Proofs.YtkgpnfjmahjlcaaDoorW.PrintWords Go.Proofs.YtkgpnfjmahjlcaaDoorW.PrintLast Go.Proofs.YtkgpnfjmahjlcaaDoorW.PrintMore Go.Proofs.YtkgpnfjmahjlcaaDoor.Math Go.Proofs.YtkgpnfjmahjlcaaDoor.PAll Go.Proofs.YtkgpnfjmahjlcaaDoor.NumFacts
set_option linter.unusedVariables false
set_option linter.unusedSimpArgs false
theorem low_then {W0 w w1 : World} {p : Nat} (hW : Below W0.heap.size W0 w) (hp : W0.heap.size ≤ p) (h : Below p w w1) : Below W0.heap.size W0 w1 :=
  ⟨h.os.trans hW.os, h.tape.trans hW.tape, h.output.trans hW.output, Nat.le_trans hW.size h.size, fun k hk => (h.block k (by omega)).trans (hW.block k hk)⟩
theorem low_trans {p : Nat} {w w1 w2 : World} (h : Below p w w1) (h2 : Below p w1 w2) : Below p w w2 :=
  ⟨h2.os.trans h.os, h2.tape.trans h.tape, h2.output.trans h.output, Nat.le_trans h.size h2.size, fun k hk => (h2.block k hk).trans (h.block k hk)⟩
theorem meas1 {L k : Nat} (h : L ≤ 1000000000000) (hk : k + 1 ≤ L) : L - (intOf (.int .i64 (wrap64 ((k : Int) + 1)))).toNat < L - (intOf (.int .i64 k)).toNat := by
  have hw : wrap64 ((k : Int) + 1) = ((k + 1 : Nat) : Int) := by unfold wrap64; omega
  rw [hw]
  show L - ((k + 1 : Nat) : Int).toNat < L - (k : Int).toNat
  rw [Int.toNat_natCast, Int.toNat_natCast]
  omega
theorem wsuc1 {k L : Nat} (h : k + 1 ≤ L) (hL : L ≤ 1000000000000) : wrap64 ((k : Int) + 1) = ((k + 1 : Nat) : Int) := by unfold wrap64; omega
theorem flat_succ {α : Type} (e : α → List Int) {l : List α} {k : Nat} {x : α} (h : l[k]? = some x) : (l.take (k + 1)).flatMap e = (l.take k).flatMap e ++ e x := by
  obtain ⟨hk, rfl⟩ := List.getElem?_eq_some_iff.1 h
  rw [List.take_succ_eq_append_getElem hk, List.flatMap_append]
  simp
theorem flat_le {α : Type} (e : α → List Int) {l : List α} {k : Nat} {x : α} (h : l[k]? = some x) : ((l.take k).flatMap e).length + (e x).length ≤ (l.flatMap e).length := by
  have h1 := flat_succ e h
  have h2 := congrArg List.length h1
  rw [List.length_append] at h2
  have h3 : l.flatMap e = (l.take (k + 1)).flatMap e ++ (l.drop (k + 1)).flatMap e := by rw [← List.flatMap_append, List.take_append_drop]
  rw [h3, List.length_append]
  omega
set_option maxHeartbeats 4000000 in
set_option maxRecDepth 100000 in
theorem list_at {W0 w : World} {p : Nat} {xs : List Int} (h : WrE w p xs) (hW : Below W0.heap.size W0 w) (hp : W0.heap.size ≤ p) {A : Option Addr} {c : Nat} {l : List S53} (hC : Kd.C k53 W0 A l.length l) (hc : l.length ≤ c) (hok : ∀ x ∈ l, ((x.f0.size : Int) ≤ 140737488355328 ∧ (x.f1.f1.size : Int) ≤ 140737488355328 ∧ i64 x.f1.f2 ∧ 0 ≤ x.f1.f0 ∧ x.f1.f0 < 256)) (hl : (xs ++ listE attE l).length ≤ 1000000000000) (hn : l.length ≤ 1000000000000) :
    Calls Tryd.prog 27 #[.pointer (some ⟨p, 0, none⟩), .slice A l.length c, .func (.func 28) #[.pointer (some ⟨p, 0, none⟩)] #[]] w fun e w' => e = .returned (.tuple #[]) ∧ WrE w' p (xs ++ listE attE l) ∧ WT p w w' := by
  have hw : IntKind.u64.wrap (l.length : Int) = (l.length : Int) := by rw [IntKind.wrap_u64]; omega
  have HE := Lib.hid (show xs ++ listE attE l = (xs ++ vput (l.length : Int)) ++ l.flatMap attE by unfold listE; rw [List.append_assoc])
  have HL := Lib.hid (show ((xs ++ vput (l.length : Int)) ++ l.flatMap attE).length ≤ 1000000000000 by rw [← HE.out]; exact hl)
  have HNC := Lib.hid (wnum_calls h (l.length : Int) ⟨by omega, by omega⟩ (by have := HL.out; simp only [List.length_append] at this ⊢; omega))
  rw [HE.out]
  obtain ⟨ys, hys⟩ : ∃ ys, xs ++ vput (l.length : Int) = ys := ⟨_, rfl⟩
  rw [hys] at HL HNC ⊢
  have HWW := Lib.hid h
  have HW0 := Lib.hid hW
  have HP := Lib.hid hp
  have HC := Lib.hid hC
  have HOK := Lib.hid hok
  have HN := Lib.hid hn
  have eg : ∀ args w, (callFunc 28 args).run Tryd.prog w = .ok (.enter 28 args) w := fun args w => enters_ Tryd.func28 (by kernel_rfl) rfl args w
  clear h hW hp hC hok hl hn hys HE
  go_enter Tryd.func27, Tryd.ntmps27
  go_wp2_with fail
  refine HNC.out.mono ?_
  rintro e w1 ⟨rfl, hW1, hT1⟩
  have HW1 := Lib.hid hW1
  have HT1 := Lib.hid hT1
  clear hW1 hT1 HNC
  go_wp2
  go_loopw [7, 15] (fun _ i wr => ∃ k : Nat, k ≤ l.length ∧ i = .int .i64 k ∧ Hid (WrE wr p (ys ++ (l.take k).flatMap attE)) ∧ Hid (WT p w wr)) (fun _ i _ => l.length - (intOf i).toNat)
  case atStart => exact ⟨0, Nat.zero_le _, rfl, Lib.hid (by simpa using HW1.out), HT1⟩
  case round =>
    obtain ⟨k, hk, rfl, HWr, HTr⟩ := hrel
    by_cases hlt : k < l.length
    · have q1 : decide ((k : Int) < (l.length : Int)) = true := decide_eq_true (by omega)
      have q2 : decide (k < l.length) = true := decide_eq_true hlt
      have q3 : (k : Int) < (l.length : Int) := by omega
      have hCr := Kd.C_below HC.out (low_then HW0.out HP.out (HTr.out.low HWW.out))
      obtain ⟨ad, hA, y0, y1, y2, y3, y4⟩ := at_T53 hCr (k : Int) (by omega) (by omega)
      obtain ⟨x, hxe⟩ : ∃ x, l[k]? = some x := ⟨_, List.getElem?_eq_getElem hlt⟩
      have hx : rd_T53 l (k : Int) = x := by
        show l.getD (Int.toNat (k : Int)) _ = x
        rw [Int.toNat_natCast, List.getD_eq_getElem?_getD, hxe]
        rfl
      rw [hx, Int.toNat_natCast] at y0 y1 y2 y3 y4
      subst hA
      have HOKx := Lib.hid (HOK.out x (List.mem_of_getElem? hxe))
      have HLx := Lib.hid (show ((ys ++ (l.take k).flatMap attE) ++ attE x).length ≤ 1000000000000 by
        have := HL.out
        have h2 := flat_le attE hxe
        simp only [List.length_append] at this ⊢
        omega)
      have HS := Lib.hid (flat_succ attE hxe)
      have HLT := Lib.hid hlt
      obtain ⟨hb1, hb2, _, _⟩ := HWr.out.box #[.string x.f0, .int .i64 x.f1.f0, .string x.f1.f1, .int .i64 x.f1.f2, .bool x.f1.f3] 53
      have HW2 := Lib.hid hb1
      have HT2 := Lib.hid (HTr.out.trans hb2)

      clear hx hxe hlt hb1 hb2 hk hCr
      go_wp2_with fail
      refine (watt_calls HW2.out x HOKx.out.1 HOKx.out.2.1 HOKx.out.2.2.1 HOKx.out.2.2.2 HLx.out).mono ?_
      rintro e w3 ⟨rfl, hW, hT⟩
      have HW3 := Lib.hid (show WrE w3 p (ys ++ (l.take (k + 1)).flatMap attE) by rw [HS.out, ← List.append_assoc]; exact hW)
      have HT3 := Lib.hid (HT2.out.trans hT)
      clear hW hT
      go_wp2
      go_roundw
      case rel => exact ⟨k + 1, HLT.out, by rw [wsuc1 HLT.out HN.out], HW3, HT3⟩
      case measure => exact meas1 HN.out HLT.out
    · have q1 : decide ((k : Int) < (l.length : Int)) = false := decide_eq_false (by omega)
      have hke : k = l.length := by omega
      subst hke
      have HW3 := Lib.hid (show WrE wr p (ys ++ l.flatMap attE) by have := HWr.out; rwa [List.take_length] at this)
      clear hlt hk HWr
      go_wp2
      go_end0
      exact ⟨rfl, HW3.out, HTr.out⟩
set_option maxHeartbeats 4000000 in
set_option maxRecDepth 100000 in
theorem list_ev {W0 w : World} {p : Nat} {xs : List Int} (h : WrE w p xs) (hW : Below W0.heap.size W0 w) (hp : W0.heap.size ≤ p) {A : Option Addr} {c : Nat} {l : List S55} (hC : Kd.C k55 W0 A l.length l) (hc : l.length ≤ c) (hok : ∀ x ∈ l, (i64 x.f0 ∧ (x.f1.size : Int) ≤ 140737488355328)) (hl : (xs ++ listE evE l).length ≤ 1000000000000) (hn : l.length ≤ 1000000000000) :
    Calls Tryd.prog 29 #[.pointer (some ⟨p, 0, none⟩), .slice A l.length c, .func (.func 30) #[.pointer (some ⟨p, 0, none⟩)] #[]] w fun e w' => e = .returned (.tuple #[]) ∧ WrE w' p (xs ++ listE evE l) ∧ WT p w w' := by
  have hw : IntKind.u64.wrap (l.length : Int) = (l.length : Int) := by rw [IntKind.wrap_u64]; omega
  have HE := Lib.hid (show xs ++ listE evE l = (xs ++ vput (l.length : Int)) ++ l.flatMap evE by unfold listE; rw [List.append_assoc])
  have HL := Lib.hid (show ((xs ++ vput (l.length : Int)) ++ l.flatMap evE).length ≤ 1000000000000 by rw [← HE.out]; exact hl)
  have HNC := Lib.hid (wnum_calls h (l.length : Int) ⟨by omega, by omega⟩ (by have := HL.out; simp only [List.length_append] at this ⊢; omega))
  rw [HE.out]
  obtain ⟨ys, hys⟩ : ∃ ys, xs ++ vput (l.length : Int) = ys := ⟨_, rfl⟩
  rw [hys] at HL HNC ⊢
  have HWW := Lib.hid h
  have HW0 := Lib.hid hW
  have HP := Lib.hid hp
  have HC := Lib.hid hC
  have HOK := Lib.hid hok
  have HN := Lib.hid hn
  have eg : ∀ args w, (callFunc 30 args).run Tryd.prog w = .ok (.enter 30 args) w := fun args w => enters_ Tryd.func30 (by kernel_rfl) rfl args w
  clear h hW hp hC hok hl hn hys HE
  go_enter Tryd.func29, Tryd.ntmps29
  go_wp2_with fail
  refine HNC.out.mono ?_
  rintro e w1 ⟨rfl, hW1, hT1⟩
  have HW1 := Lib.hid hW1
  have HT1 := Lib.hid hT1
  clear hW1 hT1 HNC
  go_wp2
  go_loopw [7, 15] (fun _ i wr => ∃ k : Nat, k ≤ l.length ∧ i = .int .i64 k ∧ Hid (WrE wr p (ys ++ (l.take k).flatMap evE)) ∧ Hid (WT p w wr)) (fun _ i _ => l.length - (intOf i).toNat)
  case atStart => exact ⟨0, Nat.zero_le _, rfl, Lib.hid (by simpa using HW1.out), HT1⟩
  case round =>
    obtain ⟨k, hk, rfl, HWr, HTr⟩ := hrel
    by_cases hlt : k < l.length
    · have q1 : decide ((k : Int) < (l.length : Int)) = true := decide_eq_true (by omega)
      have q2 : decide (k < l.length) = true := decide_eq_true hlt
      have q3 : (k : Int) < (l.length : Int) := by omega
      have hCr := Kd.C_below HC.out (low_then HW0.out HP.out (HTr.out.low HWW.out))
      obtain ⟨ad, hA, y0, y1⟩ := at_T55 hCr (k : Int) (by omega) (by omega)
      obtain ⟨x, hxe⟩ : ∃ x, l[k]? = some x := ⟨_, List.getElem?_eq_getElem hlt⟩
      have hx : rd_T55 l (k : Int) = x := by
        show l.getD (Int.toNat (k : Int)) _ = x
        rw [Int.toNat_natCast, List.getD_eq_getElem?_getD, hxe]
        rfl
      rw [hx, Int.toNat_natCast] at y0 y1
      subst hA
      have HOKx := Lib.hid (HOK.out x (List.mem_of_getElem? hxe))
      have HLx := Lib.hid (show ((ys ++ (l.take k).flatMap evE) ++ evE x).length ≤ 1000000000000 by
        have := HL.out
        have h2 := flat_le evE hxe
        simp only [List.length_append] at this ⊢
        omega)
      have HS := Lib.hid (flat_succ evE hxe)
      have HLT := Lib.hid hlt
      obtain ⟨hb1, hb2, _, _⟩ := HWr.out.box #[.int .i64 x.f0, .string x.f1] 55
      have HW2 := Lib.hid hb1
      have HT2 := Lib.hid (HTr.out.trans hb2)

      clear hx hxe hlt hb1 hb2 hk hCr
      go_wp2_with fail
      refine (wev_calls HW2.out x HOKx.out.1 HOKx.out.2 HLx.out).mono ?_
      rintro e w3 ⟨rfl, hW, hT⟩
      have HW3 := Lib.hid (show WrE w3 p (ys ++ (l.take (k + 1)).flatMap evE) by rw [HS.out, ← List.append_assoc]; exact hW)
      have HT3 := Lib.hid (HT2.out.trans hT)
      clear hW hT
      go_wp2
      go_roundw
      case rel => exact ⟨k + 1, HLT.out, by rw [wsuc1 HLT.out HN.out], HW3, HT3⟩
      case measure => exact meas1 HN.out HLT.out
    · have q1 : decide ((k : Int) < (l.length : Int)) = false := decide_eq_false (by omega)
      have hke : k = l.length := by omega
      subst hke
      have HW3 := Lib.hid (show WrE wr p (ys ++ l.flatMap evE) by have := HWr.out; rwa [List.take_length] at this)
      clear hlt hk HWr
      go_wp2
      go_end0
      exact ⟨rfl, HW3.out, HTr.out⟩
set_option maxHeartbeats 4000000 in
set_option maxRecDepth 100000 in
theorem list_lk {W0 w : World} {p : Nat} {xs : List Int} (h : WrE w p xs) (hW : Below W0.heap.size W0 w) (hp : W0.heap.size ≤ p) {A : Option Addr} {c : Nat} {l : List S68} (hC : Kd.C k68 W0 A l.length l) (hc : l.length ≤ c) (hok : ∀ x ∈ l, (u64 x.f0 ∧ u64 x.f1)) (hl : (xs ++ listE lkE l).length ≤ 1000000000000) (hn : l.length ≤ 1000000000000) :
    Calls Tryd.prog 31 #[.pointer (some ⟨p, 0, none⟩), .slice A l.length c, .func (.func 32) #[.pointer (some ⟨p, 0, none⟩)] #[]] w fun e w' => e = .returned (.tuple #[]) ∧ WrE w' p (xs ++ listE lkE l) ∧ WT p w w' := by
  have hw : IntKind.u64.wrap (l.length : Int) = (l.length : Int) := by rw [IntKind.wrap_u64]; omega
  have HE := Lib.hid (show xs ++ listE lkE l = (xs ++ vput (l.length : Int)) ++ l.flatMap lkE by unfold listE; rw [List.append_assoc])
  have HL := Lib.hid (show ((xs ++ vput (l.length : Int)) ++ l.flatMap lkE).length ≤ 1000000000000 by rw [← HE.out]; exact hl)
  have HNC := Lib.hid (wnum_calls h (l.length : Int) ⟨by omega, by omega⟩ (by have := HL.out; simp only [List.length_append] at this ⊢; omega))
  rw [HE.out]
  obtain ⟨ys, hys⟩ : ∃ ys, xs ++ vput (l.length : Int) = ys := ⟨_, rfl⟩
  rw [hys] at HL HNC ⊢
  have HWW := Lib.hid h
  have HW0 := Lib.hid hW
  have HP := Lib.hid hp
  have HC := Lib.hid hC
  have HOK := Lib.hid hok
  have HN := Lib.hid hn
  have eg : ∀ args w, (callFunc 32 args).run Tryd.prog w = .ok (.enter 32 args) w := fun args w => enters_ Tryd.func32 (by kernel_rfl) rfl args w
  clear h hW hp hC hok hl hn hys HE
  go_enter Tryd.func31, Tryd.ntmps31
  go_wp2_with fail
  refine HNC.out.mono ?_
  rintro e w1 ⟨rfl, hW1, hT1⟩
  have HW1 := Lib.hid hW1
  have HT1 := Lib.hid hT1
  clear hW1 hT1 HNC
  go_wp2
  go_loopw [7, 15] (fun _ i wr => ∃ k : Nat, k ≤ l.length ∧ i = .int .i64 k ∧ Hid (WrE wr p (ys ++ (l.take k).flatMap lkE)) ∧ Hid (WT p w wr)) (fun _ i _ => l.length - (intOf i).toNat)
  case atStart => exact ⟨0, Nat.zero_le _, rfl, Lib.hid (by simpa using HW1.out), HT1⟩
  case round =>
    obtain ⟨k, hk, rfl, HWr, HTr⟩ := hrel
    by_cases hlt : k < l.length
    · have q1 : decide ((k : Int) < (l.length : Int)) = true := decide_eq_true (by omega)
      have q2 : decide (k < l.length) = true := decide_eq_true hlt
      have q3 : (k : Int) < (l.length : Int) := by omega
      have hCr := Kd.C_below HC.out (low_then HW0.out HP.out (HTr.out.low HWW.out))
      obtain ⟨ad, hA, y0, y1⟩ := at_T68 hCr (k : Int) (by omega) (by omega)
      obtain ⟨x, hxe⟩ : ∃ x, l[k]? = some x := ⟨_, List.getElem?_eq_getElem hlt⟩
      have hx : rd_T68 l (k : Int) = x := by
        show l.getD (Int.toNat (k : Int)) _ = x
        rw [Int.toNat_natCast, List.getD_eq_getElem?_getD, hxe]
        rfl
      rw [hx, Int.toNat_natCast] at y0 y1
      subst hA
      have HOKx := Lib.hid (HOK.out x (List.mem_of_getElem? hxe))
      have HLx := Lib.hid (show ((ys ++ (l.take k).flatMap lkE) ++ lkE x).length ≤ 1000000000000 by
        have := HL.out
        have h2 := flat_le lkE hxe
        simp only [List.length_append] at this ⊢
        omega)
      have HS := Lib.hid (flat_succ lkE hxe)
      have HLT := Lib.hid hlt
      obtain ⟨hb1, hb2, _, _⟩ := HWr.out.box #[.int .u64 x.f0, .int .u64 x.f1] 68
      have HW2 := Lib.hid hb1
      have HT2 := Lib.hid (HTr.out.trans hb2)

      clear hx hxe hlt hb1 hb2 hk hCr
      go_wp2_with fail
      refine (wlk_calls HW2.out x HOKx.out.1 HOKx.out.2 HLx.out).mono ?_
      rintro e w3 ⟨rfl, hW, hT⟩
      have HW3 := Lib.hid (show WrE w3 p (ys ++ (l.take (k + 1)).flatMap lkE) by rw [HS.out, ← List.append_assoc]; exact hW)
      have HT3 := Lib.hid (HT2.out.trans hT)
      clear hW hT
      go_wp2
      go_roundw
      case rel => exact ⟨k + 1, HLT.out, by rw [wsuc1 HLT.out HN.out], HW3, HT3⟩
      case measure => exact meas1 HN.out HLT.out
    · have q1 : decide ((k : Int) < (l.length : Int)) = false := decide_eq_false (by omega)
      have hke : k = l.length := by omega
      subst hke
      have HW3 := Lib.hid (show WrE wr p (ys ++ l.flatMap lkE) by have := HWr.out; rwa [List.take_length] at this)
      clear hlt hk HWr
      go_wp2
      go_end0
      exact ⟨rfl, HW3.out, HTr.out⟩
set_option maxHeartbeats 4000000 in
set_option maxRecDepth 100000 in
theorem list_rows {W0 w : World} {p : Nat} {ys : List Int} (hW : Below W0.heap.size W0 w) (hp : W0.heap.size ≤ p) {A : Option Addr} {c : Nat} {l : List (List Int)} (hC : Kd.C (Kd.slice 5 (Kd.int .u8)) W0 A l.length l) (hc : l.length ≤ c) (hok : ∀ x ∈ l, True) (HL0 : (ys ++ l.flatMap rowE).length ≤ 1000000000000) (hn : l.length ≤ 1000000000000)
    (HNC0 : Calls Tryd.prog 24 #[.pointer (some ⟨p, 0, none⟩), .int .u64 (l.length : Int)] w fun e w' => e = .returned (.tuple #[]) ∧ WrE w' p ys ∧ Below p w w') :
    Calls Tryd.prog 55 #[.pointer (some ⟨p, 0, none⟩), .slice A l.length c, .func (.func 25) #[.pointer (some ⟨p, 0, none⟩)] #[]] w fun e w' => e = .returned (.tuple #[]) ∧ WrE w' p (ys ++ l.flatMap rowE) ∧ Below p w w' := by
  have hw : IntKind.u64.wrap (l.length : Int) = (l.length : Int) := by rw [IntKind.wrap_u64]; omega
  have HL := Lib.hid HL0
  have HNC := Lib.hid HNC0
  have HW0 := Lib.hid hW
  have HP := Lib.hid hp
  have HC := Lib.hid hC
  have HOK := Lib.hid hok
  have HN := Lib.hid hn
  have eg : ∀ args w, (callFunc 25 args).run Tryd.prog w = .ok (.enter 25 args) w := fun args w => enters_ Tryd.func25 (by kernel_rfl) rfl args w
  clear hW hp hC hok hn HL0 HNC0
  go_enter Tryd.func55, Tryd.ntmps55
  go_wp2_with fail
  refine HNC.out.mono ?_
  rintro e w1 ⟨rfl, hW1, hT1⟩
  have HW1 := Lib.hid hW1
  have HB1 := Lib.hid hT1
  clear hW1 hT1 HNC
  go_wp2
  go_loopw [7, 15] (fun _ i wr => ∃ k : Nat, k ≤ l.length ∧ i = .int .i64 k ∧ Hid (WrE wr p (ys ++ (l.take k).flatMap rowE)) ∧ Hid (WT p w1 wr)) (fun _ i _ => l.length - (intOf i).toNat)
  case atStart => exact ⟨0, Nat.zero_le _, rfl, Lib.hid (by simpa using HW1.out), Lib.hid (WT.refl p w1)⟩
  case round =>
    obtain ⟨k, hk, rfl, HWr, HTr⟩ := hrel
    by_cases hlt : k < l.length
    · have q1 : decide ((k : Int) < (l.length : Int)) = true := decide_eq_true (by omega)
      have q2 : decide (k < l.length) = true := decide_eq_true hlt
      have q3 : (k : Int) < (l.length : Int) := by omega
      have hbw := low_then (low_then HW0.out HP.out HB1.out) HP.out (HTr.out.low HW1.out)
      obtain ⟨ad, Ax, cx, hA, y0, hcx, hCx⟩ := at_L13 HC.out (k : Int) (by omega) (by omega)
      obtain ⟨x, hxe⟩ : ∃ x, l[k]? = some x := ⟨_, List.getElem?_eq_getElem hlt⟩
      have hx : rd_L13 l (k : Int) = x := by
        show l.getD (Int.toNat (k : Int)) _ = x
        rw [Int.toNat_natCast, List.getD_eq_getElem?_getD, hxe]
        rfl
      rw [hx] at y0 hcx hCx
      rw [Int.toNat_natCast] at y0
      have y0 := (hbw.cell (World.block_lt_of_cell? W0 _ y0)).trans y0
      subst hA
      have HOKx := Lib.hid (HOK.out x (List.mem_of_getElem? hxe))
      have HLx := Lib.hid (show ((ys ++ (l.take k).flatMap rowE) ++ rowE x).length ≤ 1000000000000 by
        have := HL.out
        have h2 := flat_le rowE hxe
        simp only [List.length_append] at this ⊢
        omega)
      have HS := Lib.hid (flat_succ rowE hxe)
      have HLT := Lib.hid hlt
      have HT2 := HTr
      have HNW := Lib.hid (show ∀ k, k < W0.heap.size → ¬ WO wr p k from fun k hk ho => by obtain ⟨A', c', hw'⟩ := HWr.out; have := hw'.own ho; have := HP.out; omega)
      have HCX := Lib.hid hCx
      have HCx := Lib.hid (Kd.C_below hCx hbw)
      clear hx hxe hlt hk hbw hCx
      go_wp2_with fail
      refine (wrow_calls HWr.out HCx.out hcx (fun h0 ad hA => HNW.out _ (by obtain ⟨o, ho⟩ := C_lt HCX.out h0 hA; exact blk_lt ho)) HLx.out).mono ?_
      rintro e w3 ⟨rfl, hW, hT⟩
      have HW3 := Lib.hid (show WrE w3 p (ys ++ (l.take (k + 1)).flatMap rowE) by rw [HS.out, ← List.append_assoc]; exact hW)
      have HT3 := Lib.hid (HT2.out.trans hT)
      clear hW hT
      go_wp2
      go_roundw
      case rel => exact ⟨k + 1, HLT.out, by rw [wsuc1 HLT.out HN.out], HW3, HT3⟩
      case measure => exact meas1 HN.out HLT.out
    · have q1 : decide ((k : Int) < (l.length : Int)) = false := decide_eq_false (by omega)
      have hke : k = l.length := by omega
      subst hke
      have HW3 := Lib.hid (show WrE wr p (ys ++ l.flatMap rowE) by have := HWr.out; rwa [List.take_length] at this)
      clear hlt hk HWr
      go_wp2
      go_end0
      exact ⟨rfl, HW3.out, low_trans HB1.out (HTr.out.low HW1.out)⟩
end Go.Proofs.YtkgpnfjmahjlcaaDoor.Wi

namespace Go.Proofs.YtkgpnfjmahjlcaaDoor.Wi
open Go.RowKit Go.Proofs.YtkgpnfjmahjlcaaDoorW.PrintWords Go.Proofs.YtkgpnfjmahjlcaaDoorW.PrintLast Go.Proofs.YtkgpnfjmahjlcaaDoorW.PrintMore Go.Proofs.YtkgpnfjmahjlcaaDoor.Math Go.Proofs.YtkgpnfjmahjlcaaDoor.PAll Go.Proofs.YtkgpnfjmahjlcaaDoor.NumFacts Go.Proofs.YtkgpnfjmahjlcaaDoor.Sq
set_option linter.unusedVariables false
set_option linter.unusedSimpArgs false
section
variable {P : Program} {ops : Array Oper} {rest : List Oper} {o : Oper} {a : Act} {Q : Exit → Act → World → Prop} {K : Act → World → Prop}
/-- Something appended to a row that is full: a new row. -/
theorem wp_append_full (W : World) (base : Nat) (s x : Operand) (t e : TypeId) (ho : o.op = .call { callee := .builtin .append, args := #[s, x], argTypes := #[t, t] })
    (ht : P.underlying t = some (.slice e)) (hinfo : (P.info? e).map (fun i => (i.zero, i.size, i.bytes)) = some (some (.int .u8 0), 1, 1)) (xs ys : List Int) (A0 A : Option Addr) (n c : Nat) (hn : xs.length = n)
    (hs : a.eval s = .slice A0 n n) (hx : a.eval x = .slice A ys.length c) (hp0 : 0 < xs.length) (HX : Kd.C (Kd.int .u8) W A0 xs.length xs) (HR : Kd.C (Kd.int .u8) W A ys.length ys) (hp : 0 < ys.length) (hbase : base ≤ W.heap.size)
    (hl : xs.length + ys.length ≤ 140737488355328)
    (h : ∀ v1 w1, Kd.R (Kd.int .u8) e w1 base (fun _ => True) v1 (xs ++ ys) → W.grownBy w1 none → K (a.put o.dst v1) w1) : Oper.wp P o a W K Q := by
  subst hn
  obtain ⟨i, hi, hz, hsz, hby⟩ := info_parts hinfo
  obtain ⟨ad0, rfl, hsrc0⟩ := C_src HX hp0
  obtain ⟨ad, rfl, hsrc⟩ := C_src HR hp
  obtain ⟨v', w', hrun, hown, hgr⟩ := run_append_arg_grows (P := P) W t o.type e i (.int .u8 0) 1 1 ht hi hz hsz hby rfl (by decide) ad0 xs.length xs.length (xs.map (Value.int .u8)) (by simp) hsrc0
    ad ys.length c (ys.map (Value.int .u8)) (by simp) hsrc (by omega) (by unfold maxLen; omega) (by omega)
  unfold Oper.wp
  simp [execOp, ho, resolve, invoke, builtin, hs, hx, hrun, Result.andThen]
  refine h _ _ (Kd.R_of_own (enc := Value.int .u8) (h1 := fun _ => rfl) ?_ (fun _ _ => trivial)) hgr
  have h2 := own_weaken hown hbase
  rw [show encs (Value.int .u8) (xs ++ ys) = xs.map (Value.int .u8) ++ ys.map (Value.int .u8) by simp [encs], List.length_append]
  exact h2
end
theorem low_of {w w1 : World} {p : Nat} (h : Below w.heap.size w w1) (hp : p ≤ w.heap.size) : Below p w w1 := h.mono hp
theorem low_grown {w w1 : World} {p : Nat} (h : w.grownBy w1 none) (hp : p ≤ w.heap.size) : Below p w w1 := ⟨h.os, h.tape, h.output, h.size, fun k hk => h.block k (by omega) (fun e => by cases e)⟩
theorem low_set (w : World) (p i : Nat) (v : Value) : Below p w (w.setCell ⟨p, i, none⟩ v) := ⟨rfl, rfl, rfl, by simp [World.setCell], fun k hk => Below.heap_setCell w ⟨p, i, none⟩ v k (by show k ≠ p; omega)⟩
theorem first_ne {w : World} {p : Nat} {xs : List Int} {A : Option Addr} {c : Nat} {cs : Array Value} (h : Kd.R (Kd.int .u8) 5 w p (fun _ => True) (.slice A xs.length c) xs) (hb : w.heap[p]? = some (.cells cs 58 (0, 0))) : (Value.slice A xs.length c).ownBlock ≠ some p := by
  intro e
  obtain ⟨_, inner, ho, _⟩ := h
  rcases ho.2 with ⟨h1, _⟩ | ⟨g, cap, cur, h1, hg', hh, _⟩
  · rw [h1] at e; cases e
  · rw [h1] at e
    injection e with e
    have e : g = p := e
    subst e
    rw [hb] at hh
    injection hh with hh
    injection hh with _ hh
    exact absurd hh (by decide)
theorem first_row {w : World} {p : Nat} {xs : List Int} {A : Option Addr} {c : Nat} {v : Value} (h : Kd.R (Kd.int .u8) 5 w p (fun _ => True) (.slice A xs.length c) xs) (hne : (Value.slice A xs.length c).ownBlock ≠ some p) : Kd.R (Kd.int .u8) 5 (w.setCell ⟨p, 0, none⟩ v) p (fun _ => True) (.slice A xs.length c) xs := by
  have h4 := Kd.R_flat (ok' := fun k => some k = (Value.slice A xs.length c).ownBlock) (fun {_ _ _ _} hm => hm) h (fun k hk _ => hk.symm)
  exact Kd.R_mono (Kd.R_step h4 fun k hk hlt => Below.heap_setCell w ⟨p, 0, none⟩ v k (fun e => hne (by rw [← hk, e]))) (fun _ _ => trivial)
set_option maxHeartbeats 4000000 in
set_option maxRecDepth 100000 in
/-- The first number behind a constant's row. -/
theorem wnum_first {w : World} {p g : Nat} {xs : List Int} (hb : w.heap[p]? = some (.cells #[.slice (some ⟨g, 0, none⟩) 4 4] 58 (0, 0))) (hgp : g < p) (h4 : xs.length = 4) (hX : Kd.C (Kd.int .u8) w (some ⟨g, 0, none⟩) xs.length xs) (v : Int) (hv : u64 v) :
    Calls Tryd.prog 24 #[.pointer (some ⟨p, 0, none⟩), .int .u64 v] w fun e w' => e = .returned (.tuple #[]) ∧ WrE w' p (xs ++ vput v) ∧ Below p w w' := by
  have HC := Lib.hid (fun w => num_Put.calls 20 v (vput v) w (put_eq 20 v hv.1 hv.2 (by decide)))
  have HL := Lib.hid (show (vput v).length ≤ 10 ∧ 0 < (vput v).length from ⟨vput_len10 hv.2, vput_len_pos v⟩)
  obtain ⟨ys, hys⟩ : ∃ ys, vput v = ys := ⟨_, rfl⟩
  rw [hys] at HC HL ⊢
  have k0 : w.drew.cell? ⟨p, 0, none⟩ = some (.slice (some ⟨g, 0, none⟩) 4 4) := (blk_cell hb 0).trans rfl
  have HH := Lib.hid hb
  have HX := Lib.hid hX
  have H4 := Lib.hid h4
  have HPL := Lib.hid (blk_lt hb)
  clear hb hX hv hys h4
  go_enter Tryd.func24, Tryd.ntmps24
  refine start_ (n := 11) (S := fun w' => w'.cell? ⟨p, 0, none⟩ = some (.slice (some ⟨g, 0, none⟩) 4 4)) (ds := [10]) #[false, false, false, false, false, false, false, false, false, false, false] (by kernel_rfl) rfl rfl (k0) (fun hHeld => ?_)
  have HB0 := Lib.hid (below_drew (Below.refl w.heap.size w))
  generalize w.drew = w5 at k0 HB0 hHeld ⊢
  clear k0
  refine pure_ (i := 0) (N := some 4) (v := ?_) (a' := ?_) #[true, false, false, false, false, false, false, false, false, false, false] rfl rfl (by kernel_rfl) (fun _ _ _ h => h) (Or.inl ⟨by rfl, ?_⟩) ?_ ?_
  rotate_left
  · intro w'
    go_simp
    with_reducible rfl
  rotate_left
  · simp only [Act.put, List.setIfInBounds_toArray, List.set_cons_zero, List.set_cons_succ, i64_w, i32_w]
    rfl
  refine pure_ (i := 1) (N := some 5) (v := ?_) (a' := ?_) #[true, true, false, false, false, false, false, false, false, false, false] rfl rfl (by kernel_rfl) (fun _ _ _ h => h) (Or.inl ⟨by rfl, ?_⟩) ?_ ?_
  rotate_left
  · intro w'
    go_simp
    with_reducible rfl
  rotate_left
  · simp only [Act.put, List.setIfInBounds_toArray, List.set_cons_zero, List.set_cons_succ, i64_w, i32_w]
    rfl
  refine pure_ (i := 2) (N := some 6) (v := ?_) (a' := ?_) #[true, true, true, false, false, false, false, false, false, false, false] rfl rfl (by kernel_rfl) (fun _ _ _ h => h) (Or.inl ⟨by rfl, ?_⟩) ?_ ?_
  rotate_left
  · intro w'
    go_simp
    with_reducible rfl
  rotate_left
  · simp only [Act.put, List.setIfInBounds_toArray, List.set_cons_zero, List.set_cons_succ, i64_w, i32_w]
    rfl
  refine pure_ (i := 3) (N := some 7) (v := ?_) (a' := ?_) #[true, true, true, true, false, false, false, false, false, false, false] rfl rfl (by kernel_rfl) (fun _ _ _ h => h) (Or.inl ⟨by rfl, ?_⟩) ?_ ?_
  rotate_left
  · intro w'
    go_simp
    with_reducible rfl
  rotate_left
  · simp only [Act.put, List.setIfInBounds_toArray, List.set_cons_zero, List.set_cons_succ, i64_w, i32_w]
    rfl
  refine pure_ (i := 5) (N := some 9) (v := ?_) (a' := ?_) #[true, true, true, true, false, true, false, false, false, false, false] rfl rfl (by kernel_rfl) (fun _ _ _ h => h) (Or.inl ⟨by rfl, ?_⟩) ?_ ?_
  rotate_left
  · intro w'
    go_simp
    with_reducible rfl
  rotate_left
  · simp only [Act.put, List.setIfInBounds_toArray, List.set_cons_zero, List.set_cons_succ, i64_w, i32_w]
    rfl
  refine take_ (i := 4) (N := some 8) (v := ?_) (a' := ?_) #[true, true, true, true, true, true, false, false, false, false, false] rfl rfl (by kernel_rfl) (fun _ _ _ h => h) (Or.inl ⟨by rfl, ?_⟩) hHeld ?_ ?_
  rotate_left
  · intro w' s0
    go_simp
    with_reducible rfl
  rotate_left
  · simp only [Act.put, List.setIfInBounds_toArray, List.set_cons_zero, List.set_cons_succ, i64_w, i32_w]
    rfl
  refine one_ (i := 6) (N := some 10) #[true, true, true, true, true, true, true, false, false, false, false] rfl rfl (by kernel_rfl) (by decide) (fun K hK => ?_)
  refine goes_ Tryd.func61 (by kernel_rfl) rfl #[.int .u64 v] (by rfl) rfl rfl (by simp only [List.map_toArray, List.map_cons, List.map_nil]; rfl) ?_
  with_reducible refine (HC.out _).mono ?_
  rintro ee w6 ⟨v6, rfl, hv6, hb6⟩
  refine ⟨_, rfl, ?_⟩
  obtain ⟨A6, c6, rfl⟩ := Kd.R_slice hv6
  have HO6 := Lib.hid (Kd.R_reads' hv6).2.2
  have HB6 := Lib.hid (below_step HB0.out hb6)
  clear hv6 hb6
  refine hK.out _ _ ((blk_cell (block_below HH.out HB6.out) 0).trans rfl) (fun hHeld => ?_)
  clear hK K
  refine norm_ (a' := ?_) ?_ ?_
  rotate_left
  · show Act.put _ (some 10) _ = _
    simp only [Act.put, List.setIfInBounds_toArray, List.set_cons_zero, List.set_cons_succ, i64_w, i32_w]
    rfl
  refine one_ (i := 7) (N := some 11) #[true, true, true, true, true, true, true, true, false, false, false] rfl rfl (by kernel_rfl) (by decide) (fun K hK => ?_)
  rw [if_pos (by rfl)]
  refine wp_append_full w6 p (.tmp 8) (.tmp 10) 30 5 rfl Tryd.underlying30 info5 xs ys (some ⟨g, 0, none⟩) A6 4 c6 H4.out rfl rfl (by have := H4.out; omega) (Kd.C_below HX.out HB6.out) HO6.out HL.out.2 (by have := HB6.out.size; have := HPL.out; omega) (by have := HL.out; have := H4.out; omega) ?_
  intro v7 w7 ho hg_
  obtain ⟨A7, c7, rfl⟩ := Kd.R_slice ho
  have hb7 := (hg_.block p (by have := HB6.out.size; have := HPL.out; omega) (fun e => by cases e)).trans (block_below HH.out HB6.out)
  obtain ⟨m7, hm7⟩ : ∃ m, (xs ++ ys).length = m := ⟨_, rfl⟩
  have hb8 := blk_set hb7 0 (.slice A7 (xs ++ ys).length c7)
  have hne : (Value.slice A7 (xs ++ ys).length c7).ownBlock ≠ some p := first_ne ho hb7
  have HW8 := Lib.hid (show WrS (w7.setCell ⟨p, 0, none⟩ (.slice A7 (xs ++ ys).length c7)) p (xs ++ ys) A7 c7 from ⟨hb8, first_row ho hne⟩)
  have HT8 := Lib.hid (show Below p w (w7.setCell ⟨p, 0, none⟩ (.slice A7 (xs ++ ys).length c7)) from low_trans (low_trans (low_of HB6.out (by have := HPL.out; omega)) (low_grown hg_ (by have := HB6.out.size; have := HPL.out; omega))) (low_set w7 p 0 _))
  rw [hm7] at HW8 HT8 ⊢
  have c7_ := (blk_cell hb7 0).trans rfl
  have f7_ := blk_frozen hb7 0
  clear ho hg_ hm7 hb8 hne
  refine hK.out _ _ ((blk_cell hb7 0).trans rfl) (fun hHeld => ?_)
  clear hK K
  refine norm_ (a' := ?_) ?_ ?_
  rotate_left
  · show Act.put _ (some 11) _ = _
    simp only [Act.put, List.setIfInBounds_toArray, List.set_cons_zero, List.set_cons_succ, i64_w, i32_w]
    rfl
  refine pure_ (i := 8) (N := some 12) (v := ?_) (a' := ?_) #[true, true, true, true, true, true, true, true, true, false, false] rfl rfl (by kernel_rfl) (fun _ _ _ h => h) (Or.inl ⟨by rfl, ?_⟩) ?_ ?_
  rotate_left
  · intro w'
    go_simp
    with_reducible rfl
  rotate_left
  · simp only [Act.put, List.setIfInBounds_toArray, List.set_cons_zero, List.set_cons_succ, i64_w, i32_w]
    rfl
  refine pure_ (i := 9) (N := some 13) (v := ?_) (a' := ?_) #[true, true, true, true, true, true, true, true, true, true, false] rfl rfl (by kernel_rfl) (fun _ _ _ h => h) (Or.inl ⟨by rfl, ?_⟩) ?_ ?_
  rotate_left
  · intro w'
    go_simp
    with_reducible rfl
  rotate_left
  · simp only [Act.put, List.setIfInBounds_toArray, List.set_cons_zero, List.set_cons_succ, i64_w, i32_w]
    rfl
  refine last_ (i := 10) (N := none) #[true, true, true, true, true, true, true, true, true, true, true] rfl rfl (by kernel_rfl) (by decide) (fun K hK => ?_)
  refine skip_ (w1 := ?_) (by rfl) rfl ?_ ?_
  rotate_left
  · go_simp
    rfl
  refine hK.out _ _ ?_
  clear hK K
  refine done_ (by kernel_rfl) ?_
  go_end0
  exact ⟨rfl, ⟨_, _, HW8.out⟩, HT8.out⟩
theorem flat_len' (rows : List (List Int)) : rows.length ≤ (rows.flatMap rowE).length := flat_len (fun b => by unfold rowE; have := vput_len_pos (b.length : Int); simp only [List.length_append]; omega) rows
def markB : List Int := [67, 66, 65, 84]
set_option maxHeartbeats 4000000 in
set_option maxRecDepth 100000 in
theorem join_calls {W : World} {A : Option Addr} {c : Nat} {rows : List (List Int)} (hC : Kd.C (Kd.slice 5 (Kd.int .u8)) W A rows.length rows) (hc : rows.length ≤ c) (hl : (markB ++ listE rowE rows).length ≤ 1000000000000) :
    Calls Tryd.prog 21 #[.slice A rows.length c] W fun e w' => ∃ v, e = .returned v ∧ Kd.R (Kd.int .u8) 5 w' W.heap.size (fun _ => True) v (markB ++ listE rowE rows) ∧ Below W.heap.size W w' := by
  have hrl : rows.length ≤ 1000000000000 := by
    unfold listE at hl
    simp only [List.length_append] at hl
    have := flat_len' rows
    omega
  have kc := Lib.run_convert_bytes_const (P := Tryd.prog) W 30 5 #[.int .u8 67, .int .u8 66, .int .u8 65, .int .u8 84] 4 4 Tryd.underlying30 Tryd.underlying5
  have kc : (Go.convert 30 30 (.slice (some ⟨W.heap.size, 0, none⟩) 4 4)).run Tryd.prog (W.alloc (.cells #[.int .u8 67, .int .u8 66, .int .u8 65, .int .u8 84] 5)) = .ok (.slice (some ⟨W.heap.size, 0, none⟩) 4 4) (W.alloc (.cells #[.int .u8 67, .int .u8 66, .int .u8 65, .int .u8 84] 5 (4, 5))) := kc
  have hb1 : Below W.heap.size W (W.alloc (.cells #[.int .u8 67, .int .u8 66, .int .u8 65, .int .u8 84] 5 (4, 5))) := below_alloc (Below.refl _ _) _
  have k1 : (W.alloc (.cells #[.int .u8 67, .int .u8 66, .int .u8 65, .int .u8 84] 5 (4, 5))).heap[W.heap.size]? = some (.cells #[.int .u8 67, .int .u8 66, .int .u8 65, .int .u8 84] 5 (4, 5)) := heap_alloc_new W _
  have hs1 : (W.alloc (.cells #[.int .u8 67, .int .u8 66, .int .u8 65, .int .u8 84] 5 (4, 5))).heap.size = W.heap.size + 1 := by simp
  have hb2 := below_alloc hb1 (.cells #[.slice (some ⟨W.heap.size, 0, none⟩) 4 4] 58)
  have k2 := heap_alloc_new (W.alloc (.cells #[.int .u8 67, .int .u8 66, .int .u8 65, .int .u8 84] 5 (4, 5))) (.cells #[.slice (some ⟨W.heap.size, 0, none⟩) 4 4] 58)
  have k3 := block_below k1 (below_alloc (Below.refl _ _) (.cells #[.slice (some ⟨W.heap.size, 0, none⟩) 4 4] 58))
  rw [hs1] at k2
  have hrd : Kd.C (Kd.int .u8) ((W.alloc (.cells #[.int .u8 67, .int .u8 66, .int .u8 65, .int .u8 84] 5 (4, 5))).alloc (.cells #[.slice (some ⟨W.heap.size, 0, none⟩) 4 4] 58)) (some ⟨W.heap.size, 0, none⟩) markB.length markB := C_block markB (by decide) k3
  obtain ⟨p, hp⟩ : ∃ p, W.heap.size + 1 = p := ⟨_, rfl⟩
  rw [hp] at k2 hs1
  have HW := Lib.hid (list_rows (ys := markB ++ vput (rows.length : Int)) hb2 (show W.heap.size ≤ p by omega) hC hc (fun _ _ => trivial) (by rw [List.append_assoc]; exact hl) hrl (wnum_first k2 (by omega) rfl hrd (rows.length : Int) ⟨by omega, by omega⟩))
  rw [List.append_assoc] at HW
  have HB2 := Lib.hid hb2
  have HP := Lib.hid (show W.heap.size ≤ p by omega)
  obtain ⟨zs, hzs⟩ : ∃ zs, markB ++ listE rowE rows = zs := ⟨_, rfl⟩
  have hzs' : markB ++ (vput (rows.length : Int) ++ rows.flatMap rowE) = zs := hzs
  rw [hzs'] at HW
  rw [hzs]
  clear hC hc hl hrl hb1 k1 hb2 k2 k3 hrd hzs hzs'
  obtain ⟨w1, hw1⟩ : ∃ w1, W.alloc (.cells #[.int .u8 67, .int .u8 66, .int .u8 65, .int .u8 84] 5 (4, 5)) = w1 := ⟨_, rfl⟩
  rw [hw1] at kc hs1 HW HB2
  go_enter Tryd.func21, Tryd.ntmps21
  go_wp2_with fail
  refine HW.out.mono ?_
  rintro e w3 ⟨rfl, ⟨A3, c3, h3⟩, hb3⟩
  have kz : w3.cell? ⟨p, 0, none⟩ = some (.slice A3 zs.length c3) := (blk_cell h3.blk 0).trans rfl
  have HR := Lib.hid (Kd.R_lower h3.row HP.out)
  have HB3 := Lib.hid (low_then HB2.out HP.out hb3)
  clear h3 hb3
  go_wp2
  go_ret
  exact ⟨_, rfl, HR.out, HB3.out⟩
end Go.Proofs.YtkgpnfjmahjlcaaDoor.Wi
