/- Contracts of functions of page, by hand: Clone, Frame. -/
import Derived.Test.YtmbhedlplmbfoaaPAllx0
import Derived.Test.YtmbhedlplmbfoaaPLowx
import Derived.Test.YtmbhedlplmbfoaaBlocks
import Derived.Test.YtmbhedlplmbfoaaExtGet
import Derived.Test.YtmbhedlplmbfoaaExtCrc
import Derived.Lib.SliceRun
import Derived.Deep.RegionLaw
namespace Go.Proofs.Ytmbhedlplmbfoaa.PAll
open Go.RowKit Go.Proofs.YtmbhedlplmbfoaaW.PrintWords Go.Proofs.YtmbhedlplmbfoaaW.PrintLast Go.Proofs.YtmbhedlplmbfoaaW.PrintMore Go.Proofs.Ytmbhedlplmbfoaa.Math
set_option linter.unusedVariables false
set_option linter.unusedSimpArgs false

/-! ### Four bytes -/
def be8 (v : Int) : List Int := [v / 72057594037927936 % 256, v / 281474976710656 % 256, v / 1099511627776 % 256, v / 4294967296 % 256, v / 16777216 % 256, v / 65536 % 256, v / 256 % 256, v % 256]
def be4 (v : Int) : List Int := [v / 16777216 % 256, v / 65536 % 256, v / 256 % 256, v % 256]
theorem be4_isB (v : Int) : IsB (be4 v) := by
  intro x hx
  simp only [be4, List.mem_cons, List.not_mem_nil, or_false] at hx
  omega

theorem key_step (k : Nat) (v : Int) (l : List Int) (hl : l.length = 8) (i : Nat) (hi : i < 8) :
    PLow.num_Key.l0 (k + 1) v l 8 (i : Int) = PLow.num_Key.l0 k v (l.set (7 - i) (v / 256 ^ i % 256)) 8 ((i + 1 : Nat) : Int) := by
  rw [PLow.num_Key.l0, if_pos (by omega)]
  have e1 : wrap64 (8 * (i : Int)) = 8 * (i : Int) := wrap_id (by omega) (by omega)
  have e2 : wrap64 (7 - (i : Int)) = 7 - (i : Int) := wrap_id (by omega) (by omega)
  have e3 : wrap64 ((i : Int) + 1) = (i : Int) + 1 := wrap_id (by omega) (by omega)
  rw [e1, e2, e3]
  clear e1 e2 e3
  rw [if_pos (by omega), if_pos (by omega), if_pos (by omega)]
  have e4 : (7 - (i : Int)).toNat = 7 - i := by omega
  have e5 : shr .u64 v (8 * (i : Int)) = v / 256 ^ i := by
    unfold shr
    have : min (8 * (i : Int)).toNat (IntKind.bits .u64) = 8 * i := by
      show min (8 * (i : Int)).toNat 64 = 8 * i
      omega
    rw [this, Int.pow_mul]; rfl
  rw [e4, e5]; rfl

theorem low_key (v : Int) : PLow.num_Key.f 9 v = some (be8 v) := by
  unfold PLow.num_Key.f
  rw [if_pos (by omega), Option.bind_some]
  show PLow.num_Key.l0 (0 + 9) v [0, 0, 0, 0, 0, 0, 0, 0] 8 ((0 : Nat) : Int) = _
  rw [key_step _ _ _ rfl 0 (by omega), key_step _ _ _ rfl 1 (by omega), key_step _ _ _ rfl 2 (by omega), key_step _ _ _ rfl 3 (by omega), key_step _ _ _ rfl 4 (by omega), key_step _ _ _ rfl 5 (by omega), key_step _ _ _ rfl 6 (by omega), key_step _ _ _ rfl 7 (by omega), PLow.num_Key.l0, if_neg (by omega)]
  simp [be8]

theorem low_put (v : Int) (h0 : 0 ≤ v) (h1 : v < 4294967296) : PLow.num_Put32.f 9 v = some (be4 v) := by
  unfold PLow.num_Put32.f
  have e : IntKind.u64.wrap v = v := by rw [IntKind.wrap_u64]; omega
  rw [e, low_key, Option.bind_some, if_pos (by simp [be8])]
  rfl

theorem put_calls (v : Int) (w : World) (h0 : 0 ≤ v) (h1 : v < 4294967296) :
    Calls Try.prog 13 #[.int .u32 v] w fun e w' => ∃ ad c, e = .returned (.slice (some ad) 4 c) ∧ (∀ (j : Nat) x, ((be4 v).map (Value.int .u8))[j]? = some x → w'.cell? (ad.add j) = some x) ∧ Below w.heap.size w w' := by
  refine (PLow.num_Put32.calls 9 v (be4 v) w (low_put v h0 h1)).mono ?_
  rintro e w' ⟨v0, rfl, hq, hb⟩
  obtain ⟨A, c, rfl, hl, hc⟩ := Kd.Q_reads hq
  obtain ⟨ad, rfl, hs⟩ := C_src hc (by simp [be4])
  exact ⟨ad, c, rfl, hs, hb⟩

/-! ### bytes.Clone -/
def bytes_Clone.f (l0 : List Int) : Option (List Int) := if l0.length < 140737488355328 then some l0 else none

set_option maxHeartbeats 400000 in
theorem bytes_Clone.calls (A0 : Option Addr) (c0 : Nat) (l0 : List Int) (r : List Int) (w : World) (hr0 : Kd.C (Kd.int .u8) w A0 l0.length l0) (hc0 : l0.length ≤ c0) (h : bytes_Clone.f l0 = some r) :
    Calls Try.prog 16 #[.slice A0 l0.length c0] w fun e w' => ∃ v0_ : Value, e = .returned (v0_) ∧ Kd.R (Kd.int .u8) 5 w' w.heap.size (fun _ => True) v0_ r ∧ Below w.heap.size w w' := by
  have q : ∀ (w : World) (a : Option Addr) (n c n' c' : Nat), (binOp .eql 23 (.slice a n c) (.slice none n' c')).run Try.prog w = .ok (.bool a.isNone) w := fun w a n c n' c' => Lib.run_eql_slice_nil w _ _ a n c n' c' Try.underlying23
  unfold bytes_Clone.f at h
  split at h
  · rename_i hl
    injection h with h
    subst h
    rcases A0 with _ | ad
    · have h0 := C_none hr0
      subst h0
      go_enter Try.func16, Try.ntmps16
      go_wp2
      go_ret
      exact ⟨_, rfl, Kd.R_nil _ _ _ _ _, Below.refl _ _⟩
    · have HR := Aside0.mk hr0
      have HL := Aside0.mk hl
      clear hr0 hl
      go_enter Try.func16, Try.ntmps16
      go_wp2_with (first | ((with_reducible refine gate_dst (N := 5) rfl ?_); refine Kd.R_lit (Kd.int .u8) _ 5 ?hg (N := 5) ?hd (xs := ([] : List Int)) (inner := []) (ok := fun _ => True) (okp := fun _ => True) ?hr ?hp (fun _ hk => hk) trivial (Below.refl _ _) (Nat.le_refl _) (by simp) ?_; (case hd => rfl); (case hg => rfl); (case hr => first | (go_simp; done) | (go_simp; rfl)); (case hp => exact (Reps.none _ _)); intro v1 w1 ho hb hg_ hnew_; clear hg_ hnew_; have HO := Aside0.mk ho; have HB := Aside0.mk hb; clear ho hb) | ((with_reducible refine gate_builtin (b := .append) (xs := #[.tmp 5, .tmp 6]) rfl ?_); at_builtin; refine Kd.R_append_rows (Kd.int .u8) (w0 := w) w.heap.size rfl (.tmp 5) (.tmp 6) 23 5 (.int .u8 0) 1 rfl Try.underlying23 info5 rfl (by decide) (by omega) v1 [] l0 _ _ _ (fun _ => True) (fun _ => False) rfl rfl ?aO ?aR (fun _ _ h => h) (fun _ h => h.elim) ?aF ?aB ?aS ?aL ?_; (case aR => exact Kd.C_below HR.out HB.out); (case aB => exact HB.out); (case aF => exact (fun _ _ => trivial)); (case aO => exact HO.out); (case aS => exact below_size HB.out); (case aL => have := HL.out; simp; omega); intro v2 w2 ho hb hg hat; have HO2 := Aside0.mk ho; have HB2 := Aside0.mk hb; clear ho hb hg hat))
      go_ret
      exact ⟨_, rfl, by simpa using HO2.out, HB2.out⟩
  · cases h

end Go.Proofs.Ytmbhedlplmbfoaa.PAll
