/- The walk of WireMany, at any span and any number. (walk_wmany.py) -/
import Derived.Test.YtkgpnfjmahjlcaaDoorWiMany
import Derived.Test.YtkgpnfjmahjlcaaDoorReads
namespace Go.Proofs.YtkgpnfjmahjlcaaDoor.Walk
open Go.RowKit Go.Proofs.YtkgpnfjmahjlcaaDoorW.PrintWords Go.Proofs.YtkgpnfjmahjlcaaDoorW.PrintLast Go.Proofs.YtkgpnfjmahjlcaaDoorW.PrintMore Go.Proofs.YtkgpnfjmahjlcaaDoor.Math Go.Proofs.YtkgpnfjmahjlcaaDoor.PAll Go.Proofs.YtkgpnfjmahjlcaaDoor.NumFacts Go.Proofs.YtkgpnfjmahjlcaaDoor.Pure Go.Proofs.YtkgpnfjmahjlcaaDoor.Span Go.Proofs.YtkgpnfjmahjlcaaDoor.Runes Go.Proofs.YtkgpnfjmahjlcaaDoor.Text Go.Proofs.YtkgpnfjmahjlcaaDoor.Wi Go.Proofs.YtkgpnfjmahjlcaaDoor.Open
set_option linter.unusedVariables false
set_option linter.unusedSimpArgs false
theorem wf_u8 {v : Int} (h : (Lit.int .u8 v).wf = true) : 0 ≤ v ∧ v < 256 := by
  have h := wf_int h
  rw [show IntKind.min .u8 = 0 by decide, show IntKind.max .u8 = 255 by decide] at h
  omega
/-- The box. -/
structure Ow (W w : World) (cs0 : Array Value) : Prop where
  bw : Below W.heap.size W w
  k0 : w.heap[W.heap.size]? = some (.cells cs0 27 (0, 0))
theorem Ow.next {W w w1 : World} {cs0 : Array Value} (h : Ow W w cs0) (hb : Below w.heap.size w w1) : Ow W w1 cs0 := ⟨below_step h.bw hb, block_below h.k0 hb⟩
theorem Ow.far {W w w1 : World} {cs0 : Array Value} (h : Ow W w cs0) (hb : Below (W.heap.size + 1) w w1) : Ow W w1 cs0 := ⟨low_then h.bw (Nat.le_succ _) hb, (hb.block _ (Nat.lt_succ_self _)).trans h.k0⟩
/-- Batch of too many. -/
theorem batch_many {W : World} {A : Option Addr} {c n : Nat} (h : 64 < n) :
    Calls Tryd.prog 20 #[.slice A n c] W fun e w' => e = .returned (.tuple #[.slice none 0 0, .int .i64 6]) ∧ Below W.heap.size W w' := by
  have d1 : decide ((n : Int) > 64) = true := decide_eq_true (by omega)
  have d2 : decide ((64 : Int) < (n : Int)) = true := decide_eq_true (by omega)
  have d3 : decide (64 < n) = true := decide_eq_true h
  clear h
  go_enter Tryd.func20, Tryd.ntmps20
  go_wp2
  go_ret2
  exact ⟨rfl, Below.refl _ _⟩
/-- Batch of one span so often. -/
theorem batch_any {w : World} {A : Option Addr} {c n : Nat} {x : S27} (hC : Kd.C k27 w A (List.replicate n x).length (List.replicate n x)) (hc : (List.replicate n x).length ≤ c) (hT : Tabs w) (hf : Few x) (ho : SpOk x) (hm : MayP x) :
    Calls Tryd.prog 20 #[.slice A (List.replicate n x).length c] w fun e w' => (∃ v : Value, e = .returned (.tuple #[v, .int .i64 (if 64 < n then 6 else 0)]) ∧ (64 < n → v = .slice none 0 0) ∧ (¬ 64 < n → Kd.R (Kd.int .u8) 5 w' w.heap.size (fun _ => True) v (markB ++ listE rowE (List.replicate n (enc x))))) ∧ Below w.heap.size w w' := by
  by_cases h : 64 < n
  · refine (batch_many (by rw [List.length_replicate]; exact h)).mono ?_
    rintro e w' ⟨rfl, hb⟩
    exact ⟨⟨_, by rw [if_pos h], fun _ => rfl, fun h2 => absurd h h2⟩, hb⟩
  · refine (batch_calls hC hc hT (by rw [List.length_replicate]; omega) (fun y hy _ => by rw [List.eq_of_mem_replicate hy]; exact ho) (fun y hy => by rw [List.eq_of_mem_replicate hy]; exact hf.a)).mono ?_
    rintro e w' ⟨hret, hb⟩
    rcases hret with ⟨_, v, rfl, hR⟩ | ⟨⟨y, hy, hn⟩, _⟩
    · rw [map_rep] at hR
      exact ⟨⟨v, by rw [if_neg h], fun h2 => absurd h2 h, fun _ => hR⟩, hb⟩
    · rw [List.eq_of_mem_replicate hy] at hn
      exact absurd hm hn
set_option maxHeartbeats 8000000 in
set_option maxRecDepth 100000 in
theorem WireMany (W : World) (x0 : S27) (cs0 : Array Value) (hk0 : k27.K W x0 cs0.toList) (hg0 : G27 x0) (a1 : Int) (hw : (Lit.int .u8 a1).wf = true) (hT : Tabs W) :
    Calls Tryd.prog 7 #[.agg cs0, .int .u8 a1] W fun e w' => e = .returned (.bool true) ∧ Below W.heap.size W w' := by
  obtain ⟨A8, c8, A9, c9, A10, c10, e0, l8, C8, l9, C9, l10, C10⟩ := k27_open hk0
  obtain rfl := (Array.toArray_toList (xs := cs0)).symm.trans (congrArg List.toArray e0)
  have hh0 : Hs W x0 A8 c8 A9 c9 A10 c10 := ⟨l8, C8, l9, C9, l10, C10⟩
  have HIS := Lib.hid (show Is W (⟨x0.f0, x0.f1, x0.f2, x0.f3, x0.f4, x0.f5, x0.f6, x0.f7, (A8, x0.f8.length, c8), (A9, x0.f9.length, c9), (A10, x0.f10.length, c10)⟩ : Sp) x0 from by rw [e0] at hk0; exact hk0)
  have HF0 := Lib.hid (few_of hg0)
  have HR0 := Lib.hid (rng_of hg0)
  obtain ⟨ha0, ha1⟩ := wf_u8 hw
  have HTB := Lib.hid hT
  have HH0 := Lib.hid hh0
  have hwa : wrap64 a1 = a1 := by unfold wrap64; omega
  obtain ⟨m, hm⟩ : ∃ m : Nat, a1.tmod 70 = (m : Int) := ⟨(a1.tmod 70).toNat, by have := Int.tmod_nonneg 70 ha0; omega⟩
  have hm70 : m < 70 := by have h1 := Int.tmod_lt_of_pos a1 (show (0 : Int) < 70 by omega); rw [hm] at h1; omega
  have HM70 := Lib.hid hm70
  have hmw : wrap64 (m : Int) = (m : Int) := by unfold wrap64; omega
  obtain ⟨en, hen⟩ : ∃ l, enc x0 = l := ⟨_, rfl⟩
  have HEN := Lib.hid hen
  have hal := below_alloc (Below.refl W.heap.size W) (.cells #[.int .u64 x0.f0, .int .u64 x0.f1, .int .u64 x0.f2, .string x0.f3, .string x0.f4, .int .i64 x0.f5, .int .i64 x0.f6, .int .i64 x0.f7, .slice A8 x0.f8.length c8, .slice A9 x0.f9.length c9, .slice A10 x0.f10.length c10] 27)
  have k1 := heap_alloc_new W (.cells #[.int .u64 x0.f0, .int .u64 x0.f1, .int .u64 x0.f2, .string x0.f3, .string x0.f4, .int .i64 x0.f5, .int .i64 x0.f6, .int .i64 x0.f7, .slice A8 x0.f8.length c8, .slice A9 x0.f9.length c9, .slice A10 x0.f10.length c10] 27)
  obtain ⟨w0, hw0⟩ : ∃ w0, W.alloc (.cells #[.int .u64 x0.f0, .int .u64 x0.f1, .int .u64 x0.f2, .string x0.f3, .string x0.f4, .int .i64 x0.f5, .int .i64 x0.f6, .int .i64 x0.f7, .slice A8 x0.f8.length c8, .slice A9 x0.f9.length c9, .slice A10 x0.f10.length c10] 27) = w0 := ⟨_, rfl⟩
  rw [hw0] at hal k1
  have HT0 := Lib.hid (show Ow W w0 #[.int .u64 x0.f0, .int .u64 x0.f1, .int .u64 x0.f2, .string x0.f3, .string x0.f4, .int .i64 x0.f5, .int .i64 x0.f6, .int .i64 x0.f7, .slice A8 x0.f8.length c8, .slice A9 x0.f9.length c9, .slice A10 x0.f10.length c10] from ⟨hal, k1⟩)
  have HAW := Lib.hid (awake_calls (tabs_below hT hal))
  clear hk0 hg0 e0 l8 C8 l9 C9 l10 C10 hh0 hT hw ha0 ha1 hal k1 hm70 hen
  go_enter Tryd.func7, Tryd.ntmps7
  go_wp2_with fail
  first | rw [hw0] | skip
  clear hw0
  refine HAW.out.mono ?_
  rintro e w1 ⟨rfl, hb⟩
  have HT1 := Lib.hid (HT0.out.next hb)
  clear hb HAW HT0
  obtain ⟨⟨y0, y1, y2, y3, y4, y5, y6, y7, y8, y9, y10⟩, yf⟩ := cb11 HT1.out.k0
  have HC := Lib.hid (small_w (HH0.out.below HT1.out.bw) HF0.out)
  go_wp2_with fail
  refine HC.out.mono ?_
  rintro e w2 ⟨⟨r, rfl⟩, hb⟩
  have HT2 := Lib.hid (HT1.out.next hb)
  clear hb HC HT1 y0 y1 y2 y3 y4 y5 y6 y7 y8 y9 y10 yf
  obtain ⟨⟨y0, y1, y2, y3, y4, y5, y6, y7, y8, y9, y10⟩, yf⟩ := cb11 HT2.out.k0
  cases r with
  | false =>
    go_wp2
    go_ret
    exact ⟨rfl, HT2.out.bw⟩
  | true =>
    have HC := Lib.hid (may_w (HH0.out.below HT2.out.bw) HF0.out)
    go_wp2_with fail
    refine HC.out.mono ?_
    rintro e w3 ⟨⟨r, rfl, hm⟩, hb⟩
    have HT3 := Lib.hid (HT2.out.next hb)
    have HM0r := Lib.hid hm
    clear hb HC HT2 y0 y1 y2 y3 y4 y5 y6 y7 y8 y9 y10 yf hm
    obtain ⟨⟨y0, y1, y2, y3, y4, y5, y6, y7, y8, y9, y10⟩, yf⟩ := cb11 HT3.out.k0
    cases r with
    | false =>
      go_wp2
      go_ret
      exact ⟨rfl, HT3.out.bw⟩
    | true =>
      have HM0 := Lib.hid (HM0r.out.1 (by first | rfl | trivial))
      clear HM0r
      have HOK := Lib.hid (may_ok HR0.out HM0.out)
      have HL := Lib.hid (show en.length ≤ 10000 by rw [← HEN.out]; exact enc_len HOK.out HM0.out)
      have HP := Lib.hid (show 0 < en.length by rw [← HEN.out]; exact enc_pos x0)
      clear y0 y1 y2 y3 y4 y5 y6 y7 y8 y9 y10 yf
      go_wp2
      go_loopw [5, 6, 7] (fun u5 u6 i wr => ∃ k : Nat, k ≤ m ∧ i = .int .i64 k ∧ Hid (Ow W wr #[.int .u64 x0.f0, .int .u64 x0.f1, .int .u64 x0.f2, .string x0.f3, .string x0.f4, .int .i64 x0.f5, .int .i64 x0.f6, .int .i64 x0.f7, .slice A8 x0.f8.length c8, .slice A9 x0.f9.length c9, .slice A10 x0.f10.length c10]) ∧ Hid (Kd.R kS 27 wr (W.heap.size + 1) (fun _ => True) u5 (List.replicate k (⟨x0.f0, x0.f1, x0.f2, x0.f3, x0.f4, x0.f5, x0.f6, x0.f7, (A8, x0.f8.length, c8), (A9, x0.f9.length, c9), (A10, x0.f10.length, c10)⟩ : Sp))) ∧ Hid (Kd.R (Kd.slice 5 (Kd.int .u8)) 30 wr (W.heap.size + 1) (fun _ => True) u6 (List.replicate k en))) (fun _ _ i _ => m - (intOf i).toNat)
      case atStart => exact ⟨0, Nat.zero_le _, rfl, HT3, Lib.hid (Kd.R_nil _ _ _ _ _), Lib.hid (Kd.R_nil _ _ _ _ _)⟩
      case round =>
        clear HT3
        obtain ⟨k, hk, rfl, HT, HV5, HV6⟩ := hrel
        obtain ⟨⟨y0, y1, y2, y3, y4, y5, y6, y7, y8, y9, y10⟩, yf⟩ := cb11 HT.out.k0
        by_cases hlt : k < m
        · have q1 : decide ((k : Int) < (m : Int)) = true := decide_eq_true (by omega)
          have q2 : decide (k < m) = true := decide_eq_true hlt
          have q3 : (k : Int) < (m : Int) := by omega
          have HLT := Lib.hid hlt
          have HBZ := Lib.hid (show W.heap.size + 1 ≤ wr.heap.size from blk_lt HT.out.k0)
          clear hlt hk
          go_wp2_with (((with_reducible refine gate_builtin (b := .append) (xs := #[.tmp 31, .tmp 33]) rfl ?_); at_builtin; refine Kd.R_append kS (w0 := wr) (W.heap.size + 1) rfl (.tmp 31) (.tmp 33) 37 27 (.agg #[(.int .u64 0), (.int .u64 0), (.int .u64 0), (.string ⟨#[]⟩), (.string ⟨#[]⟩), (.int .i64 0), (.int .i64 0), (.int .i64 0), (.slice none 0 0), (.slice none 0 0), (.slice none 0 0)]) 152 rfl Tryd.underlying37 infoS rfl (by decide) (by decide) u5 (List.replicate k (⟨x0.f0, x0.f1, x0.f2, x0.f3, x0.f4, x0.f5, x0.f6, x0.f7, (A8, x0.f8.length, c8), (A9, x0.f9.length, c9), (A10, x0.f10.length, c10)⟩ : Sp)) (⟨x0.f0, x0.f1, x0.f2, x0.f3, x0.f4, x0.f5, x0.f6, x0.f7, (A8, x0.f8.length, c8), (A9, x0.f9.length, c9), (A10, x0.f10.length, c10)⟩ : Sp) [.int .u64 x0.f0, .int .u64 x0.f1, .int .u64 x0.f2, .string x0.f3, .string x0.f4, .int .i64 x0.f5, .int .i64 x0.f6, .int .i64 x0.f7, .slice A8 x0.f8.length c8, .slice A9 x0.f9.length c9, .slice A10 x0.f10.length c10] (fun _ => True) (fun _ => False) rfl rfl rfl (fun _ h => h.elim) (fun _ _ => trivial) HV5.out (Below.refl _ _) HBZ.out (by rw [List.length_replicate]; have h1 := HLT.out; have h2 := HM70.out; omega) ?_; intro v5a w4 ho hb hg_ hnew_; clear y0 y1 y2 y3 y4 y5 y6 y7 y8 y9 y10 yf; have HTa := Lib.hid (HT.out.far hb); have HV5a := Lib.hid (show Kd.R kS 27 w4 (W.heap.size + 1) (fun _ => True) v5a (List.replicate (k + 1) (⟨x0.f0, x0.f1, x0.f2, x0.f3, x0.f4, x0.f5, x0.f6, x0.f7, (A8, x0.f8.length, c8), (A9, x0.f9.length, c9), (A10, x0.f10.length, c10)⟩ : Sp)) by rw [List.replicate_succ']; exact ho); have HV6a := Lib.hid (keep_other HV6.out HV5.out hg_ (by decide)); clear ho hb hg_ hnew_; obtain ⟨⟨y0, y1, y2, y3, y4, y5, y6, y7, y8, y9, y10⟩, yf⟩ := cb11 HTa.out.k0))
          have HC := Lib.hid (bytes_calls x0 (HH0.out.below HTa.out.bw).l8 (HH0.out.below HTa.out.bw).g8 (HH0.out.below HTa.out.bw).l9 (HH0.out.below HTa.out.bw).g9 (HH0.out.below HTa.out.bw).l10 (HH0.out.below HTa.out.bw).g10 (tabs_below HTB.out HTa.out.bw) HF0.out.a (fun _ => HOK.out))
          refine HC.out.mono ?_
          rintro e w5 ⟨hret, hb⟩
          rcases hret with ⟨_, v, rfl, hR⟩ | ⟨hm_, _⟩
          rotate_left
          · exact absurd HM0.out hm_
          rw [HEN.out] at hR
          obtain ⟨a3, c3, rfl⟩ := Kd.R_slice1 hR HP.out
          have HR3 := Lib.hid (Kd.R_lower hR (show W.heap.size + 1 ≤ w4.heap.size from blk_lt HTa.out.k0))
          have HTb := Lib.hid (HTa.out.next hb)
          have HV5b := Lib.hid (Kd.R_below HV5a.out hb)
          have HV6b := Lib.hid (Kd.R_below HV6a.out hb)
          have HBb := Lib.hid (show W.heap.size + 1 ≤ w5.heap.size from blk_lt HTb.out.k0)
          clear hb hR HC HV5 HV6 HV5a HV6a HT HTa y0 y1 y2 y3 y4 y5 y6 y7 y8 y9 y10 yf
          go_wp2_with (((with_reducible refine gate_builtin (b := .append) (xs := #[.tmp 35, .tmp 38]) rfl ?_); at_builtin; refine Kd.R_append (Kd.slice 5 (Kd.int .u8)) (w0 := w5) (W.heap.size + 1) rfl (.tmp 35) (.tmp 38) 42 30 (.slice none 0 0) 24 rfl Tryd.underlying42 info_row rfl (by decide) (by decide) u6 (List.replicate k en) en [.slice (some a3) en.length c3] (fun _ => True) (fun k => some k ≠ u6.ownBlock) rfl rfl ⟨.slice (some a3) en.length c3, rfl, row_other HV6b.out HR3.out⟩ (fun _ hk => ⟨trivial, hk⟩) (fun _ _ => trivial) HV6b.out (Below.refl _ _) HBb.out (by rw [List.length_replicate]; have h1 := HLT.out; have h2 := HM70.out; omega) ?_; intro v6c w6 ho hb hg_ hnew_; have HTc := Lib.hid (HTb.out.far hb); have HV6c := Lib.hid (show Kd.R (Kd.slice 5 (Kd.int .u8)) 30 w6 (W.heap.size + 1) (fun _ => True) v6c (List.replicate (k + 1) en) by rw [List.replicate_succ']; exact ho); have HV5c := Lib.hid (keep_other HV5b.out HV6b.out hg_ (by decide)); clear ho hb hg_ hnew_))
          go_roundw
          case rel => exact ⟨k + 1, HLT.out, by rw [wsuc1 HLT.out (by have := HM70.out; omega)], HTc, HV5c, HV6c⟩
          case measure => exact meas1 (by have := HM70.out; omega) HLT.out
        · have q1 : decide ((k : Int) < (m : Int)) = false := decide_eq_false (by omega)
          have q2 : decide (k < m) = false := decide_eq_false hlt
          have q3 : ¬ (k : Int) < (m : Int) := by omega
          obtain rfl : k = m := by omega
          clear hlt hk y0 y1 y2 y3 y4 y5 y6 y7 y8 y9 y10 yf
          obtain ⟨A5, c5, rfl⟩ := Kd.R_slice HV5.out
          obtain ⟨A6, c6, rfl⟩ := Kd.R_slice HV6.out
          have h5 := Kd.R_reads' HV5.out
          have h6 := Kd.R_reads' HV6.out
          have hk5 := kind_of (fun _ => x0) h5.2.2 (fun s hs => by rw [List.eq_of_mem_replicate hs]; exact HIS.out.below HT.out.bw)
          rw [map_rep] at hk5
          have HC5 := Lib.hid (show Kd.C k27 wr A5 (List.replicate k x0).length (List.replicate k x0) by rw [List.length_replicate] at hk5 ⊢; exact hk5)
          have HC6 := Lib.hid h6.2.2
          have HL5 := Lib.hid (show k ≤ c5 by have := h5.2.1; rw [List.length_replicate] at this; exact this)
          have HL6 := Lib.hid (show k ≤ c6 by have := h6.2.1; rw [List.length_replicate] at this; exact this)
          rw [List.length_replicate, List.length_replicate]
          clear h5 h6 hk5
          have HBA := Lib.hid (batch_any (c := c5) HC5.out (by rw [List.length_replicate]; exact HL5.out) (tabs_below HTB.out HT.out.bw) HF0.out HOK.out HM0.out)
          rw [HEN.out] at HBA
          rw [List.length_replicate] at HBA
          go_wp2_with fail
          refine HBA.out.mono ?_
          rintro e w7 ⟨⟨v7, hv7, h7⟩, hb⟩
          obtain ⟨ec, hec⟩ : ∃ ec : Int, (if 64 < k then 6 else 0) = ec := ⟨_, rfl⟩
          rw [hec] at hv7
          have HEC := Lib.hid hec
          have HT7 := Lib.hid (HT.out.next hb)
          have HC57 := Lib.hid (Kd.C_below HC5.out hb)
          have HJ := Lib.hid (join_calls (c := c6) (Kd.C_below HC6.out hb) (by rw [List.length_replicate]; exact HL6.out) (by have := rows_max HL.out (Nat.le_of_lt HM70.out); omega))
          rw [List.length_replicate] at HJ
          have HX := Lib.hid h7
          subst hv7
          clear hb HC5 HC6 HBA h7 HT hec
          go_wp2_with fail
          refine HJ.out.mono ?_
          rintro e w8 ⟨v8, rfl, hR8, hb⟩
          have HT8 := Lib.hid (HT7.out.next hb)
          have HC58 := Lib.hid (Kd.C_below HC57.out hb)
          have HXV := Lib.hid HX.out.1
          have HX8 := Lib.hid (fun h => Kd.R_below (HX.out.2 h) hb)
          obtain ⟨A8_, c8_, rfl⟩ := Kd.R_slice hR8
          have h8 := Kd.R_reads' hR8
          have hib : IsB (markB ++ listE rowE (List.replicate k en)) := by
            refine isB_append (fun y hy => by simp [markB] at hy; omega) (isB_append (vput_isB _ (by omega)) (isB_flat fun b hb => ?_))
            rw [List.eq_of_mem_replicate hb, ← HEN.out]
            exact isB_rowE (isB_enc HOK.out)
          have HR8 := Lib.hid hR8
          have HF := Lib.hid (fbatch_calls h8.2.2 h8.2.1 hib (rows_max HL.out (Nat.le_of_lt HM70.out)) (tabs_below HTB.out HT8.out.bw))
          rw [show batchS (markB ++ listE rowE (List.replicate k en)) = if k > 64 then ([], 0, 6) else (List.replicate k x0, 0, 0) by rw [← HEN.out]; exact batch_many_of HOK.out HM0.out k (by have := HM70.out; omega)] at HF
          obtain ⟨r, hr⟩ : ∃ r : List S27 × Int × Int, (if k > 64 then ([], 0, 6) else (List.replicate k x0, 0, 0)) = r := ⟨_, rfl⟩
          rw [hr] at HF
          have HRS := Lib.hid hr
          obtain ⟨n8, hn8⟩ : ∃ n, (markB ++ listE rowE (List.replicate k en)).length = n := ⟨_, rfl⟩
          have HN8 := Lib.hid hn8
          rw [hn8] at HF ⊢
          clear hb hR8 h8 hib HJ HC57 HX HT7 hr hn8
          go_wp2_with fail
          refine HF.out.mono ?_
          rintro e w9 ⟨⟨v9, rfl, hR9⟩, hb⟩
          have HT9 := Lib.hid (HT8.out.next hb)
          have HC59 := Lib.hid (Kd.C_below HC58.out hb)
          have HR89 := Lib.hid (Kd.R_below HR8.out hb)
          have HX9 := Lib.hid (fun h => Kd.R_below (HX8.out h) hb)
          obtain ⟨A9_, c9_, rfl⟩ := Kd.R_slice hR9
          have HR9 := Lib.hid hR9
          clear hb hR9 HF HC58 HX8 HT8 HR8
          by_cases h64 : 64 < k
          · have hec := HEC.out
            have hrs := HRS.out
            rw [if_pos h64] at hec hrs
            subst hec
            subst hrs
            obtain rfl := HXV.out h64
            have d1 : decide ((k : Int) > 64) = true := decide_eq_true (by omega)
            have d2 : decide ((64 : Int) < (k : Int)) = true := decide_eq_true (by omega)
            have d3 : decide (64 < k) = true := decide_eq_true h64
            clear hm hwa hmw HX9 HXV HEC HRS
            go_wp2
            go_ret
            exact ⟨rfl, HT9.out.bw⟩
          · have hec := HEC.out
            have hrs := HRS.out
            rw [if_neg h64] at hec hrs
            subst hec
            subst hrs
            have hx9 := HX9.out h64
            obtain ⟨A7, c7, rfl⟩ := Kd.R_slice hx9
            have s7 := run_str (c := c7) (Kd.R_reads' hx9).2.2
            have s8 := run_str (c := c8_) (Kd.R_reads' HR89.out).2.2
            obtain ⟨tt, htt⟩ : ∃ tt, strOfNums (markB ++ listE rowE (List.replicate k en)) = tt := ⟨_, rfl⟩
            rw [htt] at s7 s8
            have h9 := Kd.R_reads' HR9.out
            have hsp := Lib.hid (spans_self HF0.out h9.2.2 h9.2.1 HC59.out (by rw [List.length_replicate]; exact HL5.out) (Nat.le_of_lt HM70.out))
            rw [List.length_replicate] at hsp
            have e9 : (Value.slice A9_ (List.replicate k x0).length c9_) = .slice A9_ k c9_ := by rw [List.length_replicate]
            rw [HN8.out] at s7 s8
            rw [HN8.out]
            dsimp only at e9 ⊢
            rw [e9]
            have d1 : decide ((k : Int) > 64) = false := decide_eq_false (by omega)
            have d2 : decide ((64 : Int) < (k : Int)) = false := decide_eq_false (by omega)
            have d3 : decide (64 < k) = false := decide_eq_false h64
            clear hm hwa hmw HX9 HXV HEC HRS hx9 h9 e9 htt
            go_wp2_with fail
            refine hsp.out.mono ?_
            rintro e w10 ⟨rfl, hb⟩
            have HT10 := Lib.hid (HT9.out.next hb)
            clear hb hsp
            go_wp2
            go_ret
            exact ⟨rfl, HT10.out.bw⟩
end Go.Proofs.YtkgpnfjmahjlcaaDoor.Walk
