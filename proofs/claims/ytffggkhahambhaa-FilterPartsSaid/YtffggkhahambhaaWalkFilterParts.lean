/- The law FilterParts, walked. Written by walk_parts.py. -/
import Derived.Test.YtffggkhahambhaaStSame
import Derived.Test.YtffggkhahambhaaStParts
import Derived.Test.YtffggkhahambhaaSq
namespace Go.Proofs.Ytffggkhahambhaa.Walk
open Go.RowKit Go.Proofs.YtffggkhahambhaaW.PrintWords Go.Proofs.YtffggkhahambhaaW.PrintLast Go.Proofs.YtffggkhahambhaaW.PrintMore Go.Proofs.Ytffggkhahambhaa.Math Go.Proofs.Ytffggkhahambhaa.PAll Go.Proofs.Ytffggkhahambhaa.Open Go.Proofs.Ytffggkhahambhaa.Tr Go.Proofs.Ytffggkhahambhaa.Stab
set_option linter.unusedVariables false
set_option linter.unusedSimpArgs false
open Go.Proofs.Ytffggkhahambhaa.Sq
set_option maxHeartbeats 8000000 in
set_option maxRecDepth 100000 in
theorem FilterParts (W : World) (x0 : S24) (cs0 : Array Value) (hk0 : k24.K W x0 cs0.toList) (hg0 : G24 x0) (x1 : S24) (cs1 : Array Value) (hk1 : k24.K W x1 cs1.toList) (hg1 : G24 x1) (A2 : Option Addr) (c2 : Nat) (l2 : List S34) (hl2 : l2.length ≤ c2) (hc2 : Kd.C k34 W A2 l2.length l2) (hg2 : (∀ x ∈ l2, G34 x) ∧ l2.length * 152 ≤ 140737488351232) :
    Calls Try.prog 5 #[.agg cs0, .agg cs1, .slice A2 l2.length c2] W fun e w' => e = .returned (.bool true) ∧ Below W.heap.size W w' := by
  obtain ⟨rs, hlen, hC, hI⟩ := raw_of hc2
  obtain ⟨fs, hfs⟩ := is_all2 hI
  obtain ⟨Aa, ca, rfl, hla, hCa⟩ := query_cells hk0
  obtain ⟨Ab, cb, rfl, hlb, hCb⟩ := query_cells hk1
  have ga : x0.f0.length ≤ 100000000000000 := by have := hg0.1.2; omega
  have gb : x1.f0.length ≤ 100000000000000 := by have := hg1.1.2; omega
  obtain ⟨ta, oa⟩ := x0
  obtain ⟨tb, ob⟩ := x1
  rw [← hlen] at hl2 ⊢
  have HFS := Lib.hid (show ∀ s ∈ rs, Is W s (fs s) ∧ G34 (fs s) from fun s hs => ⟨(hfs s hs).1, hg2.1 _ (hfs s hs).2⟩)
  rw [← hlen] at hC
  have HRS := Lib.hid hC
  have HL := Lib.hid hl2
  have HCA := Lib.hid hCa
  have HLA := Lib.hid hla
  have HGA := Lib.hid ga
  have HCB := Lib.hid hCb
  have HLB := Lib.hid hlb
  have HGB := Lib.hid gb
  clear hk0 hk1 hg0 hg1 hfs hI hC hl2 hc2 hg2 hlen hla hlb hCa hCb ga gb
  dsimp only at HCA HLA HGA HCB HLB HGB ⊢
  have hal := below_alloc (below_alloc (Below.refl W.heap.size W) (.cells #[.slice Aa ta.length ca, .int .i64 oa] 24)) (.cells #[.slice Ab tb.length cb, .int .i64 ob] 24)
  have k1 : ((W.alloc (.cells #[.slice Aa ta.length ca, .int .i64 oa] 24)).alloc (.cells #[.slice Ab tb.length cb, .int .i64 ob] 24)).heap[W.heap.size]? = some (.cells #[.slice Aa ta.length ca, .int .i64 oa] 24 (0, 0)) := block_below (heap_alloc_new W _) (below_alloc (Below.refl _ _) _)
  have k2 : ((W.alloc (.cells #[.slice Aa ta.length ca, .int .i64 oa] 24)).alloc (.cells #[.slice Ab tb.length cb, .int .i64 ob] 24)).heap[(W.alloc (.cells #[.slice Aa ta.length ca, .int .i64 oa] 24)).heap.size]? = some (.cells #[.slice Ab tb.length cb, .int .i64 ob] 24 (0, 0)) := heap_alloc_new _ _
  rw [show (W.alloc (.cells #[.slice Aa ta.length ca, .int .i64 oa] 24)).heap.size = W.heap.size + 1 by simp] at k2
  obtain ⟨w0, hw0⟩ : ∃ w0, (W.alloc (.cells #[.slice Aa ta.length ca, .int .i64 oa] 24)).alloc (.cells #[.slice Ab tb.length cb, .int .i64 ob] 24) = w0 := ⟨_, rfl⟩
  rw [hw0] at hal k1 k2
  have HAW := Lib.hid (awake_calls w0)
  have HT0 := Lib.hid (show Two W (.slice Aa ta.length ca) (.int .i64 oa) (.slice Ab tb.length cb) (.int .i64 ob) w0 from ⟨hal, k1, k2⟩)
  clear hal k1 k2
  go_enter Try.func5, Try.ntmps5
  go_wp2_with fail
  clear hw0
  refine HAW.out.mono ?_
  rintro e w1 ⟨rfl, hb⟩
  have HT1 := Lib.hid (HT0.out.next hb)
  clear hb HAW HT0
  have HC := Lib.hid (small21_w (o := oa) (Kd.C_below HCA.out HT1.out.bw) HLA.out HGA.out)
  obtain ⟨ya0, ya1, yb0, yb1⟩ := HT1.out.cells
  go_wp2_with fail
  refine HC.out.mono ?_
  rintro e w2 ⟨⟨r, rfl, hr⟩, hb⟩
  have HT2 := Lib.hid (HT1.out.next hb)
  clear hr hb HC HT1 ya0 ya1 yb0 yb1
  cases r with
  | false =>
    go_wp2
    go_ret
    exact ⟨rfl, HT2.out.bw⟩
  | true =>
    have HC := Lib.hid (small21_w (o := ob) (Kd.C_below HCB.out HT2.out.bw) HLB.out HGB.out)
    obtain ⟨ya0, ya1, yb0, yb1⟩ := HT2.out.cells
    go_wp2_with fail
    refine HC.out.mono ?_
    rintro e w3 ⟨⟨r, rfl, hr⟩, hb⟩
    have HT3 := Lib.hid (HT2.out.next hb)
    clear hr hb HC HT2 ya0 ya1 yb0 yb1
    cases r with
    | false =>
      go_wp2
      go_ret
      exact ⟨rfl, HT3.out.bw⟩
    | true =>
      have HC := Lib.hid (may21_w (o := oa) (Kd.C_below HCA.out HT3.out.bw) HLA.out HGA.out)
      obtain ⟨ya0, ya1, yb0, yb1⟩ := HT3.out.cells
      go_wp2_with fail
      refine HC.out.mono ?_
      rintro e w4 ⟨⟨r, rfl, hr⟩, hb⟩
      have HT4 := Lib.hid (HT3.out.next hb)
      have HMA := Lib.hid hr
      clear hr hb HC HT3 ya0 ya1 yb0 yb1
      cases r with
      | false =>
        go_wp2
        go_ret
        exact ⟨rfl, HT4.out.bw⟩
      | true =>
        have HC := Lib.hid (may21_w (o := ob) (Kd.C_below HCB.out HT4.out.bw) HLB.out HGB.out)
        obtain ⟨ya0, ya1, yb0, yb1⟩ := HT4.out.cells
        go_wp2_with fail
        refine HC.out.mono ?_
        rintro e w5 ⟨⟨r, rfl, hr⟩, hb⟩
        have HT5 := Lib.hid (HT4.out.next hb)
        have HMB := Lib.hid hr
        clear hr hb HC HT4 ya0 ya1 yb0 yb1
        cases r with
        | false =>
          go_wp2
          go_ret
          exact ⟨rfl, HT5.out.bw⟩
        | true =>
          have hta := HMA.out (by first | rfl | trivial)
          have htb := HMB.out (by first | rfl | trivial)
          have HTX := Lib.hid (show ∀ t ∈ ta ++ tb, t.f2.f1.size ≤ 200 from fun t h => (List.mem_append.1 h).elim (fun h => (hta.1 t h).sz) (fun h => (htb.1 t h).sz))
          have HNA := Lib.hid (show ta.length ≤ 8 ∧ tb.length ≤ 8 from ⟨hta.2.1, htb.2.1⟩)
          clear hta htb HMA HMB HGA HGB
          obtain ⟨ya0, ya1, yb0, yb1⟩ := HT5.out.cells
          by_cases h60 : (60 : Int) < (rs.length : Int)
          · have d60 : decide ((60 : Int) < (rs.length : Int)) = true := decide_eq_true h60
            clear h60
            go_wp2
            go_ret
            exact ⟨rfl, HT5.out.bw⟩
          · have d60 : decide ((60 : Int) < (rs.length : Int)) = false := decide_eq_false h60
            have HN := Lib.hid (show rs.length ≤ 60 by omega)
            have HW8 : wrap64 ((ta.length : Int) + (tb.length : Int)) = ((ta.length + tb.length : Nat) : Int) := by have := HNA.out; unfold wrap64; omega
            obtain ⟨n8, hn8⟩ : ∃ n8, ta.length + tb.length = n8 := ⟨_, rfl⟩
            rw [hn8] at HW8
            have HN8 := Lib.hid hn8
            clear h60 hn8
            by_cases h8 : (8 : Int) < (n8 : Int)
            · have d8 : decide ((8 : Int) < (n8 : Int)) = true := decide_eq_true h8
              clear h8
              go_wp2
              go_ret
              exact ⟨rfl, HT5.out.bw⟩
            · have d8 : decide ((8 : Int) < (n8 : Int)) = false := decide_eq_false h8
              clear h8
              go_wp2
              clear ya0 ya1 yb0 yb1 d8 d60 HW8
              go_loopw [7] (fun i wr => ∃ k : Nat, k ≤ rs.length ∧ i = .int .i64 k ∧ Hid (∀ s ∈ rs.take k, OkS (fs s)) ∧ Hid (Two W (.slice Aa ta.length ca) (.int .i64 oa) (.slice Ab tb.length cb) (.int .i64 ob) wr)) (fun i _ => rs.length - (intOf i).toNat)
              case atStart => exact ⟨0, by omega, rfl, Lib.hid (fun s hs => by simp at hs), HT5⟩
              case round =>
                clear HT5
                obtain ⟨k, hk, rfl, HOK, HT⟩ := hrel
                by_cases hlt : k < rs.length
                · obtain ⟨s, hs⟩ : ∃ s, rs[k]? = some s := ⟨_, List.getElem?_eq_getElem hlt⟩
                  have hms := List.mem_of_getElem? hs
                  obtain ⟨ad, rfl, x0, x1, x2, x3, x4, x5, x6, x7, x8, x9, x10⟩ := at_S (Kd.C_below HRS.out HT.out.bw) hs
                  have q : (k : Int) < (rs.length : Int) := by omega
                  have HK := Lib.hid (show k + 1 ≤ rs.length by omega)
                  have HW := Lib.hid (show wrap64 ((k : Int) + 1) = ((k + 1 : Nat) : Int) by have := HN.out; unfold wrap64; omega)
                  have HTk := Lib.hid (show rs.take (k + 1) = rs.take k ++ [s] by
                    obtain ⟨hk2, e⟩ := List.getElem?_eq_some_iff.1 hs
                    rw [List.take_succ_eq_append_getElem hk2, e])
                  have hcall := fits_w ((HFS.out s hms).1.below HT.out.bw) (G_lens (HFS.out s hms).2).1 (G_lens (HFS.out s hms).2).2
                  rw [arr_S] at hcall
                  have HCALL := Lib.hid hcall
                  clear hs hlt hk hcall hms
                  go_wp2_with fail
                  refine HCALL.out.mono ?_
                  rintro e w6 ⟨⟨r, rfl, hok⟩, hb⟩
                  have HRO := Lib.hid hok
                  have HT6 := Lib.hid (HT.out.next hb)
                  clear hb hok HCALL x0 x1 x2 x3 x4 x5 x6 x7 x8 x9 x10 HT
                  cases r with
                  | false =>
                    go_wp2
                    go_ret
                    exact ⟨rfl, HT6.out.bw⟩
                  | true =>
                    go_wp2
                    go_roundw
                    case rel => exact ⟨k + 1, HK.out, by rw [HW.out], Lib.hid (by rw [HTk.out]; intro y hy; rcases List.mem_append.1 hy with hy | hy; exact HOK.out y hy; rw [List.mem_singleton.1 hy]; exact HRO.out (by first | rfl | trivial)), HT6⟩
                    case measure => exact meas_up (by have := HN.out; omega) HK.out
                · have hkl : k = rs.length := by omega
                  subst hkl
                  have q : decide ((rs.length : Int) < (rs.length : Int)) = false := decide_eq_false (by omega)
                  rw [List.take_length] at HOK
                  obtain ⟨P, hP⟩ := tells (ta ++ tb) HOK.out HTX.out
                  have HP := Lib.hid hP
                  clear hlt hk hP HTX
                  go_upto_region 10 with (fail)
                  have htd := HT.out.drew
                  obtain ⟨ya0, ya1, yb0, yb1⟩ := htd.cells
                  obtain ⟨tc, htc⟩ : ∃ tc, ta ++ tb = tc := ⟨_, rfl⟩
                  have HTC := Lib.hid htc
                  clear htc
                  refine start_ (n := 12) (S := fun w' => w'.cell? ⟨W.heap.size, 0, none⟩ = some (.slice Aa ta.length ca) ∧ w'.cell? ⟨W.heap.size, 1, none⟩ = some (.int .i64 oa) ∧ w'.cell? ⟨W.heap.size + 1, 0, none⟩ = some (.slice Ab tb.length cb)) (ds := []) (fl 12 0) (by kernel_rfl) rfl rfl ⟨ya0, ya1, yb0⟩ (fun hHeld => ?_)
                  generalize wr.drew = w5 at ya0 ya1 yb0 yb1 htd hHeld ⊢
                  have HT := Lib.hid htd
                  clear ya0 ya1 yb0 yb1 htd
                  refine pu 1 (some 58) (fl 12 2) ?_
                  refine pu 4 (some 61) (fl 12 18) ?_
                  refine pu 7 (some 64) (fl 12 146) ?_
                  refine tk 2 (some 59) (fl 12 150) hHeld ?_
                  refine tk 5 (some 62) (fl 12 182) hHeld ?_
                  refine tk 8 (some 65) (fl 12 438) hHeld ?_
                  refine join_ (σ := Value × Value × (Option Addr × Nat) × Nat) 1 (fl 12 2047) (fun s_ => [(57, s_.1), (60, s_.2.1), (63, .slice s_.2.2.1.1 tc.length s_.2.2.1.2), (66, .agg #[.slice s_.2.2.1.1 tc.length s_.2.2.1.2, .int .i64 oa]), (8, .pointer (some ⟨s_.2.2.2, 0, none⟩))]) (fun s_ w' => Kd.R k41 41 w' (W.heap.size + 2) (fun _ => True) (.slice s_.2.2.1.1 tc.length s_.2.2.1.2) tc ∧ w'.heap[s_.2.2.2]? = some (.cells #[.slice none 0 0, .int .i64 0] 24 (0, 0)) ∧ W.heap.size + 2 ≤ s_.2.2.2 ∧ Two W (.slice Aa ta.length ca) (.int .i64 oa) (.slice Ab tb.length cb) (.int .i64 ob) w' ∧ (∀ k, (Value.slice s_.2.2.1.1 tc.length s_.2.2.1.2).ownBlock = some k → k ≠ s_.2.2.2)) ?_ ?_
                  rotate_left
                  · intro hCont
                    refine two_ (i := 0) (j := 10) (Ni := some 57) (Nj := some 8) (fl 12 439) (fl 12 1462) rfl rfl rfl rfl (by kernel_rfl) (by decide) (by decide) (fun K hK => ?_) (fun K hK => ?_)
                    · skip
                      refine Kd.R_lit_step k41 (w0 := w5) (W.heap.size + 2) 41 ?hg (N := 57) ?hd (xs := ([] : List S41)) (inner := []) (ok := fun _ => True) (okp := fun _ => True) ?hr ?hp (fun _ hk => hk) trivial (Below.refl _ _) HT.out.size (by simp) ?_; (case hd => rfl); (case hg => rfl); (case hr => first | (go_simp; done) | (go_simp; rfl)); (case hp => exact (Reps.none _ _))
                      intro v_0 w5_0 ho hb hg_ hnew_
                      have hbl : Below w5.heap.size w5 w5_0 := Below.grown (Below.refl _ _) hg_ (Nat.le_refl _) (fun _ h => by cases h)
                      obtain ⟨bn, hbn, hbn2⟩ := hnew_
                      have HV_0 := Lib.hid ho
                      have HT_0 := Lib.hid (HT.out.next hbl)
                      clear ho hb hg_ hbl hbn hbn2
                      obtain ⟨ya0, ya1, yb0, yb1⟩ := HT_0.out.cells
                      refine hK.out _ _ ⟨ya0, ya1, yb0⟩ (fun hHeld => ?_)
                      clear hK K
                      refine nm ?_
                      refine two_ (i := 3) (j := 10) (Ni := some 60) (Nj := some 8) (fl 12 447) (fl 12 1463) rfl rfl rfl rfl (by kernel_rfl) (by decide) (by decide) (fun K hK => ?_) (fun K hK => ?_)
                      · skip
                        refine Kd.R_append_rows_step k41 (w0 := w5_0) (W.heap.size + 2) (by rfl) (.tmp 57) (.tmp 59) 22 41 (.agg #[(.string ⟨#[]⟩), (.int .i64 0), (.int .i64 0), (.string ⟨#[]⟩), (.int .i64 0), (.bool false)]) 64 (by rfl) Try.underlying22 infoT rfl (by decide) (by omega) v_0 [] ta Aa ta.length ca (fun _ => True) (fun _ => False) (by rfl) (by rfl) HV_0.out (Kd.C_below HCA.out HT_0.out.bw) (fun x_ cs_ h_ => h_) (fun _ h => h.elim) (fun _ _ => trivial) (Below.refl _ _) HT_0.out.size (by have h := HNA.out; have e : ([] : List S41).length = 0 := rfl; omega) ?_
                        intro v_03 w5_03 ho hb hg_ hnew_
                        rw [List.nil_append] at ho
                        have HV_03 := Lib.hid ho
                        have HT_03 := Lib.hid (HT_0.out.nextB hb)
                        clear ho hb hg_ hnew_
                        obtain ⟨ya0, ya1, yb0, yb1⟩ := HT_03.out.cells
                        refine hK.out _ _ ⟨ya0, ya1, yb0⟩ (fun hHeld => ?_)
                        clear hK K
                        refine nm ?_
                        refine two_ (i := 6) (j := 10) (Ni := some 63) (Nj := some 8) (fl 12 511) (fl 12 1471) rfl rfl rfl rfl (by kernel_rfl) (by decide) (by decide) (fun K hK => ?_) (fun K hK => ?_)
                        · skip
                          refine Kd.R_append_rows_step k41 (w0 := w5_03) (W.heap.size + 2) (by rfl) (.tmp 60) (.tmp 62) 22 41 (.agg #[(.string ⟨#[]⟩), (.int .i64 0), (.int .i64 0), (.string ⟨#[]⟩), (.int .i64 0), (.bool false)]) 64 (by rfl) Try.underlying22 infoT rfl (by decide) (by omega) v_03 ta tb Ab tb.length cb (fun _ => True) (fun _ => False) (by rfl) (by rfl) HV_03.out (Kd.C_below HCB.out HT_03.out.bw) (fun x_ cs_ h_ => h_) (fun _ h => h.elim) (fun _ _ => trivial) (Below.refl _ _) HT_03.out.size (by have h := HNA.out; have e : ([] : List S41).length = 0 := rfl; omega) ?_
                          intro v_036 w5_036 ho hb hg_ hnew_
                          rw [HTC.out] at ho
                          obtain ⟨A_036, c_036, rfl⟩ := Kd.R_slice ho
                          have HV_036 := Lib.hid ho
                          have HT_036 := Lib.hid (HT_03.out.nextB hb)
                          clear ho hb hg_ hnew_
                          obtain ⟨ya0, ya1, yb0, yb1⟩ := HT_036.out.cells
                          refine hK.out _ _ ⟨ya0, ya1, yb0⟩ (fun hHeld => ?_)
                          clear hK K
                          refine nm ?_
                          refine pu 9 (some 66) (fl 12 1023) ?_
                          refine on_ 10 (some 8) (fl 12 2047) fun K hK => ?_
                          refine value_ (w1 := ?_) (v := ?_) (by rfl) rfl ?_ ?_
                          rotate_left 2
                          · go_simp
                            constructor
                            · rfl
                            · rfl
                          have hbl : Below w5_036.heap.size w5_036 (w5_036.alloc (.cells #[.slice none 0 0, .int .i64 0] 24)) := below_alloc (Below.refl _ _) _
                          have hpp := heap_alloc_new w5_036 (.cells #[.slice none 0 0, .int .i64 0] 24)
                          have HV_036a := Lib.hid (Kd.R_below HV_036.out hbl)
                          have HD_036a := Lib.hid (show ∀ k, (Value.slice A_036 tc.length c_036).ownBlock = some k → k ≠ w5_036.heap.size from fun k hk e => (by have h1 := (rowT_lt HV_036.out k hk).2; omega))
                          have HG_036a := Lib.hid (show W.heap.size + 2 ≤ w5_036.heap.size from HT_036.out.size)
                          have HT_036a := Lib.hid (HT_036.out.next hbl)
                          have HP_036a := Lib.hid hpp
                          clear hpp hbl
                          obtain ⟨ya0, ya1, yb0, yb1⟩ := HT_036a.out.cells
                          refine hK.out _ _ ⟨ya0, ya1, yb0⟩ (fun hHeld => ?_)
                          clear hK K
                          refine nm ?_
                          exact norm_ (by first | (simp only [putAll, Act.put, List.setIfInBounds_toArray, List.set_cons_zero, List.set_cons_succ]; done) | (simp only [putAll, Act.put, List.setIfInBounds_toArray, List.set_cons_zero, List.set_cons_succ]; rfl)) (hCont (v_0, v_03, (A_036, c_036), w5_036.heap.size) _ ⟨HV_036a.out, HP_036a.out, HG_036a.out, HT_036a.out, HD_036a.out⟩)
                        · skip
                          refine value_ (w1 := ?_) (v := ?_) (by rfl) rfl ?_ ?_
                          rotate_left 2
                          · go_simp
                            constructor
                            · rfl
                            · rfl
                          have hbl : Below w5_03.heap.size w5_03 (w5_03.alloc (.cells #[.slice none 0 0, .int .i64 0] 24)) := below_alloc (Below.refl _ _) _
                          have hpp := heap_alloc_new w5_03 (.cells #[.slice none 0 0, .int .i64 0] 24)
                          have HV_03a := Lib.hid (Kd.R_below HV_03.out hbl)
                          have HD_03a := Lib.hid (show ∀ k, v_03.ownBlock = some k → k ≠ w5_03.heap.size from fun k hk e => (by have h1 := (rowT_lt HV_03.out k hk).2; omega))
                          have HG_03a := Lib.hid (show W.heap.size + 2 ≤ w5_03.heap.size from HT_03.out.size)
                          have HT_03a := Lib.hid (HT_03.out.next hbl)
                          have HP_03a := Lib.hid hpp
                          clear hpp hbl
                          obtain ⟨ya0, ya1, yb0, yb1⟩ := HT_03a.out.cells
                          refine hK.out _ _ ⟨ya0, ya1, yb0⟩ (fun hHeld => ?_)
                          clear hK K
                          refine nm ?_
                          refine on_ 6 (some 63) (fl 12 1535) fun K hK => ?_
                          refine Kd.R_append_rows_step k41 (w0 := (w5_03.alloc (.cells #[.slice none 0 0, .int .i64 0] 24))) (W.heap.size + 2) (by rfl) (.tmp 60) (.tmp 62) 22 41 (.agg #[(.string ⟨#[]⟩), (.int .i64 0), (.int .i64 0), (.string ⟨#[]⟩), (.int .i64 0), (.bool false)]) 64 (by rfl) Try.underlying22 infoT rfl (by decide) (by omega) v_03 ta tb Ab tb.length cb (fun _ => True) (fun _ => False) (by rfl) (by rfl) HV_03a.out (Kd.C_below HCB.out HT_03a.out.bw) (fun x_ cs_ h_ => h_) (fun _ h => h.elim) (fun _ _ => trivial) (Below.refl _ _) HT_03a.out.size (by have h := HNA.out; have e : ([] : List S41).length = 0 := rfl; omega) ?_
                          intro v_03a6 w5_03a6 ho hb hg_ hnew_
                          rw [HTC.out] at ho
                          obtain ⟨A_03a6, c_03a6, rfl⟩ := Kd.R_slice ho
                          have HV_03a6 := Lib.hid ho
                          have HD_03a6 := Lib.hid (show ∀ k, (Value.slice A_03a6 tc.length c_03a6).ownBlock = some k → k ≠ w5_03.heap.size from fun k hk e => hnew_.elim (fun h => HD_03a.out k (h.symm.trans hk) e) (fun ⟨b_, h1, h2⟩ => (by have h3 := lt_of_blk HP_03a.out; rw [h1] at hk; injection hk with hk; omega)))
                          have HP_03a6 := Lib.hid (show w5_03a6.heap[w5_03.heap.size]? = _ from (hg_.block w5_03.heap.size (lt_of_blk HP_03a.out) (fun e => HD_03a.out w5_03.heap.size e.symm rfl)).trans HP_03a.out)
                          have HG_03a6 := HG_03a
                          have HT_03a6 := Lib.hid (HT_03a.out.nextB hb)
                          clear ho hb hg_ hnew_
                          obtain ⟨ya0, ya1, yb0, yb1⟩ := HT_03a6.out.cells
                          refine hK.out _ _ ⟨ya0, ya1, yb0⟩ (fun hHeld => ?_)
                          clear hK K
                          refine nm ?_
                          refine pu 9 (some 66) (fl 12 2047) ?_
                          exact norm_ (by first | (simp only [putAll, Act.put, List.setIfInBounds_toArray, List.set_cons_zero, List.set_cons_succ]; done) | (simp only [putAll, Act.put, List.setIfInBounds_toArray, List.set_cons_zero, List.set_cons_succ]; rfl)) (hCont (v_0, v_03, (A_03a6, c_03a6), w5_03.heap.size) _ ⟨HV_03a6.out, HP_03a6.out, HG_03a6.out, HT_03a6.out, HD_03a6.out⟩)
                      · skip
                        refine value_ (w1 := ?_) (v := ?_) (by rfl) rfl ?_ ?_
                        rotate_left 2
                        · go_simp
                          constructor
                          · rfl
                          · rfl
                        have hbl : Below w5_0.heap.size w5_0 (w5_0.alloc (.cells #[.slice none 0 0, .int .i64 0] 24)) := below_alloc (Below.refl _ _) _
                        have hpp := heap_alloc_new w5_0 (.cells #[.slice none 0 0, .int .i64 0] 24)
                        have HV_0a := Lib.hid (Kd.R_below HV_0.out hbl)
                        have HD_0a := Lib.hid (show ∀ k, v_0.ownBlock = some k → k ≠ w5_0.heap.size from fun k hk e => (by have h1 := (rowT_lt HV_0.out k hk).2; omega))
                        have HG_0a := Lib.hid (show W.heap.size + 2 ≤ w5_0.heap.size from HT_0.out.size)
                        have HT_0a := Lib.hid (HT_0.out.next hbl)
                        have HP_0a := Lib.hid hpp
                        clear hpp hbl
                        obtain ⟨ya0, ya1, yb0, yb1⟩ := HT_0a.out.cells
                        refine hK.out _ _ ⟨ya0, ya1, yb0⟩ (fun hHeld => ?_)
                        clear hK K
                        refine nm ?_
                        refine on_ 3 (some 60) (fl 12 1471) fun K hK => ?_
                        refine Kd.R_append_rows_step k41 (w0 := (w5_0.alloc (.cells #[.slice none 0 0, .int .i64 0] 24))) (W.heap.size + 2) (by rfl) (.tmp 57) (.tmp 59) 22 41 (.agg #[(.string ⟨#[]⟩), (.int .i64 0), (.int .i64 0), (.string ⟨#[]⟩), (.int .i64 0), (.bool false)]) 64 (by rfl) Try.underlying22 infoT rfl (by decide) (by omega) v_0 [] ta Aa ta.length ca (fun _ => True) (fun _ => False) (by rfl) (by rfl) HV_0a.out (Kd.C_below HCA.out HT_0a.out.bw) (fun x_ cs_ h_ => h_) (fun _ h => h.elim) (fun _ _ => trivial) (Below.refl _ _) HT_0a.out.size (by have h := HNA.out; have e : ([] : List S41).length = 0 := rfl; omega) ?_
                        intro v_0a3 w5_0a3 ho hb hg_ hnew_
                        rw [List.nil_append] at ho
                        have HV_0a3 := Lib.hid ho
                        have HD_0a3 := Lib.hid (show ∀ k, v_0a3.ownBlock = some k → k ≠ w5_0.heap.size from fun k hk e => hnew_.elim (fun h => HD_0a.out k (h.symm.trans hk) e) (fun ⟨b_, h1, h2⟩ => (by have h3 := lt_of_blk HP_0a.out; rw [h1] at hk; injection hk with hk; omega)))
                        have HP_0a3 := Lib.hid (show w5_0a3.heap[w5_0.heap.size]? = _ from (hg_.block w5_0.heap.size (lt_of_blk HP_0a.out) (fun e => HD_0a.out w5_0.heap.size e.symm rfl)).trans HP_0a.out)
                        have HG_0a3 := HG_0a
                        have HT_0a3 := Lib.hid (HT_0a.out.nextB hb)
                        clear ho hb hg_ hnew_
                        obtain ⟨ya0, ya1, yb0, yb1⟩ := HT_0a3.out.cells
                        refine hK.out _ _ ⟨ya0, ya1, yb0⟩ (fun hHeld => ?_)
                        clear hK K
                        refine nm ?_
                        refine on_ 6 (some 63) (fl 12 1535) fun K hK => ?_
                        refine Kd.R_append_rows_step k41 (w0 := w5_0a3) (W.heap.size + 2) (by rfl) (.tmp 60) (.tmp 62) 22 41 (.agg #[(.string ⟨#[]⟩), (.int .i64 0), (.int .i64 0), (.string ⟨#[]⟩), (.int .i64 0), (.bool false)]) 64 (by rfl) Try.underlying22 infoT rfl (by decide) (by omega) v_0a3 ta tb Ab tb.length cb (fun _ => True) (fun _ => False) (by rfl) (by rfl) HV_0a3.out (Kd.C_below HCB.out HT_0a3.out.bw) (fun x_ cs_ h_ => h_) (fun _ h => h.elim) (fun _ _ => trivial) (Below.refl _ _) HT_0a3.out.size (by have h := HNA.out; have e : ([] : List S41).length = 0 := rfl; omega) ?_
                        intro v_0a36 w5_0a36 ho hb hg_ hnew_
                        rw [HTC.out] at ho
                        obtain ⟨A_0a36, c_0a36, rfl⟩ := Kd.R_slice ho
                        have HV_0a36 := Lib.hid ho
                        have HD_0a36 := Lib.hid (show ∀ k, (Value.slice A_0a36 tc.length c_0a36).ownBlock = some k → k ≠ w5_0.heap.size from fun k hk e => hnew_.elim (fun h => HD_0a3.out k (h.symm.trans hk) e) (fun ⟨b_, h1, h2⟩ => (by have h3 := lt_of_blk HP_0a3.out; rw [h1] at hk; injection hk with hk; omega)))
                        have HP_0a36 := Lib.hid (show w5_0a36.heap[w5_0.heap.size]? = _ from (hg_.block w5_0.heap.size (lt_of_blk HP_0a3.out) (fun e => HD_0a3.out w5_0.heap.size e.symm rfl)).trans HP_0a3.out)
                        have HG_0a36 := HG_0a3
                        have HT_0a36 := Lib.hid (HT_0a3.out.nextB hb)
                        clear ho hb hg_ hnew_
                        obtain ⟨ya0, ya1, yb0, yb1⟩ := HT_0a36.out.cells
                        refine hK.out _ _ ⟨ya0, ya1, yb0⟩ (fun hHeld => ?_)
                        clear hK K
                        refine nm ?_
                        refine pu 9 (some 66) (fl 12 2047) ?_
                        exact norm_ (by first | (simp only [putAll, Act.put, List.setIfInBounds_toArray, List.set_cons_zero, List.set_cons_succ]; done) | (simp only [putAll, Act.put, List.setIfInBounds_toArray, List.set_cons_zero, List.set_cons_succ]; rfl)) (hCont (v_0, v_0a3, (A_0a36, c_0a36), w5_0.heap.size) _ ⟨HV_0a36.out, HP_0a36.out, HG_0a36.out, HT_0a36.out, HD_0a36.out⟩)
                    · skip
                      refine value_ (w1 := ?_) (v := ?_) (by rfl) rfl ?_ ?_
                      rotate_left 2
                      · go_simp
                        constructor
                        · rfl
                        · rfl
                      have hbl : Below w5.heap.size w5 (w5.alloc (.cells #[.slice none 0 0, .int .i64 0] 24)) := below_alloc (Below.refl _ _) _
                      have hpp := heap_alloc_new w5 (.cells #[.slice none 0 0, .int .i64 0] 24)
                      have HG_a := Lib.hid (show W.heap.size + 2 ≤ w5.heap.size from HT.out.size)
                      have HT_a := Lib.hid (HT.out.next hbl)
                      have HP_a := Lib.hid hpp
                      clear hpp hbl
                      obtain ⟨ya0, ya1, yb0, yb1⟩ := HT_a.out.cells
                      refine hK.out _ _ ⟨ya0, ya1, yb0⟩ (fun hHeld => ?_)
                      clear hK K
                      refine nm ?_
                      refine on_ 0 (some 57) (fl 12 1463) fun K hK => ?_
                      refine Kd.R_lit_step k41 (w0 := (w5.alloc (.cells #[.slice none 0 0, .int .i64 0] 24))) (W.heap.size + 2) 41 ?hg (N := 57) ?hd (xs := ([] : List S41)) (inner := []) (ok := fun _ => True) (okp := fun _ => True) ?hr ?hp (fun _ hk => hk) trivial (Below.refl _ _) HT_a.out.size (by simp) ?_; (case hd => rfl); (case hg => rfl); (case hr => first | (go_simp; done) | (go_simp; rfl)); (case hp => exact (Reps.none _ _))
                      intro v_a0 w5_a0 ho hb hg_ hnew_
                      have hbl : Below (w5.alloc (.cells #[.slice none 0 0, .int .i64 0] 24)).heap.size (w5.alloc (.cells #[.slice none 0 0, .int .i64 0] 24)) w5_a0 := Below.grown (Below.refl _ _) hg_ (Nat.le_refl _) (fun _ h => by cases h)
                      obtain ⟨bn, hbn, hbn2⟩ := hnew_
                      have HV_a0 := Lib.hid ho
                      have HD_a0 := Lib.hid (show ∀ k, v_a0.ownBlock = some k → k ≠ w5.heap.size from fun k hk e => (by have h1 := lt_of_blk HP_a.out; rw [hbn] at hk; injection hk with hk; omega))
                      have HP_a0 := Lib.hid (block_below HP_a.out hbl)
                      have HG_a0 := HG_a
                      have HT_a0 := Lib.hid (HT_a.out.next hbl)
                      clear ho hb hg_ hbl hbn hbn2
                      obtain ⟨ya0, ya1, yb0, yb1⟩ := HT_a0.out.cells
                      refine hK.out _ _ ⟨ya0, ya1, yb0⟩ (fun hHeld => ?_)
                      clear hK K
                      refine nm ?_
                      refine on_ 3 (some 60) (fl 12 1471) fun K hK => ?_
                      refine Kd.R_append_rows_step k41 (w0 := w5_a0) (W.heap.size + 2) (by rfl) (.tmp 57) (.tmp 59) 22 41 (.agg #[(.string ⟨#[]⟩), (.int .i64 0), (.int .i64 0), (.string ⟨#[]⟩), (.int .i64 0), (.bool false)]) 64 (by rfl) Try.underlying22 infoT rfl (by decide) (by omega) v_a0 [] ta Aa ta.length ca (fun _ => True) (fun _ => False) (by rfl) (by rfl) HV_a0.out (Kd.C_below HCA.out HT_a0.out.bw) (fun x_ cs_ h_ => h_) (fun _ h => h.elim) (fun _ _ => trivial) (Below.refl _ _) HT_a0.out.size (by have h := HNA.out; have e : ([] : List S41).length = 0 := rfl; omega) ?_
                      intro v_a03 w5_a03 ho hb hg_ hnew_
                      rw [List.nil_append] at ho
                      have HV_a03 := Lib.hid ho
                      have HD_a03 := Lib.hid (show ∀ k, v_a03.ownBlock = some k → k ≠ w5.heap.size from fun k hk e => hnew_.elim (fun h => HD_a0.out k (h.symm.trans hk) e) (fun ⟨b_, h1, h2⟩ => (by have h3 := lt_of_blk HP_a0.out; rw [h1] at hk; injection hk with hk; omega)))
                      have HP_a03 := Lib.hid (show w5_a03.heap[w5.heap.size]? = _ from (hg_.block w5.heap.size (lt_of_blk HP_a0.out) (fun e => HD_a0.out w5.heap.size e.symm rfl)).trans HP_a0.out)
                      have HG_a03 := HG_a0
                      have HT_a03 := Lib.hid (HT_a0.out.nextB hb)
                      clear ho hb hg_ hnew_
                      obtain ⟨ya0, ya1, yb0, yb1⟩ := HT_a03.out.cells
                      refine hK.out _ _ ⟨ya0, ya1, yb0⟩ (fun hHeld => ?_)
                      clear hK K
                      refine nm ?_
                      refine on_ 6 (some 63) (fl 12 1535) fun K hK => ?_
                      refine Kd.R_append_rows_step k41 (w0 := w5_a03) (W.heap.size + 2) (by rfl) (.tmp 60) (.tmp 62) 22 41 (.agg #[(.string ⟨#[]⟩), (.int .i64 0), (.int .i64 0), (.string ⟨#[]⟩), (.int .i64 0), (.bool false)]) 64 (by rfl) Try.underlying22 infoT rfl (by decide) (by omega) v_a03 ta tb Ab tb.length cb (fun _ => True) (fun _ => False) (by rfl) (by rfl) HV_a03.out (Kd.C_below HCB.out HT_a03.out.bw) (fun x_ cs_ h_ => h_) (fun _ h => h.elim) (fun _ _ => trivial) (Below.refl _ _) HT_a03.out.size (by have h := HNA.out; have e : ([] : List S41).length = 0 := rfl; omega) ?_
                      intro v_a036 w5_a036 ho hb hg_ hnew_
                      rw [HTC.out] at ho
                      obtain ⟨A_a036, c_a036, rfl⟩ := Kd.R_slice ho
                      have HV_a036 := Lib.hid ho
                      have HD_a036 := Lib.hid (show ∀ k, (Value.slice A_a036 tc.length c_a036).ownBlock = some k → k ≠ w5.heap.size from fun k hk e => hnew_.elim (fun h => HD_a03.out k (h.symm.trans hk) e) (fun ⟨b_, h1, h2⟩ => (by have h3 := lt_of_blk HP_a03.out; rw [h1] at hk; injection hk with hk; omega)))
                      have HP_a036 := Lib.hid (show w5_a036.heap[w5.heap.size]? = _ from (hg_.block w5.heap.size (lt_of_blk HP_a03.out) (fun e => HD_a03.out w5.heap.size e.symm rfl)).trans HP_a03.out)
                      have HG_a036 := HG_a03
                      have HT_a036 := Lib.hid (HT_a03.out.nextB hb)
                      clear ho hb hg_ hnew_
                      obtain ⟨ya0, ya1, yb0, yb1⟩ := HT_a036.out.cells
                      refine hK.out _ _ ⟨ya0, ya1, yb0⟩ (fun hHeld => ?_)
                      clear hK K
                      refine nm ?_
                      refine pu 9 (some 66) (fl 12 2047) ?_
                      exact norm_ (by first | (simp only [putAll, Act.put, List.setIfInBounds_toArray, List.set_cons_zero, List.set_cons_succ]; done) | (simp only [putAll, Act.put, List.setIfInBounds_toArray, List.set_cons_zero, List.set_cons_succ]; rfl)) (hCont (v_a0, v_a03, (A_a036, c_a036), w5.heap.size) _ ⟨HV_a036.out, HP_a036.out, HG_a036.out, HT_a036.out, HD_a036.out⟩)
                  rintro ⟨v0, v3, ⟨Av, cv⟩, pb⟩ w9 ⟨hv6, hp, hgp, ht, hd⟩
                  dsimp only at hv6 hp hgp hd
                  have HV := Lib.hid hv6
                  have HPBX := Lib.hid hp
                  have HGP := Lib.hid hgp
                  have HDD := Lib.hid hd
                  have HT9 := Lib.hid ht
                  obtain ⟨ya0, ya1, yb0, yb1⟩ := ht.cells
                  have hHeld : w9.cell? ⟨W.heap.size, 0, none⟩ = some (.slice Aa ta.length ca) ∧ w9.cell? ⟨W.heap.size, 1, none⟩ = some (.int .i64 oa) ∧ w9.cell? ⟨W.heap.size + 1, 0, none⟩ = some (.slice Ab tb.length cb) := ⟨ya0, ya1, yb0⟩
                  have p0 : w9.cell? ⟨pb, 0, none⟩ = some (.slice none 0 0) := (blk_cell hp 0).trans rfl
                  have p1 : w9.cell? ⟨pb, 1, none⟩ = some (.int .i64 0) := (blk_cell hp 1).trans rfl
                  have f0 := blk_frozen hp 0
                  have f1 := blk_frozen hp 1
                  clear hv6 hp hgp ht hd
                  refine nm ?_
                  refine on_ 11 none (fl 12 4095) fun K hK => ?_
                  refine skip_ (w1 := ?_) (by rfl) rfl ?_ ?_
                  rotate_left
                  · go_simp
                    rfl
                  have HH := Lib.hid (Three.store (c0 := .slice Av tc.length cv) (c1 := .int .i64 oa) HT9.out HGP.out HPBX.out)
                  obtain ⟨ya0, ya1, yb0, yb1⟩ := HH.out.two.cells
                  refine hK.out _ _ ⟨ya0, ya1, yb0⟩ (fun hHeld => ?_)
                  clear hK K
                  refine done_ (by kernel_rfl) ?_
                  have HV10 := Lib.hid (rowT_far (rowT_far HV.out HDD.out 0 (.slice Av tc.length cv)) HDD.out 1 (.int .i64 oa))
                  obtain ⟨w10, hw10⟩ : ∃ w10, (w9.setCell ⟨pb, 0, none⟩ (.slice Av tc.length cv)).setCell ⟨pb, 1, none⟩ (.int .i64 oa) = w10 := ⟨_, rfl⟩
                  rw [hw10] at HV10 HH ya0 ya1 yb0 yb1 hHeld ⊢
                  have HLC := Lib.hid (Kd.R_reads' HV10.out).2.1
                  have HNC := Lib.hid (show tc.length ≤ 16 by rw [← HTC.out, List.length_append]; have := HNA.out; omega)
                  have HPA := Lib.hid (show ∀ t ∈ ta, ∀ s ∈ rs, ∃ k, holdF k t (fs s) = some (P t s) from fun t ht s hs => HP.out t (List.mem_append_left _ ht) s hs)
                  have HPB := Lib.hid (show ∀ t ∈ tb, ∀ s ∈ rs, ∃ k, holdF k t (fs s) = some (P t s) from fun t ht s hs => HP.out t (List.mem_append_right _ ht) s hs)
                  have HPC := Lib.hid (show ∀ t ∈ tc, ∀ s ∈ rs, ∃ k, holdF k t (fs s) = some (P t s) by rw [← HTC.out]; exact HP.out)
                  have HALL := Lib.hid (show ∀ s, tc.all (fun t => P t s) = (ta.all (fun t => P t s) && tb.all (fun t => P t s)) from fun s => by rw [← HTC.out, List.all_append])
                  clear hw10 hHeld ya0 ya1 yb0 yb1 HV HDD HGP HT9 HP HTC HT p0 p1 f0 f1 HPBX q
                  clear ya0 ya1 yb0 yb1 hHeld

                  go_wp2
                  go_loopw [9] (fun i wr => ∃ k : Nat, k ≤ rs.length ∧ i = .int .i64 k ∧ Hid (Three W (.slice Aa ta.length ca) (.int .i64 oa) (.slice Ab tb.length cb) (.int .i64 ob) pb (.slice Av tc.length cv) (.int .i64 oa) wr) ∧ Hid (Kd.R k41 41 wr (W.heap.size + 2) (fun _ => True) (.slice Av tc.length cv) tc)) (fun i _ => rs.length - (intOf i).toNat)
                  case atStart => exact ⟨0, by omega, rfl, HH, HV10⟩
                  case round =>
                    clear HH HV10
                    obtain ⟨k, hk, rfl, HH, HCC⟩ := hrel
                    by_cases hlt : k < rs.length
                    · obtain ⟨s, hs⟩ : ∃ s, rs[k]? = some s := ⟨_, List.getElem?_eq_getElem hlt⟩
                      have HGS := Lib.hid hs
                      have HMS := Lib.hid (List.mem_of_getElem? hs)
                      have q : (k : Int) < (rs.length : Int) := by omega
                      have HK := Lib.hid (show k + 1 ≤ rs.length by omega)
                      have HW := Lib.hid (show wrap64 ((k : Int) + 1) = ((k + 1 : Nat) : Int) by have := HN.out; unfold wrap64; omega)
                      have hall := HALL.out s
                      obtain ⟨bA, hbA⟩ : ∃ b, ta.all (fun t => P t s) = b := ⟨_, rfl⟩
                      obtain ⟨bB, hbB⟩ : ∃ b, tb.all (fun t => P t s) = b := ⟨_, rfl⟩
                      rw [hbA, hbB] at hall
                      have HQ1 := Lib.hid hbA
                      have HQ2 := Lib.hid hbB
                      have HQ3 := Lib.hid hall
                      have HMC := fun (w : World) (hb : Below W.heap.size W w) (hc : Kd.C k41 w Av tc.length tc) => match_calls (o := oa) (p := fun t => P t s) (fun t ht => HPC.out t ht s HMS.out) ((HFS.out s HMS.out).1.below hb) hc HLC.out (by have := HNC.out; omega)
                      have HMA := fun (w : World) (hb : Below W.heap.size W w) => match_calls (o := oa) (p := fun t => P t s) (fun t ht => HPA.out t ht s HMS.out) ((HFS.out s HMS.out).1.below hb) (Kd.C_below HCA.out hb) HLA.out (by have := HNA.out; omega)
                      have HMB := fun (w : World) (hb : Below W.heap.size W w) => match_calls (o := ob) (p := fun t => P t s) (fun t ht => HPB.out t ht s HMS.out) ((HFS.out s HMS.out).1.below hb) (Kd.C_below HCB.out hb) HLB.out (by have := HNA.out; omega)
                      simp only [hall] at HMC
                      simp only [hbA] at HMA
                      simp only [hbB] at HMB
                      simp only [arr_S] at HMA HMB HMC
                      clear hs hlt hk hall hbA hbB
                      go_upto_region 14 with (fail)
                      have hhd := HH.out.drew
                      have hcd := Kd.R_drew HCC.out
                      obtain ⟨ya0, ya1, yb0, yb1⟩ := hhd.two.cells
                      obtain ⟨yc0, yc1⟩ := box2 hhd.kc
                      obtain ⟨ad, rfl, x0, x1, x2, x3, x4, x5, x6, x7, x8, x9, x10⟩ := at_S (Kd.C_below HRS.out hhd.two.bw) HGS.out
                      cases bA with
                      | false =>
                        refine start_ (n := 21) (S := fun w' => w'.cell? ⟨W.heap.size, 0, none⟩ = some (.slice Aa ta.length ca) ∧ w'.cell? ⟨W.heap.size, 1, none⟩ = some (.int .i64 oa) ∧ w'.cell? ⟨W.heap.size + 1, 0, none⟩ = some (.slice Ab tb.length cb) ∧ w'.cell? ⟨W.heap.size + 1, 1, none⟩ = some (.int .i64 ob) ∧ w'.cell? ⟨pb, 0, none⟩ = some (.slice Av tc.length cv) ∧ w'.cell? ⟨pb, 1, none⟩ = some (.int .i64 oa) ∧ w'.cell? (ad.add (k * 11)) = some (.int .u64 s.tr) ∧ w'.cell? ⟨(ad.add (k * 11)).block, (ad.add (k * 11)).off + 1, none⟩ = some (.int .u64 s.id) ∧ w'.cell? ⟨(ad.add (k * 11)).block, (ad.add (k * 11)).off + 2, none⟩ = some (.int .u64 s.par) ∧ w'.cell? ⟨(ad.add (k * 11)).block, (ad.add (k * 11)).off + 3, none⟩ = some (.string s.svc) ∧ w'.cell? ⟨(ad.add (k * 11)).block, (ad.add (k * 11)).off + 4, none⟩ = some (.string s.op) ∧ w'.cell? ⟨(ad.add (k * 11)).block, (ad.add (k * 11)).off + 5, none⟩ = some (.int .i64 s.st) ∧ w'.cell? ⟨(ad.add (k * 11)).block, (ad.add (k * 11)).off + 6, none⟩ = some (.int .i64 s.du) ∧ w'.cell? ⟨(ad.add (k * 11)).block, (ad.add (k * 11)).off + 7, none⟩ = some (.int .i64 s.stt) ∧ w'.cell? ⟨(ad.add (k * 11)).block, (ad.add (k * 11)).off + 8, none⟩ = some (.slice s.a.1 s.a.2.1 s.a.2.2) ∧ w'.cell? ⟨(ad.add (k * 11)).block, (ad.add (k * 11)).off + 9, none⟩ = some (.slice s.e.1 s.e.2.1 s.e.2.2) ∧ w'.cell? ⟨(ad.add (k * 11)).block, (ad.add (k * 11)).off + 10, none⟩ = some (.slice s.l.1 s.l.2.1 s.l.2.2)) (ds := []) (fl 21 0) (by kernel_rfl) rfl rfl ⟨ya0, ya1, yb0, yb1, yc0, yc1, x0, x1, x2, x3, x4, x5, x6, x7, x8, x9, x10⟩ (fun hHeld => ?_)
                        generalize wr.drew = w5 at ya0 ya1 yb0 yb1 yc0 yc1 x0 x1 x2 x3 x4 x5 x6 x7 x8 x9 x10 hhd hcd hHeld ⊢
                        have HH5 := Lib.hid hhd
                        have HC5 := Lib.hid hcd
                        clear ya0 ya1 yb0 yb1 yc0 yc1 x0 x1 x2 x3 x4 x5 x6 x7 x8 x9 x10 hhd hcd
                        refine pu 1 (some 74) (fl 21 2) ?_
                        refine pu 2 (some 75) (fl 21 6) ?_
                        refine pu 3 (some 76) (fl 21 14) ?_
                        refine pu 7 (some 80) (fl 21 142) ?_
                        refine pu 8 (some 81) (fl 21 398) ?_
                        refine pu 9 (some 82) (fl 21 910) ?_
                        refine tk 0 (some 73) (fl 21 911) hHeld ?_
                        refine tk 4 (some 77) (fl 21 927) hHeld ?_
                        refine tk 6 (some 79) (fl 21 991) hHeld ?_
                        refine tk 10 (some 83) (fl 21 2015) hHeld ?_
                        refine on_ 5 (some 78) (fl 21 2047) fun K hK => ?_
                        have hcl := HMC w5 HH5.out.two.bw (Kd.R_reads' HC5.out).2.2
                        refine gs Try.func16 #[.agg #[.slice Av tc.length cv, .int .i64 oa], .agg #[.int .u64 s.tr, .int .u64 s.id, .int .u64 s.par, .string s.svc, .string s.op, .int .i64 s.st, .int .i64 s.du, .int .i64 s.stt, .slice s.a.1 s.a.2.1 s.a.2.2, .slice s.e.1 s.e.2.1 s.e.2.2, .slice s.l.1 s.l.2.1 s.l.2.2]] ?_
                        with_reducible refine (hcl).mono ?_
                        rintro ee w6 ⟨rfl, hb⟩
                        refine ⟨_, rfl, ?_⟩
                        have HH6 := Lib.hid (HH5.out.next hb)
                        have HC6 := Lib.hid (Kd.R_below HC5.out hb)
                        clear hb hcl
                        obtain ⟨ya0, ya1, yb0, yb1⟩ := HH6.out.two.cells
                        obtain ⟨yc0, yc1⟩ := box2 HH6.out.kc
                        obtain ⟨ad2, he2, x0, x1, x2, x3, x4, x5, x6, x7, x8, x9, x10⟩ := at_S (Kd.C_below HRS.out HH6.out.two.bw) HGS.out
                        injection he2 with he2
                        subst he2
                        refine hK.out _ _ ⟨ya0, ya1, yb0, yb1, yc0, yc1, x0, x1, x2, x3, x4, x5, x6, x7, x8, x9, x10⟩ (fun hHeld => ?_)
                        clear hK K
                        refine nm ?_
                        refine on_ 11 (some 84) (fl 21 4095) fun K hK => ?_
                        have hcl := HMA w6 HH6.out.two.bw
                        refine gs Try.func16 #[.agg #[.slice Aa ta.length ca, .int .i64 oa], .agg #[.int .u64 s.tr, .int .u64 s.id, .int .u64 s.par, .string s.svc, .string s.op, .int .i64 s.st, .int .i64 s.du, .int .i64 s.stt, .slice s.a.1 s.a.2.1 s.a.2.2, .slice s.e.1 s.e.2.1 s.e.2.2, .slice s.l.1 s.l.2.1 s.l.2.2]] ?_
                        with_reducible refine (hcl).mono ?_
                        rintro ee w7 ⟨rfl, hb⟩
                        refine ⟨_, rfl, ?_⟩
                        have HH7 := Lib.hid (HH6.out.next hb)
                        have HC7 := Lib.hid (Kd.R_below HC6.out hb)
                        clear hb hcl
                        obtain ⟨ya0, ya1, yb0, yb1⟩ := HH7.out.two.cells
                        obtain ⟨yc0, yc1⟩ := box2 HH7.out.kc
                        obtain ⟨ad2, he2, x0, x1, x2, x3, x4, x5, x6, x7, x8, x9, x10⟩ := at_S (Kd.C_below HRS.out HH7.out.two.bw) HGS.out
                        injection he2 with he2
                        subst he2
                        refine hK.out _ _ ⟨ya0, ya1, yb0, yb1, yc0, yc1, x0, x1, x2, x3, x4, x5, x6, x7, x8, x9, x10⟩ (fun hHeld => ?_)
                        clear hK K
                        refine nm ?_
                        refine pu 12 (some 85) (fl 21 8191) ?_
                        refine off 13 (some 86) (fl 21 16383) ?_
                        refine off 14 (some 87) (fl 21 32767) ?_
                        refine off 15 (some 88) (fl 21 65535) ?_
                        refine off 16 (some 89) (fl 21 131071) ?_
                        refine off 17 (some 90) (fl 21 262143) ?_
                        refine off 18 (some 91) (fl 21 524287) ?_
                        refine pu 19 (some 92) (fl 21 1048575) ?_
                        refine pu 20 (some 93) (fl 21 2097151) ?_
                        refine done_ (by kernel_rfl) ?_
                        clear ya0 ya1 yb0 yb1 yc0 yc1 x0 x1 x2 x3 x4 x5 x6 x7 x8 x9 x10
                        go_wp2
                        go_roundw
                        case rel => exact ⟨k + 1, HK.out, by rw [HW.out], HH7, HC7⟩
                        case measure => exact meas_up (by have := HN.out; omega) HK.out
                      | true =>
                        refine start_ (n := 21) (S := fun w' => w'.cell? ⟨W.heap.size, 0, none⟩ = some (.slice Aa ta.length ca) ∧ w'.cell? ⟨W.heap.size, 1, none⟩ = some (.int .i64 oa) ∧ w'.cell? ⟨W.heap.size + 1, 0, none⟩ = some (.slice Ab tb.length cb) ∧ w'.cell? ⟨W.heap.size + 1, 1, none⟩ = some (.int .i64 ob) ∧ w'.cell? ⟨pb, 0, none⟩ = some (.slice Av tc.length cv) ∧ w'.cell? ⟨pb, 1, none⟩ = some (.int .i64 oa) ∧ w'.cell? (ad.add (k * 11)) = some (.int .u64 s.tr) ∧ w'.cell? ⟨(ad.add (k * 11)).block, (ad.add (k * 11)).off + 1, none⟩ = some (.int .u64 s.id) ∧ w'.cell? ⟨(ad.add (k * 11)).block, (ad.add (k * 11)).off + 2, none⟩ = some (.int .u64 s.par) ∧ w'.cell? ⟨(ad.add (k * 11)).block, (ad.add (k * 11)).off + 3, none⟩ = some (.string s.svc) ∧ w'.cell? ⟨(ad.add (k * 11)).block, (ad.add (k * 11)).off + 4, none⟩ = some (.string s.op) ∧ w'.cell? ⟨(ad.add (k * 11)).block, (ad.add (k * 11)).off + 5, none⟩ = some (.int .i64 s.st) ∧ w'.cell? ⟨(ad.add (k * 11)).block, (ad.add (k * 11)).off + 6, none⟩ = some (.int .i64 s.du) ∧ w'.cell? ⟨(ad.add (k * 11)).block, (ad.add (k * 11)).off + 7, none⟩ = some (.int .i64 s.stt) ∧ w'.cell? ⟨(ad.add (k * 11)).block, (ad.add (k * 11)).off + 8, none⟩ = some (.slice s.a.1 s.a.2.1 s.a.2.2) ∧ w'.cell? ⟨(ad.add (k * 11)).block, (ad.add (k * 11)).off + 9, none⟩ = some (.slice s.e.1 s.e.2.1 s.e.2.2) ∧ w'.cell? ⟨(ad.add (k * 11)).block, (ad.add (k * 11)).off + 10, none⟩ = some (.slice s.l.1 s.l.2.1 s.l.2.2)) (ds := []) (fl 21 0) (by kernel_rfl) rfl rfl ⟨ya0, ya1, yb0, yb1, yc0, yc1, x0, x1, x2, x3, x4, x5, x6, x7, x8, x9, x10⟩ (fun hHeld => ?_)
                        generalize wr.drew = w5 at ya0 ya1 yb0 yb1 yc0 yc1 x0 x1 x2 x3 x4 x5 x6 x7 x8 x9 x10 hhd hcd hHeld ⊢
                        have HH5 := Lib.hid hhd
                        have HC5 := Lib.hid hcd
                        clear ya0 ya1 yb0 yb1 yc0 yc1 x0 x1 x2 x3 x4 x5 x6 x7 x8 x9 x10 hhd hcd
                        refine pu 1 (some 74) (fl 21 2) ?_
                        refine pu 2 (some 75) (fl 21 6) ?_
                        refine pu 3 (some 76) (fl 21 14) ?_
                        refine pu 7 (some 80) (fl 21 142) ?_
                        refine pu 8 (some 81) (fl 21 398) ?_
                        refine pu 9 (some 82) (fl 21 910) ?_
                        refine tk 0 (some 73) (fl 21 911) hHeld ?_
                        refine tk 4 (some 77) (fl 21 927) hHeld ?_
                        refine tk 6 (some 79) (fl 21 991) hHeld ?_
                        refine tk 10 (some 83) (fl 21 2015) hHeld ?_
                        refine on_ 5 (some 78) (fl 21 2047) fun K hK => ?_
                        have hcl := HMC w5 HH5.out.two.bw (Kd.R_reads' HC5.out).2.2
                        refine gs Try.func16 #[.agg #[.slice Av tc.length cv, .int .i64 oa], .agg #[.int .u64 s.tr, .int .u64 s.id, .int .u64 s.par, .string s.svc, .string s.op, .int .i64 s.st, .int .i64 s.du, .int .i64 s.stt, .slice s.a.1 s.a.2.1 s.a.2.2, .slice s.e.1 s.e.2.1 s.e.2.2, .slice s.l.1 s.l.2.1 s.l.2.2]] ?_
                        with_reducible refine (hcl).mono ?_
                        rintro ee w6 ⟨rfl, hb⟩
                        refine ⟨_, rfl, ?_⟩
                        have HH6 := Lib.hid (HH5.out.next hb)
                        have HC6 := Lib.hid (Kd.R_below HC5.out hb)
                        clear hb hcl
                        obtain ⟨ya0, ya1, yb0, yb1⟩ := HH6.out.two.cells
                        obtain ⟨yc0, yc1⟩ := box2 HH6.out.kc
                        obtain ⟨ad2, he2, x0, x1, x2, x3, x4, x5, x6, x7, x8, x9, x10⟩ := at_S (Kd.C_below HRS.out HH6.out.two.bw) HGS.out
                        injection he2 with he2
                        subst he2
                        refine hK.out _ _ ⟨ya0, ya1, yb0, yb1, yc0, yc1, x0, x1, x2, x3, x4, x5, x6, x7, x8, x9, x10⟩ (fun hHeld => ?_)
                        clear hK K
                        refine nm ?_
                        refine on_ 11 (some 84) (fl 21 4095) fun K hK => ?_
                        have hcl := HMA w6 HH6.out.two.bw
                        refine gs Try.func16 #[.agg #[.slice Aa ta.length ca, .int .i64 oa], .agg #[.int .u64 s.tr, .int .u64 s.id, .int .u64 s.par, .string s.svc, .string s.op, .int .i64 s.st, .int .i64 s.du, .int .i64 s.stt, .slice s.a.1 s.a.2.1 s.a.2.2, .slice s.e.1 s.e.2.1 s.e.2.2, .slice s.l.1 s.l.2.1 s.l.2.2]] ?_
                        with_reducible refine (hcl).mono ?_
                        rintro ee w7 ⟨rfl, hb⟩
                        refine ⟨_, rfl, ?_⟩
                        have HH7 := Lib.hid (HH6.out.next hb)
                        have HC7 := Lib.hid (Kd.R_below HC6.out hb)
                        clear hb hcl
                        obtain ⟨ya0, ya1, yb0, yb1⟩ := HH7.out.two.cells
                        obtain ⟨yc0, yc1⟩ := box2 HH7.out.kc
                        obtain ⟨ad2, he2, x0, x1, x2, x3, x4, x5, x6, x7, x8, x9, x10⟩ := at_S (Kd.C_below HRS.out HH7.out.two.bw) HGS.out
                        injection he2 with he2
                        subst he2
                        refine hK.out _ _ ⟨ya0, ya1, yb0, yb1, yc0, yc1, x0, x1, x2, x3, x4, x5, x6, x7, x8, x9, x10⟩ (fun hHeld => ?_)
                        clear hK K
                        refine nm ?_
                        refine pu 12 (some 85) (fl 21 8191) ?_
                        refine pu 14 (some 87) (fl 21 24575) ?_
                        refine pu 15 (some 88) (fl 21 57343) ?_
                        refine pu 16 (some 89) (fl 21 122879) ?_
                        refine tk 13 (some 86) (fl 21 131071) hHeld ?_
                        refine tk 17 (some 90) (fl 21 262143) hHeld ?_
                        refine on_ 18 (some 91) (fl 21 524287) fun K hK => ?_
                        have hcl := HMB w7 HH7.out.two.bw
                        refine gs Try.func16 #[.agg #[.slice Ab tb.length cb, .int .i64 ob], .agg #[.int .u64 s.tr, .int .u64 s.id, .int .u64 s.par, .string s.svc, .string s.op, .int .i64 s.st, .int .i64 s.du, .int .i64 s.stt, .slice s.a.1 s.a.2.1 s.a.2.2, .slice s.e.1 s.e.2.1 s.e.2.2, .slice s.l.1 s.l.2.1 s.l.2.2]] ?_
                        with_reducible refine (hcl).mono ?_
                        rintro ee w8 ⟨rfl, hb⟩
                        refine ⟨_, rfl, ?_⟩
                        have HH8 := Lib.hid (HH7.out.next hb)
                        have HC8 := Lib.hid (Kd.R_below HC7.out hb)
                        clear hb hcl
                        obtain ⟨ya0, ya1, yb0, yb1⟩ := HH8.out.two.cells
                        obtain ⟨yc0, yc1⟩ := box2 HH8.out.kc
                        obtain ⟨ad2, he2, x0, x1, x2, x3, x4, x5, x6, x7, x8, x9, x10⟩ := at_S (Kd.C_below HRS.out HH8.out.two.bw) HGS.out
                        injection he2 with he2
                        subst he2
                        refine hK.out _ _ ⟨ya0, ya1, yb0, yb1, yc0, yc1, x0, x1, x2, x3, x4, x5, x6, x7, x8, x9, x10⟩ (fun hHeld => ?_)
                        clear hK K
                        refine nm ?_
                        refine pu 19 (some 92) (fl 21 1048575) ?_
                        refine pu 20 (some 93) (fl 21 2097151) ?_
                        refine done_ (by kernel_rfl) ?_
                        clear ya0 ya1 yb0 yb1 yc0 yc1 x0 x1 x2 x3 x4 x5 x6 x7 x8 x9 x10
                        cases bB with
                        | false =>
                          go_wp2
                          go_roundw
                          case rel => exact ⟨k + 1, HK.out, by rw [HW.out], HH8, HC8⟩
                          case measure => exact meas_up (by have := HN.out; omega) HK.out
                        | true =>
                          go_wp2
                          go_roundw
                          case rel => exact ⟨k + 1, HK.out, by rw [HW.out], HH8, HC8⟩
                          case measure => exact meas_up (by have := HN.out; omega) HK.out
                    · have hkl : k = rs.length := by omega
                      subst hkl
                      have q : decide ((rs.length : Int) < (rs.length : Int)) = false := decide_eq_false (by omega)
                      clear hlt hk
                      obtain ⟨ya0, ya1, yb0, yb1⟩ := HH.out.two.cells
                      have fb := blk_frozen HH.out.two.kb 1
                      go_upto_region 17 with (fail)
                      have hhd := (HH.out.setb (.int .i64 oa)).drew
                      have hcd := Kd.R_drew (rowT_far HCC.out (g := W.heap.size + 1) (fun k hk e => by have := (rowT_lt HCC.out k hk).1; omega) 1 (.int .i64 oa))
                      clear ya0 ya1 yb0 yb1 fb
                      obtain ⟨ya0, ya1, yb0, yb1⟩ := hhd.two.cells
                      obtain ⟨yc0, yc1⟩ := box2 hhd.kc
                      generalize wr.setCell ⟨W.heap.size + 1, 1, none⟩ (.int .i64 oa) = wq at hhd hcd ya0 ya1 yb0 yb1 yc0 yc1 ⊢
                      refine start_ (n := 10) (S := fun w' => w'.cell? ⟨W.heap.size, 0, none⟩ = some (.slice Aa ta.length ca) ∧ w'.cell? ⟨W.heap.size, 1, none⟩ = some (.int .i64 oa) ∧ w'.cell? ⟨W.heap.size + 1, 0, none⟩ = some (.slice Ab tb.length cb) ∧ w'.cell? ⟨W.heap.size + 1, 1, none⟩ = some (.int .i64 oa) ∧ w'.cell? ⟨pb, 0, none⟩ = some (.slice Av tc.length cv) ∧ w'.cell? ⟨pb, 1, none⟩ = some (.int .i64 oa)) (ds := []) (fl 10 0) (by kernel_rfl) rfl rfl ⟨ya0, ya1, yb0, yb1, yc0, yc1⟩ (fun hHeld => ?_)
                      generalize wq.drew = w5 at ya0 ya1 yb0 yb1 yc0 yc1 hhd hcd hHeld ⊢
                      have HH5 := Lib.hid hhd
                      have HC5 := Lib.hid hcd
                      clear ya0 ya1 yb0 yb1 yc0 yc1 hhd hcd
                      refine pu 1 (some 98) (fl 10 2) ?_
                      refine pu 5 (some 102) (fl 10 34) ?_
                      refine tk 0 (some 97) (fl 10 35) hHeld ?_
                      refine tk 3 (some 100) (fl 10 43) hHeld ?_
                      refine tk 4 (some 101) (fl 10 59) hHeld ?_
                      refine on_ 2 (some 99) (fl 10 63) fun K hK => ?_
                      have hac := all_calls (o := oa) (m := fun s => ta.all (fun t => P t s) && tb.all (fun t => P t s)) (ts := tc) (l := rs) (w := w5) (fun s hs => ⟨fs s, (HFS.out s hs).1.below HH5.out.two.bw, fun t => P t s, fun t ht => HPC.out t ht s hs, HALL.out s⟩) (Kd.R_reads' HC5.out).2.2 HLC.out (by have := HNC.out; omega) (Kd.C_below HRS.out HH5.out.two.bw) HL.out (by have := HN.out; omega)
                      refine gs Try.func12 #[.agg #[.slice Av tc.length cv, .int .i64 oa], .slice A2 rs.length c2] ?_
                      with_reducible refine (hac).mono ?_
                      rintro ee w6 ⟨v6, ys, rfl, hr6, hst6, hln6, hb6⟩
                      refine ⟨_, rfl, ?_⟩
                      obtain ⟨A6, c6, rfl⟩ := Kd.R_slice hr6
                      have HY6 := Lib.hid hr6
                      have HS6 := Lib.hid hst6
                      have HLY := Lib.hid (show ys.length ≤ 60 by rw [hln6]; exact Nat.le_trans (List.length_filter_le _ _) HN.out)
                      have HH6 := Lib.hid (HH5.out.next hb6)
                      clear hac hr6 hst6 hln6 hb6
                      obtain ⟨ya0, ya1, yb0, yb1⟩ := HH6.out.two.cells
                      obtain ⟨yc0, yc1⟩ := box2 HH6.out.kc
                      refine hK.out _ _ ⟨ya0, ya1, yb0, yb1, yc0, yc1⟩ (fun hHeld => ?_)
                      clear hK K
                      refine nm ?_
                      refine on_ 6 (some 103) (fl 10 127) fun K hK => ?_
                      have hac := all_calls (o := oa) (m := fun s => ta.all (fun t => P t s)) (ts := ta) (l := rs) (w := w6) (fun s hs => ⟨fs s, (HFS.out s hs).1.below HH6.out.two.bw, fun t => P t s, fun t ht => HPA.out t ht s hs, rfl⟩) (Kd.C_below HCA.out HH6.out.two.bw) HLA.out (by have := HNA.out; omega) (Kd.C_below HRS.out HH6.out.two.bw) HL.out (by have := HN.out; omega)
                      refine gs Try.func12 #[.agg #[.slice Aa ta.length ca, .int .i64 oa], .slice A2 rs.length c2] ?_
                      with_reducible refine (hac).mono ?_
                      rintro ee w7 ⟨v7, zs, rfl, hr7, hst7, hln7, hb7⟩
                      refine ⟨_, rfl, ?_⟩
                      obtain ⟨A7, c7, rfl⟩ := Kd.R_slice hr7
                      have HZ7 := Lib.hid hr7
                      have HS7 := Lib.hid hst7
                      have HLZ := Lib.hid (show zs.length ≤ 60 by rw [hln7]; exact Nat.le_trans (List.length_filter_le _ _) HN.out)
                      have HMZ := Lib.hid (show ∀ s ∈ zs, s ∈ rs from fun s hs => (List.mem_filter.1 ((Kp.mem (swo_cfK oa) HS7.out.keep).1 hs)).1)
                      have HH7 := Lib.hid (HH6.out.next hb7)
                      have HY7 := Lib.hid (Kd.R_below HY6.out hb7)
                      clear hac hr7 hst7 hln7 hb7
                      obtain ⟨ya0, ya1, yb0, yb1⟩ := HH7.out.two.cells
                      obtain ⟨yc0, yc1⟩ := box2 HH7.out.kc
                      refine hK.out _ _ ⟨ya0, ya1, yb0, yb1, yc0, yc1⟩ (fun hHeld => ?_)
                      clear hK K
                      refine nm ?_
                      refine on_ 7 (some 104) (fl 10 255) fun K hK => ?_
                      have hac := all_calls (o := oa) (m := fun s => tb.all (fun t => P t s)) (ts := tb) (l := zs) (w := w7) (fun s hs => ⟨fs s, (HFS.out s (HMZ.out s hs)).1.below HH7.out.two.bw, fun t => P t s, fun t ht => HPB.out t ht s (HMZ.out s hs), rfl⟩) (Kd.C_below HCB.out HH7.out.two.bw) HLB.out (by have := HNA.out; omega) (Kd.R_reads' HZ7.out).2.2 (Kd.R_reads' HZ7.out).2.1 (by have := HLZ.out; omega)
                      refine gs Try.func12 #[.agg #[.slice Ab tb.length cb, .int .i64 oa], .slice A7 zs.length c7] ?_
                      with_reducible refine (hac).mono ?_
                      rintro ee w8 ⟨v8, us, rfl, hr8, hst8, hln8, hb8⟩
                      refine ⟨_, rfl, ?_⟩
                      obtain rfl := parts_same (swo_cfK oa) HS6.out HS7.out hst8
                      obtain ⟨A8, c8, rfl⟩ := Kd.R_slice hr8
                      have HU8 := Lib.hid hr8
                      have HMY := Lib.hid (show ∀ s ∈ ys, s ∈ rs from fun s hs => HMZ.out s (List.mem_filter.1 ((Kp.mem (swo_cfK oa) hst8.keep).1 hs)).1)
                      have HH8 := Lib.hid (HH7.out.next hb8)
                      have HY8 := Lib.hid (Kd.R_below HY7.out hb8)
                      clear hac hr8 hst8 hln8 hb8
                      obtain ⟨ya0, ya1, yb0, yb1⟩ := HH8.out.two.cells
                      obtain ⟨yc0, yc1⟩ := box2 HH8.out.kc
                      refine hK.out _ _ ⟨ya0, ya1, yb0, yb1, yc0, yc1⟩ (fun hHeld => ?_)
                      clear hK K
                      refine nm ?_
                      refine on_ 8 (some 105) (fl 10 511) fun K hK => ?_
                      have hlc := spans_w (c1 := c6) (c2 := c8) (fs := fs) (Kd.R_reads' HY8.out).2.2 (Kd.R_reads' HU8.out).2.2 (by have := HLY.out; omega) (fun s hs => ⟨(HFS.out s (HMY.out s hs)).1.below HH8.out.two.bw, by have := (HOK.out s (HMY.out s hs)).len; omega, by have := (HOK.out s (HMY.out s hs)).len9; omega, by have := (HOK.out s (HMY.out s hs)).len10; omega⟩)
                      refine gs Try.func11 #[.slice A6 ys.length c6, .slice A8 ys.length c8] ?_
                      with_reducible refine (hlc).mono ?_
                      rintro ee w9_ ⟨rfl, hb9⟩
                      refine ⟨_, rfl, ?_⟩
                      have HH9 := Lib.hid (HH8.out.next hb9)
                      clear hlc hb9
                      obtain ⟨ya0, ya1, yb0, yb1⟩ := HH9.out.two.cells
                      obtain ⟨yc0, yc1⟩ := box2 HH9.out.kc
                      refine hK.out _ _ ⟨ya0, ya1, yb0, yb1, yc0, yc1⟩ (fun hHeld => ?_)
                      clear hK K
                      refine nm ?_
                      refine pu 9 (some 6) (fl 10 1023) ?_
                      refine done_ (by kernel_rfl) ?_
                      clear ya0 ya1 yb0 yb1 yc0 yc1
                      go_wp2
                      go_ret
                      exact ⟨rfl, HH9.out.two.bw⟩
end Go.Proofs.Ytffggkhahambhaa.Walk
