/- What the document fixes of tokens (chapter 24), by hand. -/
import Derived.Test.YtcgpbcpgopmfcaaGreatDoorTokRead2
import Derived.Lib.SlBytesConst
namespace Go.Proofs.YtcgpbcpgopmfcaaGreatDoor.Tok
open Go.RowKit Go.Proofs.YtcgpbcpgopmfcaaGreatDoorW.PrintWords Go.Proofs.YtcgpbcpgopmfcaaGreatDoorW.PrintLast Go.Proofs.YtcgpbcpgopmfcaaGreatDoorW.PrintMore Go.Proofs.YtcgpbcpgopmfcaaGreatDoor.Math Go.Proofs.YtcgpbcpgopmfcaaGreatDoor.PAll Go.Proofs.YtcgpbcpgopmfcaaGreatDoor.NumFacts Go.Proofs.YtcgpbcpgopmfcaaGreatDoor.Hex
set_option linter.unusedVariables false
set_option linter.unusedSimpArgs false

theorem hexT_isB : ∀ {l : List Int}, IsB l → IsB (hexT l)
  | [], _ => isB_nil
  | c :: l, h => by
    have hc := isB_head h
    refine isB_cons ?_ (isB_cons ?_ (hexT_isB (isB_tail h)))
    · unfold hexD; split <;> omega
    · unfold hexD; split <;> omega
theorem tokT_isB {v o : Int} {key : List Int} (hv : 0 ≤ v) (hk : IsB key) : IsB (tokT v (sumQ o) key) := hexT_isB (isB_app (tokB_isB hv (sumQ_isB o) hk) (p32_isB _))
theorem tokT_len {v : Int} {S key : List Int} : (tokT v S key).length = 2 * ((vput v).length + S.length + key.length + 6) := by
  unfold tokT
  rw [hexT_len, List.length_append]
  unfold tokB
  simp only [List.length_append, List.length_cons, List.length_nil]
  have : (p32 (crcSum ([99, 116] ++ (vput v ++ (S ++ key))))).length = 4 := rfl
  omega
theorem tokT_size (v : Int) (hv1 : v < 18446744073709551616) (o : Int) (key : List Int) (h1 : 1 ≤ key.length) (h2 : key.length ≤ 24) : (strOfNums (tokT v (sumQ o) key)).size ≠ 0 ∧ (strOfNums (tokT v (sumQ o) key)).size ≤ 1000000 := by
  rw [strOf_size, tokT_len, sumQ_len]
  have := vput_len10 hv1
  omega
/-- A token isn't another version's. -/
theorem tok_other {v u : Int} {S key : List Int} (hv : 0 ≤ v ∧ v < 18446744073709551616) (hu : 0 ≤ u ∧ u < 18446744073709551616) (hS : IsB S) (hk : IsB key) (hne : v ≠ u) : readT u S (tokT v S key) = none := by
  unfold readT tokT
  rw [plain_hex _ _ _ (isB_app (tokB_isB hv.1 hS hk) (p32_isB _)), List.nil_append]
  have hl : (tokB v S key ++ p32 (crcSum (tokB v S key))).length - 4 = (tokB v S key).length := by rw [List.length_append]; show _ + 4 - 4 = _; omega
  show (if (tokB v S key ++ p32 (crcSum (tokB v S key))).length < 4 then none else _) = _
  rw [if_neg (by rw [List.length_append]; show ¬ _ + 4 < 4; omega), hl, List.take_left, List.drop_left, big_p32 (crcSum_bounds _).1 (crcSum_bounds _).2, if_neg (by simp), if_neg ?_]
  rintro ⟨⟨r, hr⟩, _⟩
  unfold tokB at hr
  rw [List.append_assoc, List.append_assoc] at hr
  have h3 := List.append_cancel_left hr
  have g1 := vget_put (S ++ key) hv.1 hv.2
  have g2 := vget_put (S ++ r) hu.1 hu.2
  rw [h3, g1] at g2
  injection g2 with g2 _
  exact hne g2

/-- The one that Read wants: any text. -/
theorem read_calls (s : ByteArray) (ver o : Int) (w : World) (h0 : 0 ≤ ver) (h1 : ver < 18446744073709551616) (ho : o = 0 ∨ o = 1) (hs : s.size ≤ 1000000) (hne : s.size ≠ 0) :
    Calls Tryz.prog 7 #[.string s, .int .u64 ver, .agg #[.slice none 0 0, .int .i64 o]] w fun e w' => ReadIs w' ver o (bytesOf s) e ∧ Below w.heap.size w w' := by
  by_cases h : ∃ b, plainG (bytesOf s) [] 0 false = some (b, true) ∧ 4 ≤ b.length
  · obtain ⟨b, hg, h4⟩ := h
    exact read_more s ver o w h0 h1 ho hs hne b hg h4
  · have h' : ∀ b, plainG (bytesOf s) [] 0 false = some (b, true) → b.length < 4 := fun b hg => by
      rcases Nat.lt_or_ge b.length 4 with h4 | h4
      · exact h4
      · exact absurd ⟨b, hg, h4⟩ h
    exact (read_bad s ver o w hs hne h').mono fun e w' ⟨he, hb⟩ => ⟨readIs_none (readT_bad h') he, hb⟩
theorem read_key (s : ByteArray) (ver o : Int) (w : World) (h0 : 0 ≤ ver) (h1 : ver < 18446744073709551616) (ho : o = 0 ∨ o = 1) (hs : s.size ≤ 1000000) (hne : s.size ≠ 0) (key : List Int) (h : readT ver (sumQ o) (bytesOf s) = some key) :
    Calls Tryz.prog 7 #[.string s, .int .u64 ver, .agg #[.slice none 0 0, .int .i64 o]] w fun e w' => ∃ A c, e = .returned (.tuple #[.slice A key.length c, .int .i64 0]) ∧ Kd.C (Kd.int .u8) w' A key.length key ∧ Below w.heap.size w w' :=
  (read_calls s ver o w h0 h1 ho hs hne).mono fun e w' ⟨hr, hb⟩ => by
    unfold ReadIs at hr
    rw [h] at hr
    obtain ⟨v, rfl, A, c, rfl, _, hc⟩ := hr
    exact ⟨A, c, rfl, hc, hb⟩
theorem read_none (s : ByteArray) (ver o : Int) (w : World) (h0 : 0 ≤ ver) (h1 : ver < 18446744073709551616) (ho : o = 0 ∨ o = 1) (hs : s.size ≤ 1000000) (hne : s.size ≠ 0) (h : readT ver (sumQ o) (bytesOf s) = none) :
    Calls Tryz.prog 7 #[.string s, .int .u64 ver, .agg #[.slice none 0 0, .int .i64 o]] w fun e w' => e = .returned (.tuple #[.slice none 0 0, .int .i64 10]) ∧ Below w.heap.size w w' :=
  (read_calls s ver o w h0 h1 ho hs hne).mono fun e w' ⟨hr, hb⟩ => by
    unfold ReadIs at hr
    rw [h] at hr
    exact ⟨hr, hb⟩
set_option maxHeartbeats 1000000 in
set_option maxRecDepth 100000 in
theorem read_empty (ver : Int) (q : Array Value) (hq : q = #[.slice none 0 0, .int .i64 0]) (w : World) :
    Calls Tryz.prog 7 #[.string ⟨#[]⟩, .int .u64 ver, .agg q] w fun e w' => e = .returned (.tuple #[.slice none 0 0, .int .i64 0]) ∧ Below w.heap.size w w' := by
  subst hq
  go_enter Tryz.func7, Tryz.ntmps7
  go_wp2
  go_ret2
  exact ⟨rfl, below_alloc (Below.refl _ _) _⟩

set_option maxHeartbeats 4000000 in
set_option maxRecDepth 100000 in
theorem awake_calls (w : World) : Calls Tryz.prog 5 #[] w fun e w' => e = .returned (.bool true) ∧ Below w.heap.size w w' := by
  have hk : IsB [107] := by intro x hx; simp at hx; omega
  have hv : vput 300 = [172, 2] := by rw [vput_ge (by omega), vput_lt (by omega)]; rfl
  obtain ⟨T, hT⟩ : ∃ T, T = tokT 300 (sumQ 0) [107] := ⟨_, rfl⟩
  have hsz := tokT_size 300 (by omega) 0 [107] (by simp) (by simp)
  have hTi : IsB T := by rw [hT]; exact tokT_isB (by omega) hk
  have hlen : T.length = 26 := by rw [hT, tokT_len, hv]; rfl
  have hpre : T.take 4 = [54, 51, 55, 52] := by
    rw [hT]
    unfold tokT tokB
    rw [hv]
    rfl
  have hbs : bytesOf (strOfNums T) = T := bytes_str hTi
  have hr1 : readT 300 (sumQ 0) (bytesOf (strOfNums T)) = some [107] := by rw [hbs, hT]; exact tok_reads (by omega) (sumQ_isB 0) hk (by simp) (by simp)
  have hr2 : readT 301 (sumQ 0) (bytesOf (strOfNums T)) = none := by rw [hbs, hT]; exact tok_other ⟨by omega, by omega⟩ ⟨by omega, by omega⟩ (sumQ_isB 0) hk (by omega)
  rw [← hT] at hsz
  have HM := Lib.hid (show ∀ (A : Option Addr) (c : Nat) (w : World), Kd.C (Kd.int .u8) w A 1 [107] → 1 ≤ c → Calls Tryz.prog 6 #[.int .u64 300, .agg #[.slice none 0 0, .int .i64 0], .slice A 1 c] w fun e w' => e = .returned (.string (strOfNums (tokT 300 (sumQ 0) [107]))) ∧ Below w.heap.size w w' from
    fun A c w hr hc => make_calls 300 0 A c [107] w (by omega) (by omega) (.inl rfl) hk hc hr (by simp) (by simp))
  rw [← hT] at HM
  have hss : (strOfNums T).size = 26 := by rw [strOf_size, hlen]
  have hpl : ((strOfNums T).extract 0 4).toList = [54, 51, 55, 52] := by
    rw [Lib.toList_data]
    have : ((strOfNums T).extract 0 4).data.toList = (strOfNums T).data.toList.take 4 := by
      rw [ByteArray.data_extract]
      simp [List.extract]
    rw [this, strOf_list, ← List.map_take, hpre]
    rfl
  generalize strOfNums T = sT at *
  have HS := Lib.hid hsz
  have HR1 := Lib.hid (show ∀ w : World, Calls Tryz.prog 7 #[.string sT, .int .u64 300, .agg #[.slice none 0 0, .int .i64 0]] w fun e w' => ∃ A c, e = .returned (.tuple #[.slice A 1 c, .int .i64 0]) ∧ Kd.C (Kd.int .u8) w' A 1 [107] ∧ Below w.heap.size w w' from fun w => read_key sT 300 0 w (by omega) (by omega) (.inl rfl) hsz.2 hsz.1 [107] hr1)
  have HR2 := Lib.hid (fun w => read_none sT 301 0 w (by omega) (by omega) (.inl rfl) hsz.2 hsz.1 hr2)
  have kc := fun (w : World) (C : Array Value) (n c : Nat) => Lib.run_convert_bytes_const (P := Tryz.prog) w 23 5 C n c Tryz.underlying23 Tryz.underlying5
  clear hk hv hT hTi hlen hpre hbs hr1 hr2 hsz
  go_enter Tryz.func5, Tryz.ntmps5
  go_wp2_with fail
  refine (HM.out (some ⟨w.heap.size, 0, none⟩) 1 _ (C_block (g := w.heap.size) [107] (by simp) (heap_alloc_new w _)) (Nat.le_refl _)).mono ?_
  rintro e w1 ⟨rfl, hb⟩
  have HB1 := Lib.hid (below_step (below_alloc (Below.refl w.heap.size w) (.cells #[.int .u8 107] 5 (1, 2))) hb)
  clear hb
  go_wp2_with fail
  refine (HR1.out _).mono ?_
  rintro e w2 ⟨A, c, rfl, hc, hb⟩
  have HB2 := Lib.hid (below_step HB1.out hb)
  have HC2 := Lib.hid hc
  clear hb hc
  go_wp2_with fail
  refine (HR2.out _).mono ?_
  rintro e w3 ⟨rfl, hb⟩
  have HB3 := Lib.hid (below_step HB2.out hb)
  have HC3 := Lib.hid (Kd.C_below HC2.out hb)
  clear hb
  go_wp2_with fail
  refine (read_empty 1 _ rfl _).mono ?_
  rintro e w4 ⟨rfl, hb⟩
  have HB4 := Lib.hid (below_step HB3.out hb)
  have hcv := Kd.C_string (P := Tryz.prog) (c := c) Tryz.underlying23 Tryz.underlying5 Tryz.underlying9 (Kd.C_below HC3.out hb)
  have hk1 : (strOfNums [107]).toList = [107] := by first | rfl | kernel_rfl | (rw [Lib.toList_data]; rfl)
  clear hb kc
  go_wp2
  go_ret
  exact ⟨by first | rfl | simp [hk1], HB4.out⟩

end Go.Proofs.YtcgpbcpgopmfcaaGreatDoor.Tok
