/- token.Read (chapter 24), by hand. -/
import Derived.Test.YtcgpbcpgopmfcaaGreatDoorTokRead
namespace Go.Proofs.YtcgpbcpgopmfcaaGreatDoor.Tok
open Go.RowKit Go.Proofs.YtcgpbcpgopmfcaaGreatDoorW.PrintWords Go.Proofs.YtcgpbcpgopmfcaaGreatDoorW.PrintLast Go.Proofs.YtcgpbcpgopmfcaaGreatDoorW.PrintMore Go.Proofs.YtcgpbcpgopmfcaaGreatDoor.Math Go.Proofs.YtcgpbcpgopmfcaaGreatDoor.PAll Go.Proofs.YtcgpbcpgopmfcaaGreatDoor.NumFacts Go.Proofs.YtcgpbcpgopmfcaaGreatDoor.Hex
set_option linter.unusedVariables false
set_option linter.unusedSimpArgs false

theorem info8 : ∃ i, Tryz.prog.info? 5 = some i ∧ i.size = 1 := by
  obtain ⟨i, hi, hz, hsz, hby⟩ := info_parts info5
  exact ⟨i, hi, hsz⟩
theorem equal_calls (A0 : Option Addr) (c0 : Nat) (l0 : List Int) (A1 : Option Addr) (c1 : Nat) (l1 : List Int) (w : World) (h0 : IsB l0) (h1 : IsB l1) (hr0 : Kd.C (Kd.int .u8) w A0 l0.length l0) (hc0 : l0.length ≤ c0) (hr1 : Kd.C (Kd.int .u8) w A1 l1.length l1) (hc1 : l1.length ≤ c1) :
    Calls Tryz.prog 35 #[.slice A0 l0.length c0, .slice A1 l1.length c1] w fun e w' => e = .returned (.bool (decide (l0 = l1))) ∧ Below w.heap.size w w' := by
  refine (bytes_Equal.calls A0 c0 l0 A1 c1 l1 (decide (l0 = l1)) w hr0 hc0 hr1 hc1 ?_).mono ?_
  · unfold bytes_Equal.f
    congr 1
    rw [Bool.eq_iff_iff, beq_iff_eq, decide_eq_true_iff]
    refine ⟨fun h => strOf_inj h0 h1 ?_, fun h => by rw [h]⟩
    have e : ∀ s : ByteArray, s.toList = s.data.toList := fun s => Lib.toList_data s
    rw [e, e] at h
    have := Array.toList_inj.1 h
    generalize strOfNums l0 = x at this
    generalize strOfNums l1 = y at this
    cases x; cases y; simp at this; rw [this]
  · rintro e w' ⟨rfl, hd⟩
    exact ⟨rfl, hd.below⟩

set_option maxHeartbeats 1000000 in
set_option maxRecDepth 100000 in
theorem prefix_calls (A0 : Option Addr) (c0 : Nat) (l0 : List Int) (A1 : Option Addr) (c1 : Nat) (l1 : List Int) (w : World) (h0 : IsB l0) (h1 : IsB l1) (hr0 : Kd.C (Kd.int .u8) w A0 l0.length l0) (hc0 : l0.length ≤ c0) (hr1 : Kd.C (Kd.int .u8) w A1 l1.length l1) (hc1 : l1.length ≤ c1) :
    Calls Tryz.prog 25 #[.slice A0 l0.length c0, .slice A1 l1.length c1] w fun e w' => e = .returned (.bool (decide (l1 <+: l0))) ∧ Below w.heap.size w w' := by
  by_cases hle : l1.length ≤ l0.length
  · have d : decide ((l1.length : Int) ≤ (l0.length : Int)) = true := decide_eq_true (by omega)
    have dN : decide (l1.length ≤ l0.length) = true := decide_eq_true hle
    obtain ⟨i, hi, hsz⟩ := info8
    have kc := cut_to (P := Tryz.prog) 23 5 .i64 Tryz.underlying23 hi A0 l0.length c0 (l1.length : Int) (by omega) (by omega) hc0
    rw [Int.toNat_natCast] at kc
    have hT := Kd.C_take hr0 hle
    have hl : (l0.take l1.length).length = l1.length := by rw [List.length_take]; omega
    have HE := Lib.hid (fun w (hr0 : Kd.C (Kd.int .u8) w A0 (l0.take l1.length).length (l0.take l1.length)) hr1 => equal_calls A0 c0 (l0.take l1.length) A1 c1 l1 w (isB_take h0 _) h1 hr0 (by omega) hr1 hc1)
    have HT := Lib.hid hT
    have HR1 := Lib.hid hr1
    have HP := Lib.hid (show decide (l0.take l1.length = l1) = decide (l1 <+: l0) by
      rw [decide_eq_decide]
      refine ⟨fun h => by rw [← h]; exact List.take_prefix _ _, fun h => ?_⟩
      obtain ⟨r, rfl⟩ := h
      simp)
    rw [hl] at HE HT
    clear hT hr1 hr0 hl hi hsz hle
    go_enter Tryz.func25, Tryz.ntmps25
    go_wp2_with fail
    refine (HE.out _ HT.out HR1.out).mono ?_
    rintro e w1 ⟨rfl, hb⟩
    rw [HP.out]
    go_wp2
    go_ret
    exact ⟨rfl, hb⟩
  · have d : decide ((l1.length : Int) ≤ (l0.length : Int)) = false := decide_eq_false (by omega)
    have dN : decide (l1.length ≤ l0.length) = false := decide_eq_false hle
    have HP := Lib.hid (show decide (l1 <+: l0) = false from decide_eq_false fun h => hle h.length_le)
    go_enter Tryz.func25, Tryz.ntmps25
    go_wp2
    go_ret
    exact ⟨by rw [HP.out]; rfl, Below.refl _ _⟩

/-- What CutPrefix hands back. -/
def CutIs (w' : World) (v : Value) (l p : List Int) (e : Ending) : Prop := if p <+: l then ∃ u, e = .returned (.tuple #[u, .bool true]) ∧ RdB w' u (l.drop p.length) else e = .returned (.tuple #[v, .bool false])
set_option maxHeartbeats 1000000 in
set_option maxRecDepth 100000 in
theorem cut_calls (A0 : Option Addr) (c0 : Nat) (l0 : List Int) (A1 : Option Addr) (c1 : Nat) (l1 : List Int) (w : World) (h0 : IsB l0) (h1 : IsB l1) (hr0 : Kd.C (Kd.int .u8) w A0 l0.length l0) (hc0 : l0.length ≤ c0) (hr1 : Kd.C (Kd.int .u8) w A1 l1.length l1) (hc1 : l1.length ≤ c1) :
    Calls Tryz.prog 15 #[.slice A0 l0.length c0, .slice A1 l1.length c1] w fun e w' => CutIs w' (.slice A0 l0.length c0) l0 l1 e ∧ Below w.heap.size w w' := by
  have HE := Lib.hid (prefix_calls A0 c0 l0 A1 c1 l1 w h0 h1 hr0 hc0 hr1 hc1)
  have HR0 := Lib.hid hr0
  by_cases hp : l1 <+: l0
  · have hd : decide (l1 <+: l0) = true := decide_eq_true hp
    have hle := hp.length_le
    obtain ⟨i, hi, hsz⟩ := info8
    have kc := cut_from (P := Tryz.prog) 23 5 .i64 Tryz.underlying23 hi 1 hsz A0 l0.length c0 (l1.length : Int) (by omega) (by omega)
    rw [Int.toNat_natCast] at kc
    have hD := Kd.C_drop hr0 hle hc0
    obtain ⟨ca, hca⟩ : ∃ ca, (if c0 = l1.length then A0 else A0.map (·.add (l1.length * 1))) = ca := ⟨_, rfl⟩
    rw [hca] at kc
    have HD := Lib.hid (show Kd.C (Kd.int .u8) w ca (l0.drop l1.length).length (l0.drop l1.length) by rw [← hca]; exact hD)
    have HL := Lib.hid (show l0.length - l1.length = (l0.drop l1.length).length by simp)
    have HP := Lib.hid hp
    have HCc := Lib.hid (show (l0.drop l1.length).length ≤ c0 - l1.length by rw [List.length_drop]; omega)
    rw [hd] at HE
    clear hd hp hle hi hsz hr1 hr0 hca hD
    go_enter Tryz.func15, Tryz.ntmps15
    go_wp2_with fail
    refine HE.out.mono ?_
    rintro e w1 ⟨rfl, hb⟩
    have HB := Lib.hid hb
    clear hb
    go_wp2
    go_ret2
    refine ⟨?_, HB.out⟩
    unfold CutIs
    rw [if_pos HP.out]
    exact ⟨.slice ca (l0.length - l1.length) (c0 - l1.length), rfl, ca, c0 - l1.length, by rw [HL.out], HCc.out, Kd.C_below HD.out HB.out⟩
  · have hd : decide (l1 <+: l0) = false := decide_eq_false hp
    rw [hd] at HE
    have HP := Lib.hid hp
    clear hd hp
    go_enter Tryz.func15, Tryz.ntmps15
    go_wp2_with fail
    refine HE.out.mono ?_
    rintro e w1 ⟨rfl, hb⟩
    have HB := Lib.hid hb
    clear hb
    go_wp2
    go_ret2
    refine ⟨?_, HB.out⟩
    unfold CutIs
    rw [if_neg HP.out]
    rfl

/-- Is there a text? -/
theorem str_ne {s : ByteArray} (h : s.size ≠ 0) : s.toList ≠ [] := by
  rw [Lib.toList_data]
  intro e
  have := congrArg List.length e
  simp at this
  exact h (by rw [this]; rfl)

set_option maxHeartbeats 2000000 in
set_option maxRecDepth 100000 in
/-- What isn't digits, or too few of them. -/
theorem read_bad (s : ByteArray) (ver o : Int) (w : World) (hs : s.size ≤ 1000000) (hne : s.size ≠ 0) (h : ∀ b, plainG (bytesOf s) [] 0 false = some (b, true) → b.length < 4) :
    Calls Tryz.prog 7 #[.string s, .int .u64 ver, .agg #[.slice none 0 0, .int .i64 o]] w fun e w' => e = .returned (.tuple #[.slice none 0 0, .int .i64 10]) ∧ Below w.heap.size w w' := by
  have HPl := Lib.hid (plain_calls s (w.alloc (.cells #[.slice none 0 0, .int .i64 o] 28)) hs)
  have z := str_ne hne
  have z1 : (s.toList == ([] : List UInt8)) = false := by simpa using z
  have z2 : s.toList.isEmpty = false := by simpa using z
  have HB0 := Lib.hid (below_alloc (Below.refl w.heap.size w) (.cells #[.slice none 0 0, .int .i64 o] 28))
  have H := Lib.hid h
  clear h hs hne
  go_enter Tryz.func7, Tryz.ntmps7
  go_wp2_with fail
  refine HPl.out.mono ?_
  rintro e w1 ⟨hp, hb⟩
  have HB1 := Lib.hid (below_step HB0.out hb)
  clear hb HPl
  unfold PlainIs at hp
  cases hg : plainG (bytesOf s) [] 0 false with
  | none =>
    rw [hg] at hp
    replace hp : e = .returned (.tuple #[.slice none 0 0, .bool false]) := hp
    subst hp
    clear hg
    go_wp2
    refine start_ (n := 17) (S := fun w' => True) (ds := []) #[false, false, false, false, false, false, false, false, false, false, false, false, false, false, false, false, false] (by kernel_rfl) rfl rfl trivial (fun hHeld => ?_)
    refine pure_ (i := 0) (N := some 22) (v := ?_) (a' := ?_) #[true, false, false, false, false, false, false, false, false, false, false, false, false, false, false, false, false] rfl rfl (by kernel_rfl) (fun _ _ _ h => h) (Or.inl ⟨by rfl, ?_⟩) ?_ ?_
    rotate_left
    · intro w'
      go_simp
      with_reducible rfl
    rotate_left
    · simp only [Act.put, List.setIfInBounds_toArray, List.set_cons_zero, List.set_cons_succ, i64_w, i32_w]
      rfl
    refine pure_ (i := 1) (N := some 23) (v := ?_) (a' := ?_) #[true, true, false, false, false, false, false, false, false, false, false, false, false, false, false, false, false] rfl rfl (by kernel_rfl) (fun _ _ _ h => h) (Or.inl ⟨by rfl, ?_⟩) ?_ ?_
    rotate_left
    · intro w'
      go_simp
      with_reducible rfl
    rotate_left
    · simp only [Act.put, List.setIfInBounds_toArray, List.set_cons_zero, List.set_cons_succ, i64_w, i32_w]
      rfl
    refine pure_ (i := 2) (N := some 24) (v := ?_) (a' := ?_) #[true, true, true, false, false, false, false, false, false, false, false, false, false, false, false, false, false] rfl rfl (by kernel_rfl) (fun _ _ _ h => h) (Or.inl ⟨by rfl, ?_⟩) ?_ ?_
    rotate_left
    · intro w'
      go_simp
      with_reducible rfl
    rotate_left
    · simp only [Act.put, List.setIfInBounds_toArray, List.set_cons_zero, List.set_cons_succ, i64_w, i32_w]
      rfl
    refine pure_ (i := 3) (N := some 25) (v := undef) (a' := ?_) #[true, true, true, true, false, false, false, false, false, false, false, false, false, false, false, false, false] rfl rfl (by kernel_rfl) (fun _ _ _ h => h) (Or.inr ⟨by rfl, rfl⟩) ?_ ?_
    rotate_left
    · simp only [Act.put, List.setIfInBounds_toArray, List.set_cons_zero, List.set_cons_succ, i64_w, i32_w]
      rfl
    refine pure_ (i := 4) (N := some 26) (v := undef) (a' := ?_) #[true, true, true, true, true, false, false, false, false, false, false, false, false, false, false, false, false] rfl rfl (by kernel_rfl) (fun _ _ _ h => h) (Or.inr ⟨by rfl, rfl⟩) ?_ ?_
    rotate_left
    · simp only [Act.put, List.setIfInBounds_toArray, List.set_cons_zero, List.set_cons_succ, i64_w, i32_w]
      rfl
    refine pure_ (i := 5) (N := some 27) (v := ?_) (a' := ?_) #[true, true, true, true, true, true, false, false, false, false, false, false, false, false, false, false, false] rfl rfl (by kernel_rfl) (fun _ _ _ h => h) (Or.inl ⟨by rfl, ?_⟩) ?_ ?_
    rotate_left
    · intro w'
      go_simp
      with_reducible rfl
    rotate_left
    · simp only [Act.put, List.setIfInBounds_toArray, List.set_cons_zero, List.set_cons_succ, i64_w, i32_w]
      rfl
    refine pure_ (i := 6) (N := some 28) (v := ?_) (a' := ?_) #[true, true, true, true, true, true, true, false, false, false, false, false, false, false, false, false, false] rfl rfl (by kernel_rfl) (fun _ _ _ h => h) (Or.inl ⟨by rfl, ?_⟩) ?_ ?_
    rotate_left
    · intro w'
      go_simp
      with_reducible rfl
    rotate_left
    · simp only [Act.put, List.setIfInBounds_toArray, List.set_cons_zero, List.set_cons_succ, i64_w, i32_w]
      rfl
    refine pure_ (i := 7) (N := some 29) (v := undef) (a' := ?_) #[true, true, true, true, true, true, true, true, false, false, false, false, false, false, false, false, false] rfl rfl (by kernel_rfl) (fun _ _ _ h => h) (Or.inr ⟨by rfl, rfl⟩) ?_ ?_
    rotate_left
    · simp only [Act.put, List.setIfInBounds_toArray, List.set_cons_zero, List.set_cons_succ, i64_w, i32_w]
      rfl
    refine pure_ (i := 8) (N := some 30) (v := undef) (a' := ?_) #[true, true, true, true, true, true, true, true, true, false, false, false, false, false, false, false, false] rfl rfl (by kernel_rfl) (fun _ _ _ h => h) (Or.inr ⟨by rfl, rfl⟩) ?_ ?_
    rotate_left
    · simp only [Act.put, List.setIfInBounds_toArray, List.set_cons_zero, List.set_cons_succ, i64_w, i32_w]
      rfl
    refine pure_ (i := 9) (N := some 31) (v := undef) (a' := ?_) #[true, true, true, true, true, true, true, true, true, true, false, false, false, false, false, false, false] rfl rfl (by kernel_rfl) (fun _ _ _ h => h) (Or.inr ⟨by rfl, rfl⟩) ?_ ?_
    rotate_left
    · simp only [Act.put, List.setIfInBounds_toArray, List.set_cons_zero, List.set_cons_succ, i64_w, i32_w]
      rfl
    refine pure_ (i := 10) (N := some 32) (v := undef) (a' := ?_) #[true, true, true, true, true, true, true, true, true, true, true, false, false, false, false, false, false] rfl rfl (by kernel_rfl) (fun _ _ _ h => h) (Or.inr ⟨by rfl, rfl⟩) ?_ ?_
    rotate_left
    · simp only [Act.put, List.setIfInBounds_toArray, List.set_cons_zero, List.set_cons_succ, i64_w, i32_w]
      rfl
    refine pure_ (i := 11) (N := some 33) (v := undef) (a' := ?_) #[true, true, true, true, true, true, true, true, true, true, true, true, false, false, false, false, false] rfl rfl (by kernel_rfl) (fun _ _ _ h => h) (Or.inr ⟨by rfl, rfl⟩) ?_ ?_
    rotate_left
    · simp only [Act.put, List.setIfInBounds_toArray, List.set_cons_zero, List.set_cons_succ, i64_w, i32_w]
      rfl
    refine pure_ (i := 12) (N := some 34) (v := undef) (a' := ?_) #[true, true, true, true, true, true, true, true, true, true, true, true, true, false, false, false, false] rfl rfl (by kernel_rfl) (fun _ _ _ h => h) (Or.inr ⟨by rfl, rfl⟩) ?_ ?_
    rotate_left
    · simp only [Act.put, List.setIfInBounds_toArray, List.set_cons_zero, List.set_cons_succ, i64_w, i32_w]
      rfl
    refine pure_ (i := 13) (N := some 35) (v := undef) (a' := ?_) #[true, true, true, true, true, true, true, true, true, true, true, true, true, true, false, false, false] rfl rfl (by kernel_rfl) (fun _ _ _ h => h) (Or.inr ⟨by rfl, rfl⟩) ?_ ?_
    rotate_left
    · simp only [Act.put, List.setIfInBounds_toArray, List.set_cons_zero, List.set_cons_succ, i64_w, i32_w]
      rfl
    refine pure_ (i := 14) (N := some 36) (v := undef) (a' := ?_) #[true, true, true, true, true, true, true, true, true, true, true, true, true, true, true, false, false] rfl rfl (by kernel_rfl) (fun _ _ _ h => h) (Or.inr ⟨by rfl, rfl⟩) ?_ ?_
    rotate_left
    · simp only [Act.put, List.setIfInBounds_toArray, List.set_cons_zero, List.set_cons_succ, i64_w, i32_w]
      rfl
    refine pure_ (i := 15) (N := some 37) (v := undef) (a' := ?_) #[true, true, true, true, true, true, true, true, true, true, true, true, true, true, true, true, false] rfl rfl (by kernel_rfl) (fun _ _ _ h => h) (Or.inr ⟨by rfl, rfl⟩) ?_ ?_
    rotate_left
    · simp only [Act.put, List.setIfInBounds_toArray, List.set_cons_zero, List.set_cons_succ, i64_w, i32_w]
      rfl
    refine pure_ (i := 16) (N := some 38) (v := ?_) (a' := ?_) #[true, true, true, true, true, true, true, true, true, true, true, true, true, true, true, true, true] rfl rfl (by kernel_rfl) (fun _ _ _ h => h) (Or.inl ⟨by rfl, ?_⟩) ?_ ?_
    rotate_left
    · intro w'
      go_simp
      with_reducible rfl
    rotate_left
    · simp only [Act.put, List.setIfInBounds_toArray, List.set_cons_zero, List.set_cons_succ, i64_w, i32_w]
      rfl
    refine done_ (by kernel_rfl) ?_
    go_wp2
    go_ret2
    exact ⟨rfl, HB1.out.drew⟩
  | some x =>
    obtain ⟨b, ok⟩ := x
    rw [hg] at hp
    replace hp : ∃ v, e = .returned (.tuple #[v, .bool ok]) ∧ Kd.R (Kd.int .u8) 5 w1 _ (fun _ => True) v b := hp
    obtain ⟨v, rfl, hv⟩ := hp
    obtain ⟨A, c, rfl⟩ := Kd.R_slice hv
    have hlen := (Kd.R_reads' hv).2.2.2.1
    clear hv
    cases ok with
    | false =>
      clear hg
      go_wp2
      refine start_ (n := 17) (S := fun w' => True) (ds := []) #[false, false, false, false, false, false, false, false, false, false, false, false, false, false, false, false, false] (by kernel_rfl) rfl rfl trivial (fun hHeld => ?_)
      refine pure_ (i := 0) (N := some 22) (v := ?_) (a' := ?_) #[true, false, false, false, false, false, false, false, false, false, false, false, false, false, false, false, false] rfl rfl (by kernel_rfl) (fun _ _ _ h => h) (Or.inl ⟨by rfl, ?_⟩) ?_ ?_
      rotate_left
      · intro w'
        go_simp
        with_reducible rfl
      rotate_left
      · simp only [Act.put, List.setIfInBounds_toArray, List.set_cons_zero, List.set_cons_succ, i64_w, i32_w]
        rfl
      refine pure_ (i := 1) (N := some 23) (v := ?_) (a' := ?_) #[true, true, false, false, false, false, false, false, false, false, false, false, false, false, false, false, false] rfl rfl (by kernel_rfl) (fun _ _ _ h => h) (Or.inl ⟨by rfl, ?_⟩) ?_ ?_
      rotate_left
      · intro w'
        go_simp
        with_reducible rfl
      rotate_left
      · simp only [Act.put, List.setIfInBounds_toArray, List.set_cons_zero, List.set_cons_succ, i64_w, i32_w]
        rfl
      refine pure_ (i := 2) (N := some 24) (v := ?_) (a' := ?_) #[true, true, true, false, false, false, false, false, false, false, false, false, false, false, false, false, false] rfl rfl (by kernel_rfl) (fun _ _ _ h => h) (Or.inl ⟨by rfl, ?_⟩) ?_ ?_
      rotate_left
      · intro w'
        go_simp
        with_reducible rfl
      rotate_left
      · simp only [Act.put, List.setIfInBounds_toArray, List.set_cons_zero, List.set_cons_succ, i64_w, i32_w]
        rfl
      refine pure_ (i := 3) (N := some 25) (v := undef) (a' := ?_) #[true, true, true, true, false, false, false, false, false, false, false, false, false, false, false, false, false] rfl rfl (by kernel_rfl) (fun _ _ _ h => h) (Or.inr ⟨by rfl, rfl⟩) ?_ ?_
      rotate_left
      · simp only [Act.put, List.setIfInBounds_toArray, List.set_cons_zero, List.set_cons_succ, i64_w, i32_w]
        rfl
      refine pure_ (i := 4) (N := some 26) (v := undef) (a' := ?_) #[true, true, true, true, true, false, false, false, false, false, false, false, false, false, false, false, false] rfl rfl (by kernel_rfl) (fun _ _ _ h => h) (Or.inr ⟨by rfl, rfl⟩) ?_ ?_
      rotate_left
      · simp only [Act.put, List.setIfInBounds_toArray, List.set_cons_zero, List.set_cons_succ, i64_w, i32_w]
        rfl
      refine pure_ (i := 5) (N := some 27) (v := ?_) (a' := ?_) #[true, true, true, true, true, true, false, false, false, false, false, false, false, false, false, false, false] rfl rfl (by kernel_rfl) (fun _ _ _ h => h) (Or.inl ⟨by rfl, ?_⟩) ?_ ?_
      rotate_left
      · intro w'
        go_simp
        with_reducible rfl
      rotate_left
      · simp only [Act.put, List.setIfInBounds_toArray, List.set_cons_zero, List.set_cons_succ, i64_w, i32_w]
        rfl
      refine pure_ (i := 6) (N := some 28) (v := ?_) (a' := ?_) #[true, true, true, true, true, true, true, false, false, false, false, false, false, false, false, false, false] rfl rfl (by kernel_rfl) (fun _ _ _ h => h) (Or.inl ⟨by rfl, ?_⟩) ?_ ?_
      rotate_left
      · intro w'
        go_simp
        with_reducible rfl
      rotate_left
      · simp only [Act.put, List.setIfInBounds_toArray, List.set_cons_zero, List.set_cons_succ, i64_w, i32_w]
        rfl
      refine pure_ (i := 7) (N := some 29) (v := undef) (a' := ?_) #[true, true, true, true, true, true, true, true, false, false, false, false, false, false, false, false, false] rfl rfl (by kernel_rfl) (fun _ _ _ h => h) (Or.inr ⟨by rfl, rfl⟩) ?_ ?_
      rotate_left
      · simp only [Act.put, List.setIfInBounds_toArray, List.set_cons_zero, List.set_cons_succ, i64_w, i32_w]
        rfl
      refine pure_ (i := 8) (N := some 30) (v := undef) (a' := ?_) #[true, true, true, true, true, true, true, true, true, false, false, false, false, false, false, false, false] rfl rfl (by kernel_rfl) (fun _ _ _ h => h) (Or.inr ⟨by rfl, rfl⟩) ?_ ?_
      rotate_left
      · simp only [Act.put, List.setIfInBounds_toArray, List.set_cons_zero, List.set_cons_succ, i64_w, i32_w]
        rfl
      refine pure_ (i := 9) (N := some 31) (v := undef) (a' := ?_) #[true, true, true, true, true, true, true, true, true, true, false, false, false, false, false, false, false] rfl rfl (by kernel_rfl) (fun _ _ _ h => h) (Or.inr ⟨by rfl, rfl⟩) ?_ ?_
      rotate_left
      · simp only [Act.put, List.setIfInBounds_toArray, List.set_cons_zero, List.set_cons_succ, i64_w, i32_w]
        rfl
      refine pure_ (i := 10) (N := some 32) (v := undef) (a' := ?_) #[true, true, true, true, true, true, true, true, true, true, true, false, false, false, false, false, false] rfl rfl (by kernel_rfl) (fun _ _ _ h => h) (Or.inr ⟨by rfl, rfl⟩) ?_ ?_
      rotate_left
      · simp only [Act.put, List.setIfInBounds_toArray, List.set_cons_zero, List.set_cons_succ, i64_w, i32_w]
        rfl
      refine pure_ (i := 11) (N := some 33) (v := undef) (a' := ?_) #[true, true, true, true, true, true, true, true, true, true, true, true, false, false, false, false, false] rfl rfl (by kernel_rfl) (fun _ _ _ h => h) (Or.inr ⟨by rfl, rfl⟩) ?_ ?_
      rotate_left
      · simp only [Act.put, List.setIfInBounds_toArray, List.set_cons_zero, List.set_cons_succ, i64_w, i32_w]
        rfl
      refine pure_ (i := 12) (N := some 34) (v := undef) (a' := ?_) #[true, true, true, true, true, true, true, true, true, true, true, true, true, false, false, false, false] rfl rfl (by kernel_rfl) (fun _ _ _ h => h) (Or.inr ⟨by rfl, rfl⟩) ?_ ?_
      rotate_left
      · simp only [Act.put, List.setIfInBounds_toArray, List.set_cons_zero, List.set_cons_succ, i64_w, i32_w]
        rfl
      refine pure_ (i := 13) (N := some 35) (v := undef) (a' := ?_) #[true, true, true, true, true, true, true, true, true, true, true, true, true, true, false, false, false] rfl rfl (by kernel_rfl) (fun _ _ _ h => h) (Or.inr ⟨by rfl, rfl⟩) ?_ ?_
      rotate_left
      · simp only [Act.put, List.setIfInBounds_toArray, List.set_cons_zero, List.set_cons_succ, i64_w, i32_w]
        rfl
      refine pure_ (i := 14) (N := some 36) (v := undef) (a' := ?_) #[true, true, true, true, true, true, true, true, true, true, true, true, true, true, true, false, false] rfl rfl (by kernel_rfl) (fun _ _ _ h => h) (Or.inr ⟨by rfl, rfl⟩) ?_ ?_
      rotate_left
      · simp only [Act.put, List.setIfInBounds_toArray, List.set_cons_zero, List.set_cons_succ, i64_w, i32_w]
        rfl
      refine pure_ (i := 15) (N := some 37) (v := undef) (a' := ?_) #[true, true, true, true, true, true, true, true, true, true, true, true, true, true, true, true, false] rfl rfl (by kernel_rfl) (fun _ _ _ h => h) (Or.inr ⟨by rfl, rfl⟩) ?_ ?_
      rotate_left
      · simp only [Act.put, List.setIfInBounds_toArray, List.set_cons_zero, List.set_cons_succ, i64_w, i32_w]
        rfl
      refine pure_ (i := 16) (N := some 38) (v := ?_) (a' := ?_) #[true, true, true, true, true, true, true, true, true, true, true, true, true, true, true, true, true] rfl rfl (by kernel_rfl) (fun _ _ _ h => h) (Or.inl ⟨by rfl, ?_⟩) ?_ ?_
      rotate_left
      · intro w'
        go_simp
        with_reducible rfl
      rotate_left
      · simp only [Act.put, List.setIfInBounds_toArray, List.set_cons_zero, List.set_cons_succ, i64_w, i32_w]
        rfl
      refine done_ (by kernel_rfl) ?_
      go_wp2
      go_ret2
      exact ⟨rfl, HB1.out.drew⟩
    | true =>
      have hb4 := H.out b hg
      have hw : wrap64 ((b.length : Int) - 4) = (b.length : Int) - 4 := wrap_id (by omega) (by omega)
      have hd : decide ((b.length : Int) - 4 < 0) = true := decide_eq_true (by omega)
      have hd2 : (b.length : Int) - 4 < 0 := by omega
      clear hg
      go_wp2
      refine start_ (n := 17) (S := fun w' => True) (ds := []) #[false, false, false, false, false, false, false, false, false, false, false, false, false, false, false, false, false] (by kernel_rfl) rfl rfl trivial (fun hHeld => ?_)
      refine pure_ (i := 0) (N := some 22) (v := ?_) (a' := ?_) #[true, false, false, false, false, false, false, false, false, false, false, false, false, false, false, false, false] rfl rfl (by kernel_rfl) (fun _ _ _ h => h) (Or.inl ⟨by rfl, ?_⟩) ?_ ?_
      rotate_left
      · intro w'
        go_simp
        with_reducible rfl
      rotate_left
      · simp only [Act.put, List.setIfInBounds_toArray, List.set_cons_zero, List.set_cons_succ, i64_w, i32_w]
        rfl
      refine pure_ (i := 1) (N := some 23) (v := ?_) (a' := ?_) #[true, true, false, false, false, false, false, false, false, false, false, false, false, false, false, false, false] rfl rfl (by kernel_rfl) (fun _ _ _ h => h) (Or.inl ⟨by rfl, ?_⟩) ?_ ?_
      rotate_left
      · intro w'
        go_simp
        with_reducible rfl
      rotate_left
      · simp only [Act.put, List.setIfInBounds_toArray, List.set_cons_zero, List.set_cons_succ, i64_w, i32_w]
        rfl
      refine pure_ (i := 2) (N := some 24) (v := ?_) (a' := ?_) #[true, true, true, false, false, false, false, false, false, false, false, false, false, false, false, false, false] rfl rfl (by kernel_rfl) (fun _ _ _ h => h) (Or.inl ⟨by rfl, ?_⟩) ?_ ?_
      rotate_left
      · intro w'
        go_simp
        with_reducible rfl
      rotate_left
      · simp only [Act.put, List.setIfInBounds_toArray, List.set_cons_zero, List.set_cons_succ, i64_w, i32_w]
        rfl
      refine pure_ (i := 3) (N := some 25) (v := ?_) (a' := ?_) #[true, true, true, true, false, false, false, false, false, false, false, false, false, false, false, false, false] rfl rfl (by kernel_rfl) (fun _ _ _ h => h) (Or.inl ⟨by rfl, ?_⟩) ?_ ?_
      rotate_left
      · intro w'
        go_simp
        with_reducible rfl
      rotate_left
      · simp only [Act.put, List.setIfInBounds_toArray, List.set_cons_zero, List.set_cons_succ, i64_w, i32_w]
        rfl
      refine pure_ (i := 4) (N := some 26) (v := ?_) (a' := ?_) #[true, true, true, true, true, false, false, false, false, false, false, false, false, false, false, false, false] rfl rfl (by kernel_rfl) (fun _ _ _ h => h) (Or.inl ⟨by rfl, ?_⟩) ?_ ?_
      rotate_left
      · intro w'
        go_simp
        with_reducible rfl
      rotate_left
      · simp only [Act.put, List.setIfInBounds_toArray, List.set_cons_zero, List.set_cons_succ, i64_w, i32_w]
        rfl
      refine pure_ (i := 5) (N := some 27) (v := ?_) (a' := ?_) #[true, true, true, true, true, true, false, false, false, false, false, false, false, false, false, false, false] rfl rfl (by kernel_rfl) (fun _ _ _ h => h) (Or.inl ⟨by rfl, ?_⟩) ?_ ?_
      rotate_left
      · intro w'
        go_simp
        with_reducible rfl
      rotate_left
      · simp only [Act.put, List.setIfInBounds_toArray, List.set_cons_zero, List.set_cons_succ, i64_w, i32_w]
        rfl
      refine pure_ (i := 6) (N := some 28) (v := ?_) (a' := ?_) #[true, true, true, true, true, true, true, false, false, false, false, false, false, false, false, false, false] rfl rfl (by kernel_rfl) (fun _ _ _ h => h) (Or.inl ⟨by rfl, ?_⟩) ?_ ?_
      rotate_left
      · intro w'
        go_simp
        with_reducible rfl
      rotate_left
      · simp only [Act.put, List.setIfInBounds_toArray, List.set_cons_zero, List.set_cons_succ, i64_w, i32_w]
        rfl
      refine pure_ (i := 7) (N := some 29) (v := undef) (a' := ?_) #[true, true, true, true, true, true, true, true, false, false, false, false, false, false, false, false, false] rfl rfl (by kernel_rfl) (fun _ _ _ h => h) (Or.inr ⟨by rfl, rfl⟩) ?_ ?_
      rotate_left
      · simp only [Act.put, List.setIfInBounds_toArray, List.set_cons_zero, List.set_cons_succ, i64_w, i32_w]
        rfl
      refine pure_ (i := 8) (N := some 30) (v := undef) (a' := ?_) #[true, true, true, true, true, true, true, true, true, false, false, false, false, false, false, false, false] rfl rfl (by kernel_rfl) (fun _ _ _ h => h) (Or.inr ⟨by rfl, rfl⟩) ?_ ?_
      rotate_left
      · simp only [Act.put, List.setIfInBounds_toArray, List.set_cons_zero, List.set_cons_succ, i64_w, i32_w]
        rfl
      refine pure_ (i := 9) (N := some 31) (v := undef) (a' := ?_) #[true, true, true, true, true, true, true, true, true, true, false, false, false, false, false, false, false] rfl rfl (by kernel_rfl) (fun _ _ _ h => h) (Or.inr ⟨by rfl, rfl⟩) ?_ ?_
      rotate_left
      · simp only [Act.put, List.setIfInBounds_toArray, List.set_cons_zero, List.set_cons_succ, i64_w, i32_w]
        rfl
      refine pure_ (i := 10) (N := some 32) (v := undef) (a' := ?_) #[true, true, true, true, true, true, true, true, true, true, true, false, false, false, false, false, false] rfl rfl (by kernel_rfl) (fun _ _ _ h => h) (Or.inr ⟨by rfl, rfl⟩) ?_ ?_
      rotate_left
      · simp only [Act.put, List.setIfInBounds_toArray, List.set_cons_zero, List.set_cons_succ, i64_w, i32_w]
        rfl
      refine pure_ (i := 11) (N := some 33) (v := undef) (a' := ?_) #[true, true, true, true, true, true, true, true, true, true, true, true, false, false, false, false, false] rfl rfl (by kernel_rfl) (fun _ _ _ h => h) (Or.inr ⟨by rfl, rfl⟩) ?_ ?_
      rotate_left
      · simp only [Act.put, List.setIfInBounds_toArray, List.set_cons_zero, List.set_cons_succ, i64_w, i32_w]
        rfl
      refine pure_ (i := 12) (N := some 34) (v := undef) (a' := ?_) #[true, true, true, true, true, true, true, true, true, true, true, true, true, false, false, false, false] rfl rfl (by kernel_rfl) (fun _ _ _ h => h) (Or.inr ⟨by rfl, rfl⟩) ?_ ?_
      rotate_left
      · simp only [Act.put, List.setIfInBounds_toArray, List.set_cons_zero, List.set_cons_succ, i64_w, i32_w]
        rfl
      refine pure_ (i := 13) (N := some 35) (v := undef) (a' := ?_) #[true, true, true, true, true, true, true, true, true, true, true, true, true, true, false, false, false] rfl rfl (by kernel_rfl) (fun _ _ _ h => h) (Or.inr ⟨by rfl, rfl⟩) ?_ ?_
      rotate_left
      · simp only [Act.put, List.setIfInBounds_toArray, List.set_cons_zero, List.set_cons_succ, i64_w, i32_w]
        rfl
      refine pure_ (i := 14) (N := some 36) (v := undef) (a' := ?_) #[true, true, true, true, true, true, true, true, true, true, true, true, true, true, true, false, false] rfl rfl (by kernel_rfl) (fun _ _ _ h => h) (Or.inr ⟨by rfl, rfl⟩) ?_ ?_
      rotate_left
      · simp only [Act.put, List.setIfInBounds_toArray, List.set_cons_zero, List.set_cons_succ, i64_w, i32_w]
        rfl
      refine pure_ (i := 15) (N := some 37) (v := undef) (a' := ?_) #[true, true, true, true, true, true, true, true, true, true, true, true, true, true, true, true, false] rfl rfl (by kernel_rfl) (fun _ _ _ h => h) (Or.inr ⟨by rfl, rfl⟩) ?_ ?_
      rotate_left
      · simp only [Act.put, List.setIfInBounds_toArray, List.set_cons_zero, List.set_cons_succ, i64_w, i32_w]
        rfl
      refine pure_ (i := 16) (N := some 38) (v := ?_) (a' := ?_) #[true, true, true, true, true, true, true, true, true, true, true, true, true, true, true, true, true] rfl rfl (by kernel_rfl) (fun _ _ _ h => h) (Or.inl ⟨by rfl, ?_⟩) ?_ ?_
      rotate_left
      · intro w'
        go_simp
        with_reducible rfl
      rotate_left
      · simp only [Act.put, List.setIfInBounds_toArray, List.set_cons_zero, List.set_cons_succ, i64_w, i32_w]
        rfl
      refine done_ (by kernel_rfl) ?_
      go_wp2
      go_ret2
      exact ⟨rfl, HB1.out.drew⟩

/-- What Read hands back. -/
def ReadIs (w' : World) (ver o : Int) (s : List Int) (e : Ending) : Prop := match readT ver (sumQ o) s with
  | none => e = .returned (.tuple #[.slice none 0 0, .int .i64 10])
  | some key => ∃ v, e = .returned (.tuple #[v, .int .i64 0]) ∧ RdB w' v key
theorem readIs_none {w' : World} {ver o : Int} {s : List Int} {e : Ending} (h : readT ver (sumQ o) s = none) (he : e = .returned (.tuple #[.slice none 0 0, .int .i64 10])) : ReadIs w' ver o s e := by
  unfold ReadIs
  rw [h]
  exact he
theorem readIs_some {w' : World} {ver o : Int} {s key : List Int} {e : Ending} {v : Value} (h : readT ver (sumQ o) s = some key) (he : e = .returned (.tuple #[v, .int .i64 0])) (hv : RdB w' v key) : ReadIs w' ver o s e := by
  unfold ReadIs
  rw [h]
  exact ⟨v, he, hv⟩
theorem plain_isB {s b : List Int} {ok : Bool} (h : plainG s [] 0 false = some (b, ok)) : IsB b := by
  rw [plainG_S] at h
  cases hS : plainS s [] 0 false with
  | none => rw [hS] at h; cases h
  | some x =>
    rw [hS] at h
    obtain ⟨o, hf, od⟩ := x
    injection h with h
    injection h with h1 _
    have h1 : o = b := h1
    subst h1
    exact (plainS_half s [] 0 false o hf od (by omega) (by omega) isB_nil hS).2.2
theorem big_vbig (l : List Int) : big l = vbig l := rfl
/-- What readT tells of digits. -/
theorem readT_bytes {ver : Int} {S s b : List Int} (hg : plainG s [] 0 false = some (b, true)) (h4 : 4 ≤ b.length) : readT ver S s = if big (b.drop (b.length - 4)) ≠ crcSum (b.take (b.length - 4)) then none else
    if ([99, 116] ++ (vput ver ++ S)) <+: b.take (b.length - 4) ∧ 1 ≤ ((b.take (b.length - 4)).drop ([99, 116] ++ (vput ver ++ S)).length).length ∧ ((b.take (b.length - 4)).drop ([99, 116] ++ (vput ver ++ S)).length).length ≤ 24 then some ((b.take (b.length - 4)).drop ([99, 116] ++ (vput ver ++ S)).length) else none := by
  unfold readT
  rw [hg]
  show (if b.length < 4 then none else _) = _
  rw [if_neg (by omega)]
theorem readT_bad {ver : Int} {S s : List Int} (h : ∀ b, plainG s [] 0 false = some (b, true) → b.length < 4) : readT ver S s = none := by
  unfold readT
  cases hg : plainG s [] 0 false with
  | none => rfl
  | some x =>
    obtain ⟨b, ok⟩ := x
    cases ok with
    | false => rfl
    | true =>
      show (if b.length < 4 then none else _) = none
      rw [if_pos (h b hg)]

theorem get32_at (n : Nat) (A : Option Addr) (c : Nat) (l : List Int) (r : Int) (w : World) (hn : l.length = n) (hr : Kd.C (Kd.int .u8) w A n l) (hc : n ≤ c) (h : num_Get32.f l = some r) :
    Calls Tryz.prog 14 #[.slice A n c] w fun e w' => e = .returned (.int .u32 r) ∧ Below w.heap.size w w' := by subst hn; exact num_Get32.calls A c l r w hr hc h
theorem sum_at (n : Nat) (A : Option Addr) (c : Nat) (l : List Int) (r : Int) (w : World) (hn : l.length = n) (hr : Kd.C (Kd.int .u8) w A n l) (hc : n ≤ c) (h : crc_Sum.f l = some r) :
    Calls Tryz.prog 12 #[.slice A n c] w fun e w' => e = .returned (.int .u32 r) ∧ Below w.heap.size w w' := by subst hn; exact crc_Sum.calls A c l r w hr hc h
theorem cutp_at (n : Nat) (A0 : Option Addr) (c0 : Nat) (l0 : List Int) (A1 : Option Addr) (c1 : Nat) (l1 : List Int) (w : World) (hn : l0.length = n) (h0 : IsB l0) (h1 : IsB l1) (hr0 : Kd.C (Kd.int .u8) w A0 n l0) (hc0 : n ≤ c0) (hr1 : Kd.C (Kd.int .u8) w A1 l1.length l1) (hc1 : l1.length ≤ c1) :
    Calls Tryz.prog 15 #[.slice A0 n c0, .slice A1 l1.length c1] w fun e w' => CutIs w' (.slice A0 n c0) l0 l1 e ∧ Below w.heap.size w w' := by subst hn; exact cut_calls A0 c0 l0 A1 c1 l1 w h0 h1 hr0 hc0 hr1 hc1

theorem cutp_yes (n : Nat) (A0 : Option Addr) (c0 : Nat) (l0 : List Int) (A1 : Option Addr) (c1 : Nat) (l1 : List Int) (w : World) (hn : l0.length = n) (h0 : IsB l0) (h1 : IsB l1) (hr0 : Kd.C (Kd.int .u8) w A0 n l0) (hc0 : n ≤ c0) (hr1 : Kd.C (Kd.int .u8) w A1 l1.length l1) (hc1 : l1.length ≤ c1) (hp : l1 <+: l0) :
    Calls Tryz.prog 15 #[.slice A0 n c0, .slice A1 l1.length c1] w fun e w' => ∃ A c K, K = l0.drop l1.length ∧ e = .returned (.tuple #[.slice A K.length c, .bool true]) ∧ K.length ≤ c ∧ Kd.C (Kd.int .u8) w' A K.length K ∧ Below w.heap.size w w' :=
  (cutp_at n A0 c0 l0 A1 c1 l1 w hn h0 h1 hr0 hc0 hr1 hc1).mono fun e w' ⟨h, hb⟩ => by
    unfold CutIs at h
    rw [if_pos hp] at h
    obtain ⟨u, rfl, A, c, rfl, h1, h2⟩ := h
    exact ⟨A, c, _, rfl, rfl, h1, h2, hb⟩
theorem cutp_no (n : Nat) (A0 : Option Addr) (c0 : Nat) (l0 : List Int) (A1 : Option Addr) (c1 : Nat) (l1 : List Int) (w : World) (hn : l0.length = n) (h0 : IsB l0) (h1 : IsB l1) (hr0 : Kd.C (Kd.int .u8) w A0 n l0) (hc0 : n ≤ c0) (hr1 : Kd.C (Kd.int .u8) w A1 l1.length l1) (hc1 : l1.length ≤ c1) (hp : ¬ l1 <+: l0) :
    Calls Tryz.prog 15 #[.slice A0 n c0, .slice A1 l1.length c1] w fun e w' => e = .returned (.tuple #[.slice A0 n c0, .bool false]) ∧ Below w.heap.size w w' :=
  (cutp_at n A0 c0 l0 A1 c1 l1 w hn h0 h1 hr0 hc0 hr1 hc1).mono fun e w' ⟨h, hb⟩ => by
    unfold CutIs at h
    rw [if_neg hp] at h
    exact ⟨h, hb⟩

set_option maxHeartbeats 4000000 in
set_option maxRecDepth 100000 in
theorem read_more (s : ByteArray) (ver o : Int) (w : World) (h0 : 0 ≤ ver) (h1 : ver < 18446744073709551616) (ho : o = 0 ∨ o = 1) (hs : s.size ≤ 1000000) (hne : s.size ≠ 0) (b : List Int) (hg : plainG (bytesOf s) [] 0 false = some (b, true)) (h4 : 4 ≤ b.length) :
    Calls Tryz.prog 7 #[.string s, .int .u64 ver, .agg #[.slice none 0 0, .int .i64 o]] w fun e w' => ReadIs w' ver o (bytesOf s) e ∧ Below w.heap.size w w' := by
  have hb := plain_isB hg
  obtain ⟨n, hn⟩ : ∃ n, b.length = n + 4 := ⟨b.length - 4, by omega⟩
  have hRT := readT_bytes (ver := ver) (S := sumQ o) hg h4
  rw [show b.length - 4 = n by omega] at hRT
  have hdl : (b.drop n).length = 4 := by rw [List.length_drop]; omega
  have htl : (b.take n).length = n := by rw [List.length_take]; omega
  obtain ⟨B, hBd⟩ : ∃ B, B = b.take n := ⟨_, rfl⟩
  obtain ⟨D, hDd⟩ : ∃ D, D = b.drop n := ⟨_, rfl⟩
  have hBi : IsB B := by rw [hBd]; exact isB_take hb n
  have hDi : IsB D := by rw [hDd]; exact isB_drop hb n
  have HG := Lib.hid (show num_Get32.f D = some (big D) by rw [get32_eq D hDi, pad4_four (by rw [hDd]; exact hdl)]; rfl)
  have HC := Lib.hid (show crc_Sum.f B = some (crcSum B) by unfold crc_Sum.f; rw [if_pos hBi])
  rw [← hBd, ← hDd] at hRT
  rw [← hBd] at htl
  rw [← hDd] at hdl
  have HRT := Lib.hid hRT
  have HPl := Lib.hid (plain_calls s (w.alloc (.cells #[.slice none 0 0, .int .i64 o] 28)) hs)
  have HB0 := Lib.hid (below_alloc (Below.refl w.heap.size w) (.cells #[.slice none 0 0, .int .i64 o] 28))
  have KB0 := Lib.hid (heap_alloc_new w (.cells #[.slice none 0 0, .int .i64 o] 28))
  have HHd := Lib.hid (fun w => head_calls ver o w h0 h1 ho)
  have HHi := Lib.hid (show IsB ([99, 116] ++ (vput ver ++ sumQ o)) from isB_app (by intro x hx; simp at hx; omega) (isB_app (vput_isB ver h0) (sumQ_isB o)))
  have z := str_ne hne
  have z1 : (s.toList == ([] : List UInt8)) = false := by simpa using z
  have z2 : s.toList.isEmpty = false := by simpa using z
  have HN := Lib.hid hn
  have HBi := Lib.hid hBi
  have HDL := Lib.hid hdl
  have HTL := Lib.hid htl
  have HBd := Lib.hid hBd
  have HDd := Lib.hid hDd
  have HGp := Lib.hid hg
  clear hRT hs hne hg h4 hb hn hdl htl hBd hDd hBi hDi h0 h1 ho
  generalize [99, 116] ++ (vput ver ++ sumQ o) = Hd at *
  go_enter Tryz.func7, Tryz.ntmps7
  go_wp2_with fail
  refine HPl.out.mono ?_
  rintro e w1 ⟨hp, hb1⟩
  have HB1 := Lib.hid (below_step HB0.out hb1)
  have KB1 := Lib.hid (block_below KB0.out hb1)
  clear hb1 HPl
  unfold PlainIs at hp
  rw [HGp.out] at hp
  replace hp : ∃ v, e = .returned (.tuple #[v, .bool true]) ∧ Kd.R (Kd.int .u8) 5 w1 _ (fun _ => True) v b := hp
  obtain ⟨v, rfl, hv⟩ := hp
  obtain ⟨A, c, rfl⟩ := Kd.R_slice hv
  have hrd := Kd.R_reads' hv
  have hcap : n + 4 ≤ c := by have := hrd.2.1; rw [HN.out] at this; exact this
  have HRb := Lib.hid hrd.2.2
  clear hv
  obtain ⟨i, hi, hsz⟩ := info8
  have kc1 := cut_from (P := Tryz.prog) 23 5 .i64 Tryz.underlying23 hi 1 hsz A (n + 4) c (n : Int) (by omega) (by omega)
  have kc2 := cut_to (P := Tryz.prog) 23 5 .i64 Tryz.underlying23 hi A (n + 4) c (n : Int) (by omega) (by omega) (by omega)
  rw [Int.toNat_natCast] at kc1 kc2
  obtain ⟨ca, hca⟩ : ∃ ca, (if c = n then A else A.map (·.add (n * 1))) = ca := ⟨_, rfl⟩
  rw [hca, show n + 4 - n = 4 by omega] at kc1
  have HD := Lib.hid (show Kd.C (Kd.int .u8) w1 ca 4 D by
    have := Kd.C_drop HRb.out (m := n) (by rw [HN.out]; omega) (c := c) (by rw [HN.out]; exact hcap)
    rw [← HDd.out, HDL.out] at this
    rw [← hca]
    exact this)
  have HT := Lib.hid (show Kd.C (Kd.int .u8) w1 A n B by
    have := Kd.C_take HRb.out (m := n) (by rw [HN.out]; omega)
    rw [← HBd.out, HTL.out] at this
    exact this)
  have hwn : wrap64 (((n + 4 : Nat) : Int) - 4) = (n : Int) := by rw [show ((n + 4 : Nat) : Int) - 4 = (n : Int) by omega]; exact wrap_id (by omega) (by have := hrd.2.2; have := Kd.C_max this; rw [HN.out] at this; omega)
  have hwn2 : wrap64 (n : Int) = (n : Int) := by rw [show ((n + 4 : Nat) : Int) - 4 = (n : Int) by omega] at hwn; exact hwn
  have hd : decide ((n : Int) < 0) = false := decide_eq_false (by omega)
  have hd2 : ¬ ((n : Int) < 0) := by omega
  have HCap := Lib.hid hcap
  clear hrd hca hi hsz hcap
  rw [HN.out]
  by_cases hsum : big D = crcSum B
  · have HRT2 := Lib.hid (show readT ver (sumQ o) (bytesOf s) = if Hd <+: B ∧ 1 ≤ (B.drop Hd.length).length ∧ (B.drop Hd.length).length ≤ 24 then some (B.drop Hd.length) else none by
      have h := HRT.out
      rw [if_neg (by rw [hsum]; exact fun h => h rfl)] at h
      exact h)
    have q1 : (big D == crcSum B) = true := beq_iff_eq.2 hsum
    have q2 : (big D != crcSum B) = false := by simp [hsum]
    clear hsum
    generalize big D = gD at *
    generalize crcSum B = gB at *
    go_wp2
    have hbd := HB1.out.drew
    have kbd := blk_drew KB1.out
    have hDd := Kd.C_drew HD.out
    have hTd := Kd.C_drew HT.out
    refine start_ (n := 17) (S := fun w' => True) (ds := []) #[false, false, false, false, false, false, false, false, false, false, false, false, false, false, false, false, false] (by kernel_rfl) rfl rfl trivial (fun hHeld => ?_)
    generalize w1.drew = w2 at hbd kbd hDd hTd hHeld ⊢
    have HB2 := Lib.hid hbd
    have KB2 := Lib.hid kbd
    have HD2 := Lib.hid hDd
    have HT2 := Lib.hid hTd
    clear hbd kbd hDd hTd
    refine pure_ (i := 0) (N := some 22) (v := ?_) (a' := ?_) #[true, false, false, false, false, false, false, false, false, false, false, false, false, false, false, false, false] rfl rfl (by kernel_rfl) (fun _ _ _ h => h) (Or.inl ⟨by rfl, ?_⟩) ?_ ?_
    rotate_left
    · intro w'
      go_simp
      with_reducible rfl
    rotate_left
    · simp only [Act.put, List.setIfInBounds_toArray, List.set_cons_zero, List.set_cons_succ, i64_w, i32_w]
      rfl
    refine pure_ (i := 1) (N := some 23) (v := ?_) (a' := ?_) #[true, true, false, false, false, false, false, false, false, false, false, false, false, false, false, false, false] rfl rfl (by kernel_rfl) (fun _ _ _ h => h) (Or.inl ⟨by rfl, ?_⟩) ?_ ?_
    rotate_left
    · intro w'
      go_simp
      with_reducible rfl
    rotate_left
    · simp only [Act.put, List.setIfInBounds_toArray, List.set_cons_zero, List.set_cons_succ, i64_w, i32_w]
      rfl
    refine pure_ (i := 2) (N := some 24) (v := ?_) (a' := ?_) #[true, true, true, false, false, false, false, false, false, false, false, false, false, false, false, false, false] rfl rfl (by kernel_rfl) (fun _ _ _ h => h) (Or.inl ⟨by rfl, ?_⟩) ?_ ?_
    rotate_left
    · intro w'
      go_simp
      with_reducible rfl
    rotate_left
    · simp only [Act.put, List.setIfInBounds_toArray, List.set_cons_zero, List.set_cons_succ, i64_w, i32_w]
      rfl
    refine pure_ (i := 3) (N := some 25) (v := ?_) (a' := ?_) #[true, true, true, true, false, false, false, false, false, false, false, false, false, false, false, false, false] rfl rfl (by kernel_rfl) (fun _ _ _ h => h) (Or.inl ⟨by rfl, ?_⟩) ?_ ?_
    rotate_left
    · intro w'
      go_simp
      with_reducible rfl
    rotate_left
    · simp only [Act.put, List.setIfInBounds_toArray, List.set_cons_zero, List.set_cons_succ, i64_w, i32_w]
      rfl
    refine pure_ (i := 4) (N := some 26) (v := ?_) (a' := ?_) #[true, true, true, true, true, false, false, false, false, false, false, false, false, false, false, false, false] rfl rfl (by kernel_rfl) (fun _ _ _ h => h) (Or.inl ⟨by rfl, ?_⟩) ?_ ?_
    rotate_left
    · intro w'
      go_simp
      with_reducible rfl
    rotate_left
    · simp only [Act.put, List.setIfInBounds_toArray, List.set_cons_zero, List.set_cons_succ, i64_w, i32_w]
      rfl
    refine pure_ (i := 5) (N := some 27) (v := ?_) (a' := ?_) #[true, true, true, true, true, true, false, false, false, false, false, false, false, false, false, false, false] rfl rfl (by kernel_rfl) (fun _ _ _ h => h) (Or.inl ⟨by rfl, ?_⟩) ?_ ?_
    rotate_left
    · intro w'
      go_simp
      with_reducible rfl
    rotate_left
    · simp only [Act.put, List.setIfInBounds_toArray, List.set_cons_zero, List.set_cons_succ, i64_w, i32_w]
      rfl
    refine pure_ (i := 6) (N := some 28) (v := ?_) (a' := ?_) #[true, true, true, true, true, true, true, false, false, false, false, false, false, false, false, false, false] rfl rfl (by kernel_rfl) (fun _ _ _ h => h) (Or.inl ⟨by rfl, ?_⟩) ?_ ?_
    rotate_left
    · intro w'
      go_simp
      with_reducible rfl
    rotate_left
    · simp only [Act.put, List.setIfInBounds_toArray, List.set_cons_zero, List.set_cons_succ, i64_w, i32_w]
      rfl
    refine pure_ (i := 7) (N := some 29) (v := ?_) (a' := ?_) #[true, true, true, true, true, true, true, true, false, false, false, false, false, false, false, false, false] rfl rfl (by kernel_rfl) (fun _ _ _ h => h) (Or.inl ⟨by rfl, ?_⟩) ?_ ?_
    rotate_left
    · intro w'
      go_simp
      with_reducible rfl
    rotate_left
    · simp only [Act.put, List.setIfInBounds_toArray, List.set_cons_zero, List.set_cons_succ, i64_w, i32_w]
      rfl
    refine pure_ (i := 8) (N := some 30) (v := ?_) (a' := ?_) #[true, true, true, true, true, true, true, true, true, false, false, false, false, false, false, false, false] rfl rfl (by kernel_rfl) (fun _ _ _ h => h) (Or.inl ⟨by rfl, ?_⟩) ?_ ?_
    rotate_left
    · intro w'
      go_simp
      with_reducible rfl
    rotate_left
    · simp only [Act.put, List.setIfInBounds_toArray, List.set_cons_zero, List.set_cons_succ, i64_w, i32_w]
      rfl
    refine pure_ (i := 9) (N := some 31) (v := ?_) (a' := ?_) #[true, true, true, true, true, true, true, true, true, true, false, false, false, false, false, false, false] rfl rfl (by kernel_rfl) (fun _ _ _ h => h) (Or.inl ⟨by rfl, ?_⟩) ?_ ?_
    rotate_left
    · intro w'
      go_simp
      with_reducible rfl
    rotate_left
    · simp only [Act.put, List.setIfInBounds_toArray, List.set_cons_zero, List.set_cons_succ, i64_w, i32_w]
      rfl
    refine pure_ (i := 11) (N := some 33) (v := ?_) (a' := ?_) #[true, true, true, true, true, true, true, true, true, true, false, true, false, false, false, false, false] rfl rfl (by kernel_rfl) (fun _ _ _ h => h) (Or.inl ⟨by rfl, ?_⟩) ?_ ?_
    rotate_left
    · intro w'
      go_simp
      with_reducible rfl
    rotate_left
    · simp only [Act.put, List.setIfInBounds_toArray, List.set_cons_zero, List.set_cons_succ, i64_w, i32_w]
      rfl
    refine pure_ (i := 12) (N := some 34) (v := ?_) (a' := ?_) #[true, true, true, true, true, true, true, true, true, true, false, true, true, false, false, false, false] rfl rfl (by kernel_rfl) (fun _ _ _ h => h) (Or.inl ⟨by rfl, ?_⟩) ?_ ?_
    rotate_left
    · intro w'
      go_simp
      with_reducible rfl
    rotate_left
    · simp only [Act.put, List.setIfInBounds_toArray, List.set_cons_zero, List.set_cons_succ, i64_w, i32_w]
      rfl
    refine pure_ (i := 13) (N := some 35) (v := ?_) (a' := ?_) #[true, true, true, true, true, true, true, true, true, true, false, true, true, true, false, false, false] rfl rfl (by kernel_rfl) (fun _ _ _ h => h) (Or.inl ⟨by rfl, ?_⟩) ?_ ?_
    rotate_left
    · intro w'
      go_simp
      with_reducible rfl
    rotate_left
    · simp only [Act.put, List.setIfInBounds_toArray, List.set_cons_zero, List.set_cons_succ, i64_w, i32_w]
      rfl
    refine one_ (i := 10) (N := some 32) #[true, true, true, true, true, true, true, true, true, true, true, true, true, true, false, false, false] rfl rfl (by kernel_rfl) (by decide) (fun K hK => ?_)
    refine goes_ Tryz.func14 (by kernel_rfl) rfl #[.slice ca 4 (c - n)] (by rfl) rfl rfl (by simp only [List.map_toArray, List.map_cons, List.map_nil]; rfl) ?_
    with_reducible refine (get32_at 4 ca (c - n) D _ _ HDL.out HD2.out (by have := HCap.out; omega) HG.out).mono ?_
    rintro ee w3 ⟨rfl, hb⟩
    refine ⟨_, rfl, ?_⟩
    have HB3 := Lib.hid (below_step HB2.out hb)
    have KB3 := Lib.hid (block_below KB2.out hb)
    have HT3 := Lib.hid (Kd.C_below HT2.out hb)
    clear hb
    refine hK.out _ _ trivial (fun hHeld => ?_)
    clear hK K
    refine norm_ (a' := ?_) ?_ ?_
    rotate_left
    · show Act.put _ (some 32) _ = _
      simp only [Act.put, List.setIfInBounds_toArray, List.set_cons_zero, List.set_cons_succ, i64_w, i32_w]
      rfl
    refine one_ (i := 14) (N := some 36) #[true, true, true, true, true, true, true, true, true, true, true, true, true, true, true, false, false] rfl rfl (by kernel_rfl) (by decide) (fun K hK => ?_)
    refine goes_ Tryz.func12 (by kernel_rfl) rfl #[.slice A n c] (by rfl) rfl rfl (by simp only [List.map_toArray, List.map_cons, List.map_nil]; rfl) ?_
    with_reducible refine (sum_at n A c B _ _ HTL.out HT3.out (by have := HCap.out; omega) HC.out).mono ?_
    rintro ee w4 ⟨rfl, hb⟩
    refine ⟨_, rfl, ?_⟩
    have HB4 := Lib.hid (below_step HB3.out hb)
    have KB4 := Lib.hid (block_below KB3.out hb)
    have HT4 := Lib.hid (Kd.C_below HT3.out hb)
    clear hb
    refine hK.out _ _ trivial (fun hHeld => ?_)
    clear hK K
    refine norm_ (a' := ?_) ?_ ?_
    rotate_left
    · show Act.put _ (some 36) _ = _
      simp only [Act.put, List.setIfInBounds_toArray, List.set_cons_zero, List.set_cons_succ, i64_w, i32_w]
      rfl
    refine pure_ (i := 15) (N := some 37) (v := ?_) (a' := ?_) #[true, true, true, true, true, true, true, true, true, true, true, true, true, true, true, true, false] rfl rfl (by kernel_rfl) (fun _ _ _ h => h) (Or.inl ⟨by rfl, ?_⟩) ?_ ?_
    rotate_left
    · intro w'
      go_simp
      with_reducible rfl
    rotate_left
    · simp only [Act.put, List.setIfInBounds_toArray, List.set_cons_zero, List.set_cons_succ, i64_w, i32_w]
      rfl
    refine pure_ (i := 16) (N := some 38) (v := ?_) (a' := ?_) #[true, true, true, true, true, true, true, true, true, true, true, true, true, true, true, true, true] rfl rfl (by kernel_rfl) (fun _ _ _ h => h) (Or.inl ⟨by rfl, ?_⟩) ?_ ?_
    rotate_left
    · intro w'
      go_simp
      with_reducible rfl
    rotate_left
    · simp only [Act.put, List.setIfInBounds_toArray, List.set_cons_zero, List.set_cons_succ, i64_w, i32_w]
      rfl
    refine done_ (by kernel_rfl) ?_
    go_wp2
    by_cases hp : Hd <+: B
    · have HP := Lib.hid hp
      replace hp := HP
      have hbd := HB4.out.drew
      have kbd := blk_drew KB4.out
      have hTd := Kd.C_drew HT4.out
      refine start_ (n := 12) (S := fun w' => w'.cell? ⟨w.heap.size, 0, none⟩ = some (.slice none 0 0) ∧ w'.cell? ⟨w.heap.size, 1, none⟩ = some (.int .i64 o)) (ds := []) #[false, false, false, false, false, false, false, false, false, false, false, false] (by kernel_rfl) rfl rfl ⟨(blk_cell kbd 0).trans rfl, (blk_cell kbd 1).trans rfl⟩ (fun hHeld => ?_)
      generalize w4.drew = w5 at hbd kbd hTd hHeld ⊢
      have HB5 := Lib.hid hbd
      have KB5 := Lib.hid kbd
      have HT5 := Lib.hid hTd
      clear hbd kbd hTd
      refine pure_ (i := 0) (N := some 40) (v := ?_) (a' := ?_) #[true, false, false, false, false, false, false, false, false, false, false, false] rfl rfl (by kernel_rfl) (fun _ _ _ h => h) (Or.inl ⟨by rfl, ?_⟩) ?_ ?_
      rotate_left
      · intro w'
        go_simp
        with_reducible rfl
      rotate_left
      · simp only [Act.put, List.setIfInBounds_toArray, List.set_cons_zero, List.set_cons_succ, i64_w, i32_w]
        rfl
      refine pure_ (i := 1) (N := some 41) (v := ?_) (a' := ?_) #[true, true, false, false, false, false, false, false, false, false, false, false] rfl rfl (by kernel_rfl) (fun _ _ _ h => h) (Or.inl ⟨by rfl, ?_⟩) ?_ ?_
      rotate_left
      · intro w'
        go_simp
        with_reducible rfl
      rotate_left
      · simp only [Act.put, List.setIfInBounds_toArray, List.set_cons_zero, List.set_cons_succ, i64_w, i32_w]
        rfl
      refine pure_ (i := 2) (N := some 42) (v := ?_) (a' := ?_) #[true, true, true, false, false, false, false, false, false, false, false, false] rfl rfl (by kernel_rfl) (fun _ _ _ h => h) (Or.inl ⟨by rfl, ?_⟩) ?_ ?_
      rotate_left
      · intro w'
        go_simp
        with_reducible rfl
      rotate_left
      · simp only [Act.put, List.setIfInBounds_toArray, List.set_cons_zero, List.set_cons_succ, i64_w, i32_w]
        rfl
      refine pure_ (i := 3) (N := some 43) (v := ?_) (a' := ?_) #[true, true, true, true, false, false, false, false, false, false, false, false] rfl rfl (by kernel_rfl) (fun _ _ _ h => h) (Or.inl ⟨by rfl, ?_⟩) ?_ ?_
      rotate_left
      · intro w'
        go_simp
        with_reducible rfl
      rotate_left
      · simp only [Act.put, List.setIfInBounds_toArray, List.set_cons_zero, List.set_cons_succ, i64_w, i32_w]
        rfl
      refine take_ (i := 4) (N := some 44) (v := ?_) (a' := ?_) #[true, true, true, true, true, false, false, false, false, false, false, false] rfl rfl (by kernel_rfl) (fun _ _ _ h => h) (Or.inl ⟨by rfl, ?_⟩) hHeld ?_ ?_
      rotate_left
      · rintro w' ⟨s0, s1⟩
        go_simp
        with_reducible rfl
      rotate_left
      · simp only [Act.put, List.setIfInBounds_toArray, List.set_cons_zero, List.set_cons_succ, i64_w, i32_w]
        rfl
      refine one_ (i := 5) (N := some 45) #[true, true, true, true, true, true, false, false, false, false, false, false] rfl rfl (by kernel_rfl) (by decide) (fun K hK => ?_)
      refine goes_ Tryz.func9 (by kernel_rfl) rfl #[.int .u64 ver, .agg #[.slice none 0 0, .int .i64 o]] (by rfl) rfl rfl (by simp only [List.map_toArray, List.map_cons, List.map_nil]; rfl) ?_
      with_reducible refine (HHd.out _).mono ?_
      rintro ee w6 ⟨v6, rfl, hv, hb⟩
      refine ⟨_, rfl, ?_⟩
      obtain ⟨A6, c6, rfl⟩ := Kd.R_slice hv
      have HV6 := Lib.hid (Kd.R_reads' hv).2
      have HB6 := Lib.hid (below_step HB5.out hb)
      have KB6 := Lib.hid (block_below KB5.out hb)
      have HT6 := Lib.hid (Kd.C_below HT5.out hb)
      clear hb hv
      refine hK.out _ _ ⟨(blk_cell KB6.out 0).trans rfl, (blk_cell KB6.out 1).trans rfl⟩ (fun hHeld => ?_)
      clear hK K
      refine norm_ (a' := ?_) ?_ ?_
      rotate_left
      · show Act.put _ (some 45) _ = _
        simp only [Act.put, List.setIfInBounds_toArray, List.set_cons_zero, List.set_cons_succ, i64_w, i32_w]
        rfl
      refine one_ (i := 6) (N := some 46) #[true, true, true, true, true, true, true, false, false, false, false, false] rfl rfl (by kernel_rfl) (by decide) (fun K hK => ?_)
      refine goes_ Tryz.func15 (by kernel_rfl) rfl #[.slice A n c, .slice A6 Hd.length c6] (by rfl) rfl rfl (by simp only [List.map_toArray, List.map_cons, List.map_nil]; rfl) ?_
      with_reducible refine (cutp_yes n A c B A6 c6 Hd _ HTL.out HBi.out HHi.out HT6.out (by have := HCap.out; omega) HV6.out.2 HV6.out.1 hp.out).mono ?_
      rintro ee w7 ⟨A7, c7, Kk, hkk, rfl, hc7, hr7, hb⟩
      refine ⟨_, rfl, ?_⟩
      have HB7 := Lib.hid (below_step HB6.out hb)
      have KB7 := Lib.hid (block_below KB6.out hb)
      have HR7 := Lib.hid hr7
      have HK := Lib.hid hkk
      clear hr7 hkk
      clear hb
      refine hK.out _ _ ⟨(blk_cell KB7.out 0).trans rfl, (blk_cell KB7.out 1).trans rfl⟩ (fun hHeld => ?_)
      clear hK K
      refine norm_ (a' := ?_) ?_ ?_
      rotate_left
      · show Act.put _ (some 46) _ = _
        simp only [Act.put, List.setIfInBounds_toArray, List.set_cons_zero, List.set_cons_succ, i64_w, i32_w]
        rfl
      refine pure_ (i := 7) (N := some 39) (v := ?_) (a' := ?_) #[true, true, true, true, true, true, true, true, false, false, false, false] rfl rfl (by kernel_rfl) (fun _ _ _ h => h) (Or.inl ⟨by rfl, ?_⟩) ?_ ?_
      rotate_left
      · intro w'
        go_simp
        with_reducible rfl
      rotate_left
      · simp only [Act.put, List.setIfInBounds_toArray, List.set_cons_zero, List.set_cons_succ, i64_w, i32_w]
        rfl
      refine pure_ (i := 8) (N := some 47) (v := ?_) (a' := ?_) #[true, true, true, true, true, true, true, true, true, false, false, false] rfl rfl (by kernel_rfl) (fun _ _ _ h => h) (Or.inl ⟨by rfl, ?_⟩) ?_ ?_
      rotate_left
      · intro w'
        go_simp
        with_reducible rfl
      rotate_left
      · simp only [Act.put, List.setIfInBounds_toArray, List.set_cons_zero, List.set_cons_succ, i64_w, i32_w]
        rfl
      refine pure_ (i := 9) (N := some 48) (v := ?_) (a' := ?_) #[true, true, true, true, true, true, true, true, true, true, false, false] rfl rfl (by kernel_rfl) (fun _ _ _ h => h) (Or.inl ⟨by rfl, ?_⟩) ?_ ?_
      rotate_left
      · intro w'
        go_simp
        with_reducible rfl
      rotate_left
      · simp only [Act.put, List.setIfInBounds_toArray, List.set_cons_zero, List.set_cons_succ, i64_w, i32_w]
        rfl
      refine pure_ (i := 10) (N := some 11) (v := ?_) (a' := ?_) #[true, true, true, true, true, true, true, true, true, true, true, false] rfl rfl (by kernel_rfl) (fun _ _ _ h => h) (Or.inl ⟨by rfl, ?_⟩) ?_ ?_
      rotate_left
      · intro w'
        go_simp
        with_reducible rfl
      rotate_left
      · simp only [Act.put, List.setIfInBounds_toArray, List.set_cons_zero, List.set_cons_succ, i64_w, i32_w]
        rfl
      refine pure_ (i := 11) (N := some 9) (v := ?_) (a' := ?_) #[true, true, true, true, true, true, true, true, true, true, true, true] rfl rfl (by kernel_rfl) (fun _ _ _ h => h) (Or.inl ⟨by rfl, ?_⟩) ?_ ?_
      rotate_left
      · intro w'
        go_simp
        with_reducible rfl
      rotate_left
      · simp only [Act.put, List.setIfInBounds_toArray, List.set_cons_zero, List.set_cons_succ, i64_w, i32_w]
        rfl
      refine done_ (by kernel_rfl) ?_
      have hrt := HRT2.out
      rw [← HK.out] at hrt
      have HRT2b := Lib.hid hrt
      clear hrt HRT2 HK
      by_cases k1 : 1 ≤ Kk.length
      · have e1 : decide ((Kk.length : Int) < 1) = false := decide_eq_false (by omega)
        by_cases k2 : Kk.length ≤ 24
        · have e2 : decide ((24 : Int) < (Kk.length : Int)) = false := decide_eq_false (by omega)
          have HRT3 := Lib.hid (show readT ver (sumQ o) (bytesOf s) = some Kk by rw [HRT2b.out, if_pos ⟨HP.out, k1, k2⟩])
          go_wp2_with fail
          refine (bytes_Clone.calls A7 c7 Kk Kk _ HR7.out hc7 (by unfold bytes_Clone.f; rw [if_pos (by omega)])).mono ?_
          rintro e w8 ⟨v8, rfl, hv, hb⟩
          have HV8 := Lib.hid hv
          have HB8 := Lib.hid (below_step HB7.out hb)
          clear hv hb
          go_wp2
          go_ret2
          exact ⟨readIs_some HRT3.out rfl (RdB.of_R HV8.out), HB8.out⟩
        · have e2 : decide ((24 : Int) < (Kk.length : Int)) = true := decide_eq_true (by omega)
          have HRT3 := Lib.hid (show readT ver (sumQ o) (bytesOf s) = none by rw [HRT2b.out, if_neg (fun h => k2 h.2.2)])
          go_wp2
          go_ret2
          exact ⟨readIs_none HRT3.out rfl, HB7.out⟩
      · have e1 : decide ((Kk.length : Int) < 1) = true := decide_eq_true (by omega)
        have HRT3 := Lib.hid (show readT ver (sumQ o) (bytesOf s) = none by rw [HRT2b.out, if_neg (fun h => k1 h.2.1)])
        go_wp2
        go_ret2
        exact ⟨readIs_none HRT3.out rfl, HB7.out⟩
    · have HP := Lib.hid hp
      replace hp := HP
      have HRT3 := Lib.hid (show readT ver (sumQ o) (bytesOf s) = none by rw [HRT2.out, if_neg (fun h => HP.out h.1)])
      have hbd := HB4.out.drew
      have kbd := blk_drew KB4.out
      have hTd := Kd.C_drew HT4.out
      refine start_ (n := 12) (S := fun w' => w'.cell? ⟨w.heap.size, 0, none⟩ = some (.slice none 0 0) ∧ w'.cell? ⟨w.heap.size, 1, none⟩ = some (.int .i64 o)) (ds := []) #[false, false, false, false, false, false, false, false, false, false, false, false] (by kernel_rfl) rfl rfl ⟨(blk_cell kbd 0).trans rfl, (blk_cell kbd 1).trans rfl⟩ (fun hHeld => ?_)
      generalize w4.drew = w5 at hbd kbd hTd hHeld ⊢
      have HB5 := Lib.hid hbd
      have KB5 := Lib.hid kbd
      have HT5 := Lib.hid hTd
      clear hbd kbd hTd
      refine pure_ (i := 0) (N := some 40) (v := ?_) (a' := ?_) #[true, false, false, false, false, false, false, false, false, false, false, false] rfl rfl (by kernel_rfl) (fun _ _ _ h => h) (Or.inl ⟨by rfl, ?_⟩) ?_ ?_
      rotate_left
      · intro w'
        go_simp
        with_reducible rfl
      rotate_left
      · simp only [Act.put, List.setIfInBounds_toArray, List.set_cons_zero, List.set_cons_succ, i64_w, i32_w]
        rfl
      refine pure_ (i := 1) (N := some 41) (v := ?_) (a' := ?_) #[true, true, false, false, false, false, false, false, false, false, false, false] rfl rfl (by kernel_rfl) (fun _ _ _ h => h) (Or.inl ⟨by rfl, ?_⟩) ?_ ?_
      rotate_left
      · intro w'
        go_simp
        with_reducible rfl
      rotate_left
      · simp only [Act.put, List.setIfInBounds_toArray, List.set_cons_zero, List.set_cons_succ, i64_w, i32_w]
        rfl
      refine pure_ (i := 2) (N := some 42) (v := ?_) (a' := ?_) #[true, true, true, false, false, false, false, false, false, false, false, false] rfl rfl (by kernel_rfl) (fun _ _ _ h => h) (Or.inl ⟨by rfl, ?_⟩) ?_ ?_
      rotate_left
      · intro w'
        go_simp
        with_reducible rfl
      rotate_left
      · simp only [Act.put, List.setIfInBounds_toArray, List.set_cons_zero, List.set_cons_succ, i64_w, i32_w]
        rfl
      refine pure_ (i := 3) (N := some 43) (v := ?_) (a' := ?_) #[true, true, true, true, false, false, false, false, false, false, false, false] rfl rfl (by kernel_rfl) (fun _ _ _ h => h) (Or.inl ⟨by rfl, ?_⟩) ?_ ?_
      rotate_left
      · intro w'
        go_simp
        with_reducible rfl
      rotate_left
      · simp only [Act.put, List.setIfInBounds_toArray, List.set_cons_zero, List.set_cons_succ, i64_w, i32_w]
        rfl
      refine take_ (i := 4) (N := some 44) (v := ?_) (a' := ?_) #[true, true, true, true, true, false, false, false, false, false, false, false] rfl rfl (by kernel_rfl) (fun _ _ _ h => h) (Or.inl ⟨by rfl, ?_⟩) hHeld ?_ ?_
      rotate_left
      · rintro w' ⟨s0, s1⟩
        go_simp
        with_reducible rfl
      rotate_left
      · simp only [Act.put, List.setIfInBounds_toArray, List.set_cons_zero, List.set_cons_succ, i64_w, i32_w]
        rfl
      refine one_ (i := 5) (N := some 45) #[true, true, true, true, true, true, false, false, false, false, false, false] rfl rfl (by kernel_rfl) (by decide) (fun K hK => ?_)
      refine goes_ Tryz.func9 (by kernel_rfl) rfl #[.int .u64 ver, .agg #[.slice none 0 0, .int .i64 o]] (by rfl) rfl rfl (by simp only [List.map_toArray, List.map_cons, List.map_nil]; rfl) ?_
      with_reducible refine (HHd.out _).mono ?_
      rintro ee w6 ⟨v6, rfl, hv, hb⟩
      refine ⟨_, rfl, ?_⟩
      obtain ⟨A6, c6, rfl⟩ := Kd.R_slice hv
      have HV6 := Lib.hid (Kd.R_reads' hv).2
      have HB6 := Lib.hid (below_step HB5.out hb)
      have KB6 := Lib.hid (block_below KB5.out hb)
      have HT6 := Lib.hid (Kd.C_below HT5.out hb)
      clear hb hv
      refine hK.out _ _ ⟨(blk_cell KB6.out 0).trans rfl, (blk_cell KB6.out 1).trans rfl⟩ (fun hHeld => ?_)
      clear hK K
      refine norm_ (a' := ?_) ?_ ?_
      rotate_left
      · show Act.put _ (some 45) _ = _
        simp only [Act.put, List.setIfInBounds_toArray, List.set_cons_zero, List.set_cons_succ, i64_w, i32_w]
        rfl
      refine one_ (i := 6) (N := some 46) #[true, true, true, true, true, true, true, false, false, false, false, false] rfl rfl (by kernel_rfl) (by decide) (fun K hK => ?_)
      refine goes_ Tryz.func15 (by kernel_rfl) rfl #[.slice A n c, .slice A6 Hd.length c6] (by rfl) rfl rfl (by simp only [List.map_toArray, List.map_cons, List.map_nil]; rfl) ?_
      with_reducible refine (cutp_no n A c B A6 c6 Hd _ HTL.out HBi.out HHi.out HT6.out (by have := HCap.out; omega) HV6.out.2 HV6.out.1 hp.out).mono ?_
      rintro ee w7 ⟨rfl, hb⟩
      refine ⟨_, rfl, ?_⟩
      have HB7 := Lib.hid (below_step HB6.out hb)
      have KB7 := Lib.hid (block_below KB6.out hb)
      clear hb
      refine hK.out _ _ ⟨(blk_cell KB7.out 0).trans rfl, (blk_cell KB7.out 1).trans rfl⟩ (fun hHeld => ?_)
      clear hK K
      refine norm_ (a' := ?_) ?_ ?_
      rotate_left
      · show Act.put _ (some 46) _ = _
        simp only [Act.put, List.setIfInBounds_toArray, List.set_cons_zero, List.set_cons_succ, i64_w, i32_w]
        rfl
      refine pure_ (i := 7) (N := some 39) (v := ?_) (a' := ?_) #[true, true, true, true, true, true, true, true, false, false, false, false] rfl rfl (by kernel_rfl) (fun _ _ _ h => h) (Or.inl ⟨by rfl, ?_⟩) ?_ ?_
      rotate_left
      · intro w'
        go_simp
        with_reducible rfl
      rotate_left
      · simp only [Act.put, List.setIfInBounds_toArray, List.set_cons_zero, List.set_cons_succ, i64_w, i32_w]
        rfl
      refine pure_ (i := 8) (N := some 47) (v := ?_) (a' := ?_) #[true, true, true, true, true, true, true, true, true, false, false, false] rfl rfl (by kernel_rfl) (fun _ _ _ h => h) (Or.inl ⟨by rfl, ?_⟩) ?_ ?_
      rotate_left
      · intro w'
        go_simp
        with_reducible rfl
      rotate_left
      · simp only [Act.put, List.setIfInBounds_toArray, List.set_cons_zero, List.set_cons_succ, i64_w, i32_w]
        rfl
      refine pure_ (i := 9) (N := some 48) (v := ?_) (a' := ?_) #[true, true, true, true, true, true, true, true, true, true, false, false] rfl rfl (by kernel_rfl) (fun _ _ _ h => h) (Or.inl ⟨by rfl, ?_⟩) ?_ ?_
      rotate_left
      · intro w'
        go_simp
        with_reducible rfl
      rotate_left
      · simp only [Act.put, List.setIfInBounds_toArray, List.set_cons_zero, List.set_cons_succ, i64_w, i32_w]
        rfl
      refine pure_ (i := 10) (N := some 11) (v := ?_) (a' := ?_) #[true, true, true, true, true, true, true, true, true, true, true, false] rfl rfl (by kernel_rfl) (fun _ _ _ h => h) (Or.inl ⟨by rfl, ?_⟩) ?_ ?_
      rotate_left
      · intro w'
        go_simp
        with_reducible rfl
      rotate_left
      · simp only [Act.put, List.setIfInBounds_toArray, List.set_cons_zero, List.set_cons_succ, i64_w, i32_w]
        rfl
      refine pure_ (i := 11) (N := some 9) (v := ?_) (a' := ?_) #[true, true, true, true, true, true, true, true, true, true, true, true] rfl rfl (by kernel_rfl) (fun _ _ _ h => h) (Or.inl ⟨by rfl, ?_⟩) ?_ ?_
      rotate_left
      · intro w'
        go_simp
        with_reducible rfl
      rotate_left
      · simp only [Act.put, List.setIfInBounds_toArray, List.set_cons_zero, List.set_cons_succ, i64_w, i32_w]
        rfl
      refine done_ (by kernel_rfl) ?_
      go_wp2
      go_ret2
      exact ⟨readIs_none HRT3.out rfl, HB7.out⟩
  · have HRT2 := Lib.hid (show readT ver (sumQ o) (bytesOf s) = none by
      have h := HRT.out
      rw [if_pos hsum] at h
      exact h)
    have q1 : (big D == crcSum B) = false := beq_eq_false_iff_ne.2 hsum
    have q2 : (big D != crcSum B) = true := bne_iff_ne.2 hsum
    clear hsum
    go_wp2
    have hbd := HB1.out.drew
    have kbd := blk_drew KB1.out
    have hDd := Kd.C_drew HD.out
    have hTd := Kd.C_drew HT.out
    refine start_ (n := 17) (S := fun w' => True) (ds := []) #[false, false, false, false, false, false, false, false, false, false, false, false, false, false, false, false, false] (by kernel_rfl) rfl rfl trivial (fun hHeld => ?_)
    generalize w1.drew = w2 at hbd kbd hDd hTd hHeld ⊢
    have HB2 := Lib.hid hbd
    have KB2 := Lib.hid kbd
    have HD2 := Lib.hid hDd
    have HT2 := Lib.hid hTd
    clear hbd kbd hDd hTd
    refine pure_ (i := 0) (N := some 22) (v := ?_) (a' := ?_) #[true, false, false, false, false, false, false, false, false, false, false, false, false, false, false, false, false] rfl rfl (by kernel_rfl) (fun _ _ _ h => h) (Or.inl ⟨by rfl, ?_⟩) ?_ ?_
    rotate_left
    · intro w'
      go_simp
      with_reducible rfl
    rotate_left
    · simp only [Act.put, List.setIfInBounds_toArray, List.set_cons_zero, List.set_cons_succ, i64_w, i32_w]
      rfl
    refine pure_ (i := 1) (N := some 23) (v := ?_) (a' := ?_) #[true, true, false, false, false, false, false, false, false, false, false, false, false, false, false, false, false] rfl rfl (by kernel_rfl) (fun _ _ _ h => h) (Or.inl ⟨by rfl, ?_⟩) ?_ ?_
    rotate_left
    · intro w'
      go_simp
      with_reducible rfl
    rotate_left
    · simp only [Act.put, List.setIfInBounds_toArray, List.set_cons_zero, List.set_cons_succ, i64_w, i32_w]
      rfl
    refine pure_ (i := 2) (N := some 24) (v := ?_) (a' := ?_) #[true, true, true, false, false, false, false, false, false, false, false, false, false, false, false, false, false] rfl rfl (by kernel_rfl) (fun _ _ _ h => h) (Or.inl ⟨by rfl, ?_⟩) ?_ ?_
    rotate_left
    · intro w'
      go_simp
      with_reducible rfl
    rotate_left
    · simp only [Act.put, List.setIfInBounds_toArray, List.set_cons_zero, List.set_cons_succ, i64_w, i32_w]
      rfl
    refine pure_ (i := 3) (N := some 25) (v := ?_) (a' := ?_) #[true, true, true, true, false, false, false, false, false, false, false, false, false, false, false, false, false] rfl rfl (by kernel_rfl) (fun _ _ _ h => h) (Or.inl ⟨by rfl, ?_⟩) ?_ ?_
    rotate_left
    · intro w'
      go_simp
      with_reducible rfl
    rotate_left
    · simp only [Act.put, List.setIfInBounds_toArray, List.set_cons_zero, List.set_cons_succ, i64_w, i32_w]
      rfl
    refine pure_ (i := 4) (N := some 26) (v := ?_) (a' := ?_) #[true, true, true, true, true, false, false, false, false, false, false, false, false, false, false, false, false] rfl rfl (by kernel_rfl) (fun _ _ _ h => h) (Or.inl ⟨by rfl, ?_⟩) ?_ ?_
    rotate_left
    · intro w'
      go_simp
      with_reducible rfl
    rotate_left
    · simp only [Act.put, List.setIfInBounds_toArray, List.set_cons_zero, List.set_cons_succ, i64_w, i32_w]
      rfl
    refine pure_ (i := 5) (N := some 27) (v := ?_) (a' := ?_) #[true, true, true, true, true, true, false, false, false, false, false, false, false, false, false, false, false] rfl rfl (by kernel_rfl) (fun _ _ _ h => h) (Or.inl ⟨by rfl, ?_⟩) ?_ ?_
    rotate_left
    · intro w'
      go_simp
      with_reducible rfl
    rotate_left
    · simp only [Act.put, List.setIfInBounds_toArray, List.set_cons_zero, List.set_cons_succ, i64_w, i32_w]
      rfl
    refine pure_ (i := 6) (N := some 28) (v := ?_) (a' := ?_) #[true, true, true, true, true, true, true, false, false, false, false, false, false, false, false, false, false] rfl rfl (by kernel_rfl) (fun _ _ _ h => h) (Or.inl ⟨by rfl, ?_⟩) ?_ ?_
    rotate_left
    · intro w'
      go_simp
      with_reducible rfl
    rotate_left
    · simp only [Act.put, List.setIfInBounds_toArray, List.set_cons_zero, List.set_cons_succ, i64_w, i32_w]
      rfl
    refine pure_ (i := 7) (N := some 29) (v := ?_) (a' := ?_) #[true, true, true, true, true, true, true, true, false, false, false, false, false, false, false, false, false] rfl rfl (by kernel_rfl) (fun _ _ _ h => h) (Or.inl ⟨by rfl, ?_⟩) ?_ ?_
    rotate_left
    · intro w'
      go_simp
      with_reducible rfl
    rotate_left
    · simp only [Act.put, List.setIfInBounds_toArray, List.set_cons_zero, List.set_cons_succ, i64_w, i32_w]
      rfl
    refine pure_ (i := 8) (N := some 30) (v := ?_) (a' := ?_) #[true, true, true, true, true, true, true, true, true, false, false, false, false, false, false, false, false] rfl rfl (by kernel_rfl) (fun _ _ _ h => h) (Or.inl ⟨by rfl, ?_⟩) ?_ ?_
    rotate_left
    · intro w'
      go_simp
      with_reducible rfl
    rotate_left
    · simp only [Act.put, List.setIfInBounds_toArray, List.set_cons_zero, List.set_cons_succ, i64_w, i32_w]
      rfl
    refine pure_ (i := 9) (N := some 31) (v := ?_) (a' := ?_) #[true, true, true, true, true, true, true, true, true, true, false, false, false, false, false, false, false] rfl rfl (by kernel_rfl) (fun _ _ _ h => h) (Or.inl ⟨by rfl, ?_⟩) ?_ ?_
    rotate_left
    · intro w'
      go_simp
      with_reducible rfl
    rotate_left
    · simp only [Act.put, List.setIfInBounds_toArray, List.set_cons_zero, List.set_cons_succ, i64_w, i32_w]
      rfl
    refine pure_ (i := 11) (N := some 33) (v := ?_) (a' := ?_) #[true, true, true, true, true, true, true, true, true, true, false, true, false, false, false, false, false] rfl rfl (by kernel_rfl) (fun _ _ _ h => h) (Or.inl ⟨by rfl, ?_⟩) ?_ ?_
    rotate_left
    · intro w'
      go_simp
      with_reducible rfl
    rotate_left
    · simp only [Act.put, List.setIfInBounds_toArray, List.set_cons_zero, List.set_cons_succ, i64_w, i32_w]
      rfl
    refine pure_ (i := 12) (N := some 34) (v := ?_) (a' := ?_) #[true, true, true, true, true, true, true, true, true, true, false, true, true, false, false, false, false] rfl rfl (by kernel_rfl) (fun _ _ _ h => h) (Or.inl ⟨by rfl, ?_⟩) ?_ ?_
    rotate_left
    · intro w'
      go_simp
      with_reducible rfl
    rotate_left
    · simp only [Act.put, List.setIfInBounds_toArray, List.set_cons_zero, List.set_cons_succ, i64_w, i32_w]
      rfl
    refine pure_ (i := 13) (N := some 35) (v := ?_) (a' := ?_) #[true, true, true, true, true, true, true, true, true, true, false, true, true, true, false, false, false] rfl rfl (by kernel_rfl) (fun _ _ _ h => h) (Or.inl ⟨by rfl, ?_⟩) ?_ ?_
    rotate_left
    · intro w'
      go_simp
      with_reducible rfl
    rotate_left
    · simp only [Act.put, List.setIfInBounds_toArray, List.set_cons_zero, List.set_cons_succ, i64_w, i32_w]
      rfl
    refine one_ (i := 10) (N := some 32) #[true, true, true, true, true, true, true, true, true, true, true, true, true, true, false, false, false] rfl rfl (by kernel_rfl) (by decide) (fun K hK => ?_)
    refine goes_ Tryz.func14 (by kernel_rfl) rfl #[.slice ca 4 (c - n)] (by rfl) rfl rfl (by simp only [List.map_toArray, List.map_cons, List.map_nil]; rfl) ?_
    with_reducible refine (get32_at 4 ca (c - n) D _ _ HDL.out HD2.out (by have := HCap.out; omega) HG.out).mono ?_
    rintro ee w3 ⟨rfl, hb⟩
    refine ⟨_, rfl, ?_⟩
    have HB3 := Lib.hid (below_step HB2.out hb)
    have KB3 := Lib.hid (block_below KB2.out hb)
    have HT3 := Lib.hid (Kd.C_below HT2.out hb)
    clear hb
    refine hK.out _ _ trivial (fun hHeld => ?_)
    clear hK K
    refine norm_ (a' := ?_) ?_ ?_
    rotate_left
    · show Act.put _ (some 32) _ = _
      simp only [Act.put, List.setIfInBounds_toArray, List.set_cons_zero, List.set_cons_succ, i64_w, i32_w]
      rfl
    refine one_ (i := 14) (N := some 36) #[true, true, true, true, true, true, true, true, true, true, true, true, true, true, true, false, false] rfl rfl (by kernel_rfl) (by decide) (fun K hK => ?_)
    refine goes_ Tryz.func12 (by kernel_rfl) rfl #[.slice A n c] (by rfl) rfl rfl (by simp only [List.map_toArray, List.map_cons, List.map_nil]; rfl) ?_
    with_reducible refine (sum_at n A c B _ _ HTL.out HT3.out (by have := HCap.out; omega) HC.out).mono ?_
    rintro ee w4 ⟨rfl, hb⟩
    refine ⟨_, rfl, ?_⟩
    have HB4 := Lib.hid (below_step HB3.out hb)
    have KB4 := Lib.hid (block_below KB3.out hb)
    have HT4 := Lib.hid (Kd.C_below HT3.out hb)
    clear hb
    refine hK.out _ _ trivial (fun hHeld => ?_)
    clear hK K
    refine norm_ (a' := ?_) ?_ ?_
    rotate_left
    · show Act.put _ (some 36) _ = _
      simp only [Act.put, List.setIfInBounds_toArray, List.set_cons_zero, List.set_cons_succ, i64_w, i32_w]
      rfl
    refine pure_ (i := 15) (N := some 37) (v := ?_) (a' := ?_) #[true, true, true, true, true, true, true, true, true, true, true, true, true, true, true, true, false] rfl rfl (by kernel_rfl) (fun _ _ _ h => h) (Or.inl ⟨by rfl, ?_⟩) ?_ ?_
    rotate_left
    · intro w'
      go_simp
      with_reducible rfl
    rotate_left
    · simp only [Act.put, List.setIfInBounds_toArray, List.set_cons_zero, List.set_cons_succ, i64_w, i32_w]
      rfl
    refine pure_ (i := 16) (N := some 38) (v := ?_) (a' := ?_) #[true, true, true, true, true, true, true, true, true, true, true, true, true, true, true, true, true] rfl rfl (by kernel_rfl) (fun _ _ _ h => h) (Or.inl ⟨by rfl, ?_⟩) ?_ ?_
    rotate_left
    · intro w'
      go_simp
      with_reducible rfl
    rotate_left
    · simp only [Act.put, List.setIfInBounds_toArray, List.set_cons_zero, List.set_cons_succ, i64_w, i32_w]
      rfl
    refine done_ (by kernel_rfl) ?_
    go_wp2
    go_ret2
    exact ⟨readIs_none HRT2.out rfl, HB4.out⟩

end Go.Proofs.YtcgpbcpgopmfcaaGreatDoor.Tok
