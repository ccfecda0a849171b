/- token.text and token.plain (chapter 24), by hand: bytes as digits, digits as bytes. -/
import Derived.Test.YtcgpbcpgopmfcaaGreatDoorTokBits
import Derived.Test.YtcgpbcpgopmfcaaGreatDoorTextBase
import Derived.Lib.Strings
import Derived.Test.YtcgpbcpgopmfcaaGreatDoorPAllx0
namespace Go.Proofs.YtcgpbcpgopmfcaaGreatDoor.Tok
open Go.RowKit Go.Proofs.YtcgpbcpgopmfcaaGreatDoorW.PrintWords Go.Proofs.YtcgpbcpgopmfcaaGreatDoorW.PrintLast Go.Proofs.YtcgpbcpgopmfcaaGreatDoorW.PrintMore Go.Proofs.YtcgpbcpgopmfcaaGreatDoor.Math Go.Proofs.YtcgpbcpgopmfcaaGreatDoor.Runes Go.Proofs.YtcgpbcpgopmfcaaGreatDoor.Text Go.Proofs.YtcgpbcpgopmfcaaGreatDoor.Hex Go.Proofs.YtcgpbcpgopmfcaaGreatDoor.PAll
set_option linter.unusedVariables false
set_option linter.unusedSimpArgs false

/-- A step above the iterator's block leaves it. -/
theorem It_above {w wr w1 : World} {s : ByteArray} {p : Nat} (h : It w wr w.heap.size s p) (hb : Below (w.heap.size + 1) wr w1) : It w w1 w.heap.size s p :=
  ⟨(hb.block _ (Nat.lt_succ_self _)).trans h.it, h.bw.trans (hb.mono (Nat.le_succ _)), h.n0⟩
theorem dec_high (n c0 c1 c2 c3 : Nat) (h0 : 128 ≤ c0) : 128 ≤ (Lib.decodeN n c0 c1 c2 c3).1 := by
  unfold Lib.decodeN
  split
  · omega
  split
  · split <;> (simp only; omega)
  split
  · split <;> (simp only; omega)
  split
  · split <;> (simp only; omega)
  · simp only; omega
theorem rune_low {s : ByteArray} {i : Nat} (h0 : nb s i < 128) : rn s i = nb s i ∧ wd s i = 1 := by
  have hd : Utf8.decode s i = Lib.decodeN (s.size - i) (nb s i) (nb s (i + 1)) (nb s (i + 2)) (nb s (i + 3)) := Lib.decode_at s i
  unfold wd rn
  rw [hd]
  unfold Lib.decodeN
  rw [if_pos h0]
  exact ⟨rfl, rfl⟩
theorem rune_high {s : ByteArray} {i : Nat} (h0 : 128 ≤ nb s i) : 128 ≤ rn s i := by
  have hd : Utf8.decode s i = Lib.decodeN (s.size - i) (nb s i) (nb s (i + 1)) (nb s (i + 2)) (nb s (i + 3)) := Lib.decode_at s i
  unfold rn
  rw [hd]
  exact dec_high _ _ _ _ _ h0
theorem nb_rd {s : ByteArray} {i : Nat} (h : i < s.size) : (nb s i : Int) = rd (bytesOf s) (i : Int) := by
  have h' : i < s.data.toList.length := by rw [data_length]; exact h
  simp only [rd, bytesOf, Int.toNat_natCast, List.getD_eq_getElem?_getD, List.getElem?_map, List.getElem?_eq_getElem h', Option.map_some, Option.getD_some]
  unfold nb
  have hg : s.get! i = s.data[i]! := rfl
  rw [hg, getElem!_pos s.data i h]
  rfl
/-- A rune's worth is its first byte's. -/
theorem digit_at {s : ByteArray} {i : Nat} (h : i < s.size) : digitF (rn s i : Int) = digitF (rd (bytesOf s) (i : Int)) ∧ ((digitF (rn s i : Int)).isSome = true → wd s i = 1) := by
  rw [← nb_rd h]
  by_cases h0 : nb s i < 128
  · obtain ⟨h1, h2⟩ := rune_low h0
    rw [h1]
    exact ⟨rfl, fun _ => h2⟩
  · have h1 := rune_high (s := s) (i := i) (by omega)
    rw [digit_high (by omega), digit_high (by omega)]
    exact ⟨rfl, fun h => by cases h⟩

set_option maxHeartbeats 1000000 in
theorem digit_calls (r : Int) (w : World) (h0 : 0 ≤ r) (h1 : r ≤ 1114111) :
    Calls Tryz.prog 24 #[.int .i32 r] w fun e w' => e = .returned (.tuple #[.int .u8 ((digitF r).getD 0), .bool (digitF r).isSome]) ∧ w = w' := by
  by_cases a : 48 ≤ r
  · have da : decide (48 ≤ r) = true := decide_eq_true a
    by_cases b : r ≤ 57
    · have db : decide (r ≤ 57) = true := decide_eq_true b
      have hv : digitF r = some (r - 48) := by unfold digitF; rw [if_pos ⟨a, b⟩]
      rw [hv]
      have hs1 : IntKind.u8.wrap (r - 48) = r - 48 := by rw [IntKind.wrap_u8]; omega
      clear hv
      go_enter Tryz.func24, Tryz.ntmps24
      go_wp2
      go_ret2
      exact ⟨by first | rfl | simp, rfl⟩
    · have db : decide (r ≤ 57) = false := decide_eq_false b
      by_cases c : 97 ≤ r
      · have dc : decide (97 ≤ r) = true := decide_eq_true c
        by_cases d : r ≤ 102
        · have dd : decide (r ≤ 102) = true := decide_eq_true d
          have hv : digitF r = some (r - 87) := by unfold digitF; rw [if_neg (by omega), if_pos ⟨c, d⟩]
          rw [hv]
          have hs1 : IntKind.u8.wrap (r - 97) = r - 97 := by rw [IntKind.wrap_u8]; omega
          have hs2 : IntKind.u8.wrap (r - 97 + 10) = r - 87 := by rw [IntKind.wrap_u8]; omega
          have hs3 : r - 97 + 10 = r - 87 := by omega
          clear hv
          go_enter Tryz.func24, Tryz.ntmps24
          go_wp2
          go_ret2
          exact ⟨by first | rfl | simp [hs3], rfl⟩
        · have dd : decide (r ≤ 102) = false := decide_eq_false d
          have hv : digitF r = none := by unfold digitF; rw [if_neg (by omega), if_neg (by omega)]
          rw [hv]
          clear hv
          go_enter Tryz.func24, Tryz.ntmps24
          go_wp2
          go_ret2
          exact ⟨by first | rfl | simp, rfl⟩
      · have dc : decide (97 ≤ r) = false := decide_eq_false c
        have hv : digitF r = none := by unfold digitF; rw [if_neg (by omega), if_neg (by omega)]
        rw [hv]
        clear hv
        go_enter Tryz.func24, Tryz.ntmps24
        go_wp2
        go_ret2
        exact ⟨by first | rfl | simp, rfl⟩
  · have da : decide (48 ≤ r) = false := decide_eq_false a
    have dc : decide (97 ≤ r) = false := decide_eq_false (by omega)
    have hv : digitF r = none := by unfold digitF; rw [if_neg (by omega), if_neg (by omega)]
    rw [hv]
    clear hv
    go_enter Tryz.func24, Tryz.ntmps24
    go_wp2
    go_ret2
    exact ⟨by first | rfl | simp, rfl⟩

/-- What plain hands back. -/
def PlainIs (w w' : World) (s : List Int) (e : Ending) : Prop := match plainG s [] 0 false with
  | some (b, ok) => ∃ v, e = .returned (.tuple #[v, .bool ok]) ∧ Kd.R (Kd.int .u8) 5 w' w.heap.size (fun _ => True) v b
  | none => e = .returned (.tuple #[.slice none 0 0, .bool false])

set_option maxHeartbeats 2000000 in
set_option maxRecDepth 100000 in
theorem plain_calls (s : ByteArray) (w : World) (hs : s.size ≤ 1000000) :
    Calls Tryz.prog 13 #[.string s] w fun e w' => PlainIs w w' (bytesOf s) e ∧ Below w.heap.size w w' := by
  have HSs := Lib.hid hs
  have HL := Lib.hid (bytesOf_length s)
  clear hs
  go_enter Tryz.func13, Tryz.ntmps13
  go_wp2
  go_loopw [4, 5, 6] (fun v h o wr => ∃ (p : Nat) (out : List Int) (half : Int) (odd : Bool), h = .int .u8 half ∧ o = .bool odd ∧ p ≤ s.size ∧ out.length ≤ p ∧ (0 ≤ half ∧ half < 16) ∧ Hid (Kd.R (Kd.int .u8) 5 wr (w.heap.size + 1) (fun _ => True) v out) ∧ Hid (plainS ((bytesOf s).take p) [] 0 false = some (out, half, odd)) ∧ It w wr w.heap.size s p) (fun _ _ _ wr => s.size - wr.iterPos w.heap.size)
  case atStart => exact ⟨0, [], 0, false, rfl, rfl, by omega, by simp, by omega, Lib.hid (Kd.R_nil _ _ _ _ _), Lib.hid rfl, It.start w w (Below.refl _ _) s⟩
  case round =>
    obtain ⟨p, out, half, odd, rfl, rfl, hp, hol, hh, HR, HA, HI⟩ := hrel
    by_cases hlt : p < s.size
    · have hnx := HI.more (P := Tryz.prog) hlt
      have HS := Lib.hid (HI.step (p + wd s p))
      have HW := Lib.hid (dec_bounds s p hlt)
      have HPos := Lib.hid HI.pos
      have HR2 := Lib.hid (R_iterAt (q := p + wd s p) (s := s) HR.out (Nat.lt_succ_self _))
      have HSz := Lib.hid (HS.out.bw.size)
      have HBl := Lib.hid (blk_lt HS.out.it)
      have HD := Lib.hid (digit_at hlt)
      have HTk := Lib.hid (rd_take_succ (l := bytesOf s) (k := p) (by rw [bytesOf_length]; exact hlt))
      have HDr := Lib.hid (rd_drop (l := bytesOf s) (i := p) (by rw [bytesOf_length]; exact hlt))
      have HRb := Lib.hid (show 0 ≤ (rn s p : Int) ∧ (rn s p : Int) ≤ 1114111 by have := HW.out; omega)
      generalize wr.iterAt w.heap.size s (p + wd s p) = wr2 at *
      cases hd : digitF (rn s p : Int) with
      | none =>
        have HN := Lib.hid hd
        clear hd
        go_wp2_with fail
        refine (digit_calls _ _ HRb.out.1 HRb.out.2).mono ?_
        rintro e w' ⟨rfl, rfl⟩
        rw [HN.out]
        go_wp2
        go_ret2
        refine ⟨?_, HS.out.bw⟩
        have hg : plainG (bytesOf s) [] 0 false = none := by
          rw [plainG_S, ← List.take_append_drop p (bytesOf s), HDr.out, plainS_bad _ _ _ _ _ _ (by rw [← HD.out.1]; exact HN.out)]
          rfl
        unfold PlainIs
        rw [hg]
        rfl
      | some v =>
        have HN := Lib.hid hd
        have HV := Lib.hid (hex_digit hd)
        have hw1 : wd s p = 1 := HD.out.2 (by rw [hd]; rfl)
        have HW1 := Lib.hid hw1
        have HSn := Lib.hid (show plainS ((bytesOf s).take (p + 1)) [] 0 false = some (if odd then out ++ [half * 16 + v] else out, v, !odd) by
          rw [HTk.out, plainS_snoc, HA.out, Option.bind_some, ← HD.out.1, hd]
          rfl)
        clear hd hw1
        go_wp2_with fail
        refine (digit_calls _ _ HRb.out.1 HRb.out.2).mono ?_
        rintro e w' ⟨rfl, rfl⟩
        rw [HN.out]
        cases odd with
        | false =>
          go_wp2
          go_roundw
          case rel => exact ⟨p + 1, out, v, true, by first | rfl | simp, by first | rfl | simp, by omega, by omega, ⟨HV.out.1, HV.out.2.1⟩, HR2, HSn, by have := HS.out; rw [HW1.out] at this; exact this⟩
          case measure => rw [HS.out.pos, HPos.out]; have := HW.out; omega
        | true =>
          have e1 : IntKind.u8.wrap (half * 16) = half * 16 := by rw [IntKind.wrap_u8]; omega
          have e2 : Go.bits .or .u8 (half * 16) v = half * 16 + v := or_half hh.1 hh.2 HV.out.1 HV.out.2.1
          go_wp2_with (first
            | ((with_reducible refine gate_dst (N := 29) rfl ?_); refine Kd.R_lit (Kd.int .u8) (w0 := wr2) (w.heap.size + 1) 5 ?hg29 (N := 29) ?hd29 (xs := [half * 16 + v]) (inner := [.int .u8 (half * 16 + v)]) (ok := fun _ => True) (okp := fun _ => True) ?hr29 ?hp29 (fun _ hk => hk) trivial (Below.refl _ _) HBl.out (by simp) ?_; (case hd29 => rfl); (case hg29 => rfl); (case hr29 => first | (go_simp; done) | (go_simp; rfl)); (case hp29 => exact (Reps.one (show Kd.M (Kd.int .u8) _ _ _ (half * 16 + v) [.int .u8 (half * 16 + v)] from rfl) (Reps.none _ _))); intro v3 w3 ho hb hg_ hnew_; clear hnew_; obtain ⟨A3, c3, rfl⟩ := Kd.R_slice ho; have HO3 := Lib.hid (Kd.R_reads' ho).2.2; have HB3 := Lib.hid hb; have HR3 := Lib.hid (Kd.R_grown2 HR2.out rfl hg_ (fun _ h => by cases h)); clear ho hb hg_)
            | ((with_reducible refine gate_builtin (b := .append) (xs := #[.tmp 24, .tmp 29]) rfl ?_); at_builtin; (refine Kd.R_append_rows (Kd.int .u8) (w0 := wr2) (w.heap.size + 1) rfl (.tmp 24) (.tmp 29) 23 5 (.int .u8 0) 1 rfl Tryz.underlying23 info5 rfl (by decide) (by omega) _ out [half * 16 + v] A3 _ c3 (fun _ => True) (fun _ => False) rfl rfl HR3.out HO3.out (fun _ _ h => h) (fun _ h => h.elim) (fun _ _ => trivial) HB3.out (Nat.le_trans HBl.out HB3.out.size) (by have := HSs.out; simp; omega) ?_; intro v4 w4 ho hb hg_ hnew_; clear hg_ hnew_; have HR4 := Lib.hid ho; have HI4 := Lib.hid (It_above HS.out hb); clear ho hb)))
          go_roundw
          case rel => exact ⟨p + 1, out ++ [half * 16 + v], v, false, by first | rfl | simp, by first | rfl | simp, by omega, by simp; omega, ⟨HV.out.1, HV.out.2.1⟩, HR4, HSn, by have := HI4.out; rw [HW1.out] at this; exact this⟩
          case measure => rw [HI4.out.pos, HPos.out]; have := HW.out; omega
    · have hnx := HI.done (P := Tryz.prog) hlt
      have hpe : p = s.size := by omega
      have HP := Lib.hid hpe
      have HB := Lib.hid HI.bw
      clear hpe
      go_wp2
      go_ret2
      refine ⟨?_, HB.out⟩
      have hg : plainG (bytesOf s) [] 0 false = some (out, !odd) := by
        have h := HA.out
        rw [HP.out, List.take_of_length_le (by rw [HL.out]; omega)] at h
        rw [plainG_S, h]
        rfl
      unfold PlainIs
      rw [hg]
      exact ⟨_, rfl, Kd.R_lower HR.out (Nat.le_succ _)⟩

theorem hexT_snoc : ∀ (b : List Int) (c : Int), hexT (b ++ [c]) = hexT b ++ [hexD (c / 16), hexD (c % 16)]
  | [], c => rfl
  | x :: b, c => by
    show hexD (x / 16) :: hexD (x % 16) :: hexT (b ++ [c]) = _
    rw [hexT_snoc b c]
    rfl
theorem digits_get (n : Int) (h0 : 0 ≤ n) (h1 : n < 16) : ∀ h, (((⟨#[48, 49, 50, 51, 52, 53, 54, 55, 56, 57, 97, 98, 99, 100, 101, 102]⟩ : ByteArray)[n.toNat]'h).toNat : Int) = hexD n := by
  have key : ∀ k : Nat, (h : k < 16) → (((⟨#[48, 49, 50, 51, 52, 53, 54, 55, 56, 57, 97, 98, 99, 100, 101, 102]⟩ : ByteArray)[k]'h).toNat : Int) = hexD (k : Int) := by decide
  intro h
  have := key n.toNat (by omega)
  rw [this, Int.toNat_of_nonneg h0]

set_option maxHeartbeats 2000000 in
set_option maxRecDepth 100000 in
theorem text_digits (A : Option Addr) (c : Nat) (l : List Int) (w : World) (hr : Kd.C (Kd.int .u8) w A l.length l) (hc : l.length ≤ c) (hl : l.length ≤ 1000000) (hi : IsB l) :
    Calls Tryz.prog 10 #[.slice A l.length c] w fun e w' => e = .returned (.string (strOfNums (hexT l))) ∧ Below w.heap.size w w' := by
  have HR := Lib.hid hr
  have HI := Lib.hid hi
  have HL := Lib.hid hl
  clear hr hi
  go_enter Tryz.func10, Tryz.ntmps10
  go_wp2
  go_loopw [3, 5, 8] (fun v _ i wr => ∃ k : Nat, k ≤ l.length ∧ i = .int .i64 k ∧ Hid (Kd.R (Kd.int .u8) 5 wr w.heap.size (fun _ => True) v (hexT (l.take k))) ∧ Hid (Below w.heap.size w wr)) (fun _ _ i _ => l.length - (intOf i).toNat)
  case atStart => exact ⟨0, by omega, rfl, Lib.hid (Kd.R_nil _ _ _ _ _), Lib.hid (Below.refl _ _)⟩
  case round =>
    obtain ⟨k, hk, rfl, HO, HB⟩ := hrel
    by_cases hlt : k < l.length
    · obtain ⟨ad, rfl, hx⟩ := Kd.at_int (Kd.C_below HR.out HB.out) (k : Int) (by omega) (by omega)
      rw [Int.toNat_natCast] at hx
      have hby := HI.out _ (rd_mem hlt)
      have HT := Lib.hid (show hexT (l.take (k + 1)) = hexT (l.take k) ++ [hexD (rd l (k : Int) / 16), hexD (rd l (k : Int) % 16)] by rw [rd_take_succ hlt, hexT_snoc])
      generalize rd l (k : Int) = x at hx hby HT
      have q : (k : Int) < (l.length : Int) := by omega
      have e1 : Go.bits .and .u8 x 15 = x % 16 := and15 hby.1 hby.2
      have q1 : 0 ≤ x / 16 := by omega
      have q2 : x / 16 < 16 := by omega
      have q3 : 0 ≤ x % 16 := by omega
      have q4 : x % 16 < 16 := by omega
      have g1 := digits_get (x / 16) q1 q2
      have g2 := digits_get (x % 16) q3 q4
      go_wp2
      refine start_ (n := 10) (S := fun w' => True) (ds := []) #[false, false, false, false, false, false, false, false, false, false] (by kernel_rfl) rfl rfl trivial (fun hHeld => ?_)
      have HB5 := Lib.hid HB.out.drew
      have HO5 := Lib.hid (Kd.R_drew HO.out)
      generalize wr.drew = w5 at HB5 HO5 hHeld ⊢
      refine pure_ (i := 0) (N := some 12) (v := ?_) (a' := ?_) #[true, false, false, false, false, false, false, false, false, false] rfl rfl (by kernel_rfl) (fun _ _ _ h => h) (Or.inl ⟨by rfl, ?_⟩) ?_ ?_
      rotate_left
      · intro w'
        go_simp
        with_reducible rfl
      rotate_left
      · simp only [Act.put, List.setIfInBounds_toArray, List.set_cons_zero, List.set_cons_succ, i64_w, i32_w]
        rfl
      refine pure_ (i := 1) (N := some 13) (v := ?_) (a' := ?_) #[true, true, false, false, false, false, false, false, false, false] rfl rfl (by kernel_rfl) (fun _ _ _ h => h) (Or.inl ⟨by rfl, ?_⟩) ?_ ?_
      rotate_left
      · intro w'
        go_simp
        with_reducible rfl
      rotate_left
      · simp only [Act.put, List.setIfInBounds_toArray, List.set_cons_zero, List.set_cons_succ, i64_w, i32_w]
        rfl
      refine pure_ (i := 2) (N := some 14) (v := ?_) (a' := ?_) #[true, true, true, false, false, false, false, false, false, false] rfl rfl (by kernel_rfl) (fun _ _ _ h => h) (Or.inl ⟨by rfl, ?_⟩) ?_ ?_
      rotate_left
      · intro w'
        go_simp
        with_reducible rfl
      rotate_left
      · simp only [Act.put, List.setIfInBounds_toArray, List.set_cons_zero, List.set_cons_succ, i64_w, i32_w]
        rfl
      refine pure_ (i := 4) (N := some 16) (v := ?_) (a' := ?_) #[true, true, true, false, true, false, false, false, false, false] rfl rfl (by kernel_rfl) (fun _ _ _ h => h) (Or.inl ⟨by rfl, ?_⟩) ?_ ?_
      rotate_left
      · intro w'
        go_simp
        with_reducible rfl
      rotate_left
      · simp only [Act.put, List.setIfInBounds_toArray, List.set_cons_zero, List.set_cons_succ, i64_w, i32_w]
        rfl
      refine pure_ (i := 5) (N := some 17) (v := ?_) (a' := ?_) #[true, true, true, false, true, true, false, false, false, false] rfl rfl (by kernel_rfl) (fun _ _ _ h => h) (Or.inl ⟨by rfl, ?_⟩) ?_ ?_
      rotate_left
      · intro w'
        go_simp
        with_reducible rfl
      rotate_left
      · simp only [Act.put, List.setIfInBounds_toArray, List.set_cons_zero, List.set_cons_succ, i64_w, i32_w]
        rfl
      refine take_ (i := 3) (N := some 15) (v := ?_) (a' := ?_) #[true, true, true, true, true, true, false, false, false, false] rfl rfl (by kernel_rfl) (fun _ _ _ h => h) (Or.inl ⟨by rfl, ?_⟩) hHeld ?_ ?_
      rotate_left
      · intro w' _
        go_simp
        with_reducible rfl
      rotate_left
      · simp only [Act.put, List.setIfInBounds_toArray, List.set_cons_zero, List.set_cons_succ, i64_w, i32_w]
        rfl
      refine take_ (i := 6) (N := some 18) (v := ?_) (a' := ?_) #[true, true, true, true, true, true, true, false, false, false] rfl rfl (by kernel_rfl) (fun _ _ _ h => h) (Or.inl ⟨by rfl, ?_⟩) hHeld ?_ ?_
      rotate_left
      · intro w' _
        go_simp
        with_reducible rfl
      rotate_left
      · simp only [Act.put, List.setIfInBounds_toArray, List.set_cons_zero, List.set_cons_succ, i64_w, i32_w]
        rfl
      refine one_ (i := 7) (N := some 19) #[true, true, true, true, true, true, true, true, false, false] rfl rfl (by kernel_rfl) (by decide) (fun K hK => ?_)
      refine Kd.R_lit_step (Kd.int .u8) (w0 := w5) w5.heap.size 5 (by rfl) (N := 19) (by rfl) (xs := [hexD (x / 16), hexD (x % 16)]) (inner := [.int .u8 (hexD (x / 16)), .int .u8 (hexD (x % 16))]) (ok := fun _ => True) (okp := fun _ => True) (by first | (go_simp; done) | (go_simp; rfl)) (Reps.one (show Kd.M (Kd.int .u8) _ _ _ (hexD (x / 16)) [.int .u8 (hexD (x / 16))] from rfl) (Reps.one (show Kd.M (Kd.int .u8) _ _ _ (hexD (x % 16)) [.int .u8 (hexD (x % 16))] from rfl) (Reps.none _ _))) (fun _ hk => hk) trivial (Below.refl _ _) (Nat.le_refl _) (by simp) ?_
      intro v6 w6 ho hb hg_ hnew_
      obtain ⟨A6, c6, rfl⟩ := Kd.R_slice ho
      have HO6 := Lib.hid (Kd.R_reads' ho).2.2
      have HB6 := Lib.hid (below_step HB5.out hb)
      have HR6 := Lib.hid (Kd.R_grown2 HO5.out rfl hg_ (fun _ h => by cases h))
      clear ho hb hg_ hnew_
      refine hK.out _ _ trivial (fun hHeld => ?_)
      clear hK K
      refine norm_ (a' := ?_) ?_ ?_
      rotate_left
      · show Act.put _ (some 19) _ = _
        simp only [Act.put, List.setIfInBounds_toArray, List.set_cons_zero, List.set_cons_succ, i64_w, i32_w]
        rfl
      refine one_ (i := 8) (N := some 20) #[true, true, true, true, true, true, true, true, true, false] rfl rfl (by kernel_rfl) (by decide) (fun K hK => ?_)
      refine Kd.R_append_rows_step (Kd.int .u8) (w0 := w) w.heap.size (by rfl) (.tmp 12) (.tmp 19) 23 5 (.int .u8 0) 1 (by rfl) Tryz.underlying23 info5 rfl (by decide) (by omega) _ (hexT (l.take k)) [hexD (x / 16), hexD (x % 16)] A6 _ c6 (fun _ => True) (fun _ => False) (by rfl) (by rfl) HR6.out HO6.out (fun _ _ h => h) (fun _ h => h.elim) (fun _ _ => trivial) HB6.out HB6.out.size (by rw [hexT_len, List.length_take]; simp; omega) ?_
      intro v7 w7 ho hb hg_ hnew_
      rw [← HT.out] at ho
      have HR7 := Lib.hid ho
      have HB7 := Lib.hid hb
      clear ho hb hg_ hnew_
      refine hK.out _ _ trivial (fun hHeld => ?_)
      clear hK K
      refine norm_ (a' := ?_) ?_ ?_
      rotate_left
      · show Act.put _ (some 20) _ = _
        simp only [Act.put, List.setIfInBounds_toArray, List.set_cons_zero, List.set_cons_succ, i64_w, i32_w]
        rfl
      refine pure_ (i := 9) (N := some 3) (v := ?_) (a' := ?_) #[true, true, true, true, true, true, true, true, true, true] rfl rfl (by kernel_rfl) (fun _ _ _ h => h) (Or.inl ⟨by rfl, ?_⟩) ?_ ?_
      rotate_left
      · intro w'
        go_simp
        with_reducible rfl
      rotate_left
      · simp only [Act.put, List.setIfInBounds_toArray, List.set_cons_zero, List.set_cons_succ, i64_w, i32_w]
        rfl
      refine done_ (by kernel_rfl) ?_
      go_wp2
      go_roundw
      case rel => exact ⟨k + 1, by omega, by go_num, HR7, HB7⟩
      case measure => simp [intOf]; omega
    · have hk2 : k = l.length := by omega
      subst hk2
      have HO2 := Lib.hid (show Kd.R (Kd.int .u8) 5 wr w.heap.size (fun _ => True) u3 (hexT l) by have := HO.out; rwa [List.take_length] at this)
      obtain ⟨A7, c7, rfl⟩ := Kd.R_slice HO2.out
      have hcv := Kd.C_string (P := Tryz.prog) (c := c7) Tryz.underlying23 Tryz.underlying5 Tryz.underlying9 (Kd.R_reads' HO2.out).2.2
      clear HO
      go_wp2
      go_ret
      exact ⟨rfl, HB.out⟩

end Go.Proofs.YtcgpbcpgopmfcaaGreatDoor.Tok
