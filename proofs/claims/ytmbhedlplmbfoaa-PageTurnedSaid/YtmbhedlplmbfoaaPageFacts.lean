/- What the reference's page, printed, comes to; a torn page. -/
import Derived.Test.YtmbhedlplmbfoaaSame
import Derived.Test.YtmbhedlplmbfoaaCrcFacts
import Derived.Test.YtmbhedlplmbfoaaExtAwake04
import Derived.Test.YtmbhedlplmbfoaaPAllx3
namespace Go.Proofs.Ytmbhedlplmbfoaa.PageFacts
open Go.RowKit Go.Proofs.Ytmbhedlplmbfoaa.PAll Go.Proofs.YtmbhedlplmbfoaaW.PrintWords Go.Proofs.YtmbhedlplmbfoaaW.PrintLast Go.Proofs.YtmbhedlplmbfoaaW.PrintMore Go.Proofs.Ytmbhedlplmbfoaa.Math Go.Proofs.Ytmbhedlplmbfoaa.Same Go.Proofs.Ytmbhedlplmbfoaa.CrcFacts

theorem rkey_step (k : Nat) (v : Int) (acc : List Int) (i : Nat) (h0 : 0 ≤ v) (h1 : v < 18446744073709551616) (hi : i < 8) (ha : acc.length ≤ 8) :
    cambiumref01_Key.l0 (k + 1) v acc (i : Int) = cambiumref01_Key.l0 k (v / 256) ((v % 256) :: acc) ((i + 1 : Nat) : Int) := by
  have e1 : Int.tmod v 256 % 256 = v % 256 := by rw [Int.tmod_eq_emod_of_nonneg h0]; omega
  have e2 : IntKind.u64.wrap (Int.tdiv v 256) = v / 256 := by rw [IntKind.wrap_u64, Int.tdiv_eq_ediv_of_nonneg h0]; omega
  rw [cambiumref01_Key.l0, if_pos (by omega), Option.bind_some, if_pos (by simp; omega), e1, e2]
  clear e1 e2
  rw [wrap_id (x := (i : Int) + 1) (by omega) (by omega)]; rfl

theorem rkey_eq (k : Nat) (v : Int) (h0 : 0 ≤ v) (h1 : v < 18446744073709551616) (hk : 9 ≤ k) : cambiumref01_Key.f k v = some (be8 v) := by
  obtain ⟨k, rfl⟩ : ∃ m, k = m + 9 := ⟨k - 9, by omega⟩
  unfold cambiumref01_Key.f
  show cambiumref01_Key.l0 (k + 9) v [] ((0 : Nat) : Int) = _
  rw [rkey_step _ _ _ 0 (by omega) (by omega) (by omega) (by simp), rkey_step _ _ _ 1 (by omega) (by omega) (by omega) (by simp), rkey_step _ _ _ 2 (by omega) (by omega) (by omega) (by simp), rkey_step _ _ _ 3 (by omega) (by omega) (by omega) (by simp), rkey_step _ _ _ 4 (by omega) (by omega) (by omega) (by simp), rkey_step _ _ _ 5 (by omega) (by omega) (by omega) (by simp), rkey_step _ _ _ 6 (by omega) (by omega) (by omega) (by simp), rkey_step _ _ _ 7 (by omega) (by omega) (by omega) (by simp), cambiumref01_Key.l0, if_neg (by omega)]
  unfold be8
  congr 1
  simp only [List.cons.injEq, and_true]
  omega


theorem four_eq (k : Nat) (v : Int) (h0 : 0 ≤ v) (h1 : v < 4294967296) (hk : 9 ≤ k) : cambiumref04_four.f k v = some (be4 v) := by
  unfold cambiumref04_four.f
  have e : IntKind.u64.wrap v = v := by rw [IntKind.wrap_u64]; omega
  rw [e, rkey_eq k _ h0 (by omega) hk, Option.bind_some, if_pos (by simp [be8])]
  rfl

theorem rframe_end (k : Nat) (no : Int) (m : List Int) (hb : IsB m) (hl : m.length = 1016) (h0 : 0 ≤ no) (h1 : no ≤ 2147483647) (hk : 11000 ≤ k) :
    cambiumref04_Frame.l0 (k + 1) no m = some (m ++ be4 no ++ be4 (crcSum (m ++ be4 no)), 0) := by
  have hs := crcMore_bounds 0 (m ++ be4 no)
  have hyl : (m ++ be4 no).length = 1020 := by rw [List.length_append, hl]; rfl
  have hyb := isB_append hb (be4_isB no)
  unfold cambiumref04_Frame.l0
  rw [if_neg (by omega), show no % 4294967296 = no by omega, four_eq k no h0 (by omega) (by omega), Option.bind_some, if_pos (by simp [be4]; omega), Option.bind_some,
    rsum_eq k _ hyb (by omega) (by omega), Option.bind_some, four_eq k (crcSum (m ++ be4 no)) hs.1 hs.2 (by omega), Option.bind_some, if_pos (by rw [hyl]; simp [be4])]

theorem rframe_l0 (no : Int) (h0 : 0 ≤ no) (h1 : no ≤ 2147483647) (d : Nat) : ∀ (k : Nat) (l : List Int), IsB l → l.length + d = 1016 → 11001 + d ≤ k →
    cambiumref04_Frame.l0 k no l = some (l ++ List.replicate d 0 ++ be4 no ++ be4 (crcSum (l ++ List.replicate d 0 ++ be4 no)), 0) := by
  induction d with
  | zero =>
    intro k l hb hl hk
    obtain ⟨k, rfl⟩ : ∃ m, k = m + 1 := ⟨k - 1, by omega⟩
    rw [rframe_end k no l hb (by omega) h0 h1 (by omega)]
    simp
  | succ d ih =>
    intro k l hb hl hk
    obtain ⟨k, rfl⟩ : ∃ m, k = m + 1 := ⟨k - 1, by omega⟩
    unfold cambiumref04_Frame.l0
    rw [if_pos (by omega), if_pos (by omega), ih k (l ++ [0]) (isB_append hb (by intro x hx; simp at hx; omega)) (by simp; omega) (by omega)]
    have e : l ++ [0] ++ List.replicate d 0 = l ++ List.replicate (d + 1) 0 := by rw [List.append_assoc, List.replicate_succ]; rfl
    rw [e]

theorem rframe_eq (k : Nat) (no : Int) (l : List Int) (hb : IsB l) (h0 : 0 ≤ no) (h1 : no ≤ 2147483647) (hl : l.length ≤ 1016) (hk : 13000 ≤ k) : cambiumref04_Frame.f k no l = some (pageOf no l, 0) := by
  obtain ⟨k, rfl⟩ : ∃ m, k = m + 1 := ⟨k - 1, by omega⟩
  unfold cambiumref04_Frame.f
  rw [if_neg (by omega), if_neg (by omega), show decide ((l.length : Int) > 1016) = false from decide_eq_false (by omega), cambiumref04_Frame.j0, if_neg (by simp), Option.bind_some, if_pos (by simp; omega), List.nil_append,
    rframe_l0 no h0 h1 (1016 - l.length) k l hb (by omega) (by omega)]
  rfl

theorem rframe_bad (k : Nat) (no : Int) (l : List Int) (h : no < 0 ∨ 2147483647 < no ∨ 1016 < l.length) (hk : 1 ≤ k) : cambiumref04_Frame.f k no l = some ([], 1) := by
  obtain ⟨k, rfl⟩ : ∃ m, k = m + 1 := ⟨k - 1, by omega⟩
  have hj : ∀ b, b = true → cambiumref04_Frame.j0 (k + 1) no l b = some ([], 1) := by intro b hb; subst hb; rw [cambiumref04_Frame.j0, if_pos rfl]
  unfold cambiumref04_Frame.f
  by_cases c1 : no < 0
  · rw [if_pos c1]; exact hj _ rfl
  · rw [if_neg c1]
    by_cases c2 : no > 2147483647
    · rw [if_pos c2]; exact hj _ rfl
    · rw [if_neg c2]; exact hj _ (decide_eq_true (by omega))

theorem frame_good {no : Int} {l : List Int} (hb : IsB l) (h0 : 0 ≤ no) (h1 : no ≤ 2147483647) (hl : l.length ≤ 1016) : page_Frame.f no l = some (pageOf no l, 0) := by
  unfold page_Frame.f; rw [if_neg (by omega), if_pos hb]
theorem frame_bad {no : Int} {l : List Int} (h : no < 0 ∨ 2147483647 < no ∨ 1016 < l.length) : page_Frame.f no l = some ([], 1) := by
  unfold page_Frame.f; rw [if_pos h]

/-- A torn page of 1024 bytes. -/
theorem torn_len {l : List Int} (hl : l.length = 1024) : (torn l).length = 1024 := by
  unfold torn; rw [if_neg (by intro h; rw [h] at hl; simp at hl), List.length_set, hl]
theorem torn_isB {l : List Int} (hb : IsB l) (hl : l.length = 1024) : IsB (torn l) := by
  have hr := rd_isB hb (l.length - 1)
  unfold torn
  rw [if_neg (by intro h; rw [h] at hl; simp at hl)]
  intro x hx
  rcases List.mem_or_eq_of_mem_set hx with h | h
  · exact hb x h
  · omega
theorem torn_cuts {a b c d : Int} {p : List Int} (hp : p.length = 1020) : torn (p ++ [a, b, c, d]) = p ++ [a, b, c, 255 - d] := by
  have hl : (p ++ [a, b, c, d]).length = 1024 := by rw [List.length_append, hp]; rfl
  unfold torn
  rw [if_neg (by intro h; rw [h] at hl; simp at hl), hl]
  have e : rd (p ++ [a, b, c, d]) ((1024 - 1 : Nat) : Int) = d := by
    simp [rd, List.getD_eq_getElem?_getD, hp]
  rw [e, List.set_append_right _ _ (by omega), hp]
  rfl

theorem torn_shut {no other : Int} {l : List Int} (hl : l.length ≤ 1016) (_ : IsB l) : ¬ opens other (torn (pageOf no l)) := by
  have h1 := body_len (no := no) hl
  have hs := crcMore_bounds 0 (body no l)
  intro h
  have e : torn (pageOf no l) = body no l ++ [crcSum (body no l) / 16777216 % 256, crcSum (body no l) / 65536 % 256, crcSum (body no l) / 256 % 256, 255 - crcSum (body no l) % 256] := torn_cuts h1
  have h2 := h.1
  rw [e, List.drop_append, h1, List.drop_of_length_le (by omega), List.take_append_of_le_length (by omega), List.take_of_length_le (by omega)] at h2
  change vbig [crcSum (body no l) / 16777216 % 256, crcSum (body no l) / 65536 % 256, crcSum (body no l) / 256 % 256, 255 - crcSum (body no l) % 256] = _ at h2
  change 0 ≤ crcSum (body no l) ∧ crcSum (body no l) < 4294967296 at hs
  generalize crcSum (body no l) = s at hs h2
  simp only [vbig, List.foldl_cons, List.foldl_nil] at h2
  omega

end Go.Proofs.Ytmbhedlplmbfoaa.PageFacts
