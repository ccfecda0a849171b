/- KeyReads: any bytes are a span's key, or none; their tail is their last sixteen. The law's guard: 300 bytes. -/
import Derived.Test.YtenmjbcedadcbaaExtAwake18
import Derived.Test.YtenmjbcedadcbaaPKrx1
import Derived.Test.YtenmjbcedadcbaaPKrx2
namespace Go.Proofs.Ytenmjbcedadcbaa.Pure
open Go.RowKit Go.Proofs.Ytenmjbcedadcbaa.PAll Go.Proofs.Ytenmjbcedadcbaa.PKr Go.Proofs.YtenmjbcedadcbaaW.PrintWords Go.Proofs.YtenmjbcedadcbaaW.PrintLast Go.Proofs.YtenmjbcedadcbaaW.PrintMore Go.Proofs.Ytenmjbcedadcbaa.Math
set_option linter.unusedVariables false

theorem same_l0 (a b : List Int) (hab : a.length = b.length) (hn : a.length ≤ 140737488355328) (d : Nat) : ∀ (k i : Nat), i ≤ a.length → a.length - i = d → d < k →
    cambiumref01_Same.l0 k a b (i : Int) = some (decide (a.drop i = b.drop i)) := by
  induction d with
  | zero =>
    intro k i h1 hd hk
    obtain ⟨k, rfl⟩ : ∃ m, k = m + 1 := ⟨k - 1, by omega⟩
    simp only [cambiumref01_Same.l0]
    rw [if_neg (by omega)]
    have : i = a.length := by omega
    subst this
    rw [List.drop_length, hab, List.drop_length]; simp
  | succ d ih =>
    intro k i h1 hd hk
    obtain ⟨k, rfl⟩ : ∃ m, k = m + 1 := ⟨k - 1, by omega⟩
    simp only [cambiumref01_Same.l0]
    rw [if_pos (by omega), if_pos (by omega), if_pos (by omega)]
    rw [rd_drop (l := a) (i := i) (by omega), rd_drop (l := b) (i := i) (by omega)]
    by_cases e : rd a (i : Int) = rd b (i : Int)
    · rw [if_pos e, wrap_id (by omega) (by omega)]
      have := ih k (i + 1) (by omega) (by omega) (by omega)
      rw [show (i : Int) + 1 = ((i + 1 : Nat) : Int) from rfl, this, e]
      simp
    · rw [if_neg e]
      simp [e]

/-- Same: whether two rows are one. -/
theorem same_eq (k : Nat) (a b : List Int) (hn : a.length ≤ 140737488355328) (hk : a.length < k) : cambiumref01_Same.f k a b = some (decide (a = b)) := by
  unfold cambiumref01_Same.f
  by_cases h : a.length = b.length
  · rw [if_pos (by omega)]
    have := same_l0 a b h hn a.length k 0 (by omega) (by omega) hk
    simpa using this
  · rw [if_neg (by omega)]
    have : ¬ a = b := fun e => h (by rw [e])
    simp [this]

/-- A number's eight bytes, the greatest first. -/
def key8 (v : Int) : List Int := [v / 72057594037927936 % 256, v / 281474976710656 % 256, v / 1099511627776 % 256, v / 4294967296 % 256, v / 16777216 % 256, v / 65536 % 256, v / 256 % 256, v % 256]
theorem key8_len (v : Int) : (key8 v).length = 8 := rfl
theorem key8_isB (v : Int) : IsB (key8 v) := by
  intro x hx
  simp only [key8, List.mem_cons, List.not_mem_nil, or_false] at hx
  omega
theorem vbig_key8 {v : Int} (h0 : 0 ≤ v) (h1 : v < 18446744073709551616) : vbig (key8 v) = v := by
  simp only [vbig, key8, List.foldl_cons, List.foldl_nil]
  omega

theorem vbig_cons_inj : ∀ {a b : List Int}, a.length = b.length → IsB a → IsB b → vbig a = vbig b → a = b := by
  intro a
  induction a using snoc_ind with
  | h0 => intro b hl _ _ _; cases b with | nil => rfl | cons _ _ => simp at hl
  | h1 a x ih =>
    intro b hl ha hb h
    induction b using snoc_ind with
    | h0 => simp at hl
    | h1 b y _ =>
      rw [vbig_snoc, vbig_snoc] at h
      have hx := ha x (by simp)
      have hy := hb y (by simp)
      have := ih (b := b) (by simpa using hl) (fun z hz => ha z (List.mem_append_left _ hz)) (fun z hz => hb z (List.mem_append_left _ hz)) (by omega)
      rw [this, show x = y by omega]

/-- Eight bytes are those of what they come to. -/
theorem key8_vbig {l : List Int} (hl : l.length = 8) (hb : IsB l) : key8 (vbig l) = l := by
  have h0 := vbig_nonneg hb
  have h1 := vbig_lt hb
  rw [hl] at h1
  exact vbig_cons_inj (by rw [hl]; rfl) (key8_isB _) hb (vbig_key8 h0 (by omega))

theorem rkey_step (k : Nat) (v : Int) (acc : List Int) (i : Nat) (h0 : 0 ≤ v) (h1 : v < 18446744073709551616) (hi : i < 8) (ha : acc.length ≤ 8) :
    cambiumref01_Key.l0 (k + 1) v acc (i : Int) = cambiumref01_Key.l0 k (v / 256) ((v % 256) :: acc) ((i + 1 : Nat) : Int) := by
  have e1 : Int.tmod v 256 % 256 = v % 256 := by rw [Int.tmod_eq_emod_of_nonneg h0]; omega
  have e2 : IntKind.u64.wrap (Int.tdiv v 256) = v / 256 := by rw [IntKind.wrap_u64, Int.tdiv_eq_ediv_of_nonneg h0]; omega
  rw [cambiumref01_Key.l0, if_pos (by omega), Option.bind_some, if_pos (by simp; omega), e1, e2]
  clear e1 e2
  rw [wrap_id (x := (i : Int) + 1) (by omega) (by omega)]; rfl

theorem rkey_eq (k : Nat) (v : Int) (h0 : 0 ≤ v) (h1 : v < 18446744073709551616) (hk : 9 ≤ k) : cambiumref01_Key.f k v = some (key8 v) := by
  obtain ⟨k, rfl⟩ : ∃ m, k = m + 9 := ⟨k - 9, by omega⟩
  unfold cambiumref01_Key.f
  show cambiumref01_Key.l0 (k + 9) v [] ((0 : Nat) : Int) = _
  rw [rkey_step _ _ _ 0 (by omega) (by omega) (by omega) (by simp), rkey_step _ _ _ 1 (by omega) (by omega) (by omega) (by simp), rkey_step _ _ _ 2 (by omega) (by omega) (by omega) (by simp), rkey_step _ _ _ 3 (by omega) (by omega) (by omega) (by simp), rkey_step _ _ _ 4 (by omega) (by omega) (by omega) (by simp), rkey_step _ _ _ 5 (by omega) (by omega) (by omega) (by simp), rkey_step _ _ _ 6 (by omega) (by omega) (by omega) (by simp), rkey_step _ _ _ 7 (by omega) (by omega) (by omega) (by simp), cambiumref01_Key.l0, if_neg (by omega)]
  unfold key8
  congr 1
  simp only [List.cons.injEq, and_true]
  omega


theorem unkey_eq {l : List Int} (hl : l.length = 8) (hb : IsB l) : num_Unkey.f l = some (vbig l, true) := by
  unfold num_Unkey.f; rw [if_pos hl, if_pos hb]

theorem rprim_eq (k : Nat) (x y : Int) (h0 : 0 ≤ x) (h1 : x < 18446744073709551616) (g0 : 0 ≤ y) (g1 : y < 18446744073709551616) (hk : 9 ≤ k) (s o : ByteArray) (p st d : Int) (l8 : List PKr.S51) (l9 : List PKr.S53) (l10 : List PKr.S58) :
    cambiumref18_Primary.f k x y p s o st d 0 l8 l9 l10 = some (key8 x ++ key8 y) := by
  unfold cambiumref18_Primary.f
  rw [Option.bind_some, rkey_eq k x h0 h1 hk, Option.bind_some, if_pos (by simp [key8]), Option.bind_some, rkey_eq k y g0 g1 hk, Option.bind_some, if_pos (by simp [key8])]
  rfl

theorem KeyReads : cambiumlaw18_KeyReads.Pure := by
  intro l _ _ hw
  have hb := isB_of_wf hw
  refine ⟨400, ?_⟩
  unfold cambiumlaw18_KeyReads.f
  rw [show cambiumlaw18_awake.f = some true from rfl, Option.bind_some, if_pos rfl]
  by_cases c0 : (l.length : Int) > 300
  · rw [if_pos c0]
  rw [if_neg c0]
  by_cases c1 : (l.length : Int) < 16
  · have e1 : key_FromPrimary.f l = some (0, 0, false) := by unfold key_FromPrimary.f; rw [if_neg (by omega)]
    have e2 : key_Tail.f l = some [] := by unfold key_Tail.f; rw [if_pos c1]
    rw [e1, Option.bind_some, e2, Option.bind_some, if_pos c1, if_neg (by simp), if_pos rfl, if_pos rfl]
    rfl
  have hw2 := wrap_id (x := (l.length : Int) - 16) (by omega) (by omega)
  have hn : ((l.length : Int) - 16).toNat = l.length - 16 := by omega
  have e2 : key_Tail.f l = some (l.drop (l.length - 16)) := by
    unfold key_Tail.f
    rw [if_neg c1, hw2, hn, if_pos (by omega), if_pos (by omega)]
    unfold bytes_Clone.f
    rw [if_pos (by rw [List.length_drop]; omega)]; rfl
  by_cases c2 : l.length = 16
  · have h1 : (l.take 8).length = 8 := by rw [List.length_take]; omega
    have h2 : (l.drop 8).length = 8 := by rw [List.length_drop]; omega
    have b1 := isB_take hb 8
    have b2 := isB_drop hb 8
    have e1 : key_FromPrimary.f l = some (vbig (l.take 8), vbig (l.drop 8), true) := by
      unfold key_FromPrimary.f
      rw [if_pos (by omega), if_pos (by omega), unkey_eq h1 b1, Option.bind_some, unkey_eq h2 b2, Option.bind_some]
    have n1 := vbig_nonneg b1; have n2 := vbig_nonneg b2
    have m1 := vbig_lt b1; have m2 := vbig_lt b2
    rw [h1] at m1; rw [h2] at m2
    rw [e1, Option.bind_some, e2, Option.bind_some, if_neg c1, hw2, hn, if_pos (by omega), if_pos (by omega), same_eq 400 _ _ (by rw [List.length_drop]; omega) (by rw [List.length_drop]; omega), Option.bind_some, if_pos (by simp)]
    dsimp only
    rw [show (true != ((l.length : Int) == 16)) = false by rw [show ((l.length : Int) == 16) = true by rw [beq_iff_eq]; omega]; rfl]
    show cambiumlaw18_KeyReads.j0 (399 + 1) l (vbig (l.take 8)) (vbig (l.drop 8)) true false = _
    rw [cambiumlaw18_KeyReads.j0, if_neg (by simp), if_pos rfl, rprim_eq 399 _ _ n1 (by omega) n2 (by omega) (by omega), Option.bind_some, key8_vbig h1 b1, key8_vbig h2 b2, List.take_append_drop, same_eq 399 l l (by omega) (by omega), Option.bind_some]
    simp
  · have e1 : key_FromPrimary.f l = some (0, 0, false) := by unfold key_FromPrimary.f; rw [if_neg (by omega)]
    rw [e1, Option.bind_some, e2, Option.bind_some, if_neg c1, hw2, hn, if_pos (by omega), if_pos (by omega), same_eq 400 _ _ (by rw [List.length_drop]; omega) (by rw [List.length_drop]; omega), Option.bind_some, if_pos (by simp)]
    dsimp only
    rw [show (false != ((l.length : Int) == 16)) = false by rw [show ((l.length : Int) == 16) = false by rw [beq_eq_false_iff_ne]; omega]; rfl]
    show cambiumlaw18_KeyReads.j0 (399 + 1) l 0 0 false false = _
    rw [cambiumlaw18_KeyReads.j0, if_neg (by simp), if_neg (by simp), if_pos rfl, if_pos rfl]

end Go.Proofs.Ytenmjbcedadcbaa.Pure
