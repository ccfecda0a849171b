/- What the laws of chapter 5 ask ahead of all: awake. And the disk's contracts as the laws use them. -/
import Derived.Test.YtblacdnndchghaaDiskNew
import Derived.Test.YtblacdnndchghaaPAllx1
namespace Go.Proofs.Ytblacdnndchghaa.D
open Go.RowKit Go.Proofs.YtblacdnndchghaaW.PrintWords Go.Proofs.YtblacdnndchghaaW.PrintLast Go.Proofs.YtblacdnndchghaaW.PrintMore Go.Proofs.Ytblacdnndchghaa.Math Go.Proofs.Ytblacdnndchghaa.PAll
open Go.ChangeMaps (setBlock)
set_option linter.unusedVariables false
set_option linter.unusedSimpArgs false

/-- A page filled with a byte. -/
def fpage (x : Int) : List Int := List.replicate 1024 x
theorem fpage_len (x : Int) : (fpage x).length = 1024 := by unfold fpage; rw [List.length_replicate]
theorem fpage_isB {x : Int} (h0 : 0 ≤ x) (h1 : x < 256) : IsB (fpage x) := by
  intro y hy
  have := List.eq_of_mem_replicate hy
  omega
theorem fpage_rd (x : Int) (i : Nat) (hi : i < 1024) : rd (fpage x) (i : Int) = x := List.eq_of_mem_replicate (rd_mem (l := fpage x) (k := i) (by rw [fpage_len]; exact hi))
theorem filled_l0 (x : Int) : ∀ (d i k : Nat), i + d = 1024 → d < k → cambiumlaw05_Filled.l0 k x (List.replicate i x ++ List.replicate d 0) (i : Int) = some (fpage x) := by
  intro d
  induction d with
  | zero =>
    intro i k hi hk
    obtain ⟨k, rfl⟩ : ∃ m, k = m + 1 := ⟨k - 1, by omega⟩
    have h : i = 1024 := by omega
    rw [cambiumlaw05_Filled.l0, if_neg (by omega), List.replicate_zero, List.append_nil, h]
    rfl
  | succ d ih =>
    intro i k hi hk
    obtain ⟨k, rfl⟩ : ∃ m, k = m + 1 := ⟨k - 1, by omega⟩
    have hw : wrap64 ((i : Int) + 1) = ((i + 1 : Nat) : Int) := by unfold wrap64; omega
    have hs : (List.replicate i x ++ List.replicate (d + 1) 0).set i x = List.replicate (i + 1) x ++ List.replicate d 0 := by
      rw [List.set_append_right _ _ (by rw [List.length_replicate]; omega), List.length_replicate, Nat.sub_self, List.replicate_succ, List.set_cons_zero, List.replicate_succ', List.append_assoc]
      rfl
    rw [cambiumlaw05_Filled.l0, if_pos (by omega), if_pos (by omega), if_pos (by rw [List.length_append, List.length_replicate, List.length_replicate]; omega), hw, Int.toNat_natCast, hs]
    exact ih (i + 1) k (by omega) (by omega)
theorem filled_f (x : Int) : cambiumlaw05_Filled.f 2000 x = some (fpage x) := by
  unfold cambiumlaw05_Filled.f
  rw [if_pos (by decide)]
  exact filled_l0 x 1024 0 2000 (by omega) (by omega)

/-- A row of bytes of the call's own, wherever it lies. -/
def Rw (w : World) (v : Value) (b : List Int) : Prop := w.ownsRow 0 5 1 v b.length (nums .u8 b)
theorem Rw.of_R {w : World} {N : Nat} {ok : Nat → Prop} {v : Value} {b : List Int} (h : Kd.R (Kd.int .u8) 5 w N ok v b) : Rw w v b := own_weaken (Kd.own_of_R h) (Nat.zero_le _)
theorem Rw.reads {w : World} {v : Value} {b : List Int} (h : Rw w v b) : ∃ A c, v = .slice A b.length c ∧ b.length ≤ c ∧ Kd.C (Kd.int .u8) w A b.length b := by
  obtain ⟨A, c, rfl, hr⟩ := own_reads h
  exact ⟨A, c, rfl, own_le h, Kd.C_of_reads (d := (0 : Int)) hr⟩
theorem Rw.at_ {w : World} {v : Value} {b : List Int} (h : Rw w v b) (hp : 0 < b.length) : ∃ g c, v = .slice (some ⟨g, 0, none⟩) b.length c ∧ b.length ≤ c ∧ ∀ i, i < b.length → w.cell? ⟨g, i, none⟩ = some (.int .u8 (rd b (i : Int))) := by
  obtain ⟨g, c, hv, hc, _, hcell⟩ := own_at h hp
  refine ⟨g, c, hv, hc, fun i hi => hcell i _ ?_⟩
  unfold nums
  rw [List.getElem?_map, List.getElem?_eq_getElem hi]
  simp [rd, List.getElem?_eq_getElem hi]
theorem Rw.turn {O : Nat → Prop} {w w1 : World} {v : Value} {b : List Int} (h : Rw w v b) (ht : Turn O w w1) (hn : ∀ k c, w.heap[k]? = some (.cells c 5 (0, 0)) → ¬ O k) : Rw w1 v b :=
  own_turn ht h fun k hk => by obtain ⟨_, c, hc⟩ := own_block h hk; exact hn k c hc
theorem Rw.below {w w1 : World} {v : Value} {b : List Int} (h : Rw w v b) (hb : Below w.heap.size w w1) : Rw w1 v b := h.turn (O := fun _ => False) (Turn.of_below hb) (fun _ _ _ h => h)
theorem filled_calls (x : Int) (w : World) : Calls Try.prog 13 #[.int .u8 x] w fun e w' => ∃ v, e = .returned v ∧ Rw w' v (fpage x) ∧ Below w.heap.size w w' := by
  refine (cambiumlaw05_Filled.calls 2000 x (fpage x) w (filled_f x)).mono ?_
  rintro e w' ⟨v, rfl, h, hb⟩
  exact ⟨v, rfl, Rw.of_R h, hb⟩

/-- A disk of the law's own. -/
structure LD (W w : World) (p gm : Nat) (vS vW : Value) (s : St) : Prop where
  d : DSt w W.heap.size p gm vS vW s
  below : Below W.heap.size W w
theorem LD.next {W w w1 : World} {p gm : Nat} {vS vW : Value} {s : St} (h : LD W w p gm vS vW s) (hb : Below w.heap.size w w1) : LD W w1 p gm vS vW s := ⟨h.d.below hb, below_step h.below hb⟩
/-- Its blocks are new. -/
theorem DSt.fresh_ {w : World} {B p gm : Nat} {vS vW : Value} {s : St} (h : DSt w B p gm vS vW s) : ∀ k, DO p gm vS vW k → B ≤ k := by
  obtain ⟨Sl, Wl, es, clk, e1, e2, hr, hm, hok⟩ := h.body
  rintro k (rfl | rfl | e | e)
  · exact h.pb.1
  · exact h.pb.2
  · exact (own_block hr.s e).1
  · exact (own_block hr.w_ e).1
theorem RSt.fresh_ {w : World} {B p : Nat} {vS vW : Value} {s : St} (h : RSt w B p vS vW s) : ∀ k, RO p vS vW k → B ≤ k := by
  obtain ⟨Sl, Wl, e1, e2, hr⟩ := h.body
  rintro k (rfl | e | e)
  · exact h.pb
  · exact (own_block hr.s e).1
  · exact (own_block hr.w_ e).1
theorem LD.turned {W w w1 : World} {p gm : Nat} {vS vW vW' : Value} {s s' : St} (h : LD W w p gm vS vW s) (hd : DSt w1 W.heap.size p gm vS vW' s') (ht : Turn (DO p gm vS vW) w w1) : LD W w1 p gm vS vW' s' := ⟨hd, below_turn h.below ht h.d.fresh_⟩
theorem LD.new_ (W w : World) (hb : Below W.heap.size W w) (n : Int) : Calls Try.prog 10 #[.int .i64 n] w fun e w' => ∃ p, e = .returned (.pointer (some ⟨p, 0, none⟩)) ∧ ∃ gm vS, LD W w' p gm vS nilS (fresh (npages n)) := by
  refine (new_calls w n).mono ?_
  rintro e w' ⟨rfl, vS, hd, hb'⟩
  have hd' : DSt w' W.heap.size (w.heap.size + 1) w.heap.size vS nilS (fresh (npages n)) := by
    obtain ⟨Sl, Wl, es, clk, e1, e2, hr, hm, hok⟩ := hd.body
    have hs := hb.size
    have hpw : ∀ {v : Value} {b : List Int}, Pg w' w.heap.size v b → Pg w' W.heap.size v b := fun h => ⟨h.1, h.2.1, own_weaken h.2.2 hs⟩
    exact ⟨hd.blk, ⟨Nat.le_trans hs hd.pb.1, Nat.le_trans hs hd.pb.2⟩, hd.left0, Sl, Wl, es, clk, e1, e2, ⟨own_weaken hr.s hs, own_weaken hr.w_ hs, fun x hx => hpw (hr.sp x hx), fun x hx => hpw (hr.wp x hx), hr.wr⟩, hm, hok⟩
  exact ⟨_, rfl, _, vS, hd', below_step hb hb'⟩
theorem LD.write {W w : World} {p gm : Nat} {vS vW : Value} {s : St} (h : LD W w p gm vS vW s) (no : Int) {v : Value} {b : List Int} (hv : Rw w v b) (hb : b.length ≤ 1000000) (hib : IsB b) (hlen : s.W.length ≤ 1000000) :
    Calls Try.prog 12 #[.pointer (some ⟨p, 0, none⟩), .int .i64 no, v] w fun e w' => e = .returned (.int .i64 (write s no b).1) ∧ ∃ vW', LD W w' p gm vS vW' (write s no b).2 ∧ Turn (DO p gm vS vW) w w' := by
  obtain ⟨A, c, rfl, hc, hC⟩ := hv.reads
  refine (write_calls h.d h.below.size no A c b hc hC hb hib hlen).mono ?_
  rintro e w' ⟨rfl, vW', hd, ht, _⟩
  exact ⟨rfl, vW', h.turned hd ht, ht⟩
theorem LD.sync {W w : World} {p gm : Nat} {vS vW : Value} {s : St} (h : LD W w p gm vS vW s) :
    Calls Try.prog 19 #[.pointer (some ⟨p, 0, none⟩)] w fun e w' => e = .returned (.int .i64 (sync s).1) ∧ ∃ vW', LD W w' p gm vS vW' (sync s).2 ∧ Turn (DO p gm vS vW) w w' := by
  refine (sync_calls h.d).mono ?_
  rintro e w' ⟨rfl, vW', hd, ht, _⟩
  exact ⟨rfl, vW', h.turned hd ht, ht⟩
theorem LD.arm {W w : World} {p gm : Nat} {vS vW : Value} {s : St} (h : LD W w p gm vS vW s) (n : Int) (hn : n ≤ 9223372036854775807) :
    Calls Try.prog 22 #[.pointer (some ⟨p, 0, none⟩), .int .i64 n] w fun e w' => e = .returned (.tuple #[]) ∧ LD W w' p gm vS vW (arm s n) ∧ Turn (DO p gm vS vW) w w' := by
  refine (arm_calls h.d n hn).mono ?_
  rintro e w' ⟨rfl, hd, ht⟩
  exact ⟨rfl, h.turned hd ht, ht⟩
theorem LD.crash {W w : World} {p gm : Nat} {vS vW : Value} {s : St} (h : LD W w p gm vS vW s) (A : Option Addr) (c : Nat) (l : List Bool) (hl : l.length ≤ c) (hC : Kd.C Kd.bool w A l.length l) (hO : ∀ ad, A = some ad → ad.block < w.heap.size ∧ ¬ DO p gm vS vW ad.block) (tn : Int) (hlen : s.W.length ≤ 1000000) :
    Calls Try.prog 20 #[.pointer (some ⟨p, 0, none⟩), .slice A l.length c, .int .i64 tn] w fun e w' => e = .returned (.tuple #[]) ∧ LD W w' p gm vS nilS (crash s l tn) ∧ Turn (DO p gm vS vW) w w' := by
  refine (crash_calls h.d h.below.size A c l hl hC (fun _ => hO) tn hlen).mono ?_
  rintro e w' ⟨rfl, hd, ht⟩
  exact ⟨rfl, h.turned hd ht, ht⟩
/-- A row of truths that lies in a block of its own. -/
theorem C_bools {w : World} {g : Nat} (l : List Bool) (hl : l.length ≤ 9223372036854775807) (h : w.heap[g]? = some (.cells (l.map Value.bool).toArray 4 (0, 0))) : Kd.C Kd.bool w (some ⟨g, 0, none⟩) l.length l := by
  refine Kd.C_of_reads (d := false) ⟨rfl, hl, fun _ => ⟨_, rfl, fun j hj => ?_⟩⟩
  have := blk_cell h j
  have e : (⟨g, 0, none⟩ : Addr).add j = ⟨g, j, none⟩ := by
    unfold Addr.add
    split
    · simp_all
    · simp
  rw [e, this]
  simp [List.getElem?_eq_getElem hj, List.getD_eq_getElem?_getD]
theorem DSt.notbool {w : World} {B p gm : Nat} {vS vW : Value} {s : St} (h : DSt w B p gm vS vW s) {g : Nat} {c : Array Value} {fr : Nat × Nat} (hg : w.heap[g]? = some (.cells c 4 fr)) : ¬ DO p gm vS vW g := by
  obtain ⟨Sl, Wl, es, clk, e1, e2, hr, hm, hok⟩ := h.body
  rintro (rfl | rfl | hS | hW)
  · exact sep hg h.blk (by decide) rfl
  · exact sepm hg hm rfl
  · obtain ⟨_, c2, h2⟩ := own_block hr.s hS
    exact sep hg h2 (by decide) rfl
  · obtain ⟨_, c2, h2⟩ := own_block hr.w_ hW
    exact sep hg h2 (by decide) rfl

theorem torn_rd (x : Int) (i : Nat) (hi : i < 1023) : rd (torn (fpage x)) (i : Int) = x := by
  have hne : fpage x ≠ [] := by intro e; have := fpage_len x; rw [e] at this; cases this
  unfold torn
  rw [if_neg hne, fpage_len]
  have := fpage_rd x i (by omega)
  unfold rd at this ⊢
  rw [List.getD_eq_getElem?_getD] at this ⊢
  rw [List.getElem?_set_ne (by simp; omega)]
  exact this
theorem torn_last (x : Int) : rd (torn (fpage x)) 1023 = 255 - x := by
  have hne : fpage x ≠ [] := by intro e; have := fpage_len x; rw [e] at this; cases this
  have h1 := fpage_rd x 1023 (by omega)
  have hl := fpage_len x
  unfold torn
  rw [if_neg hne, hl, show (1024 - 1 : Nat) = 1023 from rfl, h1]
  unfold rd
  rw [List.getD_eq_getElem?_getD, show (1023 : Int).toNat = 1023 from rfl, List.getElem?_set_self (by omega)]
  rfl
def aw1 : St := (write (fresh (npages 2)) 0 (fpage 1)).2
theorem aw_w : write (fresh (npages 2)) 0 (fpage 1) = (0, ⟨(fresh 2).S, [(0, fpage 1)], 0, false⟩) := by
  unfold write
  rw [if_neg (by rintro (h | h); exact h (by unfold inside; decide); exact h (fpage_len 1)), if_neg (by decide)]
  rfl
theorem aw_gen (z b : List Int) : crash ⟨[z, z], [(0, b)], 0, false⟩ [true] 0 = ⟨[torn b, z], [], 0, false⟩ := rfl
theorem aw_gen2 (t z : List Int) : safeP ⟨[t, z], [], 0, false⟩ 0 = t := rfl
theorem aw_fresh : (fresh 2).S = [zpage, zpage] := rfl
theorem aw_c : crash aw1 [true] 0 = ⟨[torn (fpage 1), zpage], [], 0, false⟩ := by
  unfold aw1
  rw [aw_w, aw_fresh]
  exact aw_gen _ _
theorem aw_s : safeP (crash aw1 [true] 0) 0 = torn (fpage 1) := by
  rw [aw_c]
  exact aw_gen2 _ _
theorem aw_w2 : write (crash aw1 [true] 0) 2 (fpage 1) = (1, crash aw1 [true] 0) := by
  unfold write
  rw [if_pos (.inl (by rw [aw_c]; unfold inside; decide))]
theorem aw_n : (crash aw1 [true] 0).S.length = 2 := by rw [aw_c]; rfl
set_option maxHeartbeats 4000000 in
set_option maxRecDepth 20000 in
theorem awake_calls (W : World) : Calls Try.prog 8 #[] W fun e w' => e = .returned (.bool true) ∧ Below W.heap.size W w' := by
  have HN := Lib.hid (LD.new_ W W (Below.refl _ _) 2)
  go_enter Try.func8, Try.ntmps8
  go_wp2_with fail
  refine HN.out.mono ?_
  rintro e w1 ⟨p, rfl, gm, vS, hd⟩
  have HD := Lib.hid hd
  clear hd HN
  go_wp2_with fail
  refine (filled_calls 1 w1).mono ?_
  rintro e w2 ⟨v2, rfl, hv, hb⟩
  have HV := Lib.hid hv
  have HD2 := Lib.hid (HD.out.next hb)
  clear hv hb HD
  go_wp2_with fail
  refine (HD2.out.write 0 HV.out (by rw [fpage_len]; decide) (fpage_isB (by decide) (by decide)) (by decide)).mono ?_
  rintro e w3 ⟨rfl, vW, hd, ht⟩
  have h1 : (write (fresh (npages 2)) 0 (fpage 1)).1 = 0 := by rw [aw_w]
  rw [h1]
  have HD3 := Lib.hid (show LD W w3 p gm vS vW aw1 from hd)
  clear hd ht HV HD2 h1
  have hn3 := heap_alloc_new w3 (.cells #[.bool true] 4)
  have hd3 := HD3.out.next (below_alloc (Below.refl _ _) (.cells #[.bool true] 4))
  have hC := C_bools [true] (by decide) hn3
  have HC := Lib.hid (hd3.crash (some ⟨w3.heap.size, 0, none⟩) 1 [true] (by decide) hC (fun ad ha => by injection ha with ha; subst ha; exact ⟨blk_lt hn3, hd3.d.notbool hn3⟩) 0 (by decide))
  clear hn3 hd3 hC HD3
  go_wp2_with fail
  refine HC.out.mono ?_
  rintro e w4 ⟨rfl, hd, ht⟩
  have HD4 := Lib.hid hd
  clear hd ht HC
  go_wp2_with fail
  refine (safe_calls HD4.out.d 0).mono ?_
  rintro e w5 ⟨v5, rfl, hm, hb⟩
  have hr5 := Rw.of_R hm
  rw [aw_s] at hr5
  have HR5 := Lib.hid hr5
  have HD5 := Lib.hid (HD4.out.next hb)
  clear hm hb hr5 HD4
  go_wp2_with fail
  refine (filled_calls 1 w5).mono ?_
  rintro e w6 ⟨v6, rfl, hv, hb⟩
  have HV := Lib.hid hv
  have HD6 := Lib.hid (HD5.out.next hb)
  have HR6 := Lib.hid (HR5.out.below hb)
  clear hv hb HD5 HR5
  go_wp2_with fail
  refine (HD6.out.write 2 HV.out (by rw [fpage_len]; decide) (fpage_isB (by decide) (by decide)) (by rw [aw_c]; decide)).mono ?_
  rintro e w7 ⟨rfl, vW7, hd, ht⟩
  rw [aw_w2] at hd ⊢
  have hr7 := HR6.out.turn ht (fun k c hk => HD6.out.d.pages k c hk)
  have HD7 := Lib.hid hd
  clear hd ht HR6 HD6 HV
  obtain ⟨g, c, rfl, _, hcell⟩ := hr7.at_ (by rw [torn_len, fpage_len]; decide)
  have hl : (torn (fpage 1)).length = 1024 := by rw [torn_len, fpage_len]
  have z0 := hcell 0 (by omega)
  have z1 := hcell 1023 (by omega)
  rw [show ((0 : Nat) : Int) = ((0 : Nat) : Int) from rfl, torn_rd 1 0 (by omega)] at z0
  rw [show ((1023 : Nat) : Int) = 1023 from rfl, torn_last] at z1
  rw [hl]
  clear hcell hr7 hl
  have HP := Lib.hid (pages_calls HD7.out.d)
  rw [aw_n] at HP
  have HB7 := Lib.hid HD7.out.below
  clear HD7
  go_wp2_with fail
  refine HP.out.mono ?_
  rintro e w8 ⟨rfl, rfl⟩
  go_wp2
  go_ret
  exact ⟨rfl, HB7.out⟩
end Go.Proofs.Ytblacdnndchghaa.D
