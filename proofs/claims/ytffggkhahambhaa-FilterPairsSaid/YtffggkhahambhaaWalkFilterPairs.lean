/- ref16.Small and May, Fits: told weakly; ref16.Same and Spans of a row and itself. By hand (st_gd2.py): the printed contracts are too great for a claim. -/
import Derived.Test.YtffggkhahambhaaStGd
import Derived.Test.YtffggkhahambhaaSq
import Derived.Test.YtffggkhahambhaaPAllx15
import Derived.Test.YtffggkhahambhaaReads
namespace Go.Proofs.Ytffggkhahambhaa.Tr
open Go.RowKit Go.Proofs.YtffggkhahambhaaW.PrintWords Go.Proofs.YtffggkhahambhaaW.PrintLast Go.Proofs.YtffggkhahambhaaW.PrintMore Go.Proofs.Ytffggkhahambhaa.Math Go.Proofs.Ytffggkhahambhaa.PAll Go.Proofs.Ytffggkhahambhaa.Sq Go.Proofs.Ytffggkhahambhaa.Runes
set_option linter.unusedVariables false
set_option linter.unusedSimpArgs false
def nums (l : List UInt8) : List Int := l.map fun b => (b.toNat : Int)
theorem less_txt (k : Nat) (s t : ByteArray) (hs : s.size ≤ 1000) (hk : 2100 < k) : cambiumref01_Less.f k (bytesOf s) (bytesOf t) = some (lexLt (nums s.data.toList) (nums t.data.toList)) := by
  rw [NumFacts.less_eq k _ _ (by rw [bytesOf_length]; omega) (by rw [bytesOf_length]; omega)]
  rfl
/-- A span that may be. -/
structure OkS (x : S34) : Prop where
  svc : x.f3.size ≤ 32
  op : x.f4.size ≤ 32
  len : x.f8.length ≤ 16
  att : ∀ a ∈ x.f8, a.f0.size ≤ 32 ∧ a.f1.f1.size ≤ 200
  ord : x.f8.Pairwise (fun a b => lexLt (nums a.f0.data.toList) (nums b.f0.data.toList) = true)
/-- The rows of a span. -/
theorem Is.rows {w : World} {s : Sp} {x : S34} (h : Is w s x) : s.a.2.1 = x.f8.length ∧ s.e.2.1 = x.f9.length ∧ s.l.2.1 = x.f10.length ∧ Kd.C k45 w s.a.1 s.a.2.1 x.f8 ∧ Kd.C k77 w s.e.1 s.e.2.1 x.f9 ∧ Kd.C k80 w s.l.1 s.l.2.1 x.f10 := by
  obtain ⟨A8, c8, A9, c9, A10, c10, he, l8, g8, l9, g9, l10, g10⟩ := k34_open h
  unfold encS at he
  simp only [List.cons.injEq, Value.slice.injEq] at he
  obtain ⟨_, _, _, _, _, _, _, _, ⟨a1, a2, _⟩, ⟨e1, e2, _⟩, ⟨l1, l2, _⟩, _⟩ := he
  exact ⟨a2, e2, l2, by rw [a1, a2]; exact g8, by rw [e1, e2]; exact g9, by rw [l1, l2]; exact g10⟩
theorem at_A5 {w : World} {A : Option Addr} {n : Nat} {xs : List S45} (h : Kd.C k45 w A n xs) {k : Nat} {t : S45} (hk : xs[k]? = some t) : ∃ ad, A = some ad ∧ w.cell? (ad.add (k * 5)) = some (.string t.f0) ∧ w.cell? ⟨(ad.add (k * 5)).block, (ad.add (k * 5)).off + 1, none⟩ = some (.int .i64 t.f1.f0) ∧ w.cell? ⟨(ad.add (k * 5)).block, (ad.add (k * 5)).off + 2, none⟩ = some (.string t.f1.f1) ∧ w.cell? ⟨(ad.add (k * 5)).block, (ad.add (k * 5)).off + 3, none⟩ = some (.int .i64 t.f1.f2) ∧ w.cell? ⟨(ad.add (k * 5)).block, (ad.add (k * 5)).off + 4, none⟩ = some (.bool t.f1.f3) := by
  obtain ⟨hkl, hs⟩ := List.getElem?_eq_some_iff.1 hk
  obtain ⟨hn, _, hC⟩ := h
  obtain ⟨ad, e, hcc⟩ := hC (by omega)
  obtain ⟨c, hcl, hK, hc⟩ := hcc k t hk
  have hK := k45_open hK
  subst hK
  have hc : ∀ j u, ([.string t.f0, .int .i64 t.f1.f0, .string t.f1.f1, .int .i64 t.f1.f2, .bool t.f1.f3] : List Value)[j]? = some u → w.cell? (ad.add (k * 5 + j)) = some u := hc
  exact ⟨ad, e, hc 0 _ rfl, by rw [← add_field _ _ 1 (by omega)]; exact hc 1 _ rfl, by rw [← add_field _ _ 2 (by omega)]; exact hc 2 _ rfl, by rw [← add_field _ _ 3 (by omega)]; exact hc 3 _ rfl, by rw [← add_field _ _ 4 (by omega)]; exact hc 4 _ rfl⟩
theorem at_E2 {w : World} {A : Option Addr} {n : Nat} {xs : List S77} (h : Kd.C k77 w A n xs) {k : Nat} {t : S77} (hk : xs[k]? = some t) : ∃ ad, A = some ad ∧ w.cell? (ad.add (k * 2)) = some (.int .i64 t.f0) ∧ w.cell? ⟨(ad.add (k * 2)).block, (ad.add (k * 2)).off + 1, none⟩ = some (.string t.f1) := by
  obtain ⟨hkl, hs⟩ := List.getElem?_eq_some_iff.1 hk
  obtain ⟨hn, _, hC⟩ := h
  obtain ⟨ad, e, hcc⟩ := hC (by omega)
  obtain ⟨c, hcl, hK, hc⟩ := hcc k t hk
  have hK := k77_open hK
  subst hK
  have hc : ∀ j u, ([.int .i64 t.f0, .string t.f1] : List Value)[j]? = some u → w.cell? (ad.add (k * 2 + j)) = some u := hc
  exact ⟨ad, e, hc 0 _ rfl, by rw [← add_field _ _ 1 (by omega)]; exact hc 1 _ rfl⟩
theorem at_L2 {w : World} {A : Option Addr} {n : Nat} {xs : List S80} (h : Kd.C k80 w A n xs) {k : Nat} {t : S80} (hk : xs[k]? = some t) : ∃ ad, A = some ad ∧ w.cell? (ad.add (k * 2)) = some (.int .u64 t.f0) ∧ w.cell? ⟨(ad.add (k * 2)).block, (ad.add (k * 2)).off + 1, none⟩ = some (.int .u64 t.f1) := by
  obtain ⟨hkl, hs⟩ := List.getElem?_eq_some_iff.1 hk
  obtain ⟨hn, _, hC⟩ := h
  obtain ⟨ad, e, hcc⟩ := hC (by omega)
  obtain ⟨c, hcl, hK, hc⟩ := hcc k t hk
  have hK := k80_open hK
  subst hK
  have hc : ∀ j u, ([.int .u64 t.f0, .int .u64 t.f1] : List Value)[j]? = some u → w.cell? (ad.add (k * 2 + j)) = some u := hc
  exact ⟨ad, e, hc 0 _ rfl, by rw [← add_field _ _ 1 (by omega)]; exact hc 1 _ rfl⟩
/-- The box of a span, the call's own. -/
structure BS (W : World) (s : Sp) (w : World) : Prop where
  bw : Below W.heap.size W w
  ks : w.heap[W.heap.size]? = some (.cells (encS s).toArray 34 (0, 0))
theorem BS.start (w : World) (s : Sp) : BS w s (w.alloc (.cells (encS s).toArray 34)) := ⟨below_alloc (Below.refl _ _) _, heap_alloc_new _ _⟩
theorem BS.next {W w w' : World} {s : Sp} (h : BS W s w) (hb : Below w.heap.size w w') : BS W s w' := ⟨below_step h.bw hb, block_below h.ks hb⟩
theorem BS.drewN {W w : World} {s : Sp} (h : BS W s w) (n : Nat) : BS W s (w.drewN n) := h.next ⟨rfl, rfl, rfl, Nat.le_refl _, fun _ _ => rfl⟩
theorem BS.drew {W w : World} {s : Sp} (h : BS W s w) : BS W s w.drew := h.next (below_drew (Below.refl _ _))
set_option maxHeartbeats 8000000 in
set_option maxRecDepth 100000 in
theorem small16_w {s : Sp} {x : S34} {w : World} (hx : Is w s x) (h8 : x.f8.length ≤ 100000000000000) (h9 : x.f9.length ≤ 100000000000000) :
    Calls Try.prog 20 #[.agg (encS s).toArray] w fun e w' => RetB (fun _ => True) e ∧ Below w.heap.size w w' := by
  obtain ⟨n8, n9, n10, C8, C9, C10⟩ := hx.rows
  have H8 := Lib.hid C8
  have H9 := Lib.hid C9
  have N8 := Lib.hid n8
  have N9 := Lib.hid n9
  have M8 := Lib.hid (show s.a.2.1 ≤ 100000000000000 by omega)
  have M9 := Lib.hid (show s.e.2.1 ≤ 100000000000000 by omega)
  have HB0 := Lib.hid (BS.start w s)
  clear n8 n9 n10 C8 C9 C10 hx h8 h9
  rw [arr_S] at HB0 ⊢
  go_enter Try.func20, Try.ntmps20
  go_wp2
  go_loopw [3, 4] (fun m i wr => ∃ (k : Nat) (z : Int), k ≤ s.a.2.1 ∧ i = .int .i64 k ∧ m = .int .i64 z ∧ Hid (BS w s wr)) (fun _ i _ => s.a.2.1 - (intOf i).toNat)
  case atStart => exact ⟨0, _, by omega, rfl, rfl, HB0⟩
  case round =>
    clear HB0
    obtain ⟨k, z, hk, rfl, rfl, HB⟩ := hrel
    obtain ⟨x0, x1, x2, x3, x4, x5, x6, x7, x8, x9, x10⟩ := blkS HB.out.ks
    by_cases hlt : k < s.a.2.1
    · have q : decide ((k : Int) < (s.a.2.1 : Int)) = true := decide_eq_true (by omega)
      have q2 : (k : Int) < (s.a.2.1 : Int) := by omega
      by_cases hz : z ≤ 6000
      · have qz : decide (z ≤ 6000) = true := decide_eq_true hz
        obtain ⟨t, hs⟩ : ∃ t, x.f8[k]? = some t := ⟨_, List.getElem?_eq_getElem (by rw [← N8.out]; exact hlt)⟩
        obtain ⟨ad, had, z0, z1, z2, z3, z4⟩ := at_A5 (Kd.C_below H8.out HB.out.bw) hs
        rw [had] at x8
        have HKL := Lib.hid (show k + 1 ≤ s.a.2.1 by omega)
        have HW := Lib.hid (show wrap64 ((k : Int) + 1) = ((k + 1 : Nat) : Int) by have := M8.out; unfold wrap64; omega)
        clear hs hlt hk hz had
        go_wp2
        repeat (go_quiet (fail); try go_wp2)
        go_roundw
        case rel => exact ⟨k + 1, _, HKL.out, by rw [HW.out], rfl, Lib.hid (HB.out.drewN _)⟩
        case measure => exact meas_up2 M8.out HKL.out
      · have qz : decide (z ≤ 6000) = false := decide_eq_false hz
        clear hlt hk hz
        go_wp2
        clear x0 x1 x2 x3 x4 x5 x6 x7 x8 x9 x10
        go_loopw [3, 5] (fun m i wr => ∃ (k : Nat) (z : Int), k ≤ s.e.2.1 ∧ i = .int .i64 k ∧ m = .int .i64 z ∧ Hid (BS w s wr)) (fun _ i _ => s.e.2.1 - (intOf i).toNat)
        case atStart => exact ⟨0, _, by omega, rfl, rfl, HB⟩
        case round =>
          clear HB
          obtain ⟨k, z, hk, rfl, rfl, HB⟩ := hrel
          obtain ⟨x0, x1, x2, x3, x4, x5, x6, x7, x8, x9, x10⟩ := blkS HB.out.ks
          by_cases hlt : k < s.e.2.1
          · have q : decide ((k : Int) < (s.e.2.1 : Int)) = true := decide_eq_true (by omega)
            have q2 : (k : Int) < (s.e.2.1 : Int) := by omega
            by_cases hz : z ≤ 6000
            · have qz : decide (z ≤ 6000) = true := decide_eq_true hz
              obtain ⟨t, hs⟩ : ∃ t, x.f9[k]? = some t := ⟨_, List.getElem?_eq_getElem (by rw [← N9.out]; exact hlt)⟩
              obtain ⟨ad, had, z0, z1⟩ := at_E2 (Kd.C_below H9.out HB.out.bw) hs
              rw [had] at x9
              have HKL := Lib.hid (show k + 1 ≤ s.e.2.1 by omega)
              have HW := Lib.hid (show wrap64 ((k : Int) + 1) = ((k + 1 : Nat) : Int) by have := M9.out; unfold wrap64; omega)
              clear hs hlt hk hz had
              go_wp2
              go_roundw
              case rel => exact ⟨k + 1, _, HKL.out, by rw [HW.out], rfl, HB⟩
              case measure => exact meas_up2 M9.out HKL.out
            · have qz : decide (z ≤ 6000) = false := decide_eq_false hz
              clear hlt hk hz
              go_wp2
              all_goals
                go_ret
                exact ⟨RetB.any _, HB.out.bw⟩
          · have hkl : k = s.e.2.1 := by omega
            subst hkl
            have q : decide ((s.e.2.1 : Int) < (s.e.2.1 : Int)) = false := decide_eq_false (by omega)
            clear hlt hk
            go_wp2
            all_goals
              go_ret
              exact ⟨RetB.any _, HB.out.bw⟩
    · have hkl : k = s.a.2.1 := by omega
      subst hkl
      have q : decide ((s.a.2.1 : Int) < (s.a.2.1 : Int)) = false := decide_eq_false (by omega)
      clear hlt hk
      go_wp2
      clear x0 x1 x2 x3 x4 x5 x6 x7 x8 x9 x10
      go_loopw [3, 5] (fun m i wr => ∃ (k : Nat) (z : Int), k ≤ s.e.2.1 ∧ i = .int .i64 k ∧ m = .int .i64 z ∧ Hid (BS w s wr)) (fun _ i _ => s.e.2.1 - (intOf i).toNat)
      case atStart => exact ⟨0, _, by omega, rfl, rfl, HB⟩
      case round =>
        clear HB
        obtain ⟨k, z, hk, rfl, rfl, HB⟩ := hrel
        obtain ⟨x0, x1, x2, x3, x4, x5, x6, x7, x8, x9, x10⟩ := blkS HB.out.ks
        by_cases hlt : k < s.e.2.1
        · have q : decide ((k : Int) < (s.e.2.1 : Int)) = true := decide_eq_true (by omega)
          have q2 : (k : Int) < (s.e.2.1 : Int) := by omega
          by_cases hz : z ≤ 6000
          · have qz : decide (z ≤ 6000) = true := decide_eq_true hz
            obtain ⟨t, hs⟩ : ∃ t, x.f9[k]? = some t := ⟨_, List.getElem?_eq_getElem (by rw [← N9.out]; exact hlt)⟩
            obtain ⟨ad, had, z0, z1⟩ := at_E2 (Kd.C_below H9.out HB.out.bw) hs
            rw [had] at x9
            have HKL := Lib.hid (show k + 1 ≤ s.e.2.1 by omega)
            have HW := Lib.hid (show wrap64 ((k : Int) + 1) = ((k + 1 : Nat) : Int) by have := M9.out; unfold wrap64; omega)
            clear hs hlt hk hz had
            go_wp2
            go_roundw
            case rel => exact ⟨k + 1, _, HKL.out, by rw [HW.out], rfl, HB⟩
            case measure => exact meas_up2 M9.out HKL.out
          · have qz : decide (z ≤ 6000) = false := decide_eq_false hz
            clear hlt hk hz
            go_wp2
            all_goals
              go_ret
              exact ⟨RetB.any _, HB.out.bw⟩
        · have hkl : k = s.e.2.1 := by omega
          subst hkl
          have q : decide ((s.e.2.1 : Int) < (s.e.2.1 : Int)) = false := decide_eq_false (by omega)
          clear hlt hk
          go_wp2
          all_goals
            go_ret
            exact ⟨RetB.any _, HB.out.bw⟩
theorem pair_chain {x : List S45} (h : ∀ j a b, j + 1 < x.length → x[j]? = some a → x[j + 1]? = some b → lexLt (nums a.f0.data.toList) (nums b.f0.data.toList) = true) : x.Pairwise (fun a b => lexLt (nums a.f0.data.toList) (nums b.f0.data.toList) = true) := by
  have hst : ∀ i j (hij : i < j) (hj : j < x.length), lexLt (nums (x[i]'(by omega)).f0.data.toList) (nums x[j].f0.data.toList) = true := by
    intro i j hij
    induction j with
    | zero => omega
    | succ j ih =>
      intro hj
      have h1 := h j _ _ hj (List.getElem?_eq_getElem (by omega)) (List.getElem?_eq_getElem hj)
      rcases Nat.lt_or_ge i j with hlt | hge
      · exact lexLt_trans _ _ _ (ih hlt (by omega)) h1
      · obtain rfl : i = j := by omega
        exact h1
  rw [List.pairwise_iff_getElem]
  intro i j hi hj hij
  exact hst i j hij hj
/-- A text as bytes, opened. -/
theorem V_open {w : World} {v : Value} {N : Nat} {ok : Nat → Prop} {l : List Int} (h : Kd.V (Kd.int .u8) 5 w N ok v l) : ∃ A c, v = .slice A l.length c ∧ l.length ≤ c ∧ Kd.C (Kd.int .u8) w A l.length l := by
  obtain ⟨A, c, rfl, hc, _⟩ := id h
  exact ⟨A, c, rfl, hc, (Kd.V_reads' h).2.2⟩
theorem held5 {w w' : World} {s : Sp} {x : S34} {ad : Addr} {k : Nat} {a : S45} (h8 : Kd.C k45 w s.a.1 s.a.2.1 x.f8) (hb : BS w s w') (had : s.a.1 = some ad) (ha : x.f8[k]? = some a) :
    w'.cell? ⟨w.heap.size, 8, none⟩ = some (.slice (some ad) s.a.2.1 s.a.2.2) ∧ w'.cell? (ad.add (k * 5)) = some (.string a.f0) ∧ w'.cell? ⟨(ad.add (k * 5)).block, (ad.add (k * 5)).off + 1, none⟩ = some (.int .i64 a.f1.f0) ∧ w'.cell? ⟨(ad.add (k * 5)).block, (ad.add (k * 5)).off + 2, none⟩ = some (.string a.f1.f1) ∧ w'.cell? ⟨(ad.add (k * 5)).block, (ad.add (k * 5)).off + 3, none⟩ = some (.int .i64 a.f1.f2) ∧ w'.cell? ⟨(ad.add (k * 5)).block, (ad.add (k * 5)).off + 4, none⟩ = some (.bool a.f1.f3) := by
  obtain ⟨ad2, he2, z⟩ := at_A5 (Kd.C_below h8 hb.bw) ha
  rw [had] at he2
  injection he2 with he2
  subst he2
  exact ⟨by have h := (blkS hb.ks).2.2.2.2.2.2.2.2.1; rw [had] at h; exact h, z⟩
theorem held6 {w w' : World} {s : Sp} {x : S34} {ad : Addr} {k j : Nat} {a p : S45} (h8 : Kd.C k45 w s.a.1 s.a.2.1 x.f8) (hb : BS w s w') (had : s.a.1 = some ad) (ha : x.f8[k]? = some a) (hp : x.f8[j]? = some p) :
    w'.cell? ⟨w.heap.size, 8, none⟩ = some (.slice (some ad) s.a.2.1 s.a.2.2) ∧ w'.cell? (ad.add (k * 5)) = some (.string a.f0) ∧ w'.cell? ⟨(ad.add (k * 5)).block, (ad.add (k * 5)).off + 1, none⟩ = some (.int .i64 a.f1.f0) ∧ w'.cell? ⟨(ad.add (k * 5)).block, (ad.add (k * 5)).off + 2, none⟩ = some (.string a.f1.f1) ∧ w'.cell? ⟨(ad.add (k * 5)).block, (ad.add (k * 5)).off + 3, none⟩ = some (.int .i64 a.f1.f2) ∧ w'.cell? ⟨(ad.add (k * 5)).block, (ad.add (k * 5)).off + 4, none⟩ = some (.bool a.f1.f3) ∧ w'.cell? (ad.add (j * 5)) = some (.string p.f0) := by
  obtain ⟨z, z0, z1, z2, z3, z4⟩ := held5 h8 hb had ha
  exact ⟨z, z0, z1, z2, z3, z4, (held5 h8 hb had hp).2.1⟩
set_option maxHeartbeats 8000000 in
set_option maxRecDepth 100000 in
theorem may16_w {u : Sp} {x : S34} {w : World} (hx : Is w u x) :
    Calls Try.prog 21 #[.agg (encS u).toArray] w fun e w' => RetB (fun b => b = true → OkS x) e ∧ Below w.heap.size w w' := by
  obtain ⟨n8, n9, n10, C8, C9, C10⟩ := hx.rows
  have hf := hx.fields
  have H8 := Lib.hid C8
  have H9 := Lib.hid C9
  have H10 := Lib.hid C10
  have N8 := Lib.hid n8
  have N9 := Lib.hid n9
  have N10 := Lib.hid n10
  have HF := Lib.hid (show x.f3 = u.svc ∧ x.f4 = u.op from ⟨hf.2.2.2.1, hf.2.2.2.2.1⟩)
  have HB := Lib.hid (BS.start w u)
  obtain ⟨x0, x1, x2, x3, x4, x5, x6, x7, x8, x9, x10⟩ := blkS HB.out.ks
  clear n8 n9 n10 C8 C9 C10 hx hf
  obtain ⟨w0, hw0⟩ : ∃ w0, w.alloc (.cells (encS u).toArray 34) = w0 := ⟨_, rfl⟩
  rw [hw0] at HB x0 x1 x2 x3 x4 x5 x6 x7 x8 x9 x10
  rw [arr_S] at hw0 ⊢
  by_cases h : u.tr = 0
  · have qa : (u.tr == 0) = true := beq_iff_eq.2 h
    clear h
    go_enter Try.func21, Try.ntmps21
    go_wp2
    go_ret
    exact ⟨RetB.no, HB.out.bw⟩
  have qa : (u.tr == 0) = false := beq_eq_false_iff_ne.2 h
  clear h
  by_cases h : u.id = 0
  · have qb : (u.id == 0) = true := beq_iff_eq.2 h
    clear h
    go_enter Try.func21, Try.ntmps21
    go_wp2
    go_ret
    exact ⟨RetB.no, HB.out.bw⟩
  have qb : (u.id == 0) = false := beq_eq_false_iff_ne.2 h
  clear h
  by_cases h : u.par = u.id
  · have qc : (u.par == u.id) = true := beq_iff_eq.2 h
    clear h
    go_enter Try.func21, Try.ntmps21
    go_wp2
    go_ret
    exact ⟨RetB.no, HB.out.bw⟩
  have qc : (u.par == u.id) = false := beq_eq_false_iff_ne.2 h
  clear h
  go_enter Try.func21, Try.ntmps21
  go_wp2_with fail
  clear hw0
  refine (name_w u.svc _).mono ?_
  rintro e w1 ⟨⟨r, rfl, hr⟩, hb⟩
  have HB := Lib.hid (HB.out.next hb)
  have HSV := Lib.hid hr
  clear hb hr x0 x1 x2 x3 x4 x5 x6 x7 x8 x9 x10
  obtain ⟨x0, x1, x2, x3, x4, x5, x6, x7, x8, x9, x10⟩ := blkS HB.out.ks
  cases r with
  | false =>
    go_wp2
    go_ret
    exact ⟨RetB.no, HB.out.bw⟩
  | true =>
    go_wp2_with fail
    refine (name_w u.op _).mono ?_
    rintro e w1 ⟨⟨r, rfl, hr⟩, hb⟩
    have HB := Lib.hid (HB.out.next hb)
    have HSO := Lib.hid hr
    clear hb hr x0 x1 x2 x3 x4 x5 x6 x7 x8 x9 x10
    obtain ⟨x0, x1, x2, x3, x4, x5, x6, x7, x8, x9, x10⟩ := blkS HB.out.ks
    cases r with
    | false =>
      go_wp2
      go_ret
      exact ⟨RetB.no, HB.out.bw⟩
    | true =>
      go_wp2_with fail
      refine (time_w u.st _).mono ?_
      rintro e w1 ⟨⟨r, rfl, _⟩, rfl⟩
      cases r with
      | false =>
        go_wp2
        go_ret
        exact ⟨RetB.no, HB.out.bw⟩
      | true =>
        go_wp2_with fail
        refine (time_w u.du _).mono ?_
        rintro e w1 ⟨⟨r, rfl, _⟩, rfl⟩
        cases r with
        | false =>
          go_wp2
          go_ret
          exact ⟨RetB.no, HB.out.bw⟩
        | true =>
          by_cases h : u.stt < 0
          · have qd : decide (u.stt < 0) = true := decide_eq_true h
            clear h
            go_wp2
            go_ret
            exact ⟨RetB.no, HB.out.bw⟩
          have qd : decide (u.stt < 0) = false := decide_eq_false h
          clear h
          by_cases h : 2 < u.stt
          · have qe : decide (2 < u.stt) = true := decide_eq_true h
            clear h
            go_wp2
            go_ret
            exact ⟨RetB.no, HB.out.bw⟩
          have qe : decide (2 < u.stt) = false := decide_eq_false h
          clear h
          by_cases h : 16 < u.a.2.1
          · have qf : decide ((16 : Int) < (u.a.2.1 : Int)) = true := decide_eq_true (by omega)
            clear h
            go_wp2
            go_ret
            exact ⟨RetB.no, HB.out.bw⟩
          have qf : decide ((16 : Int) < (u.a.2.1 : Int)) = false := decide_eq_false (by omega)
          have Mf := Lib.hid (show u.a.2.1 ≤ 16 by omega)
          clear h
          by_cases h : 16 < u.e.2.1
          · have qg : decide ((16 : Int) < (u.e.2.1 : Int)) = true := decide_eq_true (by omega)
            clear h
            go_wp2
            go_ret
            exact ⟨RetB.no, HB.out.bw⟩
          have qg : decide ((16 : Int) < (u.e.2.1 : Int)) = false := decide_eq_false (by omega)
          have Mg := Lib.hid (show u.e.2.1 ≤ 16 by omega)
          clear h
          by_cases h : 16 < u.l.2.1
          · have qh : decide ((16 : Int) < (u.l.2.1 : Int)) = true := decide_eq_true (by omega)
            clear h
            go_wp2
            go_ret
            exact ⟨RetB.no, HB.out.bw⟩
          have qh : decide ((16 : Int) < (u.l.2.1 : Int)) = false := decide_eq_false (by omega)
          have Mh := Lib.hid (show u.l.2.1 ≤ 16 by omega)
          clear h
          go_wp2
          clear x0 x1 x2 x3 x4 x5 x6 x7 x8 x9 x10
          go_loopw [3] (fun i wr => ∃ k : Nat, k ≤ u.a.2.1 ∧ i = .int .i64 k ∧ Hid ((∀ a ∈ x.f8.take k, a.f0.size ≤ 32 ∧ a.f1.f1.size ≤ 200) ∧ (∀ j a b, j + 1 < k → x.f8[j]? = some a → x.f8[j + 1]? = some b → lexLt (nums a.f0.data.toList) (nums b.f0.data.toList) = true)) ∧ Hid (BS w u wr)) (fun i _ => u.a.2.1 - (intOf i).toNat)
          case atStart => exact ⟨0, by omega, rfl, Lib.hid ⟨fun t ht => by simp at ht, fun j a b h => by omega⟩, HB⟩
          case round =>
            clear HB
            obtain ⟨k, hk, rfl, HP, HB⟩ := hrel
            obtain ⟨x0, x1, x2, x3, x4, x5, x6, x7, x8, x9, x10⟩ := blkS HB.out.ks
            by_cases hlt : k < u.a.2.1
            · have q : decide ((k : Int) < (u.a.2.1 : Int)) = true := decide_eq_true (by omega)
              have q2 : (k : Int) < (u.a.2.1 : Int) := by omega
              obtain ⟨a, ha⟩ : ∃ a, x.f8[k]? = some a := ⟨_, List.getElem?_eq_getElem (by rw [← N8.out]; exact hlt)⟩
              have HGA := Lib.hid ha
              have HTk := Lib.hid (show x.f8.take (k + 1) = x.f8.take k ++ [a] by
                obtain ⟨hk2, e⟩ := List.getElem?_eq_some_iff.1 ha
                rw [List.take_succ_eq_append_getElem hk2, e])
              obtain ⟨ad, had, _⟩ := at_A5 (Kd.C_below H8.out HB.out.bw) ha
              have HAD := Lib.hid had
              rw [had] at x8
              have HKL := Lib.hid (show k + 1 ≤ u.a.2.1 by omega)
              have HW := Lib.hid (show wrap64 ((k : Int) + 1) = ((k + 1 : Nat) : Int) by have := Mf.out; unfold wrap64; omega)
              obtain ⟨bn, hbn, hcn⟩ := name_d a.f0
              have HNA := Lib.hid hcn
              have HNS := Lib.hid hbn
              obtain ⟨bv, hbv, hcv⟩ := value_d a.f1.f0 a.f1.f1 a.f1.f2 a.f1.f3
              have HVA := Lib.hid hcv
              have HVS := Lib.hid hbv
              clear ha had hlt hk hbn hcn hbv hcv
              cases bn with
              | false =>
                go_upto_region 8 with (fail)
                have hbd := HB.out.drew
                clear x0 x1 x2 x3 x4 x5 x6 x7 x8 x9 x10
                obtain ⟨x8, z0, z1, z2, z3, z4⟩ := held5 H8.out hbd HAD.out HGA.out
                refine start_ (n := 41) (S := fun w' => w'.cell? ⟨w.heap.size, 8, none⟩ = some (.slice (some ad) u.a.2.1 u.a.2.2) ∧ w'.cell? (ad.add (k * 5)) = some (.string a.f0) ∧ w'.cell? ⟨(ad.add (k * 5)).block, (ad.add (k * 5)).off + 1, none⟩ = some (.int .i64 a.f1.f0) ∧ w'.cell? ⟨(ad.add (k * 5)).block, (ad.add (k * 5)).off + 2, none⟩ = some (.string a.f1.f1) ∧ w'.cell? ⟨(ad.add (k * 5)).block, (ad.add (k * 5)).off + 3, none⟩ = some (.int .i64 a.f1.f2) ∧ w'.cell? ⟨(ad.add (k * 5)).block, (ad.add (k * 5)).off + 4, none⟩ = some (.bool a.f1.f3)) (ds := []) (fl 41 0) (by kernel_rfl) rfl rfl ⟨x8, z0, z1, z2, z3, z4⟩ (fun hHeld => ?_)
                generalize wr.drew = w5 at x8 z0 z1 z2 z3 z4 hbd hHeld ⊢
                have HB := Lib.hid hbd
                clear x8 z0 z1 z2 z3 z4 hbd
                refine pu 0 (some 78) (fl 41 1) ?_
                refine pu 2 (some 80) (fl 41 5) ?_
                refine tk 1 (some 79) (fl 41 7) hHeld ?_
                refine pu 3 (some 81) (fl 41 15) ?_
                refine pu 4 (some 82) (fl 41 31) ?_
                refine tk 5 (some 83) (fl 41 63) hHeld ?_
                refine on_ 6 (some 84) (fl 41 127) fun K hK => ?_
                refine gs Try.func34 #[.string a.f0] ?_
                with_reducible refine (HNA.out _).mono ?_
                rintro ee w6 ⟨rfl, hb⟩
                refine ⟨_, rfl, ?_⟩
                have HB := Lib.hid (HB.out.next hb)
                clear hb
                refine hK.out _ _ ⟨(held5 H8.out HB.out HAD.out HGA.out).1, (held5 H8.out HB.out HAD.out HGA.out).2.1, (held5 H8.out HB.out HAD.out HGA.out).2.2.1, (held5 H8.out HB.out HAD.out HGA.out).2.2.2.1, (held5 H8.out HB.out HAD.out HGA.out).2.2.2.2.1, (held5 H8.out HB.out HAD.out HGA.out).2.2.2.2.2⟩ (fun hHeld => ?_)
                clear hK K
                refine nm ?_
                refine pu 7 (some 85) (fl 41 255) ?_
                refine pu 8 (some 86) (fl 41 511) ?_
                refine off 9 (some 87) (fl 41 1023) ?_
                refine off 10 (some 88) (fl 41 2047) ?_
                refine off 11 (some 89) (fl 41 4095) ?_
                refine off 12 (some 90) (fl 41 8191) ?_
                refine off 13 (some 91) (fl 41 16383) ?_
                refine off 14 (some 92) (fl 41 32767) ?_
                refine off 15 (some 93) (fl 41 65535) ?_
                refine off 16 (some 94) (fl 41 131071) ?_
                refine pu 17 (some 95) (fl 41 262143) ?_
                refine pu 18 (some 96) (fl 41 524287) ?_
                refine off 19 (some 97) (fl 41 1048575) ?_
                refine off 20 (some 98) (fl 41 2097151) ?_
                refine off 21 (some 99) (fl 41 4194303) ?_
                refine off 22 (some 100) (fl 41 8388607) ?_
                refine off 23 (some 101) (fl 41 16777215) ?_
                refine off 24 (some 102) (fl 41 33554431) ?_
                refine off 25 (some 103) (fl 41 67108863) ?_
                refine off 26 (some 104) (fl 41 134217727) ?_
                refine off 27 (some 105) (fl 41 268435455) ?_
                refine off 28 (some 106) (fl 41 536870911) ?_
                refine off 29 (some 107) (fl 41 1073741823) ?_
                refine off 30 (some 108) (fl 41 2147483647) ?_
                refine off 31 (some 109) (fl 41 4294967295) ?_
                refine off 32 (some 110) (fl 41 8589934591) ?_
                refine off 33 (some 111) (fl 41 17179869183) ?_
                refine off 34 (some 112) (fl 41 34359738367) ?_
                refine off 35 (some 113) (fl 41 68719476735) ?_
                refine off 36 (some 114) (fl 41 137438953471) ?_
                refine off 37 (some 115) (fl 41 274877906943) ?_
                refine off 38 (some 116) (fl 41 549755813887) ?_
                refine off 39 (some 117) (fl 41 1099511627775) ?_
                refine pu 40 (some 118) (fl 41 2199023255551) ?_
                refine done_ (by kernel_rfl) ?_
                go_wp2
                go_ret
                exact ⟨RetB.no, HB.out.bw⟩
              | true =>
                have HSa := Lib.hid (HNS.out (by first | rfl | trivial))
                cases bv with
                | false =>
                  go_upto_region 8 with (fail)
                  have hbd := HB.out.drew
                  clear x0 x1 x2 x3 x4 x5 x6 x7 x8 x9 x10
                  obtain ⟨x8, z0, z1, z2, z3, z4⟩ := held5 H8.out hbd HAD.out HGA.out
                  refine start_ (n := 41) (S := fun w' => w'.cell? ⟨w.heap.size, 8, none⟩ = some (.slice (some ad) u.a.2.1 u.a.2.2) ∧ w'.cell? (ad.add (k * 5)) = some (.string a.f0) ∧ w'.cell? ⟨(ad.add (k * 5)).block, (ad.add (k * 5)).off + 1, none⟩ = some (.int .i64 a.f1.f0) ∧ w'.cell? ⟨(ad.add (k * 5)).block, (ad.add (k * 5)).off + 2, none⟩ = some (.string a.f1.f1) ∧ w'.cell? ⟨(ad.add (k * 5)).block, (ad.add (k * 5)).off + 3, none⟩ = some (.int .i64 a.f1.f2) ∧ w'.cell? ⟨(ad.add (k * 5)).block, (ad.add (k * 5)).off + 4, none⟩ = some (.bool a.f1.f3)) (ds := []) (fl 41 0) (by kernel_rfl) rfl rfl ⟨x8, z0, z1, z2, z3, z4⟩ (fun hHeld => ?_)
                  generalize wr.drew = w5 at x8 z0 z1 z2 z3 z4 hbd hHeld ⊢
                  have HB := Lib.hid hbd
                  clear x8 z0 z1 z2 z3 z4 hbd
                  refine pu 0 (some 78) (fl 41 1) ?_
                  refine pu 2 (some 80) (fl 41 5) ?_
                  refine tk 1 (some 79) (fl 41 7) hHeld ?_
                  refine pu 3 (some 81) (fl 41 15) ?_
                  refine pu 4 (some 82) (fl 41 31) ?_
                  refine tk 5 (some 83) (fl 41 63) hHeld ?_
                  refine on_ 6 (some 84) (fl 41 127) fun K hK => ?_
                  refine gs Try.func34 #[.string a.f0] ?_
                  with_reducible refine (HNA.out _).mono ?_
                  rintro ee w6 ⟨rfl, hb⟩
                  refine ⟨_, rfl, ?_⟩
                  have HB := Lib.hid (HB.out.next hb)
                  clear hb
                  refine hK.out _ _ ⟨(held5 H8.out HB.out HAD.out HGA.out).1, (held5 H8.out HB.out HAD.out HGA.out).2.1, (held5 H8.out HB.out HAD.out HGA.out).2.2.1, (held5 H8.out HB.out HAD.out HGA.out).2.2.2.1, (held5 H8.out HB.out HAD.out HGA.out).2.2.2.2.1, (held5 H8.out HB.out HAD.out HGA.out).2.2.2.2.2⟩ (fun hHeld => ?_)
                  clear hK K
                  refine nm ?_
                  refine pu 7 (some 85) (fl 41 255) ?_
                  refine pu 8 (some 86) (fl 41 511) ?_
                  refine pu 9 (some 87) (fl 41 1023) ?_
                  refine pu 11 (some 89) (fl 41 3071) ?_
                  refine tk 10 (some 88) (fl 41 4095) hHeld ?_
                  refine pu 12 (some 90) (fl 41 8191) ?_
                  refine pu 13 (some 91) (fl 41 16383) ?_
                  refine tk 14 (some 92) (fl 41 32767) hHeld ?_
                  refine on_ 15 (some 93) (fl 41 65535) fun K hK => ?_
                  refine gs Try.func31 #[.agg #[.int .i64 a.f1.f0, .string a.f1.f1, .int .i64 a.f1.f2, .bool a.f1.f3]] ?_
                  with_reducible refine (HVA.out _).mono ?_
                  rintro ee WN0 ⟨rfl, hb⟩
                  refine ⟨_, rfl, ?_⟩
                  have HB := Lib.hid (HB.out.next hb)
                  clear hb
                  refine hK.out _ _ ⟨(held5 H8.out HB.out HAD.out HGA.out).1, (held5 H8.out HB.out HAD.out HGA.out).2.1, (held5 H8.out HB.out HAD.out HGA.out).2.2.1, (held5 H8.out HB.out HAD.out HGA.out).2.2.2.1, (held5 H8.out HB.out HAD.out HGA.out).2.2.2.2.1, (held5 H8.out HB.out HAD.out HGA.out).2.2.2.2.2⟩ (fun hHeld => ?_)
                  clear hK K
                  refine nm ?_
                  refine pu 16 (some 94) (fl 41 131071) ?_
                  refine pu 17 (some 95) (fl 41 262143) ?_
                  refine pu 18 (some 96) (fl 41 524287) ?_
                  refine off 19 (some 97) (fl 41 1048575) ?_
                  refine off 20 (some 98) (fl 41 2097151) ?_
                  refine off 21 (some 99) (fl 41 4194303) ?_
                  refine off 22 (some 100) (fl 41 8388607) ?_
                  refine off 23 (some 101) (fl 41 16777215) ?_
                  refine off 24 (some 102) (fl 41 33554431) ?_
                  refine off 25 (some 103) (fl 41 67108863) ?_
                  refine off 26 (some 104) (fl 41 134217727) ?_
                  refine off 27 (some 105) (fl 41 268435455) ?_
                  refine off 28 (some 106) (fl 41 536870911) ?_
                  refine off 29 (some 107) (fl 41 1073741823) ?_
                  refine off 30 (some 108) (fl 41 2147483647) ?_
                  refine off 31 (some 109) (fl 41 4294967295) ?_
                  refine off 32 (some 110) (fl 41 8589934591) ?_
                  refine off 33 (some 111) (fl 41 17179869183) ?_
                  refine off 34 (some 112) (fl 41 34359738367) ?_
                  refine off 35 (some 113) (fl 41 68719476735) ?_
                  refine off 36 (some 114) (fl 41 137438953471) ?_
                  refine off 37 (some 115) (fl 41 274877906943) ?_
                  refine off 38 (some 116) (fl 41 549755813887) ?_
                  refine off 39 (some 117) (fl 41 1099511627775) ?_
                  refine pu 40 (some 118) (fl 41 2199023255551) ?_
                  refine done_ (by kernel_rfl) ?_
                  go_wp2
                  go_ret
                  exact ⟨RetB.no, HB.out.bw⟩
                | true =>
                  have HVT := Lib.hid (HVS.out (by first | rfl | trivial))
                  by_cases hk0 : k = 0
                  · have q0 : decide ((0 : Int) < (k : Int)) = false := decide_eq_false (by omega)
                    have q0n : decide (0 < k) = false := decide_eq_false (by omega)
                    have HK0 := Lib.hid hk0
                    clear hk0
                    go_upto_region 8 with (fail)
                    have hbd := HB.out.drew
                    clear x0 x1 x2 x3 x4 x5 x6 x7 x8 x9 x10
                    obtain ⟨x8, z0, z1, z2, z3, z4⟩ := held5 H8.out hbd HAD.out HGA.out
                    refine start_ (n := 41) (S := fun w' => w'.cell? ⟨w.heap.size, 8, none⟩ = some (.slice (some ad) u.a.2.1 u.a.2.2) ∧ w'.cell? (ad.add (k * 5)) = some (.string a.f0) ∧ w'.cell? ⟨(ad.add (k * 5)).block, (ad.add (k * 5)).off + 1, none⟩ = some (.int .i64 a.f1.f0) ∧ w'.cell? ⟨(ad.add (k * 5)).block, (ad.add (k * 5)).off + 2, none⟩ = some (.string a.f1.f1) ∧ w'.cell? ⟨(ad.add (k * 5)).block, (ad.add (k * 5)).off + 3, none⟩ = some (.int .i64 a.f1.f2) ∧ w'.cell? ⟨(ad.add (k * 5)).block, (ad.add (k * 5)).off + 4, none⟩ = some (.bool a.f1.f3)) (ds := []) (fl 41 0) (by kernel_rfl) rfl rfl ⟨x8, z0, z1, z2, z3, z4⟩ (fun hHeld => ?_)
                    generalize wr.drew = w5 at x8 z0 z1 z2 z3 z4 hbd hHeld ⊢
                    have HB := Lib.hid hbd
                    clear x8 z0 z1 z2 z3 z4 hbd
                    refine pu 0 (some 78) (fl 41 1) ?_
                    refine pu 2 (some 80) (fl 41 5) ?_
                    refine tk 1 (some 79) (fl 41 7) hHeld ?_
                    refine pu 3 (some 81) (fl 41 15) ?_
                    refine pu 4 (some 82) (fl 41 31) ?_
                    refine tk 5 (some 83) (fl 41 63) hHeld ?_
                    refine on_ 6 (some 84) (fl 41 127) fun K hK => ?_
                    refine gs Try.func34 #[.string a.f0] ?_
                    with_reducible refine (HNA.out _).mono ?_
                    rintro ee w6 ⟨rfl, hb⟩
                    refine ⟨_, rfl, ?_⟩
                    have HB := Lib.hid (HB.out.next hb)
                    clear hb
                    refine hK.out _ _ ⟨(held5 H8.out HB.out HAD.out HGA.out).1, (held5 H8.out HB.out HAD.out HGA.out).2.1, (held5 H8.out HB.out HAD.out HGA.out).2.2.1, (held5 H8.out HB.out HAD.out HGA.out).2.2.2.1, (held5 H8.out HB.out HAD.out HGA.out).2.2.2.2.1, (held5 H8.out HB.out HAD.out HGA.out).2.2.2.2.2⟩ (fun hHeld => ?_)
                    clear hK K
                    refine nm ?_
                    refine pu 7 (some 85) (fl 41 255) ?_
                    refine pu 8 (some 86) (fl 41 511) ?_
                    refine pu 9 (some 87) (fl 41 1023) ?_
                    refine pu 11 (some 89) (fl 41 3071) ?_
                    refine tk 10 (some 88) (fl 41 4095) hHeld ?_
                    refine pu 12 (some 90) (fl 41 8191) ?_
                    refine pu 13 (some 91) (fl 41 16383) ?_
                    refine tk 14 (some 92) (fl 41 32767) hHeld ?_
                    refine on_ 15 (some 93) (fl 41 65535) fun K hK => ?_
                    refine gs Try.func31 #[.agg #[.int .i64 a.f1.f0, .string a.f1.f1, .int .i64 a.f1.f2, .bool a.f1.f3]] ?_
                    with_reducible refine (HVA.out _).mono ?_
                    rintro ee WN0 ⟨rfl, hb⟩
                    refine ⟨_, rfl, ?_⟩
                    have HB := Lib.hid (HB.out.next hb)
                    clear hb
                    refine hK.out _ _ ⟨(held5 H8.out HB.out HAD.out HGA.out).1, (held5 H8.out HB.out HAD.out HGA.out).2.1, (held5 H8.out HB.out HAD.out HGA.out).2.2.1, (held5 H8.out HB.out HAD.out HGA.out).2.2.2.1, (held5 H8.out HB.out HAD.out HGA.out).2.2.2.2.1, (held5 H8.out HB.out HAD.out HGA.out).2.2.2.2.2⟩ (fun hHeld => ?_)
                    clear hK K
                    refine nm ?_
                    refine pu 16 (some 94) (fl 41 131071) ?_
                    refine pu 17 (some 95) (fl 41 262143) ?_
                    refine pu 18 (some 96) (fl 41 524287) ?_
                    refine pu 19 (some 97) (fl 41 1048575) ?_
                    refine pu 20 (some 98) (fl 41 2097151) ?_
                    refine pu 21 (some 99) (fl 41 4194303) ?_
                    refine off 22 (some 100) (fl 41 8388607) ?_
                    refine off 23 (some 101) (fl 41 16777215) ?_
                    refine off 24 (some 102) (fl 41 33554431) ?_
                    refine off 25 (some 103) (fl 41 67108863) ?_
                    refine off 26 (some 104) (fl 41 134217727) ?_
                    refine off 27 (some 105) (fl 41 268435455) ?_
                    refine off 28 (some 106) (fl 41 536870911) ?_
                    refine off 29 (some 107) (fl 41 1073741823) ?_
                    refine off 30 (some 108) (fl 41 2147483647) ?_
                    refine off 31 (some 109) (fl 41 4294967295) ?_
                    refine off 32 (some 110) (fl 41 8589934591) ?_
                    refine off 33 (some 111) (fl 41 17179869183) ?_
                    refine off 34 (some 112) (fl 41 34359738367) ?_
                    refine off 35 (some 113) (fl 41 68719476735) ?_
                    refine off 36 (some 114) (fl 41 137438953471) ?_
                    refine off 37 (some 115) (fl 41 274877906943) ?_
                    refine off 38 (some 116) (fl 41 549755813887) ?_
                    refine pu 39 (some 117) (fl 41 1099511627775) ?_
                    refine pu 40 (some 118) (fl 41 2199023255551) ?_
                    refine done_ (by kernel_rfl) ?_
                    go_wp2
                    go_roundw
                    case rel => exact ⟨k + 1, HKL.out, by rw [HW.out], Lib.hid ⟨by rw [HTk.out]; intro y hy; rcases List.mem_append.1 hy with hy | hy; exact HP.out.1 y hy; rw [List.mem_singleton.1 hy]; exact ⟨HSa.out, HVT.out.1⟩, fun j a b h => by have := HK0.out; omega⟩, HB⟩
                    case measure => exact meas_up2 (by have := Mf.out; omega) HKL.out
                  · obtain ⟨j, hkk⟩ : ∃ j, j + 1 = k := ⟨k - 1, by omega⟩
                    obtain ⟨p, hp⟩ : ∃ p, x.f8[j]? = some p := ⟨_, List.getElem?_eq_getElem (by have := HKL.out; have := N8.out; omega)⟩
                    have HGP := Lib.hid hp
                    have HSp := Lib.hid (show p.f0.size ≤ 32 from (HP.out.1 p (by
                      obtain ⟨hk2, e⟩ := List.getElem?_eq_some_iff.1 hp
                      rw [List.mem_take_iff_getElem]
                      exact ⟨j, by omega, e⟩)).1)
                    have hj0 : decide ((0 : Int) < (k : Int)) = true := decide_eq_true (by omega)
                    have hj0n : decide (0 < k) = true := decide_eq_true (by omega)
                    have hj1 : wrap64 ((k : Int) - 1) = (j : Int) := by have := HKL.out; have := Mf.out; unfold wrap64; omega
                    have hj2 : (j : Int) < (u.a.2.1 : Int) := by omega
                    have hj3 : 0 < k := by omega
                    have HK1 := Lib.hid hkk
                    clear hp hk0 hkk
                    go_upto_region 8 with (fail)
                    have hbd := HB.out.drew
                    clear x0 x1 x2 x3 x4 x5 x6 x7 x8 x9 x10
                    obtain ⟨x8, z0, z1, z2, z3, z4, y0⟩ := held6 H8.out hbd HAD.out HGA.out HGP.out
                    refine start_ (n := 41) (S := fun w' => w'.cell? ⟨w.heap.size, 8, none⟩ = some (.slice (some ad) u.a.2.1 u.a.2.2) ∧ w'.cell? (ad.add (k * 5)) = some (.string a.f0) ∧ w'.cell? ⟨(ad.add (k * 5)).block, (ad.add (k * 5)).off + 1, none⟩ = some (.int .i64 a.f1.f0) ∧ w'.cell? ⟨(ad.add (k * 5)).block, (ad.add (k * 5)).off + 2, none⟩ = some (.string a.f1.f1) ∧ w'.cell? ⟨(ad.add (k * 5)).block, (ad.add (k * 5)).off + 3, none⟩ = some (.int .i64 a.f1.f2) ∧ w'.cell? ⟨(ad.add (k * 5)).block, (ad.add (k * 5)).off + 4, none⟩ = some (.bool a.f1.f3) ∧ w'.cell? (ad.add (j * 5)) = some (.string p.f0)) (ds := []) (fl 41 0) (by kernel_rfl) rfl rfl ⟨x8, z0, z1, z2, z3, z4, y0⟩ (fun hHeld => ?_)
                    generalize wr.drew = w5 at x8 z0 z1 z2 z3 z4 y0 hbd hHeld ⊢
                    have HB := Lib.hid hbd
                    clear x8 z0 z1 z2 z3 z4 y0 hbd
                    refine pu 0 (some 78) (fl 41 1) ?_
                    refine pu 2 (some 80) (fl 41 5) ?_
                    refine tk 1 (some 79) (fl 41 7) hHeld ?_
                    refine pu 3 (some 81) (fl 41 15) ?_
                    refine pu 4 (some 82) (fl 41 31) ?_
                    refine tk 5 (some 83) (fl 41 63) hHeld ?_
                    refine on_ 6 (some 84) (fl 41 127) fun K hK => ?_
                    refine gs Try.func34 #[.string a.f0] ?_
                    with_reducible refine (HNA.out _).mono ?_
                    rintro ee w6 ⟨rfl, hb⟩
                    refine ⟨_, rfl, ?_⟩
                    have HB := Lib.hid (HB.out.next hb)
                    clear hb
                    refine hK.out _ _ ⟨(held6 H8.out HB.out HAD.out HGA.out HGP.out).1, (held6 H8.out HB.out HAD.out HGA.out HGP.out).2.1, (held6 H8.out HB.out HAD.out HGA.out HGP.out).2.2.1, (held6 H8.out HB.out HAD.out HGA.out HGP.out).2.2.2.1, (held6 H8.out HB.out HAD.out HGA.out HGP.out).2.2.2.2.1, (held6 H8.out HB.out HAD.out HGA.out HGP.out).2.2.2.2.2.1, (held6 H8.out HB.out HAD.out HGA.out HGP.out).2.2.2.2.2.2⟩ (fun hHeld => ?_)
                    clear hK K
                    refine nm ?_
                    refine pu 7 (some 85) (fl 41 255) ?_
                    refine pu 8 (some 86) (fl 41 511) ?_
                    refine pu 9 (some 87) (fl 41 1023) ?_
                    refine pu 11 (some 89) (fl 41 3071) ?_
                    refine tk 10 (some 88) (fl 41 4095) hHeld ?_
                    refine pu 12 (some 90) (fl 41 8191) ?_
                    refine pu 13 (some 91) (fl 41 16383) ?_
                    refine tk 14 (some 92) (fl 41 32767) hHeld ?_
                    refine on_ 15 (some 93) (fl 41 65535) fun K hK => ?_
                    refine gs Try.func31 #[.agg #[.int .i64 a.f1.f0, .string a.f1.f1, .int .i64 a.f1.f2, .bool a.f1.f3]] ?_
                    with_reducible refine (HVA.out _).mono ?_
                    rintro ee WN0 ⟨rfl, hb⟩
                    refine ⟨_, rfl, ?_⟩
                    have HB := Lib.hid (HB.out.next hb)
                    clear hb
                    refine hK.out _ _ ⟨(held6 H8.out HB.out HAD.out HGA.out HGP.out).1, (held6 H8.out HB.out HAD.out HGA.out HGP.out).2.1, (held6 H8.out HB.out HAD.out HGA.out HGP.out).2.2.1, (held6 H8.out HB.out HAD.out HGA.out HGP.out).2.2.2.1, (held6 H8.out HB.out HAD.out HGA.out HGP.out).2.2.2.2.1, (held6 H8.out HB.out HAD.out HGA.out HGP.out).2.2.2.2.2.1, (held6 H8.out HB.out HAD.out HGA.out HGP.out).2.2.2.2.2.2⟩ (fun hHeld => ?_)
                    clear hK K
                    refine nm ?_
                    refine pu 16 (some 94) (fl 41 131071) ?_
                    refine pu 17 (some 95) (fl 41 262143) ?_
                    refine pu 18 (some 96) (fl 41 524287) ?_
                    refine pu 19 (some 97) (fl 41 1048575) ?_
                    refine pu 20 (some 98) (fl 41 2097151) ?_
                    refine pu 21 (some 99) (fl 41 4194303) ?_
                    refine pu 22 (some 100) (fl 41 8388607) ?_
                    refine pu 24 (some 102) (fl 41 25165823) ?_
                    refine pu 25 (some 103) (fl 41 58720255) ?_
                    refine pu 30 (some 108) (fl 41 1132462079) ?_
                    refine pu 32 (some 110) (fl 41 5427429375) ?_
                    refine tk 23 (some 101) (fl 41 5435817983) hHeld ?_
                    refine pu 26 (some 104) (fl 41 5502926847) ?_
                    refine pu 27 (some 105) (fl 41 5637144575) ?_
                    refine tk 28 (some 106) (fl 41 5905580031) hHeld ?_
                    refine tk 31 (some 109) (fl 41 8053063679) hHeld ?_
                    refine pu 33 (some 111) (fl 41 16642998271) ?_
                    refine pu 34 (some 112) (fl 41 33822867455) ?_
                    refine tk 35 (some 113) (fl 41 68182605823) hHeld ?_
                    refine join_ (σ := (Option Addr × Nat) × (Option Addr × Nat)) 4 (fl 41 137438953471) (fun s => [(107, .slice (s.1).1 (bytesOf p.f0).length (s.1).2), (114, .slice (s.2).1 (bytesOf a.f0).length (s.2).2)]) (fun s w' => ((bytesOf p.f0).length ≤ (s.1).2 ∧ Kd.C (Kd.int .u8) w' (s.1).1 (bytesOf p.f0).length (bytesOf p.f0)) ∧ ((bytesOf a.f0).length ≤ (s.2).2 ∧ Kd.C (Kd.int .u8) w' (s.2).1 (bytesOf a.f0).length (bytesOf a.f0)) ∧ (BS w u w')) ?_ ?_
                    rotate_left
                    · intro hJ29_36
                      refine join_ (σ := (Option Addr × Nat)) 5 (fl 41 68719476735) (fun s => [(107, .slice (s).1 (bytesOf p.f0).length (s).2)]) (fun s w' => ((bytesOf p.f0).length ≤ (s).2 ∧ Kd.C (Kd.int .u8) w' (s).1 (bytesOf p.f0).length (bytesOf p.f0)) ∧ (BS w u w')) ?_ ?_
                      rotate_left
                      · intro hJ29
                        refine join_ (σ := (Option Addr × Nat)) 5 (fl 41 136902082559) (fun s => [(114, .slice (s).1 (bytesOf a.f0).length (s).2)]) (fun s w' => ((bytesOf a.f0).length ≤ (s).2 ∧ Kd.C (Kd.int .u8) w' (s).1 (bytesOf a.f0).length (bytesOf a.f0)) ∧ (BS w u w')) ?_ ?_
                        rotate_left
                        · intro hJ36
                          refine two_ (i := 29) (j := 36) (Ni := some 107) (Nj := some 114) (fl 41 68719476735) (fl 41 136902082559) rfl rfl rfl rfl (by kernel_rfl) (by decide) (by decide) (fun K hK => ?_) (fun K hK => ?_)
                          · skip
                            refine Conv.V_conv_step (w0 := WN0) WN0.heap.size 5 (by rfl) (by rfl) 9 50 (.tmp 106) (by rfl) Try.underlying9 Try.underlying50 Try.underlying5 p.f0 (by rfl) (by have := HSp.out; omega) (Below.refl _ _) (Nat.le_refl _) ?_
                            intro v29 wn_29m ho hb hg_ hnew_
                            obtain ⟨Ap, cp, rfl, hc_, hr_⟩ := V_open ho
                            have HF29 := Lib.hid (show _ ∧ _ from ⟨hc_, hr_⟩)
                            have HS := Lib.hid hb
                            clear ho hb hg_ hnew_ hc_ hr_
                            have HB_ := HB
                            clear HB
                            have HB := Lib.hid (HB_.out.next HS.out)
                            refine hK.out _ _ ⟨(held6 H8.out HB.out HAD.out HGA.out HGP.out).1, (held6 H8.out HB.out HAD.out HGA.out HGP.out).2.1, (held6 H8.out HB.out HAD.out HGA.out HGP.out).2.2.1, (held6 H8.out HB.out HAD.out HGA.out HGP.out).2.2.2.1, (held6 H8.out HB.out HAD.out HGA.out HGP.out).2.2.2.2.1, (held6 H8.out HB.out HAD.out HGA.out HGP.out).2.2.2.2.2.1, (held6 H8.out HB.out HAD.out HGA.out HGP.out).2.2.2.2.2.2⟩ (fun hHeld => ?_)
                            clear hK K
                            refine nm ?_
                            exact norm_ (by first | (simp only [putAll, Act.put, List.setIfInBounds_toArray, List.set_cons_zero, List.set_cons_succ]; done) | (simp only [putAll, Act.put, List.setIfInBounds_toArray, List.set_cons_zero, List.set_cons_succ]; rfl)) (hJ29 (Ap, cp) _ ⟨HF29.out, HB.out⟩)
                          · skip
                            refine Conv.V_conv_step (w0 := WN0) WN0.heap.size 5 (by rfl) (by rfl) 9 50 (.tmp 113) (by rfl) Try.underlying9 Try.underlying50 Try.underlying5 a.f0 (by rfl) (by have := HSa.out; omega) (Below.refl _ _) (Nat.le_refl _) ?_
                            intro v36 wn_36m ho hb hg_ hnew_
                            obtain ⟨Aa, ca, rfl, hc_, hr_⟩ := V_open ho
                            have HF36 := Lib.hid (show _ ∧ _ from ⟨hc_, hr_⟩)
                            have HS := Lib.hid hb
                            clear ho hb hg_ hnew_ hc_ hr_
                            have HB_ := HB
                            clear HB
                            have HB := Lib.hid (HB_.out.next HS.out)
                            refine hK.out _ _ ⟨(held6 H8.out HB.out HAD.out HGA.out HGP.out).1, (held6 H8.out HB.out HAD.out HGA.out HGP.out).2.1, (held6 H8.out HB.out HAD.out HGA.out HGP.out).2.2.1, (held6 H8.out HB.out HAD.out HGA.out HGP.out).2.2.2.1, (held6 H8.out HB.out HAD.out HGA.out HGP.out).2.2.2.2.1, (held6 H8.out HB.out HAD.out HGA.out HGP.out).2.2.2.2.2.1, (held6 H8.out HB.out HAD.out HGA.out HGP.out).2.2.2.2.2.2⟩ (fun hHeld => ?_)
                            clear hK K
                            refine nm ?_
                            exact norm_ (by first | (simp only [putAll, Act.put, List.setIfInBounds_toArray, List.set_cons_zero, List.set_cons_succ]; done) | (simp only [putAll, Act.put, List.setIfInBounds_toArray, List.set_cons_zero, List.set_cons_succ]; rfl)) (hJ36 (Aa, ca) _ ⟨HF36.out, HB.out⟩)
                        · skip
                          rintro v36 wn_36 ⟨hf36, hbase⟩
                          have HF36 := Lib.hid hf36
                          have HB := Lib.hid hbase
                          clear hbase hf36
                          have hHeld : (fun w' => w'.cell? ⟨w.heap.size, 8, none⟩ = some (.slice (some ad) u.a.2.1 u.a.2.2) ∧ w'.cell? (ad.add (k * 5)) = some (.string a.f0) ∧ w'.cell? ⟨(ad.add (k * 5)).block, (ad.add (k * 5)).off + 1, none⟩ = some (.int .i64 a.f1.f0) ∧ w'.cell? ⟨(ad.add (k * 5)).block, (ad.add (k * 5)).off + 2, none⟩ = some (.string a.f1.f1) ∧ w'.cell? ⟨(ad.add (k * 5)).block, (ad.add (k * 5)).off + 3, none⟩ = some (.int .i64 a.f1.f2) ∧ w'.cell? ⟨(ad.add (k * 5)).block, (ad.add (k * 5)).off + 4, none⟩ = some (.bool a.f1.f3) ∧ w'.cell? (ad.add (j * 5)) = some (.string p.f0)) wn_36 := held6 H8.out HB.out HAD.out HGA.out HGP.out
                          refine nm ?_
                          refine on_ 29 (some 107) (fl 41 137438953471) fun K hK => ?_
                          refine Conv.V_conv_step (w0 := wn_36) wn_36.heap.size 5 (by rfl) (by rfl) 9 50 (.tmp 106) (by rfl) Try.underlying9 Try.underlying50 Try.underlying5 p.f0 (by rfl) (by have := HSp.out; omega) (Below.refl _ _) (Nat.le_refl _) ?_
                          intro v29 wn_29_36m ho hb hg_ hnew_
                          obtain ⟨Ap, cp, rfl, hc_, hr_⟩ := V_open ho
                          have HF29 := Lib.hid (show _ ∧ _ from ⟨hc_, hr_⟩)
                          have HS := Lib.hid hb
                          clear ho hb hg_ hnew_ hc_ hr_
                          have HB_ := HB
                          clear HB
                          have HB := Lib.hid (HB_.out.next HS.out)
                          refine hK.out _ _ ⟨(held6 H8.out HB.out HAD.out HGA.out HGP.out).1, (held6 H8.out HB.out HAD.out HGA.out HGP.out).2.1, (held6 H8.out HB.out HAD.out HGA.out HGP.out).2.2.1, (held6 H8.out HB.out HAD.out HGA.out HGP.out).2.2.2.1, (held6 H8.out HB.out HAD.out HGA.out HGP.out).2.2.2.2.1, (held6 H8.out HB.out HAD.out HGA.out HGP.out).2.2.2.2.2.1, (held6 H8.out HB.out HAD.out HGA.out HGP.out).2.2.2.2.2.2⟩ (fun hHeld => ?_)
                          clear hK K
                          refine nm ?_
                          exact norm_ (by first | (simp only [putAll, Act.put, List.setIfInBounds_toArray, List.set_cons_zero, List.set_cons_succ]; done) | (simp only [putAll, Act.put, List.setIfInBounds_toArray, List.set_cons_zero, List.set_cons_succ]; rfl)) (hJ29_36 ((Ap, cp), v36) _ ⟨HF29.out, (⟨HF36.out.1, Kd.C_below HF36.out.2 HS.out⟩), HB.out⟩)
                      · skip
                        rintro v29 wn_29 ⟨hf29, hbase⟩
                        have HF29 := Lib.hid hf29
                        have HB := Lib.hid hbase
                        clear hbase hf29
                        have hHeld : (fun w' => w'.cell? ⟨w.heap.size, 8, none⟩ = some (.slice (some ad) u.a.2.1 u.a.2.2) ∧ w'.cell? (ad.add (k * 5)) = some (.string a.f0) ∧ w'.cell? ⟨(ad.add (k * 5)).block, (ad.add (k * 5)).off + 1, none⟩ = some (.int .i64 a.f1.f0) ∧ w'.cell? ⟨(ad.add (k * 5)).block, (ad.add (k * 5)).off + 2, none⟩ = some (.string a.f1.f1) ∧ w'.cell? ⟨(ad.add (k * 5)).block, (ad.add (k * 5)).off + 3, none⟩ = some (.int .i64 a.f1.f2) ∧ w'.cell? ⟨(ad.add (k * 5)).block, (ad.add (k * 5)).off + 4, none⟩ = some (.bool a.f1.f3) ∧ w'.cell? (ad.add (j * 5)) = some (.string p.f0)) wn_29 := held6 H8.out HB.out HAD.out HGA.out HGP.out
                        refine nm ?_
                        refine on_ 36 (some 114) (fl 41 137438953471) fun K hK => ?_
                        refine Conv.V_conv_step (w0 := wn_29) wn_29.heap.size 5 (by rfl) (by rfl) 9 50 (.tmp 113) (by rfl) Try.underlying9 Try.underlying50 Try.underlying5 a.f0 (by rfl) (by have := HSa.out; omega) (Below.refl _ _) (Nat.le_refl _) ?_
                        intro v36 wn_29_36m ho hb hg_ hnew_
                        obtain ⟨Aa, ca, rfl, hc_, hr_⟩ := V_open ho
                        have HF36 := Lib.hid (show _ ∧ _ from ⟨hc_, hr_⟩)
                        have HS := Lib.hid hb
                        clear ho hb hg_ hnew_ hc_ hr_
                        have HB_ := HB
                        clear HB
                        have HB := Lib.hid (HB_.out.next HS.out)
                        refine hK.out _ _ ⟨(held6 H8.out HB.out HAD.out HGA.out HGP.out).1, (held6 H8.out HB.out HAD.out HGA.out HGP.out).2.1, (held6 H8.out HB.out HAD.out HGA.out HGP.out).2.2.1, (held6 H8.out HB.out HAD.out HGA.out HGP.out).2.2.2.1, (held6 H8.out HB.out HAD.out HGA.out HGP.out).2.2.2.2.1, (held6 H8.out HB.out HAD.out HGA.out HGP.out).2.2.2.2.2.1, (held6 H8.out HB.out HAD.out HGA.out HGP.out).2.2.2.2.2.2⟩ (fun hHeld => ?_)
                        clear hK K
                        refine nm ?_
                        exact norm_ (by first | (simp only [putAll, Act.put, List.setIfInBounds_toArray, List.set_cons_zero, List.set_cons_succ]; done) | (simp only [putAll, Act.put, List.setIfInBounds_toArray, List.set_cons_zero, List.set_cons_succ]; rfl)) (hJ29_36 (v29, (Aa, ca)) _ ⟨(⟨HF29.out.1, Kd.C_below HF29.out.2 HS.out⟩), HF36.out, HB.out⟩)
                    rintro ⟨v29, v36⟩ wn_29_36 ⟨hf29, hf36, hbase⟩
                    have HF29 := Lib.hid hf29
                    have HF36 := Lib.hid hf36
                    have HB := Lib.hid hbase
                    clear hbase hf29 hf36
                    have hHeld : (fun w' => w'.cell? ⟨w.heap.size, 8, none⟩ = some (.slice (some ad) u.a.2.1 u.a.2.2) ∧ w'.cell? (ad.add (k * 5)) = some (.string a.f0) ∧ w'.cell? ⟨(ad.add (k * 5)).block, (ad.add (k * 5)).off + 1, none⟩ = some (.int .i64 a.f1.f0) ∧ w'.cell? ⟨(ad.add (k * 5)).block, (ad.add (k * 5)).off + 2, none⟩ = some (.string a.f1.f1) ∧ w'.cell? ⟨(ad.add (k * 5)).block, (ad.add (k * 5)).off + 3, none⟩ = some (.int .i64 a.f1.f2) ∧ w'.cell? ⟨(ad.add (k * 5)).block, (ad.add (k * 5)).off + 4, none⟩ = some (.bool a.f1.f3) ∧ w'.cell? (ad.add (j * 5)) = some (.string p.f0)) wn_29_36 := held6 H8.out HB.out HAD.out HGA.out HGP.out
                    refine nm ?_
                    refine on_ 37 (some 115) (fl 41 274877906943) fun K hK => ?_
                    have hlc := cambiumref01_Less.calls 3000 v29.1 v29.2 (bytesOf p.f0) v36.1 v36.2 (bytesOf a.f0) _ wn_29_36 HF29.out.2 HF29.out.1 HF36.out.2 HF36.out.1 (less_txt 3000 p.f0 a.f0 (by have := HSp.out; omega) (by omega))
                    refine gs Try.func19 #[.slice v29.1 (bytesOf p.f0).length v29.2, .slice v36.1 (bytesOf a.f0).length v36.2] ?_
                    with_reducible refine (hlc).mono ?_
                    rintro ee w9 ⟨rfl, nd, rfl⟩
                    refine ⟨_, rfl, ?_⟩
                    have HB := Lib.hid (HB.out.drewN nd)
                    clear hlc
                    refine hK.out _ _ ⟨(held6 H8.out HB.out HAD.out HGA.out HGP.out).1, (held6 H8.out HB.out HAD.out HGA.out HGP.out).2.1, (held6 H8.out HB.out HAD.out HGA.out HGP.out).2.2.1, (held6 H8.out HB.out HAD.out HGA.out HGP.out).2.2.2.1, (held6 H8.out HB.out HAD.out HGA.out HGP.out).2.2.2.2.1, (held6 H8.out HB.out HAD.out HGA.out HGP.out).2.2.2.2.2.1, (held6 H8.out HB.out HAD.out HGA.out HGP.out).2.2.2.2.2.2⟩ (fun hHeld => ?_)
                    clear hK K
                    refine nm ?_
                    refine pu 38 (some 116) (fl 41 549755813887) ?_
                    refine pu 39 (some 117) (fl 41 1099511627775) ?_
                    refine pu 40 (some 118) (fl 41 2199023255551) ?_
                    refine done_ (by kernel_rfl) ?_
                    cases hlz : lexLt (nums p.f0.data.toList) (nums a.f0.data.toList) with
                    | false =>
                      clear hlz
                      go_wp2
                      go_ret
                      exact ⟨RetB.no, HB.out.bw⟩
                    | true =>
                      have HLZ := Lib.hid hlz
                      clear hlz
                      go_wp2
                      go_roundw
                      case rel => exact ⟨k + 1, HKL.out, by rw [HW.out], Lib.hid ⟨by rw [HTk.out]; intro y hy; rcases List.mem_append.1 hy with hy | hy; exact HP.out.1 y hy; rw [List.mem_singleton.1 hy]; exact ⟨HSa.out, HVT.out.1⟩, fun i u v h hu hv => by
                        rcases Nat.lt_or_ge (i + 1) k with hik | hik
                        · exact HP.out.2 i u v hik hu hv
                        · have hij : i = j := by have := HK1.out; omega
                          subst hij
                          rw [HGP.out] at hu
                          rw [HK1.out, HGA.out] at hv
                          injection hu with hu
                          injection hv with hv
                          rw [← hu, ← hv]
                          exact HLZ.out⟩, HB⟩
                      case measure => exact meas_up2 (by have := Mf.out; omega) HKL.out
            · have hkl : k = u.a.2.1 := by omega
              subst hkl
              have q : decide ((u.a.2.1 : Int) < (u.a.2.1 : Int)) = false := decide_eq_false (by omega)
              rw [N8.out, List.take_length] at HP
              have HOK := Lib.hid (OkS.mk (x := x) (by rw [HF.out.1]; exact HSV.out (by first | rfl | trivial)) (by rw [HF.out.2]; exact HSO.out (by first | rfl | trivial)) (by rw [← N8.out]; exact Mf.out) HP.out.1 (pair_chain HP.out.2))
              clear hlt hk HP
              go_wp2
              clear x0 x1 x2 x3 x4 x5 x6 x7 x8 x9 x10
              go_loopw [4] (fun i wr => ∃ k : Nat, k ≤ u.e.2.1 ∧ i = .int .i64 k ∧ Hid (BS w u wr)) (fun i _ => u.e.2.1 - (intOf i).toNat)
              case atStart => exact ⟨0, by omega, rfl, HB⟩
              case round =>
                clear HB
                obtain ⟨k, hk, rfl, HB⟩ := hrel
                obtain ⟨x0, x1, x2, x3, x4, x5, x6, x7, x8, x9, x10⟩ := blkS HB.out.ks
                by_cases hlt : k < u.e.2.1
                · have q : decide ((k : Int) < (u.e.2.1 : Int)) = true := decide_eq_true (by omega)
                  have q2 : (k : Int) < (u.e.2.1 : Int) := by omega
                  obtain ⟨v, hv⟩ : ∃ v, x.f9[k]? = some v := ⟨_, List.getElem?_eq_getElem (by rw [← N9.out]; exact hlt)⟩
                  have HGV := Lib.hid hv
                  obtain ⟨ad, had, z0, z1⟩ := at_E2 (Kd.C_below H9.out HB.out.bw) hv
                  have HAD := Lib.hid had
                  rw [had] at x9
                  have HKL := Lib.hid (show k + 1 ≤ u.e.2.1 by omega)
                  have HW := Lib.hid (show wrap64 ((k : Int) + 1) = ((k + 1 : Nat) : Int) by have := Mg.out; unfold wrap64; omega)
                  clear hv had hlt hk
                  go_wp2_with fail
                  refine (time_w v.f0 _).mono ?_
                  rintro e w1 ⟨⟨r, rfl, _⟩, rfl⟩
                  cases r with
                  | false =>
                    go_wp2
                    go_ret
                    exact ⟨RetB.no, HB.out.bw⟩
                  | true =>
                    go_wp2_with fail
                    refine (name_w v.f1 _).mono ?_
                    rintro e w2 ⟨⟨r, rfl, _⟩, hb⟩
                    have HB := Lib.hid (HB.out.next hb)
                    clear hb x0 x1 x2 x3 x4 x5 x6 x7 x8 x9 x10 z0 z1
                    cases r with
                    | false =>
                      go_wp2
                      go_ret
                      exact ⟨RetB.no, HB.out.bw⟩
                    | true =>
                      go_wp2
                      go_roundw
                      case rel => exact ⟨k + 1, HKL.out, by rw [HW.out], HB⟩
                      case measure => exact meas_up2 (by have := Mg.out; omega) HKL.out
                · have hkl : k = u.e.2.1 := by omega
                  subst hkl
                  have q : decide ((u.e.2.1 : Int) < (u.e.2.1 : Int)) = false := decide_eq_false (by omega)
                  clear hlt hk
                  go_wp2
                  clear x0 x1 x2 x3 x4 x5 x6 x7 x8 x9 x10
                  go_loopw [5] (fun i wr => ∃ k : Nat, k ≤ u.l.2.1 ∧ i = .int .i64 k ∧ Hid (BS w u wr)) (fun i _ => u.l.2.1 - (intOf i).toNat)
                  case atStart => exact ⟨0, by omega, rfl, HB⟩
                  case round =>
                    clear HB
                    obtain ⟨k, hk, rfl, HB⟩ := hrel
                    obtain ⟨x0, x1, x2, x3, x4, x5, x6, x7, x8, x9, x10⟩ := blkS HB.out.ks
                    by_cases hlt : k < u.l.2.1
                    · have q : decide ((k : Int) < (u.l.2.1 : Int)) = true := decide_eq_true (by omega)
                      have q2 : (k : Int) < (u.l.2.1 : Int) := by omega
                      obtain ⟨v, hv⟩ : ∃ v, x.f10[k]? = some v := ⟨_, List.getElem?_eq_getElem (by rw [← N10.out]; exact hlt)⟩
                      obtain ⟨ad, had, z0, z1⟩ := at_L2 (Kd.C_below H10.out HB.out.bw) hv
                      rw [had] at x10
                      have HKL := Lib.hid (show k + 1 ≤ u.l.2.1 by omega)
                      have HW := Lib.hid (show wrap64 ((k : Int) + 1) = ((k + 1 : Nat) : Int) by have := Mh.out; unfold wrap64; omega)
                      clear hv had hlt hk
                      cases b0 : (v.f0 == 0) with
                      | true =>
                        go_wp2
                        go_ret
                        exact ⟨RetB.no, HB.out.bw⟩
                      | false =>
                        cases b1 : (v.f1 == 0) with
                        | true =>
                          go_wp2
                          go_ret
                          exact ⟨RetB.no, HB.out.bw⟩
                        | false =>
                          go_wp2
                          go_roundw
                          case rel => exact ⟨k + 1, HKL.out, by rw [HW.out], HB⟩
                          case measure => exact meas_up2 (by have := Mh.out; omega) HKL.out
                    · have hkl : k = u.l.2.1 := by omega
                      subst hkl
                      have q : decide ((u.l.2.1 : Int) < (u.l.2.1 : Int)) = false := decide_eq_false (by omega)
                      clear hlt hk
                      go_wp2
                      go_ret
                      exact ⟨RetB.yes _ HOK.out, HB.out.bw⟩
set_option maxHeartbeats 4000000 in
theorem fits_w {s : Sp} {x : S34} {w : World} (hx : Is w s x) (h8 : x.f8.length ≤ 100000000000000) (h9 : x.f9.length ≤ 100000000000000) :
    Calls Try.prog 10 #[.agg (encS s).toArray] w fun e w' => RetB (fun b => b = true → OkS x) e ∧ Below w.heap.size w w' := by
  have HB := Lib.hid (BS.start w s)
  obtain ⟨x0, x1, x2, x3, x4, x5, x6, x7, x8, x9, x10⟩ := blkS HB.out.ks
  have H1 := Lib.hid (small16_w (hx.below HB.out.bw) h8 h9)
  have HX := Lib.hid hx
  clear hx h8 h9
  rw [arr_S] at HB H1 x0 x1 x2 x3 x4 x5 x6 x7 x8 x9 x10 ⊢
  go_enter Try.func10, Try.ntmps10
  go_wp2_with fail
  refine H1.out.mono ?_
  rintro e w1 ⟨⟨r, rfl, _⟩, hb⟩
  have HB1 := Lib.hid (show BS w s w1 from (show BS w s _ from HB.out).next hb)
  clear hb x0 x1 x2 x3 x4 x5 x6 x7 x8 x9 x10 H1 HB
  obtain ⟨x0, x1, x2, x3, x4, x5, x6, x7, x8, x9, x10⟩ := blkS HB1.out.ks
  cases r with
  | false =>
    go_wp2
    go_ret
    exact ⟨RetB.no, HB1.out.bw⟩
  | true =>
    have H2 := may16_w (HX.out.below HB1.out.bw)
    rw [arr_S] at H2
    have H2 := Lib.hid H2
    go_wp2_with fail
    refine H2.out.mono ?_
    rintro e w2 ⟨⟨r, rfl, hr⟩, hb⟩
    have HR := Lib.hid hr
    have HB2 := Lib.hid (HB1.out.next hb)
    clear hb hr H2
    go_wp2
    go_ret
    exact ⟨⟨r, rfl, HR.out⟩, HB2.out.bw⟩
end Go.Proofs.Ytffggkhahambhaa.Tr

namespace Go.Proofs.Ytffggkhahambhaa.Tr
open Go.RowKit Go.Proofs.YtffggkhahambhaaW.PrintWords Go.Proofs.YtffggkhahambhaaW.PrintLast Go.Proofs.YtffggkhahambhaaW.PrintMore Go.Proofs.Ytffggkhahambhaa.Math Go.Proofs.Ytffggkhahambhaa.PAll Go.Proofs.Ytffggkhahambhaa.Stab Go.Proofs.Ytffggkhahambhaa.Open
set_option linter.unusedVariables false
theorem OkS.tot {x : S34} (h : OkS x) (t : S41) (ht : t.f2.f1.size ≤ 200) : ∃ k b, holdF k t x = some b :=
  holdF_tot t x (by omega) (by have := h.len; omega) (by have := h.svc; omega) (by have := h.op; omega) (fun a ha => by have := (h.att a ha).2; omega)
theorem G_lens {x : S34} (h : Open.G34 x) : x.f8.length ≤ 100000000000000 ∧ x.f9.length ≤ 100000000000000 := by
  obtain ⟨_, _, _, _, _, _, _, _, ⟨_, h8⟩, ⟨_, h9⟩, _⟩ := h
  have e8 : List.length x.f8 = x.f8.length := rfl
  have e9 : List.length x.f9 = x.f9.length := rfl
  exact ⟨by omega, by omega⟩
theorem tells {rs : List Sp} {fs : Sp → S34} (ts : List S41) (hOk : ∀ s ∈ rs, OkS (fs s)) (hts : ∀ t ∈ ts, t.f2.f1.size ≤ 200) : ∃ P : S41 → Sp → Bool, ∀ t ∈ ts, ∀ s ∈ rs, ∃ k, holdF k t (fs s) = some (P t s) := by
  have h : ∀ (t : S41) (s : Sp), ∃ b : Bool, t ∈ ts → s ∈ rs → ∃ k, holdF k t (fs s) = some b := by
    intro t s
    by_cases h : t ∈ ts ∧ s ∈ rs
    · obtain ⟨k, b, e⟩ := (hOk s h.2).tot t (hts t h.1)
      exact ⟨b, fun _ _ => ⟨k, e⟩⟩
    · exact ⟨false, fun h1 h2 => absurd ⟨h1, h2⟩ h⟩
  exact ⟨fun t s => (h t s).choose, fun t ht s hs => (h t s).choose_spec ht hs⟩
theorem is_all2 {W : World} {rs : List Sp} {l : List S34} (hI : ∀ (j : Nat) (s : Sp), rs[j]? = some s → ∃ x, l[j]? = some x ∧ Is W s x) : ∃ f : Sp → S34, ∀ s ∈ rs, Is W s (f s) ∧ f s ∈ l := by
  have h : ∀ s : Sp, ∃ x, s ∈ rs → Is W s x ∧ x ∈ l := by
    intro s
    by_cases hs : s ∈ rs
    · obtain ⟨j, hj, e⟩ := List.getElem_of_mem hs
      obtain ⟨x, hx, hi⟩ := hI j s (by rw [← e]; exact List.getElem?_eq_getElem hj)
      exact ⟨x, fun _ => ⟨hi, List.mem_of_getElem? hx⟩⟩
    · exact ⟨nilS, fun h => absurd h hs⟩
  exact ⟨fun s => (h s).choose, fun s hs => (h s).choose_spec hs⟩
theorem box2 {w : World} {g : Nat} {t : TypeId} {a b : Value} (h : w.heap[g]? = some (.cells #[a, b] t (0, 0))) : w.cell? ⟨g, 0, none⟩ = some a ∧ w.cell? ⟨g, 1, none⟩ = some b := ⟨(blk_cell h 0).trans rfl, (blk_cell h 1).trans rfl⟩
/-- Two boxes of two cells, the call's own. -/
structure Two (W : World) (a0 a1 b0 b1 : Value) (w : World) : Prop where
  bw : Below W.heap.size W w
  ka : w.heap[W.heap.size]? = some (.cells #[a0, a1] 24 (0, 0))
  kb : w.heap[W.heap.size + 1]? = some (.cells #[b0, b1] 24 (0, 0))
theorem lt_of_blk {w : World} {g : Nat} {o : Obj} (h : w.heap[g]? = some o) : g < w.heap.size := by
  rcases Nat.lt_or_ge g w.heap.size with h1 | h1
  · exact h1
  · rw [Array.getElem?_eq_none h1] at h; cases h
theorem Two.size {W w : World} {a0 a1 b0 b1 : Value} (h : Two W a0 a1 b0 b1 w) : W.heap.size + 2 ≤ w.heap.size := lt_of_blk h.kb
theorem Two.nextB {W w w' : World} {a0 a1 b0 b1 : Value} (h : Two W a0 a1 b0 b1 w) (hb : Below (W.heap.size + 2) w w') : Two W a0 a1 b0 b1 w' :=
  ⟨h.bw.trans (hb.mono (by omega)), (hb.block _ (by omega)).trans h.ka, (hb.block _ (by omega)).trans h.kb⟩
theorem Two.next {W w w' : World} {a0 a1 b0 b1 : Value} (h : Two W a0 a1 b0 b1 w) (hb : Below w.heap.size w w') : Two W a0 a1 b0 b1 w' := h.nextB (hb.mono h.size)
theorem Two.drew {W w : World} {a0 a1 b0 b1 : Value} (h : Two W a0 a1 b0 b1 w) : Two W a0 a1 b0 b1 w.drew := h.next (below_drew (Below.refl _ _))
theorem Two.cells {W w : World} {a0 a1 b0 b1 : Value} (h : Two W a0 a1 b0 b1 w) : w.cell? ⟨W.heap.size, 0, none⟩ = some a0 ∧ w.cell? ⟨W.heap.size, 1, none⟩ = some a1 ∧ w.cell? ⟨W.heap.size + 1, 0, none⟩ = some b0 ∧ w.cell? ⟨W.heap.size + 1, 1, none⟩ = some b1 :=
  ⟨(box2 h.ka).1, (box2 h.ka).2, (box2 h.kb).1, (box2 h.kb).2⟩
theorem Two.far {W w : World} {a0 a1 b0 b1 : Value} (h : Two W a0 a1 b0 b1 w) {g : Nat} (hg : W.heap.size + 2 ≤ g) (i : Nat) (v : Value) : Two W a0 a1 b0 b1 (w.setCell ⟨g, i, none⟩ v) :=
  h.nextB ((Below.refl _ _).setCell (p := ⟨g, i, none⟩) hg _)
/-- One box of two cells. -/
structure One1 (W : World) (a0 a1 : Value) (w : World) : Prop where
  bw : Below W.heap.size W w
  ka : w.heap[W.heap.size]? = some (.cells #[a0, a1] 24 (0, 0))
theorem One1.size {W w : World} {a0 a1 : Value} (h : One1 W a0 a1 w) : W.heap.size + 1 ≤ w.heap.size := lt_of_blk h.ka
theorem One1.next {W w w' : World} {a0 a1 : Value} (h : One1 W a0 a1 w) (hb : Below w.heap.size w w') : One1 W a0 a1 w' := ⟨below_step h.bw hb, block_below h.ka hb⟩
theorem One1.nextB {W w w' : World} {a0 a1 : Value} (h : One1 W a0 a1 w) (hb : Below (W.heap.size + 1) w w') : One1 W a0 a1 w' := ⟨h.bw.trans (hb.mono (by omega)), (hb.block _ (by omega)).trans h.ka⟩
theorem One1.drew {W w : World} {a0 a1 : Value} (h : One1 W a0 a1 w) : One1 W a0 a1 w.drew := h.next (below_drew (Below.refl _ _))
theorem One1.cells {W w : World} {a0 a1 : Value} (h : One1 W a0 a1 w) : w.cell? ⟨W.heap.size, 0, none⟩ = some a0 ∧ w.cell? ⟨W.heap.size, 1, none⟩ = some a1 := box2 h.ka
/-- And a third one. -/
structure Three (W : World) (a0 a1 b0 b1 : Value) (g : Nat) (c0 c1 : Value) (w : World) : Prop where
  two : Two W a0 a1 b0 b1 w
  hg : W.heap.size + 2 ≤ g
  kc : w.heap[g]? = some (.cells #[c0, c1] 24 (0, 0))
theorem Three.next {W w w' : World} {a0 a1 b0 b1 : Value} {g : Nat} {c0 c1 : Value} (h : Three W a0 a1 b0 b1 g c0 c1 w) (hb : Below w.heap.size w w') : Three W a0 a1 b0 b1 g c0 c1 w' := ⟨h.two.next hb, h.hg, block_below h.kc hb⟩
theorem Three.drew {W w : World} {a0 a1 b0 b1 : Value} {g : Nat} {c0 c1 : Value} (h : Three W a0 a1 b0 b1 g c0 c1 w) : Three W a0 a1 b0 b1 g c0 c1 w.drew := h.next (below_drew (Below.refl _ _))
theorem Three.setb {W w : World} {a0 a1 b0 b1 : Value} {g : Nat} {c0 c1 : Value} (h : Three W a0 a1 b0 b1 g c0 c1 w) (v : Value) : Three W a0 a1 b0 v g c0 c1 (w.setCell ⟨W.heap.size + 1, 1, none⟩ v) := by
  refine ⟨⟨h.two.bw.setCell (p := ⟨W.heap.size + 1, 1, none⟩) (by show W.heap.size ≤ W.heap.size + 1; omega) _, ?_, blk_set h.two.kb 1 v⟩, h.hg, ?_⟩
  · rw [Below.heap_setCell _ ⟨W.heap.size + 1, 1, none⟩ _ _ (by show W.heap.size ≠ W.heap.size + 1; omega)]; exact h.two.ka
  · rw [Below.heap_setCell _ ⟨W.heap.size + 1, 1, none⟩ _ _ (by show g ≠ W.heap.size + 1; have := h.hg; omega)]; exact h.kc
theorem Three.store {W w : World} {a0 a1 b0 b1 : Value} {g : Nat} {c0 c1 : Value} (h : Two W a0 a1 b0 b1 w) (hg : W.heap.size + 2 ≤ g) {d0 d1 : Value} (hk : w.heap[g]? = some (.cells #[d0, d1] 24 (0, 0))) : Three W a0 a1 b0 b1 g c0 c1 ((w.setCell ⟨g, 0, none⟩ c0).setCell ⟨g, 1, none⟩ c1) :=
  ⟨(h.far hg 0 c0).far hg 1 c1, hg, blk_set (blk_set hk 0 c0) 1 c1⟩
theorem rowT_lt {w : World} {base : Nat} {v : Value} {xs : List S41} (h : Kd.R k41 41 w base (fun _ => True) v xs) : ∀ k, v.ownBlock = some k → base ≤ k ∧ k < w.heap.size := by
  obtain ⟨_, inner, ho, _⟩ := h
  exact fun k hk => ⟨own_base ho k hk, own_lt ho k hk⟩
theorem rowT_far {w : World} {base g : Nat} {v : Value} {xs : List S41} (h : Kd.R k41 41 w base (fun _ => True) v xs) (hne : ∀ k, v.ownBlock = some k → k ≠ g) (i : Nat) (u : Value) : Kd.R k41 41 (w.setCell ⟨g, i, none⟩ u) base (fun _ => True) v xs := by
  have h4 := Kd.R_flat (ok' := fun k => some k = v.ownBlock) (fun {_ _ _ _} hm => hm) h (fun k hk _ => hk.symm)
  exact Kd.R_mono (Kd.R_step h4 fun k hk hlt => Below.heap_setCell w ⟨g, i, none⟩ u k (hne k hk.symm)) (fun _ _ => trivial)
theorem infoT : (Try.prog.info? 41).map (fun i => (i.zero, i.size, i.bytes)) = some (some (.agg #[(.string ⟨#[]⟩), (.int .i64 0), (.int .i64 0), (.string ⟨#[]⟩), (.int .i64 0), (.bool false)]), 6, 64) := by kernel_rfl
theorem query_cells {W : World} {x : S24} {cs : Array Value} (h : k24.K W x cs.toList) : ∃ A c, cs = #[.slice A x.f0.length c, .int .i64 x.f1] ∧ x.f0.length ≤ c ∧ Kd.C k41 W A x.f0.length x.f0 := by
  obtain ⟨A, c, he, hl, hC⟩ := k24_open h
  refine ⟨A, c, ?_, hl, hC⟩
  rw [← Array.toArray_toList (xs := cs), he]
end Go.Proofs.Ytffggkhahambhaa.Tr

namespace Go.Proofs.Ytffggkhahambhaa.Tr
open Go.RowKit Go.Proofs.YtffggkhahambhaaW.PrintWords Go.Proofs.YtffggkhahambhaaW.PrintLast Go.Proofs.YtffggkhahambhaaW.PrintMore Go.Proofs.Ytffggkhahambhaa.Math Go.Proofs.Ytffggkhahambhaa.PAll Go.Proofs.Ytffggkhahambhaa.Runes Go.Proofs.Ytffggkhahambhaa.Span
set_option linter.unusedVariables false
set_option linter.unusedSimpArgs false
theorem num_isN (f : ByteArray) (a0 a1 a2 a5 a6 a7 : Int) :
    (∃ n, numI a0 a1 a2 a5 a6 a7 f = some n ∧ isN f = true) ∨ (numI a0 a1 a2 a5 a6 a7 f = none ∧ isN f = false) := by
  have key : ∀ (b : ByteArray) (l : List UInt8), b.toList = l → (f.toList = l ↔ f = b) := fun b l h => by rw [← h]; exact toList_inj
  have k1 := key ⟨#[115, 116, 97, 116, 117, 115]⟩ [115, 116, 97, 116, 117, 115] (by rw [ByteArray.toList_eq])
  have k2 := key ⟨#[100, 117, 114]⟩ [100, 117, 114] (by rw [ByteArray.toList_eq])
  have k3 := key ⟨#[115, 116, 97, 114, 116]⟩ [115, 116, 97, 114, 116] (by rw [ByteArray.toList_eq])
  have k4 := key ⟨#[116, 114, 97, 99, 101]⟩ [116, 114, 97, 99, 101] (by rw [ByteArray.toList_eq])
  have k5 := key ⟨#[105, 100]⟩ [105, 100] (by rw [ByteArray.toList_eq])
  have k6 := key ⟨#[112, 97, 114, 101, 110, 116]⟩ [112, 97, 114, 101, 110, 116] (by rw [ByteArray.toList_eq])
  unfold numI isN
  by_cases e1 : f = ⟨#[115, 116, 97, 116, 117, 115]⟩
  · left
    exact ⟨_, by rw [if_neg (by rw [e1]; decide), if_neg (by rw [e1]; decide), if_neg (by rw [e1]; decide), if_neg (by rw [e1]; decide), if_neg (by rw [e1]; decide), if_pos e1], by rw [if_pos (k1.2 e1)]⟩
  by_cases e2 : f = ⟨#[100, 117, 114]⟩
  · left
    exact ⟨_, by rw [if_neg (by rw [e2]; decide), if_neg (by rw [e2]; decide), if_neg (by rw [e2]; decide), if_neg (by rw [e2]; decide), if_pos e2], by rw [if_neg (fun h => e1 (k1.1 h)), if_pos (k2.2 e2)]⟩
  by_cases e3 : f = ⟨#[115, 116, 97, 114, 116]⟩
  · left
    exact ⟨_, by rw [if_neg (by rw [e3]; decide), if_neg (by rw [e3]; decide), if_neg (by rw [e3]; decide), if_pos e3], by rw [if_neg (fun h => e1 (k1.1 h)), if_neg (fun h => e2 (k2.1 h)), if_pos (k3.2 e3)]⟩
  by_cases e4 : f = ⟨#[116, 114, 97, 99, 101]⟩
  · left
    exact ⟨_, by rw [if_neg (by rw [e4]; decide), if_neg (by rw [e4]; decide), if_pos e4], by rw [if_neg (fun h => e1 (k1.1 h)), if_neg (fun h => e2 (k2.1 h)), if_neg (fun h => e3 (k3.1 h)), if_pos (k4.2 e4)]⟩
  by_cases e5 : f = ⟨#[105, 100]⟩
  · left
    exact ⟨_, by rw [if_neg (by rw [e5]; decide), if_pos e5], by rw [if_neg (fun h => e1 (k1.1 h)), if_neg (fun h => e2 (k2.1 h)), if_neg (fun h => e3 (k3.1 h)), if_neg (fun h => e4 (k4.1 h)), if_pos (k5.2 e5)]⟩
  by_cases e6 : f = ⟨#[112, 97, 114, 101, 110, 116]⟩
  · left
    exact ⟨_, by rw [if_pos e6], by rw [if_neg (fun h => e1 (k1.1 h)), if_neg (fun h => e2 (k2.1 h)), if_neg (fun h => e3 (k3.1 h)), if_neg (fun h => e4 (k4.1 h)), if_neg (fun h => e5 (k5.1 h)), show (f.toList == ([112, 97, 114, 101, 110, 116] : List UInt8)) = true from beq_iff_eq.2 (k6.2 e6)]⟩
  right
  have b6 : (f.toList == ([112, 97, 114, 101, 110, 116] : List UInt8)) = false := beq_eq_false_iff_ne.2 (fun h => e6 (k6.1 h))
  refine ⟨?_, ?_⟩
  · rw [if_neg e6, if_neg e5, if_neg e4, if_neg e3, if_neg e2, if_neg e1]
  · rw [if_neg (fun h => e1 (k1.1 h)), if_neg (fun h => e2 (k2.1 h)), if_neg (fun h => e3 (k3.1 h)), if_neg (fun h => e4 (k4.1 h)), if_neg (fun h => e5 (k5.1 h)), b6]
/-- An attribute's field. -/
def atF (nm : ByteArray) : ByteArray := ⟨#[64]⟩ ++ nm
theorem data_len (f : ByteArray) : f.data.toList.length = f.size := by rw [Array.length_toList]; rfl
theorem atF_list (nm : ByteArray) : (atF nm).data.toList = 64 :: nm.data.toList := by
  unfold atF
  rw [ByteArray.data_append]
  simp
theorem atF_inj {a b : ByteArray} (h : atF a = atF b) : a = b := by
  have h1 : (atF a).data.toList = (atF b).data.toList := by rw [h]
  rw [atF_list, atF_list] at h1
  exact ByteArray.ext (Array.toList_inj.1 (List.cons.inj h1).2)
theorem at_split (f : ByteArray) (h2 : 2 ≤ f.size) (h : bt f 0 = 64) : f = atF (f.extract 1 f.size) := by
  have h0 : (0 : Int).toNat < f.size := by show 0 < f.size; omega
  have h3 := bt_at f 0 h0
  rw [h] at h3
  have h4 : f[0]'(by omega) = 64 := by
    have : ((f[0]'(by omega)).toNat : Int) = 64 := h3
    apply UInt8.toNat_inj.1
    have e : (64 : UInt8).toNat = 64 := rfl
    omega
  apply ByteArray.ext
  apply Array.toList_inj.1
  rw [atF_list]
  have h5 : (f.extract 1 f.size).data.toList = f.data.toList.drop 1 := by
    rw [ByteArray.data_extract, Array.toList_extract]
    show (f.data.toList.drop 1).take (f.size - 1) = _
    exact List.take_of_length_le (by rw [List.length_drop, data_len]; exact Nat.le_refl _)
  rw [h5]
  have h6 : f.data.toList = (f[0]'(by omega)) :: f.data.toList.drop 1 := by
    have h7 : 0 < f.data.toList.length := by
      rw [data_len]
      omega
    have h8 := List.drop_eq_getElem_cons h7
    rw [List.drop_zero] at h8
    exact h8
  rw [h4] at h6
  exact h6
theorem trim_at (nm : ByteArray) : strings_TrimPrefix.f (atF nm) ⟨#[64]⟩ = some nm := by
  have hs : (atF nm).size = nm.size + 1 := by
    rw [← data_len, atF_list, List.length_cons, data_len]
  have h1 : ((atF nm).extract 0 1).data.toList = [64] := by
    rw [ByteArray.data_extract, Array.toList_extract]
    show ((atF nm).data.toList.drop 0).take 1 = _
    rw [atF_list]
    rfl
  have h2 : ((atF nm).extract 1 (atF nm).size) = nm := by
    apply ByteArray.ext
    apply Array.toList_inj.1
    rw [ByteArray.data_extract, Array.toList_extract]
    show ((atF nm).data.toList.drop 1).take ((atF nm).size - 1) = _
    rw [atF_list, hs]
    exact List.take_of_length_le (by rw [List.drop_succ_cons, List.drop_zero, data_len]; omega)
  unfold strings_TrimPrefix.f stringslite_TrimPrefix.f stringslite_HasPrefix.f
  show (((if ((atF nm).size : Int) ≥ ((1 : Nat) : Int) then if 0 ≤ ((1 : Nat) : Int) then if ((1 : Nat) : Int) ≤ ((atF nm).size : Int) then some (((atF nm).extract 0 1).toList == (⟨#[64]⟩ : ByteArray).toList) else none else none else some false) : Option Bool).bind fun t108 => if t108 = true then if 0 ≤ ((1 : Nat) : Int) then if ((1 : Nat) : Int) ≤ ((atF nm).size : Int) then some ((atF nm).extract 1 (atF nm).size) else none else none else some (atF nm)).bind _ = _
  rw [if_pos (by omega), if_pos (by omega), if_pos (by omega), Option.bind_some, ByteArray.toList_eq, h1, if_pos (by rw [ByteArray.toList_eq]; rfl), if_pos (by omega), if_pos (by omega), h2]
  rfl
/-- No two attributes of a span that may be have one name. -/
theorem names_apart {x : S34} (h : OkS x) : x.f8.Pairwise (fun a b => a.f0 ≠ b.f0) :=
  h.ord.imp fun {a b} hab e => by rw [e, Math.lexLt_irrefl] at hab; cases hab
theorem isT_at (nm : ByteArray) : isT (atF nm) = false := by
  unfold isT
  rw [ByteArray.toList_eq, atF_list, if_neg (by intro h; injection h with h1 h2; revert h1; decide)]
  exact beq_eq_false_iff_ne.2 (by intro h; injection h with h1 h2; revert h1; decide)
end Go.Proofs.Ytffggkhahambhaa.Tr

namespace Go.Proofs.Ytffggkhahambhaa.Tr
open Go.RowKit Go.Proofs.YtffggkhahambhaaW.PrintWords Go.Proofs.YtffggkhahambhaaW.PrintLast Go.Proofs.YtffggkhahambhaaW.PrintMore Go.Proofs.Ytffggkhahambhaa.Math Go.Proofs.Ytffggkhahambhaa.PAll Go.Proofs.Ytffggkhahambhaa.Runes Go.Proofs.Ytffggkhahambhaa.Text Go.Proofs.Ytffggkhahambhaa.Span
set_option linter.unusedVariables false
set_option linter.unusedSimpArgs false
def PairR (r1 r2 : Int) : Prop := (r1 = 0 ∧ r2 = 1) ∨ (r1 = 2 ∧ r2 = 5) ∨ (r1 = 4 ∧ r2 = 3)
theorem pair_rel {r1 r2 : Int} (hp : PairR r1 r2) (c : Int) : ∃ u v, filter_holds.f r1 c = some u ∧ filter_holds.f r2 c = some v ∧ (u && v) = false ∧ (u || v) = true := by
  rcases hp with ⟨rfl, rfl⟩ | ⟨rfl, rfl⟩ | ⟨rfl, rfl⟩
  · refine ⟨c == 0, c != 0, rfl, rfl, ?_, ?_⟩
    · cases h : (c == 0) <;> simp_all
    · cases h : (c == 0) <;> simp_all
  · refine ⟨decide (c < 0), !decide (c < 0), rfl, ?_, ?_, ?_⟩
    · show (if c = 0 then some true else some (decide (c > 0))) = _
      split
      · rename_i h; rw [decide_eq_false (show ¬ c < 0 by omega)]; rfl
      · rename_i h
        by_cases h1 : c < 0
        · rw [decide_eq_true h1, decide_eq_false (by omega)]; rfl
        · rw [decide_eq_false h1, decide_eq_true (by omega)]; rfl
    · cases decide (c < 0) <;> rfl
    · cases decide (c < 0) <;> rfl
  · refine ⟨decide (c > 0), !decide (c > 0), rfl, ?_, ?_, ?_⟩
    · show (if c = 0 then some true else some (decide (c < 0))) = _
      split
      · rename_i h; rw [decide_eq_false (show ¬ c > 0 by omega)]; rfl
      · rename_i h
        by_cases h1 : c > 0
        · rw [decide_eq_true h1, decide_eq_false (by omega)]; rfl
        · rw [decide_eq_false h1, decide_eq_true (by omega)]; rfl
    · cases decide (c > 0) <;> rfl
    · cases decide (c > 0) <;> rfl
/-- An attribute of the field's name, of the term's kind. -/
def hitA (f : ByteArray) (kd : Int) (a : S45) : Bool := ((atF a.f0).toList == f.toList) && (a.f1.f0 == kd)
/-- Is the field there, and of the term's kind? -/
def startsAt (f : ByteArray) : Bool := decide (0 < f.size) && (bt f 0 == 64)
def thereB (f : ByteArray) (kd : Int) (A : List S45) : Bool := if startsAt f = true then isT f || A.any (hitA f kd) else isT f || kd == 1
theorem any_attr (nm : ByteArray) (kd : Int) : ∀ (A : List S45), A.Pairwise (fun a b => a.f0 ≠ b.f0) → A.any (hitA (atF nm) kd) = ((attrV nm A).2.2.2.2 && (attrV nm A).1 == kd)
  | [], _ => rfl
  | a :: l, h => by
    obtain ⟨h1, h2⟩ := List.pairwise_cons.1 h
    rw [List.any_cons, attrV]
    by_cases e : a.f0 = nm
    · have hh : hitA (atF nm) kd a = (a.f1.f0 == kd) := by
        unfold hitA
        rw [e, beq_self_eq_true, Bool.true_and]
      have hn : l.any (hitA (atF nm) kd) = false := by
        rw [List.any_eq_false]
        intro b hb hc
        unfold hitA at hc
        rw [Bool.and_eq_true] at hc
        have h3 := atF_inj (toList_inj.1 (beq_iff_eq.1 hc.1))
        exact h1 b hb (by rw [e, h3])
      rw [if_pos e, hh, hn, Bool.or_false, Bool.true_and]
    · have hh : hitA (atF nm) kd a = false := by
        unfold hitA
        rw [beq_eq_false_iff_ne.2 (fun hc => e (atF_inj (toList_inj.1 hc))), Bool.false_and]
      rw [if_neg e, hh, Bool.false_or]
      exact any_attr nm kd l h2
/-- The law, plainly. -/
theorem pair_law {x : S34} (hOk : OkS x) (f : ByteArray) (v : S39) {r1 r2 : Int} (hp : PairR r1 r2) (ha : OneT ⟨f, r1, v⟩) (hb : OneT ⟨f, r2, v⟩) :
    ∃ a b, (∃ k, holdF k ⟨f, r1, v⟩ x = some a) ∧ (∃ k, holdF k ⟨f, r2, v⟩ x = some b) ∧ (a && b) = false ∧ (a || b) = thereB f v.f0 x.f8 := by
  have h3 : x.f3.size ≤ 700 := by have := hOk.svc; omega
  have hr6 : ¬ r1 = 6 ∧ ¬ r2 = 6 := by unfold PairR at hp; omega
  have hkr := ha.kr
  dsimp only at hkr
  have hst : ∀ l : List UInt8, f.toList = l → (∃ c m, l = c :: m ∧ c ≠ 64) → startsAt f = false := by
    intro l hl ⟨c, m, e, hc⟩
    unfold startsAt
    by_cases h0 : 0 < f.size
    · have h4 := bt_at f 0 h0
      have h5 : f[(0 : Int).toNat]'h0 = c := by
        have h6 : f.data.toList = c :: m := by rw [← ByteArray.toList_eq, hl, e]
        have h7 : f.data.toList[0]'(by rw [h6]; simp) = c := by simp only [h6]; rfl
        exact h7
      rw [h5] at h4
      rw [decide_eq_true h0, Bool.true_and]
      apply beq_eq_false_iff_ne.2
      intro h8
      rw [h8] at h4
      apply hc
      apply UInt8.toNat_inj.1
      have e2 : (64 : UInt8).toNat = 64 := rfl
      omega
    · rw [decide_eq_false h0, Bool.false_and]
  have hpr := pair_rel hp
  unfold holdF
  dsimp only
  rcases num_isN f x.f0 x.f1 x.f2 x.f5 x.f6 x.f7 with ⟨n, e1, e2⟩ | ⟨e1, e2⟩
  · obtain ⟨u, w, h1, h2, h4, h5⟩ := hpr (if 9223372036854775807 < n then 1 else cmpI (wrap64 n) v.f2)
    have hf : isT f = false ∧ v.f0 = 1 := by
      rcases ha.fld with h | h | h
      · exfalso
        have h1 := h.1
        dsimp only at h1
        unfold isT at h1
        unfold isN at e2
        split at h1
        · rename_i hh; rw [hh] at e2; revert e2; decide
        · have hh := beq_iff_eq.1 h1; rw [hh] at e2; revert e2; decide
      · exact ⟨h.1, h.2.2.1⟩
      · have := h.2.1; dsimp only at this; rw [this] at e2; cases e2
    have hsf : startsAt f = false := by
      unfold isN at e2
      repeat' split at e2
      · rename_i h; exact hst _ h ⟨_, _, rfl, by decide⟩
      · rename_i h; exact hst _ h ⟨_, _, rfl, by decide⟩
      · rename_i h; exact hst _ h ⟨_, _, rfl, by decide⟩
      · rename_i h; exact hst _ h ⟨_, _, rfl, by decide⟩
      · rename_i h; exact hst _ h ⟨_, _, rfl, by decide⟩
      · exact hst _ (beq_iff_eq.1 e2) ⟨_, _, rfl, by decide⟩
    refine ⟨u, w, ⟨0, by rw [e1]; exact h1⟩, ⟨0, by rw [e1]; exact h2⟩, h4, ?_⟩
    unfold thereB
    rw [h5, hsf, if_neg (by decide), hf.2]
    simp
  · rw [e1]
    dsimp only
    rcases ha.fld with h | h | h
    · obtain ⟨hT, hkd, hr⟩ := h
      dsimp only at hT hkd hr
      have hval : ∃ s, ∀ k, filter_value.f k f x.f0 x.f1 x.f2 x.f3 x.f4 x.f5 x.f6 x.f7 x.f8 x.f9 x.f10 = some (0, s, 0, false, true) := by
        unfold filter_value.f
        have hT' := hT
        unfold isT at hT'
        split at hT'
        · rename_i hh; exact ⟨x.f3, fun k => by rw [if_pos hh]⟩
        · rename_i hh; exact ⟨x.f4, fun k => by rw [if_neg hh, if_pos (beq_iff_eq.1 hT')]⟩
      obtain ⟨s, hs⟩ := hval
      obtain ⟨u, w, h1, h2, h4, h5⟩ := hpr (cmpV 0 s 0 false v.f0 v.f1 v.f2 v.f3).1
      have hc2 : (cmpV 0 s 0 false v.f0 v.f1 v.f2 v.f3).2 = true := by
        unfold cmpV
        rw [if_pos hkd.symm, if_pos rfl]
      have hsf : startsAt f = false := by
        unfold isT at hT
        split at hT
        · rename_i hh; exact hst _ hh ⟨_, _, rfl, by decide⟩
        · exact hst _ (beq_iff_eq.1 hT) ⟨_, _, rfl, by decide⟩
      refine ⟨u, w, ⟨0, ?_⟩, ⟨0, ?_⟩, h4, ?_⟩
      · rw [hs, Option.bind_some]
        unfold holdV
        rw [if_neg (fun h : true = false => by cases h), if_neg hr6.1, if_pos hc2]
        exact h1
      · rw [hs, Option.bind_some]
        unfold holdV
        rw [if_neg (fun h : true = false => by cases h), if_neg hr6.2, if_pos hc2]
        exact h2
      · unfold thereB
        rw [h5, hsf, if_neg (by decide), hT]
        rfl
    · have := h.2.1; dsimp only at this; rw [this] at e2; cases e2
    · obtain ⟨hT, hN, h2s, h64⟩ := h
      dsimp only at hT hN h2s h64
      have hsp := at_split f h2s h64
      obtain ⟨nm, hnm⟩ : ∃ nm, f.extract 1 f.size = nm := ⟨_, rfl⟩
      rw [hnm] at hsp
      have hsv : ¬ f.toList = ([115, 101, 114, 118, 105, 99, 101] : List UInt8) := fun h => by unfold isT at hT; rw [if_pos h] at hT; cases hT
      have hop : ¬ f.toList = ([111, 112] : List UInt8) := fun h => by unfold isT at hT; rw [if_neg hsv, h] at hT; revert hT; decide
      have hA : x.f8.length ≤ 16 := hOk.len
      have hval : filter_value.f 3000000 f x.f0 x.f1 x.f2 x.f3 x.f4 x.f5 x.f6 x.f7 x.f8 x.f9 x.f10 = some (attrV nm x.f8) := by
        have ha : span_Attr.f 3000000 x.f0 x.f1 x.f2 x.f3 x.f4 x.f5 x.f6 x.f7 x.f8 x.f9 x.f10 nm = some (attrV nm x.f8) := attr_l0 nm x.f8 (by omega) x.f8.length 3000000 0 (by omega) (by omega) (by omega)
        unfold filter_value.f
        rw [if_neg hsv, if_neg hop, hsp, trim_at, Option.bind_some, ha, Option.bind_some]
      have hany := any_attr nm v.f0 x.f8 (names_apart hOk)
      have hstart : startsAt f = true := by
        unfold startsAt
        rw [decide_eq_true (by omega), h64]
        rfl
      have hth : thereB f v.f0 x.f8 = ((attrV nm x.f8).2.2.2.2 && (attrV nm x.f8).1 == v.f0) := by
        unfold thereB
        rw [if_pos hstart, hT, Bool.false_or, hsp, hany]
      obtain ⟨⟨u1, u2, u3, u4, uo⟩, hu⟩ : ∃ u, attrV nm x.f8 = u := ⟨_, rfl⟩
      rw [hu] at hval hth
      dsimp only at hth
      rw [hth]
      cases uo with
      | false =>
        refine ⟨false, false, ⟨3000000, ?_⟩, ⟨3000000, ?_⟩, rfl, rfl⟩
        · rw [hval, Option.bind_some]; unfold holdV; rw [if_pos rfl]
        · rw [hval, Option.bind_some]; unfold holdV; rw [if_pos rfl]
      | true =>
        by_cases hk : u1 = v.f0
        · obtain ⟨u, w, h1, h2, h4, h5⟩ := hpr (cmpV u1 u2 u3 u4 v.f0 v.f1 v.f2 v.f3).1
          have hc2 : (cmpV u1 u2 u3 u4 v.f0 v.f1 v.f2 v.f3).2 = true := by
            unfold cmpV
            rw [if_pos hk]
            rcases hkr with h | h | h
            · rw [if_pos (by rw [hk]; exact h)]
            · rw [if_neg (by rw [hk, h]; decide), if_pos (by rw [hk]; exact h)]
            · rw [if_neg (by rw [hk, h]; decide), if_neg (by rw [hk, h]; decide), if_pos (by rw [hk]; exact h)]
          refine ⟨u, w, ⟨3000000, ?_⟩, ⟨3000000, ?_⟩, h4, ?_⟩
          · rw [hval, Option.bind_some]; unfold holdV; rw [if_neg (fun h : true = false => by cases h), if_neg hr6.1, if_pos hc2]; exact h1
          · rw [hval, Option.bind_some]; unfold holdV; rw [if_neg (fun h : true = false => by cases h), if_neg hr6.2, if_pos hc2]; exact h2
          · rw [h5, beq_iff_eq.2 hk]; rfl
        · have hc2 : (cmpV u1 u2 u3 u4 v.f0 v.f1 v.f2 v.f3).2 = false := by
            unfold cmpV
            rw [if_neg hk]
          refine ⟨false, false, ⟨3000000, ?_⟩, ⟨3000000, ?_⟩, rfl, ?_⟩
          · rw [hval, Option.bind_some]; unfold holdV; rw [if_neg (fun h : true = false => by cases h), if_neg hr6.1, if_neg (by rw [hc2]; decide)]
          · rw [hval, Option.bind_some]; unfold holdV; rw [if_neg (fun h : true = false => by cases h), if_neg hr6.2, if_neg (by rw [hc2]; decide)]
          · rw [beq_eq_false_iff_ne.2 hk]; rfl
end Go.Proofs.Ytffggkhahambhaa.Tr

namespace Go.Proofs.Ytffggkhahambhaa.Tr
open Go.RowKit Go.Proofs.YtffggkhahambhaaW.PrintWords Go.Proofs.YtffggkhahambhaaW.PrintLast Go.Proofs.YtffggkhahambhaaW.PrintMore Go.Proofs.Ytffggkhahambhaa.Math Go.Proofs.Ytffggkhahambhaa.PAll
/-- The boxes of a term and of a span. -/
structure Bx (W : World) (t6 s11 : Array Value) (w : World) : Prop where
  bw : Below W.heap.size W w
  kt : w.heap[W.heap.size]? = some (.cells t6 41 (0, 0))
  ks : w.heap[W.heap.size + 1]? = some (.cells s11 34 (0, 0))
theorem Bx.size {W w : World} {t6 s11 : Array Value} (h : Bx W t6 s11 w) : W.heap.size + 2 ≤ w.heap.size := lt_of_blk h.ks
theorem Bx.nextB {W w w' : World} {t6 s11 : Array Value} (h : Bx W t6 s11 w) (hb : Below (W.heap.size + 2) w w') : Bx W t6 s11 w' :=
  ⟨h.bw.trans (hb.mono (by omega)), (hb.block _ (by omega)).trans h.kt, (hb.block _ (by omega)).trans h.ks⟩
theorem Bx.next {W w w' : World} {t6 s11 : Array Value} (h : Bx W t6 s11 w) (hb : Below w.heap.size w w') : Bx W t6 s11 w' := h.nextB (hb.mono h.size)
theorem meas3 (k j : Nat) (h : wrap64 (((k : Nat) : Int) + 1) = ((j : Nat) : Int)) (hj : k < j ∧ k < 3) : 3 - (intOf (.int .i64 (wrap64 ((k : Int) + 1)))).toNat < 3 - (intOf (.int .i64 (k : Int))).toNat := by
  rw [h]
  show 3 - (j : Int).toNat < 3 - (k : Int).toNat
  rw [Int.toNat_natCast, Int.toNat_natCast]
  omega
theorem at_A {w : World} {A : Option Addr} {n : Nat} {xs : List S45} (h : Kd.C k45 w A n xs) {k : Nat} {t : S45} (hk : xs[k]? = some t) : ∃ ad, A = some ad ∧ w.cell? (ad.add (k * 5)) = some (.string t.f0) ∧ w.cell? ⟨(ad.add (k * 5)).block, (ad.add (k * 5)).off + 1, none⟩ = some (.int .i64 t.f1.f0) := by
  obtain ⟨hkl, hs⟩ := List.getElem?_eq_some_iff.1 hk
  obtain ⟨hn, _, hC⟩ := h
  obtain ⟨ad, e, hcc⟩ := hC (by omega)
  obtain ⟨c, hcl, hK, hc⟩ := hcc k t hk
  have hK := k45_open hK
  subst hK
  have hc : ∀ j u, ([.string t.f0, .int .i64 t.f1.f0, .string t.f1.f1, .int .i64 t.f1.f2, .bool t.f1.f3] : List Value)[j]? = some u → w.cell? (ad.add (k * 5 + j)) = some u := hc
  exact ⟨ad, e, hc 0 _ rfl, by rw [← add_field _ _ 1 (by omega)]; exact hc 1 _ rfl⟩
theorem Bx.tc {W w : World} {a b c d e f : Value} {s11 : Array Value} (h : Bx W #[a, b, c, d, e, f] s11 w) : w.cell? ⟨W.heap.size, 0, none⟩ = some a ∧ w.cell? ⟨W.heap.size, 1, none⟩ = some b ∧ w.cell? ⟨W.heap.size, 2, none⟩ = some c ∧ w.cell? ⟨W.heap.size, 3, none⟩ = some d ∧ w.cell? ⟨W.heap.size, 4, none⟩ = some e ∧ w.cell? ⟨W.heap.size, 5, none⟩ = some f := box6 h.kt
theorem Bx.sc {W w : World} {t6 : Array Value} {s : Sp} (h : Bx W t6 (encS s).toArray w) : w.cell? ⟨W.heap.size + 1, 0, none⟩ = some (.int .u64 s.tr) ∧ w.cell? ⟨W.heap.size + 1, 1, none⟩ = some (.int .u64 s.id) ∧ w.cell? ⟨W.heap.size + 1, 2, none⟩ = some (.int .u64 s.par) ∧ w.cell? ⟨W.heap.size + 1, 3, none⟩ = some (.string s.svc) ∧ w.cell? ⟨W.heap.size + 1, 4, none⟩ = some (.string s.op) ∧ w.cell? ⟨W.heap.size + 1, 5, none⟩ = some (.int .i64 s.st) ∧ w.cell? ⟨W.heap.size + 1, 6, none⟩ = some (.int .i64 s.du) ∧ w.cell? ⟨W.heap.size + 1, 7, none⟩ = some (.int .i64 s.stt) ∧ w.cell? ⟨W.heap.size + 1, 8, none⟩ = some (.slice s.a.1 s.a.2.1 s.a.2.2) ∧ w.cell? ⟨W.heap.size + 1, 9, none⟩ = some (.slice s.e.1 s.e.2.1 s.e.2.2) ∧ w.cell? ⟨W.heap.size + 1, 10, none⟩ = some (.slice s.l.1 s.l.2.1 s.l.2.2) := blkS h.ks
/-- And the relations' box. -/
structure Bx5 (W : World) (t6 s11 : Array Value) (g : Nat) (w : World) : Prop where
  bx : Bx W t6 s11 w
  hg : W.heap.size + 2 ≤ g
  ka : w.heap[g]? = some (.cells #[.int .i64 0, .int .i64 1, .int .i64 2, .int .i64 5, .int .i64 4, .int .i64 3] 43 (0, 0))
theorem Bx5.start {W w : World} {t6 s11 : Array Value} (h : Bx W t6 s11 w) : Bx5 W t6 s11 w.heap.size (w.alloc (.cells #[.int .i64 0, .int .i64 1, .int .i64 2, .int .i64 5, .int .i64 4, .int .i64 3] 43)) :=
  ⟨h.next (below_alloc (Below.refl _ _) _), h.size, heap_alloc_new _ _⟩
theorem Bx5.next {W w w' : World} {t6 s11 : Array Value} {g : Nat} (h : Bx5 W t6 s11 g w) (hb : Below w.heap.size w w') : Bx5 W t6 s11 g w' := ⟨h.bx.next hb, h.hg, block_below h.ka hb⟩
theorem Bx5.cc {W w : World} {t6 s11 : Array Value} {g : Nat} (h : Bx5 W t6 s11 g w) : w.cell? ⟨g, 0, none⟩ = some (.int .i64 0) ∧ w.cell? ⟨g, 1, none⟩ = some (.int .i64 1) ∧ w.cell? ⟨g, 2, none⟩ = some (.int .i64 2) ∧ w.cell? ⟨g, 3, none⟩ = some (.int .i64 5) ∧ w.cell? ⟨g, 4, none⟩ = some (.int .i64 4) ∧ w.cell? ⟨g, 5, none⟩ = some (.int .i64 3) := box6 h.ka
theorem Bx5.drewN {W w : World} {t6 s11 : Array Value} {g : Nat} (h : Bx5 W t6 s11 g w) (n : Nat) : Bx5 W t6 s11 g (w.drewN n) := h.next ⟨rfl, rfl, rfl, Nat.le_refl _, fun _ _ => rfl⟩
/-- And two terms of the round's own. -/
structure Bx7 (W : World) (t6 s11 : Array Value) (g gA : Nat) (tA : Array Value) (gB : Nat) (tB : Array Value) (w : World) : Prop where
  b5 : Bx5 W t6 s11 g w
  hA : W.heap.size + 2 ≤ gA ∧ g < gA
  hB : gA < gB
  kA : w.heap[gA]? = some (.cells tA 41 (0, 0))
  kB : w.heap[gB]? = some (.cells tB 41 (0, 0))
theorem Bx7.start {W w : World} {t6 s11 : Array Value} {g : Nat} (h : Bx5 W t6 s11 g w) (tA tB : Array Value) : Bx7 W t6 s11 g w.heap.size tA (w.heap.size + 1) tB ((w.alloc (.cells tA 41)).alloc (.cells tB 41)) := by
  have h1 := h.next (below_alloc (Below.refl _ _) (.cells tA 41))
  have k2 := heap_alloc_new (w.alloc (.cells tA 41)) (.cells tB 41)
  rw [show (w.alloc (.cells tA 41)).heap.size = w.heap.size + 1 by simp] at k2
  exact ⟨h1.next (below_alloc (Below.refl _ _) _), ⟨h.bx.size, lt_of_blk h.ka⟩, by omega, block_below (heap_alloc_new w _) (below_alloc (Below.refl _ _) _), k2⟩
theorem Bx7.next {W w w' : World} {t6 s11 tA tB : Array Value} {g gA gB : Nat} (h : Bx7 W t6 s11 g gA tA gB tB w) (hb : Below w.heap.size w w') : Bx7 W t6 s11 g gA tA gB tB w' := ⟨h.b5.next hb, h.hA, h.hB, block_below h.kA hb, block_below h.kB hb⟩
theorem Bx5.far {W w : World} {t6 s11 : Array Value} {g : Nat} (h : Bx5 W t6 s11 g w) {p : Nat} (h1 : W.heap.size + 2 ≤ p) (h2 : g ≠ p) (i : Nat) (v : Value) : Bx5 W t6 s11 g (w.setCell ⟨p, i, none⟩ v) :=
  ⟨h.bx.nextB ((Below.refl _ _).setCell (p := ⟨p, i, none⟩) h1 _), h.hg, by rw [Below.heap_setCell _ ⟨p, i, none⟩ _ _ h2]; exact h.ka⟩
theorem Bx7.setA {W w : World} {t6 s11 tB : Array Value} {g gA gB : Nat} {a b c d e f : Value} (h : Bx7 W t6 s11 g gA #[a, b, c, d, e, f] gB tB w) (v : Value) : Bx7 W t6 s11 g gA #[a, v, c, d, e, f] gB tB (w.setCell ⟨gA, 1, none⟩ v) :=
  ⟨h.b5.far h.hA.1 (by have := h.hA.2; omega) 1 v, h.hA, h.hB, blk_set h.kA 1 v, by rw [Below.heap_setCell _ ⟨gA, 1, none⟩ _ _ (by show gB ≠ gA; have := h.hB; omega)]; exact h.kB⟩
theorem Bx7.setB {W w : World} {t6 s11 tA : Array Value} {g gA gB : Nat} {a b c d e f : Value} (h : Bx7 W t6 s11 g gA tA gB #[a, b, c, d, e, f] w) (v : Value) : Bx7 W t6 s11 g gA tA gB #[a, v, c, d, e, f] (w.setCell ⟨gB, 1, none⟩ v) :=
  ⟨h.b5.far (by have := h.hA.1; have := h.hB; omega) (by have := h.hA.2; have := h.hB; omega) 1 v, h.hA, h.hB, by rw [Below.heap_setCell _ ⟨gB, 1, none⟩ _ _ (by show gA ≠ gB; have := h.hB; omega)]; exact h.kA, blk_set h.kB 1 v⟩
end Go.Proofs.Ytffggkhahambhaa.Tr
namespace Go.Proofs.Ytffggkhahambhaa.Walk
open Go.RowKit Go.Proofs.YtffggkhahambhaaW.PrintWords Go.Proofs.YtffggkhahambhaaW.PrintLast Go.Proofs.YtffggkhahambhaaW.PrintMore Go.Proofs.Ytffggkhahambhaa.Math Go.Proofs.Ytffggkhahambhaa.PAll Go.Proofs.Ytffggkhahambhaa.Open Go.Proofs.Ytffggkhahambhaa.Tr
set_option linter.unusedVariables false
set_option linter.unusedSimpArgs false

set_option maxHeartbeats 8000000 in
set_option maxRecDepth 100000 in
theorem FilterPairs (W : World) (x0 : S41) (cs0 : Array Value) (hk0 : k41.K W x0 cs0.toList) (hg0 : G41 x0) (x1 : S34) (cs1 : Array Value) (hk1 : k34.K W x1 cs1.toList) (hg1 : G34 x1) :
    Calls Try.prog 4 #[.agg cs0, .agg cs1] W fun e w' => e = .returned (.bool true) ∧ Below W.heap.size W w' := by
  have hraw := hk1
  obtain ⟨A8, c8, A9, c9, A10, c10, he1, _, hC8, _⟩ := k34_open hk1
  obtain ⟨s, hs⟩ : ∃ s : Sp, s = ⟨x1.f0, x1.f1, x1.f2, x1.f3, x1.f4, x1.f5, x1.f6, x1.f7, (A8, x1.f8.length, c8), (A9, x1.f9.length, c9), (A10, x1.f10.length, c10)⟩ := ⟨_, rfl⟩
  have hes : cs1.toList = encS s := by rw [he1, hs]; rfl
  have hsa : s.a = (A8, x1.f8.length, c8) := by rw [hs]
  rw [hes] at hraw
  have hca : cs1 = (encS s).toArray := by rw [← hes, Array.toArray_toList]
  subst hca
  have HIS := Lib.hid (show Is W s x1 from hraw)
  have HSA := Lib.hid (show s.a.2.1 = x1.f8.length by rw [hsa])
  rename_i hlen8
  have HC8 := Lib.hid (show Kd.C k45 W s.a.1 s.a.2.1 x1.f8 by rw [hsa]; exact hC8)
  obtain ⟨f, r0, ⟨kd, tx, n, b⟩⟩ := x0
  have hct : cs0 = #[.string f, .int .i64 r0, .int .i64 kd, .string tx, .int .i64 n, .bool b] := by rw [← Array.toArray_toList (xs := cs0), k41_open hk0]
  subst hct
  have HGF := Lib.hid (show f.size ≤ 140737488351232 ∧ tx.size ≤ 140737488351232 from ⟨hg0.1, hg0.2.2.2.1⟩)
  have HG1 := Lib.hid (G_lens hg1)
  clear hk0 hg0 hg1 hk1 he1 hC8 hs hes hsa hraw
  have hal := below_alloc (below_alloc (Below.refl W.heap.size W) (.cells #[.string f, .int .i64 r0, .int .i64 kd, .string tx, .int .i64 n, .bool b] 41)) (.cells (encS s).toArray 34)
  have k1 : ((W.alloc (.cells #[.string f, .int .i64 r0, .int .i64 kd, .string tx, .int .i64 n, .bool b] 41)).alloc (.cells (encS s).toArray 34)).heap[W.heap.size]? = some (.cells #[.string f, .int .i64 r0, .int .i64 kd, .string tx, .int .i64 n, .bool b] 41 (0, 0)) := block_below (heap_alloc_new W _) (below_alloc (Below.refl _ _) _)
  have k2 : ((W.alloc (.cells #[.string f, .int .i64 r0, .int .i64 kd, .string tx, .int .i64 n, .bool b] 41)).alloc (.cells (encS s).toArray 34)).heap[(W.alloc (.cells #[.string f, .int .i64 r0, .int .i64 kd, .string tx, .int .i64 n, .bool b] 41)).heap.size]? = some (.cells (encS s).toArray 34 (0, 0)) := heap_alloc_new _ _
  rw [show (W.alloc (.cells #[.string f, .int .i64 r0, .int .i64 kd, .string tx, .int .i64 n, .bool b] 41)).heap.size = W.heap.size + 1 by simp] at k2
  obtain ⟨w0, hw0⟩ : ∃ w0, (W.alloc (.cells #[.string f, .int .i64 r0, .int .i64 kd, .string tx, .int .i64 n, .bool b] 41)).alloc (.cells (encS s).toArray 34) = w0 := ⟨_, rfl⟩
  rw [hw0] at hal k1 k2
  have HAW := Lib.hid (awake_calls w0)
  have HT0 := Lib.hid (show Bx W #[.string f, .int .i64 r0, .int .i64 kd, .string tx, .int .i64 n, .bool b] (encS s).toArray w0 from ⟨hal, k1, k2⟩)
  rw [arr_S] at hw0 ⊢
  clear hal k1 k2
  go_enter Try.func4, Try.ntmps4
  go_wp2_with fail
  clear hw0
  refine HAW.out.mono ?_
  rintro e w1 ⟨rfl, hb⟩
  have HT1 := Lib.hid (HT0.out.next hb)
  clear hb HAW HT0
  obtain ⟨y0, y1, y2, y3, y4, y5⟩ := HT1.out.tc
  obtain ⟨x0, x1, x2, x3, x4, x5, x6, x7, x8, x9, x10⟩ := HT1.out.sc
  have HW4 : wrap64 ((f.size : Int) + (tx.size : Int)) = ((f.size + tx.size : Nat) : Int) := by have := HGF.out; unfold wrap64; omega
  obtain ⟨n4, hn4⟩ : ∃ n4, f.size + tx.size = n4 := ⟨_, rfl⟩
  rw [hn4] at HW4
  have HN4 := Lib.hid hn4
  clear hn4
  by_cases h4 : (4000 : Int) < (n4 : Int)
  · have d4 : decide ((4000 : Int) < (n4 : Int)) = true := decide_eq_true h4
    clear h4
    go_wp2
    go_ret
    exact ⟨rfl, HT1.out.bw⟩
  · have d4 : decide ((4000 : Int) < (n4 : Int)) = false := decide_eq_false h4
    clear h4
    have hcall := fits_w (HIS.out.below HT1.out.bw) HG1.out.1 HG1.out.2
    rw [arr_S] at hcall
    have HCALL := Lib.hid hcall
    clear hcall
    go_wp2_with fail
    refine HCALL.out.mono ?_
    rintro e w2 ⟨⟨r, rfl, hok⟩, hb⟩
    have HOK := Lib.hid hok
    have HT2 := Lib.hid (HT1.out.next hb)
    clear hb hok HCALL HT1 y0 y1 y2 y3 y4 y5 x0 x1 x2 x3 x4 x5 x6 x7 x8 x9 x10
    cases r with
    | false =>
      go_wp2
      go_ret
      exact ⟨rfl, HT2.out.bw⟩
    | true =>
      have HOS := Lib.hid (show OkS x1 from HOK.out (by first | rfl | trivial))
      clear HOK d4 HW4
      go_upto_region 6 with (fail)
      have HT3 := Lib.hid (Bx5.start HT2.out)
      clear HT2
      generalize w2.alloc (.cells #[.int .i64 0, .int .i64 1, .int .i64 2, .int .i64 5, .int .i64 4, .int .i64 3] 43) = w3 at HT3 ⊢
      generalize w2.heap.size = g5 at HT3 ⊢
      obtain ⟨y0, y1, y2, y3, y4, y5⟩ := HT3.out.bx.tc
      go_cut [6] from 33 to 40 (fun v6 wq => v6 = .bool (isT f) ∧ w3 = wq)
      case first =>
        by_cases hs : f.toList = ([115, 101, 114, 118, 105, 99, 101] : List UInt8)
        · have HI := Lib.hid (show isT f = true by unfold isT; rw [if_pos hs])
          have b1 : (f.toList == ([115, 101, 114, 118, 105, 99, 101] : List UInt8)) = true := beq_iff_eq.2 hs
          clear hs
          go_wp2
          go_meet
          case rel => exact ⟨by rw [HI.out], rfl⟩
        · have b1 : (f.toList == ([115, 101, 114, 118, 105, 99, 101] : List UInt8)) = false := beq_eq_false_iff_ne.2 hs
          by_cases ho : f.toList = ([111, 112] : List UInt8)
          · have b2 : (f.toList == ([111, 112] : List UInt8)) = true := beq_iff_eq.2 ho
            have HI := Lib.hid (show isT f = true by unfold isT; rw [if_neg hs, b2])
            clear hs ho
            go_wp2
            go_meet
            case rel => exact ⟨by rw [HI.out], rfl⟩
          · have b2 : (f.toList == ([111, 112] : List UInt8)) = false := beq_eq_false_iff_ne.2 ho
            have HI := Lib.hid (show isT f = false by unfold isT; rw [if_neg hs, b2])
            clear hs ho
            go_wp2
            go_meet
            case rel => exact ⟨by rw [HI.out], rfl⟩
      case rest =>
      obtain ⟨rfl, rfl⟩ := hcut
      apply_assumption
      go_upto_region 7 with (fail)
      go_cut [50] from 41 to 50 (fun v50 wq => v50 = .bool (startsAt f) ∧ w3 = wq)
      case first =>
        by_cases h0 : 0 < f.size
        · have d0 : decide ((0 : Int) < (f.size : Int)) = true := decide_eq_true (by omega)
          have d1 : (0 : Int) < (f.size : Int) := by omega
          have hx : ∀ h : 0 < f.size, ((f[0]'h).toNat : Int) = bt f 0 := bt_at f 0
          obtain ⟨c, hc⟩ : ∃ c, (bt f 0 == 64) = c := ⟨_, rfl⟩
          have HI := Lib.hid (show startsAt f = c by unfold startsAt; rw [decide_eq_true h0, hc]; rfl)
          cases c with
          | true =>
            go_wp2
            go_meet
            case rel => exact ⟨by rw [HI.out], rfl⟩
          | false =>
            go_wp2
            go_meet
            case rel => exact ⟨by rw [HI.out], rfl⟩
        · have d0 : decide ((0 : Int) < (f.size : Int)) = false := decide_eq_false (by omega)
          have d1 : ¬ (0 : Int) < (f.size : Int) := by omega
          have HI := Lib.hid (show startsAt f = false by unfold startsAt; rw [decide_eq_false h0, Bool.false_and])
          clear h0
          go_wp2
          go_meet
          case rel => exact ⟨by rw [HI.out], rfl⟩
      case rest =>
      obtain ⟨rfl, rfl⟩ := hcut
      apply_assumption
      go_cut [6, 7] from 50 to 87 (fun v6 _ wq => v6 = .bool (thereB f kd x1.f8) ∧ Hid (Bx5 W #[.string f, .int .i64 r0, .int .i64 kd, .string tx, .int .i64 n, .bool b] (encS s).toArray g5 wq))
      case first =>
        cases hst : startsAt f with
        | false =>
          have HST := Lib.hid hst
          clear hst
          by_cases hk : kd = 1
          · have b1 : (kd == 1) = true := beq_iff_eq.2 hk
            have b2 : decide (kd = 1) = true := decide_eq_true hk
            have HI := Lib.hid (show thereB f kd x1.f8 = true by unfold thereB; rw [HST.out, if_neg (by decide), b1, Bool.or_true])
            clear hk
            cases hT : isT f with
            | true =>
              clear hT
              go_wp2
              go_meet
              case rel => exact ⟨by rw [HI.out], HT3⟩
            | false =>
              clear hT
              go_wp2
              go_meet
              case rel => exact ⟨by rw [HI.out], HT3⟩
          · have b1 : (kd == 1) = false := beq_eq_false_iff_ne.2 hk
            have b2 : decide (kd = 1) = false := decide_eq_false hk
            have HI := Lib.hid (show thereB f kd x1.f8 = isT f by unfold thereB; rw [HST.out, if_neg (by decide), b1, Bool.or_false])
            clear hk
            cases hT : isT f with
            | true =>
              have HTT := Lib.hid hT
              clear hT
              go_wp2
              go_meet
              case rel => exact ⟨by rw [HI.out, HTT.out], HT3⟩
            | false =>
              have HTT := Lib.hid hT
              clear hT
              go_wp2
              go_meet
              case rel => exact ⟨by rw [HI.out, HTT.out], HT3⟩
        | true =>
          have HST := Lib.hid hst
          clear hst
          go_wp2
          clear y0 y1 y2 y3 y4 y5
          go_loopw [6, 7] (fun v6 v7 wr => ∃ k : Nat, k ≤ s.a.2.1 ∧ v7 = .int .i64 k ∧ v6 = .bool (isT f || (x1.f8.take k).any (hitA f kd)) ∧ Hid (Bx5 W #[.string f, .int .i64 r0, .int .i64 kd, .string tx, .int .i64 n, .bool b] (encS s).toArray g5 wr)) (fun _ v7 _ => s.a.2.1 - (intOf v7).toNat)
          case atStart => exact ⟨0, Nat.zero_le _, rfl, by simp, HT3⟩
          case round =>
            clear HT3
            obtain ⟨k, hk, rfl, rfl, HT⟩ := hrel
            by_cases hlt : k < s.a.2.1
            · obtain ⟨a, ha⟩ : ∃ a, x1.f8[k]? = some a := ⟨_, List.getElem?_eq_getElem (by rw [← HSA.out]; exact hlt)⟩
              have HTk := Lib.hid (show (x1.f8.take (k + 1)).any (hitA f kd) = ((x1.f8.take k).any (hitA f kd) || hitA f kd a) by
                obtain ⟨hk2, e⟩ := List.getElem?_eq_some_iff.1 ha
                rw [List.take_succ_eq_append_getElem hk2, e, List.any_append]
                simp)
              obtain ⟨ad, had, z0, z1⟩ := at_A (Kd.C_below HC8.out HT.out.bx.bw) ha
              obtain ⟨y0, y1, y2, y3, y4, y5⟩ := HT.out.bx.tc
              obtain ⟨x0, x1, x2, x3, x4, x5, x6, x7, x8, x9, x10⟩ := HT.out.bx.sc
              rw [had] at x8
              have HN8 := Lib.hid (show s.a.2.1 ≤ 1000000 by rw [HSA.out]; have := HOS.out.len; omega)
              have q : (k : Int) < (s.a.2.1 : Int) := by omega
              have q2 : decide ((k : Int) < (s.a.2.1 : Int)) = true := decide_eq_true q
              have HK := Lib.hid (show k + 1 ≤ s.a.2.1 by omega)
              have HW := Lib.hid (show wrap64 ((k : Int) + 1) = ((k + 1 : Nat) : Int) by have := HN8.out; unfold wrap64; omega)
              have hsz : 1 + a.f0.size ≤ 9223372036854775807 := by
                have := (HOS.out.att a (List.mem_of_getElem? ha)).1
                omega
              have e1 := eq_true hsz
              have e2 : decide (1 + a.f0.size ≤ 9223372036854775807) = true := decide_eq_true hsz
              have e3 : (9223372036854775807 < 1 + a.f0.size) = False := eq_false (Nat.not_lt.2 hsz)
              obtain ⟨b1, hb1⟩ : ∃ b1, (((⟨#[64]⟩ : ByteArray) ++ a.f0).toList == f.toList) = b1 := ⟨_, rfl⟩
              obtain ⟨b2, hb2⟩ : ∃ b2, (a.f1.f0 == kd) = b2 := ⟨_, rfl⟩
              have HH := Lib.hid (show hitA f kd a = (b1 && b2) by unfold hitA atF; rw [hb1, hb2])
              clear hsz had ha hlt hk
              cases b1 with
              | false =>
                clear hb2
                go_wp2
                repeat (go_quiet (fail); try go_wp2)
                go_roundw
                case rel => exact ⟨k + 1, HK.out, by rw [HW.out], by rw [HTk.out, HH.out]; simp, Lib.hid (HT.out.drewN _)⟩
                case measure => exact meas_up HN8.out HK.out
              | true =>
                cases b2 with
                | false =>
                  go_wp2
                  repeat (go_quiet (fail); try go_wp2)
                  go_roundw
                  case rel => exact ⟨k + 1, HK.out, by rw [HW.out], by rw [HTk.out, HH.out]; simp, Lib.hid (HT.out.drewN _)⟩
                  case measure => exact meas_up HN8.out HK.out
                | true =>
                  go_wp2
                  repeat (go_quiet (fail); try go_wp2)
                  go_roundw
                  case rel => exact ⟨k + 1, HK.out, by rw [HW.out], by rw [HTk.out, HH.out]; simp, Lib.hid (HT.out.drewN _)⟩
                  case measure => exact meas_up HN8.out HK.out
            · have hkl : k = s.a.2.1 := by omega
              subst hkl
              have HI := Lib.hid (show thereB f kd x1.f8 = (isT f || (x1.f8.take s.a.2.1).any (hitA f kd)) by unfold thereB; rw [HST.out, if_pos rfl, HSA.out, List.take_length])
              obtain ⟨x0, x1, x2, x3, x4, x5, x6, x7, x8, x9, x10⟩ := HT.out.bx.sc
              have q : decide ((s.a.2.1 : Int) < (s.a.2.1 : Int)) = false := decide_eq_false (by omega)
              clear hlt hk
              go_wp2
              go_meet
              case rel => exact ⟨by rw [HI.out], HT⟩
      case rest =>
      clear HT3 y0 y1 y2 y3 y4 y5
      obtain ⟨rfl, HT⟩ := hcut
      apply_assumption
      obtain ⟨th, hth0⟩ : ∃ th, thereB f kd x1.f8 = th := ⟨_, rfl⟩
      rw [hth0]
      have HTH := Lib.hid hth0
      clear hth0
      rcases th with _ | _
      all_goals
       go_wp2
       go_loopw [8, 9, 10, 11, 12] (fun v8 _ _ _ _ wr => ∃ k : Nat, k ≤ 3 ∧ v8 = .int .i64 k ∧ Hid (Bx5 W #[.string f, .int .i64 r0, .int .i64 kd, .string tx, .int .i64 n, .bool b] (encS s).toArray g5 wr)) (fun v8 _ _ _ _ _ => 3 - (intOf v8).toNat)
       case atStart => exact ⟨0, by omega, rfl, HT⟩
       case round =>
         clear HT
         obtain ⟨k, hk, rfl, HT⟩ := hrel
         obtain ⟨y0, y1, y2, y3, y4, y5⟩ := HT.out.bx.tc
         obtain ⟨c0, c1, c2, c3, c4, c5⟩ := HT.out.cc
         rcases (show k = 0 ∨ k = 1 ∨ k = 2 ∨ k = 3 by omega) with rfl | rfl | rfl | rfl
         · clear hk
           have hkw : wrap64 (((0 : Nat) : Int) + 1) = ((1 : Nat) : Int) := by unfold wrap64; rfl
           go_upto_region 18 with (fail)
           have HT7 := Lib.hid (Bx7.start HT.out #[.string f, .int .i64 r0, .int .i64 kd, .string tx, .int .i64 n, .bool b] #[.string f, .int .i64 r0, .int .i64 kd, .string tx, .int .i64 n, .bool b])
           have h18 := HT.out.next (below_alloc (Below.refl wr.heap.size wr) (.cells #[.string f, .int .i64 r0, .int .i64 kd, .string tx, .int .i64 n, .bool b] 41))
           clear y0 y1 y2 y3 y4 y5 c0 c1 c2 c3 c4 c5
           obtain ⟨y0, y1, y2, y3, y4, y5⟩ := h18.bx.tc
           obtain ⟨gB, hgB⟩ : ∃ gB, (wr.alloc (.cells #[.string f, .int .i64 r0, .int .i64 kd, .string tx, .int .i64 n, .bool b] 41)).heap.size = gB := ⟨_, rfl⟩
           rw [show wr.heap.size + 1 = gB by rw [← hgB]; simp] at HT7
           generalize wr.alloc (.cells #[.string f, .int .i64 r0, .int .i64 kd, .string tx, .int .i64 n, .bool b] 41) = wA at HT7 y0 y1 y2 y3 y4 y5 hgB h18 ⊢
           subst hgB
           clear h18
           go_upto_region 19 with (fail)
           clear y0 y1 y2 y3 y4 y5
           generalize wA.alloc (.cells #[.string f, .int .i64 r0, .int .i64 kd, .string tx, .int .i64 n, .bool b] 41) = wB at HT7 ⊢
           generalize wr.heap.size = gA at HT7 ⊢
           generalize wA.heap.size = gB at HT7 ⊢
           obtain ⟨c0, c1, c2, c3, c4, c5⟩ := HT7.out.b5.cc
           obtain ⟨_, u1, _, _, _, _⟩ := box6 HT7.out.kA
           have f1 := blk_frozen HT7.out.kA 1
           go_upto_region 20 with (fail)
           have HT8 := Lib.hid (HT7.out.setA (.int .i64 0))
           clear HT7 c0 c1 c2 c3 c4 c5 u1 f1
           generalize wB.setCell ⟨gA, 1, none⟩ (.int .i64 0) = wC at HT8 ⊢
           obtain ⟨c0, c1, c2, c3, c4, c5⟩ := HT8.out.b5.cc
           obtain ⟨_, u1, _, _, _, _⟩ := box6 HT8.out.kB
           have f1 := blk_frozen HT8.out.kB 1
           go_upto_region 21 with (fail)
           have HT9 := Lib.hid (HT8.out.setB (.int .i64 1))
           clear HT8 c0 c1 c2 c3 c4 c5 u1 f1
           generalize wC.setCell ⟨gB, 1, none⟩ (.int .i64 1) = wD at HT9 ⊢
           obtain ⟨a0, a1, a2, a3, a4, a5⟩ := box6 HT9.out.kA
           obtain ⟨b0, b1, b2, b3, b4, b5⟩ := box6 HT9.out.kB
           have HC1 := Lib.hid (one_w f 0 kd tx n b wD)
           have HC2 := fun w => Lib.hid (one_w f 1 kd tx n b w)
           go_wp2_with fail
           refine HC1.out.mono ?_
           rintro e w5 ⟨⟨o1, rfl, hp1⟩, hb5⟩
           have HP1 := Lib.hid hp1
           clear hp1
           have HT5 := Lib.hid (HT9.out.next hb5)
           clear hb5 HC1 HT9 a0 a1 a2 a3 a4 a5 b0 b1 b2 b3 b4 b5
           obtain ⟨a0, a1, a2, a3, a4, a5⟩ := box6 HT5.out.kA
           obtain ⟨b0, b1, b2, b3, b4, b5⟩ := box6 HT5.out.kB
           cases o1 with
           | false =>
             clear HC2
             go_wp2
             go_roundw
             case rel => exact ⟨1, by omega, by first | rfl | rw [hkw], Lib.hid HT5.out.b5⟩
             case measure => first | exact meas3 0 1 hkw (by omega) | decide
           | true =>
             have HC2 := HC2 w5
             go_wp2_with fail
             refine HC2.out.mono ?_
             rintro e w6 ⟨⟨o2, rfl, hp2⟩, hb6⟩
             have HP2 := Lib.hid hp2
             clear hp2
             have HT6 := Lib.hid (HT5.out.next hb6)
             clear hb6 HC2 HT5 a0 a1 a2 a3 a4 a5 b0 b1 b2 b3 b4 b5
             obtain ⟨a0, a1, a2, a3, a4, a5⟩ := box6 HT6.out.kA
             obtain ⟨b0, b1, b2, b3, b4, b5⟩ := box6 HT6.out.kB
             cases o2 with
             | false =>
               go_wp2
               go_roundw
               case rel => exact ⟨1, by omega, by first | rfl | rw [hkw], Lib.hid HT6.out.b5⟩
               case measure => first | exact meas3 0 1 hkw (by omega) | decide
             | true =>
               obtain ⟨u, v, ⟨ku, hu⟩, ⟨kv, hv⟩, huv, hth⟩ := pair_law HOS.out f ⟨kd, tx, n, b⟩ (r1 := 0) (r2 := 1) (by unfold PairR; omega) (HP1.out (by first | rfl | trivial)) (HP2.out (by first | rfl | trivial))
               dsimp only at hth
               have hh1 := holds_calls (HIS.out.below HT6.out.b5.bx.bw) hu
               have hh2 := fun w (hb : Below W.heap.size W w) => holds_calls (HIS.out.below hb) hv
               simp only [encT, arr_S] at hh1 hh2
               have HH1 := Lib.hid hh1
               have HH2 := fun w hb => Lib.hid (hh2 w hb)
               rw [HTH.out] at hth
               have HUV := Lib.hid huv
               have HUO := Lib.hid hth
               clear hh1 hh2 huv hth hu hv
               obtain ⟨x0, x1, x2, x3, x4, x5, x6, x7, x8, x9, x10⟩ := HT6.out.b5.bx.sc
               go_wp2_with fail
               refine HH1.out.mono ?_
               rintro e w7 ⟨rfl, hb7⟩
               have HT7 := Lib.hid (HT6.out.next hb7)
               have HH2 := HH2 w7 HT7.out.b5.bx.bw
               clear hb7 HH1 HT6 a0 a1 a2 a3 a4 a5 b0 b1 b2 b3 b4 b5 x0 x1 x2 x3 x4 x5 x6 x7 x8 x9 x10
               obtain ⟨b0, b1, b2, b3, b4, b5⟩ := box6 HT7.out.kB
               obtain ⟨x0, x1, x2, x3, x4, x5, x6, x7, x8, x9, x10⟩ := HT7.out.b5.bx.sc
               go_wp2_with fail
               refine HH2.out.mono ?_
               rintro e w8 ⟨rfl, hb8⟩
               have HT8 := Lib.hid (HT7.out.next hb8)
               clear hb8 HH2 HT7 b0 b1 b2 b3 b4 b5 x0 x1 x2 x3 x4 x5 x6 x7 x8 x9 x10
               rcases u with _ | _ <;> rcases v with _ | _
               all_goals first | (exfalso; exact absurd HUV.out (by decide)) | (exfalso; exact absurd HUO.out (by decide)) | skip
               all_goals
                 go_wp2
                 go_roundw
                 case rel => exact ⟨1, by omega, by first | rfl | rw [hkw], Lib.hid HT8.out.b5⟩
                 case measure => first | exact meas3 0 1 hkw (by omega) | decide
         · clear hk
           have hkw : wrap64 (((1 : Nat) : Int) + 1) = ((2 : Nat) : Int) := by unfold wrap64; rfl
           go_upto_region 18 with (fail)
           have HT7 := Lib.hid (Bx7.start HT.out #[.string f, .int .i64 r0, .int .i64 kd, .string tx, .int .i64 n, .bool b] #[.string f, .int .i64 r0, .int .i64 kd, .string tx, .int .i64 n, .bool b])
           have h18 := HT.out.next (below_alloc (Below.refl wr.heap.size wr) (.cells #[.string f, .int .i64 r0, .int .i64 kd, .string tx, .int .i64 n, .bool b] 41))
           clear y0 y1 y2 y3 y4 y5 c0 c1 c2 c3 c4 c5
           obtain ⟨y0, y1, y2, y3, y4, y5⟩ := h18.bx.tc
           obtain ⟨gB, hgB⟩ : ∃ gB, (wr.alloc (.cells #[.string f, .int .i64 r0, .int .i64 kd, .string tx, .int .i64 n, .bool b] 41)).heap.size = gB := ⟨_, rfl⟩
           rw [show wr.heap.size + 1 = gB by rw [← hgB]; simp] at HT7
           generalize wr.alloc (.cells #[.string f, .int .i64 r0, .int .i64 kd, .string tx, .int .i64 n, .bool b] 41) = wA at HT7 y0 y1 y2 y3 y4 y5 hgB h18 ⊢
           subst hgB
           clear h18
           go_upto_region 19 with (fail)
           clear y0 y1 y2 y3 y4 y5
           generalize wA.alloc (.cells #[.string f, .int .i64 r0, .int .i64 kd, .string tx, .int .i64 n, .bool b] 41) = wB at HT7 ⊢
           generalize wr.heap.size = gA at HT7 ⊢
           generalize wA.heap.size = gB at HT7 ⊢
           obtain ⟨c0, c1, c2, c3, c4, c5⟩ := HT7.out.b5.cc
           obtain ⟨_, u1, _, _, _, _⟩ := box6 HT7.out.kA
           have f1 := blk_frozen HT7.out.kA 1
           go_upto_region 20 with (fail)
           have HT8 := Lib.hid (HT7.out.setA (.int .i64 2))
           clear HT7 c0 c1 c2 c3 c4 c5 u1 f1
           generalize wB.setCell ⟨gA, 1, none⟩ (.int .i64 2) = wC at HT8 ⊢
           obtain ⟨c0, c1, c2, c3, c4, c5⟩ := HT8.out.b5.cc
           obtain ⟨_, u1, _, _, _, _⟩ := box6 HT8.out.kB
           have f1 := blk_frozen HT8.out.kB 1
           go_upto_region 21 with (fail)
           have HT9 := Lib.hid (HT8.out.setB (.int .i64 5))
           clear HT8 c0 c1 c2 c3 c4 c5 u1 f1
           generalize wC.setCell ⟨gB, 1, none⟩ (.int .i64 5) = wD at HT9 ⊢
           obtain ⟨a0, a1, a2, a3, a4, a5⟩ := box6 HT9.out.kA
           obtain ⟨b0, b1, b2, b3, b4, b5⟩ := box6 HT9.out.kB
           have HC1 := Lib.hid (one_w f 2 kd tx n b wD)
           have HC2 := fun w => Lib.hid (one_w f 5 kd tx n b w)
           go_wp2_with fail
           refine HC1.out.mono ?_
           rintro e w5 ⟨⟨o1, rfl, hp1⟩, hb5⟩
           have HP1 := Lib.hid hp1
           clear hp1
           have HT5 := Lib.hid (HT9.out.next hb5)
           clear hb5 HC1 HT9 a0 a1 a2 a3 a4 a5 b0 b1 b2 b3 b4 b5
           obtain ⟨a0, a1, a2, a3, a4, a5⟩ := box6 HT5.out.kA
           obtain ⟨b0, b1, b2, b3, b4, b5⟩ := box6 HT5.out.kB
           cases o1 with
           | false =>
             clear HC2
             go_wp2
             go_roundw
             case rel => exact ⟨2, by omega, by first | rfl | rw [hkw], Lib.hid HT5.out.b5⟩
             case measure => first | exact meas3 1 2 hkw (by omega) | decide
           | true =>
             have HC2 := HC2 w5
             go_wp2_with fail
             refine HC2.out.mono ?_
             rintro e w6 ⟨⟨o2, rfl, hp2⟩, hb6⟩
             have HP2 := Lib.hid hp2
             clear hp2
             have HT6 := Lib.hid (HT5.out.next hb6)
             clear hb6 HC2 HT5 a0 a1 a2 a3 a4 a5 b0 b1 b2 b3 b4 b5
             obtain ⟨a0, a1, a2, a3, a4, a5⟩ := box6 HT6.out.kA
             obtain ⟨b0, b1, b2, b3, b4, b5⟩ := box6 HT6.out.kB
             cases o2 with
             | false =>
               go_wp2
               go_roundw
               case rel => exact ⟨2, by omega, by first | rfl | rw [hkw], Lib.hid HT6.out.b5⟩
               case measure => first | exact meas3 1 2 hkw (by omega) | decide
             | true =>
               obtain ⟨u, v, ⟨ku, hu⟩, ⟨kv, hv⟩, huv, hth⟩ := pair_law HOS.out f ⟨kd, tx, n, b⟩ (r1 := 2) (r2 := 5) (by unfold PairR; omega) (HP1.out (by first | rfl | trivial)) (HP2.out (by first | rfl | trivial))
               dsimp only at hth
               have hh1 := holds_calls (HIS.out.below HT6.out.b5.bx.bw) hu
               have hh2 := fun w (hb : Below W.heap.size W w) => holds_calls (HIS.out.below hb) hv
               simp only [encT, arr_S] at hh1 hh2
               have HH1 := Lib.hid hh1
               have HH2 := fun w hb => Lib.hid (hh2 w hb)
               rw [HTH.out] at hth
               have HUV := Lib.hid huv
               have HUO := Lib.hid hth
               clear hh1 hh2 huv hth hu hv
               obtain ⟨x0, x1, x2, x3, x4, x5, x6, x7, x8, x9, x10⟩ := HT6.out.b5.bx.sc
               go_wp2_with fail
               refine HH1.out.mono ?_
               rintro e w7 ⟨rfl, hb7⟩
               have HT7 := Lib.hid (HT6.out.next hb7)
               have HH2 := HH2 w7 HT7.out.b5.bx.bw
               clear hb7 HH1 HT6 a0 a1 a2 a3 a4 a5 b0 b1 b2 b3 b4 b5 x0 x1 x2 x3 x4 x5 x6 x7 x8 x9 x10
               obtain ⟨b0, b1, b2, b3, b4, b5⟩ := box6 HT7.out.kB
               obtain ⟨x0, x1, x2, x3, x4, x5, x6, x7, x8, x9, x10⟩ := HT7.out.b5.bx.sc
               go_wp2_with fail
               refine HH2.out.mono ?_
               rintro e w8 ⟨rfl, hb8⟩
               have HT8 := Lib.hid (HT7.out.next hb8)
               clear hb8 HH2 HT7 b0 b1 b2 b3 b4 b5 x0 x1 x2 x3 x4 x5 x6 x7 x8 x9 x10
               rcases u with _ | _ <;> rcases v with _ | _
               all_goals first | (exfalso; exact absurd HUV.out (by decide)) | (exfalso; exact absurd HUO.out (by decide)) | skip
               all_goals
                 go_wp2
                 go_roundw
                 case rel => exact ⟨2, by omega, by first | rfl | rw [hkw], Lib.hid HT8.out.b5⟩
                 case measure => first | exact meas3 1 2 hkw (by omega) | decide
         · clear hk
           have hkw : wrap64 (((2 : Nat) : Int) + 1) = ((3 : Nat) : Int) := by unfold wrap64; rfl
           go_upto_region 18 with (fail)
           have HT7 := Lib.hid (Bx7.start HT.out #[.string f, .int .i64 r0, .int .i64 kd, .string tx, .int .i64 n, .bool b] #[.string f, .int .i64 r0, .int .i64 kd, .string tx, .int .i64 n, .bool b])
           have h18 := HT.out.next (below_alloc (Below.refl wr.heap.size wr) (.cells #[.string f, .int .i64 r0, .int .i64 kd, .string tx, .int .i64 n, .bool b] 41))
           clear y0 y1 y2 y3 y4 y5 c0 c1 c2 c3 c4 c5
           obtain ⟨y0, y1, y2, y3, y4, y5⟩ := h18.bx.tc
           obtain ⟨gB, hgB⟩ : ∃ gB, (wr.alloc (.cells #[.string f, .int .i64 r0, .int .i64 kd, .string tx, .int .i64 n, .bool b] 41)).heap.size = gB := ⟨_, rfl⟩
           rw [show wr.heap.size + 1 = gB by rw [← hgB]; simp] at HT7
           generalize wr.alloc (.cells #[.string f, .int .i64 r0, .int .i64 kd, .string tx, .int .i64 n, .bool b] 41) = wA at HT7 y0 y1 y2 y3 y4 y5 hgB h18 ⊢
           subst hgB
           clear h18
           go_upto_region 19 with (fail)
           clear y0 y1 y2 y3 y4 y5
           generalize wA.alloc (.cells #[.string f, .int .i64 r0, .int .i64 kd, .string tx, .int .i64 n, .bool b] 41) = wB at HT7 ⊢
           generalize wr.heap.size = gA at HT7 ⊢
           generalize wA.heap.size = gB at HT7 ⊢
           obtain ⟨c0, c1, c2, c3, c4, c5⟩ := HT7.out.b5.cc
           obtain ⟨_, u1, _, _, _, _⟩ := box6 HT7.out.kA
           have f1 := blk_frozen HT7.out.kA 1
           go_upto_region 20 with (fail)
           have HT8 := Lib.hid (HT7.out.setA (.int .i64 4))
           clear HT7 c0 c1 c2 c3 c4 c5 u1 f1
           generalize wB.setCell ⟨gA, 1, none⟩ (.int .i64 4) = wC at HT8 ⊢
           obtain ⟨c0, c1, c2, c3, c4, c5⟩ := HT8.out.b5.cc
           obtain ⟨_, u1, _, _, _, _⟩ := box6 HT8.out.kB
           have f1 := blk_frozen HT8.out.kB 1
           go_upto_region 21 with (fail)
           have HT9 := Lib.hid (HT8.out.setB (.int .i64 3))
           clear HT8 c0 c1 c2 c3 c4 c5 u1 f1
           generalize wC.setCell ⟨gB, 1, none⟩ (.int .i64 3) = wD at HT9 ⊢
           obtain ⟨a0, a1, a2, a3, a4, a5⟩ := box6 HT9.out.kA
           obtain ⟨b0, b1, b2, b3, b4, b5⟩ := box6 HT9.out.kB
           have HC1 := Lib.hid (one_w f 4 kd tx n b wD)
           have HC2 := fun w => Lib.hid (one_w f 3 kd tx n b w)
           go_wp2_with fail
           refine HC1.out.mono ?_
           rintro e w5 ⟨⟨o1, rfl, hp1⟩, hb5⟩
           have HP1 := Lib.hid hp1
           clear hp1
           have HT5 := Lib.hid (HT9.out.next hb5)
           clear hb5 HC1 HT9 a0 a1 a2 a3 a4 a5 b0 b1 b2 b3 b4 b5
           obtain ⟨a0, a1, a2, a3, a4, a5⟩ := box6 HT5.out.kA
           obtain ⟨b0, b1, b2, b3, b4, b5⟩ := box6 HT5.out.kB
           cases o1 with
           | false =>
             clear HC2
             go_wp2
             go_roundw
             case rel => exact ⟨3, by omega, by first | rfl | rw [hkw], Lib.hid HT5.out.b5⟩
             case measure => first | exact meas3 2 3 hkw (by omega) | decide
           | true =>
             have HC2 := HC2 w5
             go_wp2_with fail
             refine HC2.out.mono ?_
             rintro e w6 ⟨⟨o2, rfl, hp2⟩, hb6⟩
             have HP2 := Lib.hid hp2
             clear hp2
             have HT6 := Lib.hid (HT5.out.next hb6)
             clear hb6 HC2 HT5 a0 a1 a2 a3 a4 a5 b0 b1 b2 b3 b4 b5
             obtain ⟨a0, a1, a2, a3, a4, a5⟩ := box6 HT6.out.kA
             obtain ⟨b0, b1, b2, b3, b4, b5⟩ := box6 HT6.out.kB
             cases o2 with
             | false =>
               go_wp2
               go_roundw
               case rel => exact ⟨3, by omega, by first | rfl | rw [hkw], Lib.hid HT6.out.b5⟩
               case measure => first | exact meas3 2 3 hkw (by omega) | decide
             | true =>
               obtain ⟨u, v, ⟨ku, hu⟩, ⟨kv, hv⟩, huv, hth⟩ := pair_law HOS.out f ⟨kd, tx, n, b⟩ (r1 := 4) (r2 := 3) (by unfold PairR; omega) (HP1.out (by first | rfl | trivial)) (HP2.out (by first | rfl | trivial))
               dsimp only at hth
               have hh1 := holds_calls (HIS.out.below HT6.out.b5.bx.bw) hu
               have hh2 := fun w (hb : Below W.heap.size W w) => holds_calls (HIS.out.below hb) hv
               simp only [encT, arr_S] at hh1 hh2
               have HH1 := Lib.hid hh1
               have HH2 := fun w hb => Lib.hid (hh2 w hb)
               rw [HTH.out] at hth
               have HUV := Lib.hid huv
               have HUO := Lib.hid hth
               clear hh1 hh2 huv hth hu hv
               obtain ⟨x0, x1, x2, x3, x4, x5, x6, x7, x8, x9, x10⟩ := HT6.out.b5.bx.sc
               go_wp2_with fail
               refine HH1.out.mono ?_
               rintro e w7 ⟨rfl, hb7⟩
               have HT7 := Lib.hid (HT6.out.next hb7)
               have HH2 := HH2 w7 HT7.out.b5.bx.bw
               clear hb7 HH1 HT6 a0 a1 a2 a3 a4 a5 b0 b1 b2 b3 b4 b5 x0 x1 x2 x3 x4 x5 x6 x7 x8 x9 x10
               obtain ⟨b0, b1, b2, b3, b4, b5⟩ := box6 HT7.out.kB
               obtain ⟨x0, x1, x2, x3, x4, x5, x6, x7, x8, x9, x10⟩ := HT7.out.b5.bx.sc
               go_wp2_with fail
               refine HH2.out.mono ?_
               rintro e w8 ⟨rfl, hb8⟩
               have HT8 := Lib.hid (HT7.out.next hb8)
               clear hb8 HH2 HT7 b0 b1 b2 b3 b4 b5 x0 x1 x2 x3 x4 x5 x6 x7 x8 x9 x10
               rcases u with _ | _ <;> rcases v with _ | _
               all_goals first | (exfalso; exact absurd HUV.out (by decide)) | (exfalso; exact absurd HUO.out (by decide)) | skip
               all_goals
                 go_wp2
                 go_roundw
                 case rel => exact ⟨3, by omega, by first | rfl | rw [hkw], Lib.hid HT8.out.b5⟩
                 case measure => first | exact meas3 2 3 hkw (by omega) | decide
         · clear hk
           go_wp2
           go_ret
           exact ⟨rfl, HT.out.bx.bw⟩
end Go.Proofs.Ytffggkhahambhaa.Walk
