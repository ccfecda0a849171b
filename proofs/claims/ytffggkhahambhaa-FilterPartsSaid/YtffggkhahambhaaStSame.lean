/- ref16.Small and May, Fits: told weakly; ref16.Same and Spans of a row and itself. By hand (st_gd2.py): the printed contracts are too great for a claim. -/
import Derived.Test.YtffggkhahambhaaStParts
import Derived.Test.YtffggkhahambhaaSq
import Derived.Test.YtffggkhahambhaaPAllx15
import Derived.Test.YtffggkhahambhaaReads
import Derived.Test.YtffggkhahambhaaConv
import Derived.Test.YtffggkhahambhaaPAllx1
import Derived.Test.YtffggkhahambhaaPAllx2
import Derived.Test.YtffggkhahambhaaPAllx3
namespace Go.Proofs.Ytffggkhahambhaa.Tr
open Go.RowKit Go.Proofs.YtffggkhahambhaaW.PrintWords Go.Proofs.YtffggkhahambhaaW.PrintLast Go.Proofs.YtffggkhahambhaaW.PrintMore Go.Proofs.Ytffggkhahambhaa.Math Go.Proofs.Ytffggkhahambhaa.PAll Go.Proofs.Ytffggkhahambhaa.Sq Go.Proofs.Ytffggkhahambhaa.Runes
set_option linter.unusedVariables false
set_option linter.unusedSimpArgs false
def nums (l : List UInt8) : List Int := l.map fun b => (b.toNat : Int)
theorem less_txt (k : Nat) (s t : ByteArray) (hs : s.size ≤ 1000) (hk : 2100 < k) : cambiumref01_Less.f k (bytesOf s) (bytesOf t) = some (lexLt (nums s.data.toList) (nums t.data.toList)) := by
  rw [NumFacts.less_eq k _ _ (by rw [bytesOf_length]; omega) (by rw [bytesOf_length]; omega)]
  rfl
/-- A span that may be. -/
structure OkS (x : S34) : Prop where
  svc : x.f3.size ≤ 32
  op : x.f4.size ≤ 32
  len : x.f8.length ≤ 16
  att : ∀ a ∈ x.f8, a.f0.size ≤ 32 ∧ a.f1.f1.size ≤ 200
  ord : x.f8.Pairwise (fun a b => lexLt (nums a.f0.data.toList) (nums b.f0.data.toList) = true)
  len9 : x.f9.length ≤ 16
  len10 : x.f10.length ≤ 16
/-- The rows of a span. -/
theorem Is.rows {w : World} {s : Sp} {x : S34} (h : Is w s x) : s.a.2.1 = x.f8.length ∧ s.e.2.1 = x.f9.length ∧ s.l.2.1 = x.f10.length ∧ Kd.C k45 w s.a.1 s.a.2.1 x.f8 ∧ Kd.C k77 w s.e.1 s.e.2.1 x.f9 ∧ Kd.C k80 w s.l.1 s.l.2.1 x.f10 := by
  obtain ⟨A8, c8, A9, c9, A10, c10, he, l8, g8, l9, g9, l10, g10⟩ := k34_open h
  unfold encS at he
  simp only [List.cons.injEq, Value.slice.injEq] at he
  obtain ⟨_, _, _, _, _, _, _, _, ⟨a1, a2, _⟩, ⟨e1, e2, _⟩, ⟨l1, l2, _⟩, _⟩ := he
  exact ⟨a2, e2, l2, by rw [a1, a2]; exact g8, by rw [e1, e2]; exact g9, by rw [l1, l2]; exact g10⟩
theorem at_A5 {w : World} {A : Option Addr} {n : Nat} {xs : List S45} (h : Kd.C k45 w A n xs) {k : Nat} {t : S45} (hk : xs[k]? = some t) : ∃ ad, A = some ad ∧ w.cell? (ad.add (k * 5)) = some (.string t.f0) ∧ w.cell? ⟨(ad.add (k * 5)).block, (ad.add (k * 5)).off + 1, none⟩ = some (.int .i64 t.f1.f0) ∧ w.cell? ⟨(ad.add (k * 5)).block, (ad.add (k * 5)).off + 2, none⟩ = some (.string t.f1.f1) ∧ w.cell? ⟨(ad.add (k * 5)).block, (ad.add (k * 5)).off + 3, none⟩ = some (.int .i64 t.f1.f2) ∧ w.cell? ⟨(ad.add (k * 5)).block, (ad.add (k * 5)).off + 4, none⟩ = some (.bool t.f1.f3) := by
  obtain ⟨hkl, hs⟩ := List.getElem?_eq_some_iff.1 hk
  obtain ⟨hn, _, hC⟩ := h
  obtain ⟨ad, e, hcc⟩ := hC (by omega)
  obtain ⟨c, hcl, hK, hc⟩ := hcc k t hk
  have hK := k45_open hK
  subst hK
  have hc : ∀ j u, ([.string t.f0, .int .i64 t.f1.f0, .string t.f1.f1, .int .i64 t.f1.f2, .bool t.f1.f3] : List Value)[j]? = some u → w.cell? (ad.add (k * 5 + j)) = some u := hc
  exact ⟨ad, e, hc 0 _ rfl, by rw [← add_field _ _ 1 (by omega)]; exact hc 1 _ rfl, by rw [← add_field _ _ 2 (by omega)]; exact hc 2 _ rfl, by rw [← add_field _ _ 3 (by omega)]; exact hc 3 _ rfl, by rw [← add_field _ _ 4 (by omega)]; exact hc 4 _ rfl⟩
theorem at_E2 {w : World} {A : Option Addr} {n : Nat} {xs : List S77} (h : Kd.C k77 w A n xs) {k : Nat} {t : S77} (hk : xs[k]? = some t) : ∃ ad, A = some ad ∧ w.cell? (ad.add (k * 2)) = some (.int .i64 t.f0) ∧ w.cell? ⟨(ad.add (k * 2)).block, (ad.add (k * 2)).off + 1, none⟩ = some (.string t.f1) := by
  obtain ⟨hkl, hs⟩ := List.getElem?_eq_some_iff.1 hk
  obtain ⟨hn, _, hC⟩ := h
  obtain ⟨ad, e, hcc⟩ := hC (by omega)
  obtain ⟨c, hcl, hK, hc⟩ := hcc k t hk
  have hK := k77_open hK
  subst hK
  have hc : ∀ j u, ([.int .i64 t.f0, .string t.f1] : List Value)[j]? = some u → w.cell? (ad.add (k * 2 + j)) = some u := hc
  exact ⟨ad, e, hc 0 _ rfl, by rw [← add_field _ _ 1 (by omega)]; exact hc 1 _ rfl⟩
theorem at_L2 {w : World} {A : Option Addr} {n : Nat} {xs : List S80} (h : Kd.C k80 w A n xs) {k : Nat} {t : S80} (hk : xs[k]? = some t) : ∃ ad, A = some ad ∧ w.cell? (ad.add (k * 2)) = some (.int .u64 t.f0) ∧ w.cell? ⟨(ad.add (k * 2)).block, (ad.add (k * 2)).off + 1, none⟩ = some (.int .u64 t.f1) := by
  obtain ⟨hkl, hs⟩ := List.getElem?_eq_some_iff.1 hk
  obtain ⟨hn, _, hC⟩ := h
  obtain ⟨ad, e, hcc⟩ := hC (by omega)
  obtain ⟨c, hcl, hK, hc⟩ := hcc k t hk
  have hK := k80_open hK
  subst hK
  have hc : ∀ j u, ([.int .u64 t.f0, .int .u64 t.f1] : List Value)[j]? = some u → w.cell? (ad.add (k * 2 + j)) = some u := hc
  exact ⟨ad, e, hc 0 _ rfl, by rw [← add_field _ _ 1 (by omega)]; exact hc 1 _ rfl⟩
/-- The box of a span, the call's own. -/
structure BS (W : World) (s : Sp) (w : World) : Prop where
  bw : Below W.heap.size W w
  ks : w.heap[W.heap.size]? = some (.cells (encS s).toArray 34 (0, 0))
theorem BS.start (w : World) (s : Sp) : BS w s (w.alloc (.cells (encS s).toArray 34)) := ⟨below_alloc (Below.refl _ _) _, heap_alloc_new _ _⟩
theorem BS.next {W w w' : World} {s : Sp} (h : BS W s w) (hb : Below w.heap.size w w') : BS W s w' := ⟨below_step h.bw hb, block_below h.ks hb⟩
theorem BS.drewN {W w : World} {s : Sp} (h : BS W s w) (n : Nat) : BS W s (w.drewN n) := h.next ⟨rfl, rfl, rfl, Nat.le_refl _, fun _ _ => rfl⟩
theorem BS.drew {W w : World} {s : Sp} (h : BS W s w) : BS W s w.drew := h.next (below_drew (Below.refl _ _))
set_option maxHeartbeats 8000000 in
set_option maxRecDepth 100000 in
theorem small16_w {s : Sp} {x : S34} {w : World} (hx : Is w s x) (h8 : x.f8.length ≤ 100000000000000) (h9 : x.f9.length ≤ 100000000000000) :
    Calls Try.prog 20 #[.agg (encS s).toArray] w fun e w' => RetB (fun _ => True) e ∧ Below w.heap.size w w' := by
  obtain ⟨n8, n9, n10, C8, C9, C10⟩ := hx.rows
  have H8 := Lib.hid C8
  have H9 := Lib.hid C9
  have N8 := Lib.hid n8
  have N9 := Lib.hid n9
  have M8 := Lib.hid (show s.a.2.1 ≤ 100000000000000 by omega)
  have M9 := Lib.hid (show s.e.2.1 ≤ 100000000000000 by omega)
  have HB0 := Lib.hid (BS.start w s)
  clear n8 n9 n10 C8 C9 C10 hx h8 h9
  rw [arr_S] at HB0 ⊢
  go_enter Try.func20, Try.ntmps20
  go_wp2
  go_loopw [3, 4] (fun m i wr => ∃ (k : Nat) (z : Int), k ≤ s.a.2.1 ∧ i = .int .i64 k ∧ m = .int .i64 z ∧ Hid (BS w s wr)) (fun _ i _ => s.a.2.1 - (intOf i).toNat)
  case atStart => exact ⟨0, _, by omega, rfl, rfl, HB0⟩
  case round =>
    clear HB0
    obtain ⟨k, z, hk, rfl, rfl, HB⟩ := hrel
    obtain ⟨x0, x1, x2, x3, x4, x5, x6, x7, x8, x9, x10⟩ := blkS HB.out.ks
    by_cases hlt : k < s.a.2.1
    · have q : decide ((k : Int) < (s.a.2.1 : Int)) = true := decide_eq_true (by omega)
      have q2 : (k : Int) < (s.a.2.1 : Int) := by omega
      by_cases hz : z ≤ 6000
      · have qz : decide (z ≤ 6000) = true := decide_eq_true hz
        obtain ⟨t, hs⟩ : ∃ t, x.f8[k]? = some t := ⟨_, List.getElem?_eq_getElem (by rw [← N8.out]; exact hlt)⟩
        obtain ⟨ad, had, z0, z1, z2, z3, z4⟩ := at_A5 (Kd.C_below H8.out HB.out.bw) hs
        rw [had] at x8
        have HKL := Lib.hid (show k + 1 ≤ s.a.2.1 by omega)
        have HW := Lib.hid (show wrap64 ((k : Int) + 1) = ((k + 1 : Nat) : Int) by have := M8.out; unfold wrap64; omega)
        clear hs hlt hk hz had
        go_wp2
        repeat (go_quiet (fail); try go_wp2)
        go_roundw
        case rel => exact ⟨k + 1, _, HKL.out, by rw [HW.out], rfl, Lib.hid (HB.out.drewN _)⟩
        case measure => exact meas_up2 M8.out HKL.out
      · have qz : decide (z ≤ 6000) = false := decide_eq_false hz
        clear hlt hk hz
        go_wp2
        clear x0 x1 x2 x3 x4 x5 x6 x7 x8 x9 x10
        go_loopw [3, 5] (fun m i wr => ∃ (k : Nat) (z : Int), k ≤ s.e.2.1 ∧ i = .int .i64 k ∧ m = .int .i64 z ∧ Hid (BS w s wr)) (fun _ i _ => s.e.2.1 - (intOf i).toNat)
        case atStart => exact ⟨0, _, by omega, rfl, rfl, HB⟩
        case round =>
          clear HB
          obtain ⟨k, z, hk, rfl, rfl, HB⟩ := hrel
          obtain ⟨x0, x1, x2, x3, x4, x5, x6, x7, x8, x9, x10⟩ := blkS HB.out.ks
          by_cases hlt : k < s.e.2.1
          · have q : decide ((k : Int) < (s.e.2.1 : Int)) = true := decide_eq_true (by omega)
            have q2 : (k : Int) < (s.e.2.1 : Int) := by omega
            by_cases hz : z ≤ 6000
            · have qz : decide (z ≤ 6000) = true := decide_eq_true hz
              obtain ⟨t, hs⟩ : ∃ t, x.f9[k]? = some t := ⟨_, List.getElem?_eq_getElem (by rw [← N9.out]; exact hlt)⟩
              obtain ⟨ad, had, z0, z1⟩ := at_E2 (Kd.C_below H9.out HB.out.bw) hs
              rw [had] at x9
              have HKL := Lib.hid (show k + 1 ≤ s.e.2.1 by omega)
              have HW := Lib.hid (show wrap64 ((k : Int) + 1) = ((k + 1 : Nat) : Int) by have := M9.out; unfold wrap64; omega)
              clear hs hlt hk hz had
              go_wp2
              go_roundw
              case rel => exact ⟨k + 1, _, HKL.out, by rw [HW.out], rfl, HB⟩
              case measure => exact meas_up2 M9.out HKL.out
            · have qz : decide (z ≤ 6000) = false := decide_eq_false hz
              clear hlt hk hz
              go_wp2
              all_goals
                go_ret
                exact ⟨RetB.any _, HB.out.bw⟩
          · have hkl : k = s.e.2.1 := by omega
            subst hkl
            have q : decide ((s.e.2.1 : Int) < (s.e.2.1 : Int)) = false := decide_eq_false (by omega)
            clear hlt hk
            go_wp2
            all_goals
              go_ret
              exact ⟨RetB.any _, HB.out.bw⟩
    · have hkl : k = s.a.2.1 := by omega
      subst hkl
      have q : decide ((s.a.2.1 : Int) < (s.a.2.1 : Int)) = false := decide_eq_false (by omega)
      clear hlt hk
      go_wp2
      clear x0 x1 x2 x3 x4 x5 x6 x7 x8 x9 x10
      go_loopw [3, 5] (fun m i wr => ∃ (k : Nat) (z : Int), k ≤ s.e.2.1 ∧ i = .int .i64 k ∧ m = .int .i64 z ∧ Hid (BS w s wr)) (fun _ i _ => s.e.2.1 - (intOf i).toNat)
      case atStart => exact ⟨0, _, by omega, rfl, rfl, HB⟩
      case round =>
        clear HB
        obtain ⟨k, z, hk, rfl, rfl, HB⟩ := hrel
        obtain ⟨x0, x1, x2, x3, x4, x5, x6, x7, x8, x9, x10⟩ := blkS HB.out.ks
        by_cases hlt : k < s.e.2.1
        · have q : decide ((k : Int) < (s.e.2.1 : Int)) = true := decide_eq_true (by omega)
          have q2 : (k : Int) < (s.e.2.1 : Int) := by omega
          by_cases hz : z ≤ 6000
          · have qz : decide (z ≤ 6000) = true := decide_eq_true hz
            obtain ⟨t, hs⟩ : ∃ t, x.f9[k]? = some t := ⟨_, List.getElem?_eq_getElem (by rw [← N9.out]; exact hlt)⟩
            obtain ⟨ad, had, z0, z1⟩ := at_E2 (Kd.C_below H9.out HB.out.bw) hs
            rw [had] at x9
            have HKL := Lib.hid (show k + 1 ≤ s.e.2.1 by omega)
            have HW := Lib.hid (show wrap64 ((k : Int) + 1) = ((k + 1 : Nat) : Int) by have := M9.out; unfold wrap64; omega)
            clear hs hlt hk hz had
            go_wp2
            go_roundw
            case rel => exact ⟨k + 1, _, HKL.out, by rw [HW.out], rfl, HB⟩
            case measure => exact meas_up2 M9.out HKL.out
          · have qz : decide (z ≤ 6000) = false := decide_eq_false hz
            clear hlt hk hz
            go_wp2
            all_goals
              go_ret
              exact ⟨RetB.any _, HB.out.bw⟩
        · have hkl : k = s.e.2.1 := by omega
          subst hkl
          have q : decide ((s.e.2.1 : Int) < (s.e.2.1 : Int)) = false := decide_eq_false (by omega)
          clear hlt hk
          go_wp2
          all_goals
            go_ret
            exact ⟨RetB.any _, HB.out.bw⟩
theorem pair_chain {x : List S45} (h : ∀ j a b, j + 1 < x.length → x[j]? = some a → x[j + 1]? = some b → lexLt (nums a.f0.data.toList) (nums b.f0.data.toList) = true) : x.Pairwise (fun a b => lexLt (nums a.f0.data.toList) (nums b.f0.data.toList) = true) := by
  have hst : ∀ i j (hij : i < j) (hj : j < x.length), lexLt (nums (x[i]'(by omega)).f0.data.toList) (nums x[j].f0.data.toList) = true := by
    intro i j hij
    induction j with
    | zero => omega
    | succ j ih =>
      intro hj
      have h1 := h j _ _ hj (List.getElem?_eq_getElem (by omega)) (List.getElem?_eq_getElem hj)
      rcases Nat.lt_or_ge i j with hlt | hge
      · exact lexLt_trans _ _ _ (ih hlt (by omega)) h1
      · obtain rfl : i = j := by omega
        exact h1
  rw [List.pairwise_iff_getElem]
  intro i j hi hj hij
  exact hst i j hij hj
/-- A text as bytes, opened. -/
theorem V_open {w : World} {v : Value} {N : Nat} {ok : Nat → Prop} {l : List Int} (h : Kd.V (Kd.int .u8) 5 w N ok v l) : ∃ A c, v = .slice A l.length c ∧ l.length ≤ c ∧ Kd.C (Kd.int .u8) w A l.length l := by
  obtain ⟨A, c, rfl, hc, _⟩ := id h
  exact ⟨A, c, rfl, hc, (Kd.V_reads' h).2.2⟩
theorem held5 {w w' : World} {s : Sp} {x : S34} {ad : Addr} {k : Nat} {a : S45} (h8 : Kd.C k45 w s.a.1 s.a.2.1 x.f8) (hb : BS w s w') (had : s.a.1 = some ad) (ha : x.f8[k]? = some a) :
    w'.cell? ⟨w.heap.size, 8, none⟩ = some (.slice (some ad) s.a.2.1 s.a.2.2) ∧ w'.cell? (ad.add (k * 5)) = some (.string a.f0) ∧ w'.cell? ⟨(ad.add (k * 5)).block, (ad.add (k * 5)).off + 1, none⟩ = some (.int .i64 a.f1.f0) ∧ w'.cell? ⟨(ad.add (k * 5)).block, (ad.add (k * 5)).off + 2, none⟩ = some (.string a.f1.f1) ∧ w'.cell? ⟨(ad.add (k * 5)).block, (ad.add (k * 5)).off + 3, none⟩ = some (.int .i64 a.f1.f2) ∧ w'.cell? ⟨(ad.add (k * 5)).block, (ad.add (k * 5)).off + 4, none⟩ = some (.bool a.f1.f3) := by
  obtain ⟨ad2, he2, z⟩ := at_A5 (Kd.C_below h8 hb.bw) ha
  rw [had] at he2
  injection he2 with he2
  subst he2
  exact ⟨by have h := (blkS hb.ks).2.2.2.2.2.2.2.2.1; rw [had] at h; exact h, z⟩
theorem held6 {w w' : World} {s : Sp} {x : S34} {ad : Addr} {k j : Nat} {a p : S45} (h8 : Kd.C k45 w s.a.1 s.a.2.1 x.f8) (hb : BS w s w') (had : s.a.1 = some ad) (ha : x.f8[k]? = some a) (hp : x.f8[j]? = some p) :
    w'.cell? ⟨w.heap.size, 8, none⟩ = some (.slice (some ad) s.a.2.1 s.a.2.2) ∧ w'.cell? (ad.add (k * 5)) = some (.string a.f0) ∧ w'.cell? ⟨(ad.add (k * 5)).block, (ad.add (k * 5)).off + 1, none⟩ = some (.int .i64 a.f1.f0) ∧ w'.cell? ⟨(ad.add (k * 5)).block, (ad.add (k * 5)).off + 2, none⟩ = some (.string a.f1.f1) ∧ w'.cell? ⟨(ad.add (k * 5)).block, (ad.add (k * 5)).off + 3, none⟩ = some (.int .i64 a.f1.f2) ∧ w'.cell? ⟨(ad.add (k * 5)).block, (ad.add (k * 5)).off + 4, none⟩ = some (.bool a.f1.f3) ∧ w'.cell? (ad.add (j * 5)) = some (.string p.f0) := by
  obtain ⟨z, z0, z1, z2, z3, z4⟩ := held5 h8 hb had ha
  exact ⟨z, z0, z1, z2, z3, z4, (held5 h8 hb had hp).2.1⟩
set_option maxHeartbeats 8000000 in
set_option maxRecDepth 100000 in
theorem may16_w {u : Sp} {x : S34} {w : World} (hx : Is w u x) :
    Calls Try.prog 21 #[.agg (encS u).toArray] w fun e w' => RetB (fun b => b = true → OkS x) e ∧ Below w.heap.size w w' := by
  obtain ⟨n8, n9, n10, C8, C9, C10⟩ := hx.rows
  have hf := hx.fields
  have H8 := Lib.hid C8
  have H9 := Lib.hid C9
  have H10 := Lib.hid C10
  have N8 := Lib.hid n8
  have N9 := Lib.hid n9
  have N10 := Lib.hid n10
  have HF := Lib.hid (show x.f3 = u.svc ∧ x.f4 = u.op from ⟨hf.2.2.2.1, hf.2.2.2.2.1⟩)
  have HB := Lib.hid (BS.start w u)
  obtain ⟨x0, x1, x2, x3, x4, x5, x6, x7, x8, x9, x10⟩ := blkS HB.out.ks
  clear n8 n9 n10 C8 C9 C10 hx hf
  obtain ⟨w0, hw0⟩ : ∃ w0, w.alloc (.cells (encS u).toArray 34) = w0 := ⟨_, rfl⟩
  rw [hw0] at HB x0 x1 x2 x3 x4 x5 x6 x7 x8 x9 x10
  rw [arr_S] at hw0 ⊢
  by_cases h : u.tr = 0
  · have qa : (u.tr == 0) = true := beq_iff_eq.2 h
    clear h
    go_enter Try.func21, Try.ntmps21
    go_wp2
    go_ret
    exact ⟨RetB.no, HB.out.bw⟩
  have qa : (u.tr == 0) = false := beq_eq_false_iff_ne.2 h
  clear h
  by_cases h : u.id = 0
  · have qb : (u.id == 0) = true := beq_iff_eq.2 h
    clear h
    go_enter Try.func21, Try.ntmps21
    go_wp2
    go_ret
    exact ⟨RetB.no, HB.out.bw⟩
  have qb : (u.id == 0) = false := beq_eq_false_iff_ne.2 h
  clear h
  by_cases h : u.par = u.id
  · have qc : (u.par == u.id) = true := beq_iff_eq.2 h
    clear h
    go_enter Try.func21, Try.ntmps21
    go_wp2
    go_ret
    exact ⟨RetB.no, HB.out.bw⟩
  have qc : (u.par == u.id) = false := beq_eq_false_iff_ne.2 h
  clear h
  go_enter Try.func21, Try.ntmps21
  go_wp2_with fail
  clear hw0
  refine (name_w u.svc _).mono ?_
  rintro e w1 ⟨⟨r, rfl, hr⟩, hb⟩
  have HB := Lib.hid (HB.out.next hb)
  have HSV := Lib.hid hr
  clear hb hr x0 x1 x2 x3 x4 x5 x6 x7 x8 x9 x10
  obtain ⟨x0, x1, x2, x3, x4, x5, x6, x7, x8, x9, x10⟩ := blkS HB.out.ks
  cases r with
  | false =>
    go_wp2
    go_ret
    exact ⟨RetB.no, HB.out.bw⟩
  | true =>
    go_wp2_with fail
    refine (name_w u.op _).mono ?_
    rintro e w1 ⟨⟨r, rfl, hr⟩, hb⟩
    have HB := Lib.hid (HB.out.next hb)
    have HSO := Lib.hid hr
    clear hb hr x0 x1 x2 x3 x4 x5 x6 x7 x8 x9 x10
    obtain ⟨x0, x1, x2, x3, x4, x5, x6, x7, x8, x9, x10⟩ := blkS HB.out.ks
    cases r with
    | false =>
      go_wp2
      go_ret
      exact ⟨RetB.no, HB.out.bw⟩
    | true =>
      go_wp2_with fail
      refine (time_w u.st _).mono ?_
      rintro e w1 ⟨⟨r, rfl, _⟩, rfl⟩
      cases r with
      | false =>
        go_wp2
        go_ret
        exact ⟨RetB.no, HB.out.bw⟩
      | true =>
        go_wp2_with fail
        refine (time_w u.du _).mono ?_
        rintro e w1 ⟨⟨r, rfl, _⟩, rfl⟩
        cases r with
        | false =>
          go_wp2
          go_ret
          exact ⟨RetB.no, HB.out.bw⟩
        | true =>
          by_cases h : u.stt < 0
          · have qd : decide (u.stt < 0) = true := decide_eq_true h
            clear h
            go_wp2
            go_ret
            exact ⟨RetB.no, HB.out.bw⟩
          have qd : decide (u.stt < 0) = false := decide_eq_false h
          clear h
          by_cases h : 2 < u.stt
          · have qe : decide (2 < u.stt) = true := decide_eq_true h
            clear h
            go_wp2
            go_ret
            exact ⟨RetB.no, HB.out.bw⟩
          have qe : decide (2 < u.stt) = false := decide_eq_false h
          clear h
          by_cases h : 16 < u.a.2.1
          · have qf : decide ((16 : Int) < (u.a.2.1 : Int)) = true := decide_eq_true (by omega)
            clear h
            go_wp2
            go_ret
            exact ⟨RetB.no, HB.out.bw⟩
          have qf : decide ((16 : Int) < (u.a.2.1 : Int)) = false := decide_eq_false (by omega)
          have Mf := Lib.hid (show u.a.2.1 ≤ 16 by omega)
          clear h
          by_cases h : 16 < u.e.2.1
          · have qg : decide ((16 : Int) < (u.e.2.1 : Int)) = true := decide_eq_true (by omega)
            clear h
            go_wp2
            go_ret
            exact ⟨RetB.no, HB.out.bw⟩
          have qg : decide ((16 : Int) < (u.e.2.1 : Int)) = false := decide_eq_false (by omega)
          have Mg := Lib.hid (show u.e.2.1 ≤ 16 by omega)
          clear h
          by_cases h : 16 < u.l.2.1
          · have qh : decide ((16 : Int) < (u.l.2.1 : Int)) = true := decide_eq_true (by omega)
            clear h
            go_wp2
            go_ret
            exact ⟨RetB.no, HB.out.bw⟩
          have qh : decide ((16 : Int) < (u.l.2.1 : Int)) = false := decide_eq_false (by omega)
          have Mh := Lib.hid (show u.l.2.1 ≤ 16 by omega)
          clear h
          go_wp2
          clear x0 x1 x2 x3 x4 x5 x6 x7 x8 x9 x10
          go_loopw [3] (fun i wr => ∃ k : Nat, k ≤ u.a.2.1 ∧ i = .int .i64 k ∧ Hid ((∀ a ∈ x.f8.take k, a.f0.size ≤ 32 ∧ a.f1.f1.size ≤ 200) ∧ (∀ j a b, j + 1 < k → x.f8[j]? = some a → x.f8[j + 1]? = some b → lexLt (nums a.f0.data.toList) (nums b.f0.data.toList) = true)) ∧ Hid (BS w u wr)) (fun i _ => u.a.2.1 - (intOf i).toNat)
          case atStart => exact ⟨0, by omega, rfl, Lib.hid ⟨fun t ht => by simp at ht, fun j a b h => by omega⟩, HB⟩
          case round =>
            clear HB
            obtain ⟨k, hk, rfl, HP, HB⟩ := hrel
            obtain ⟨x0, x1, x2, x3, x4, x5, x6, x7, x8, x9, x10⟩ := blkS HB.out.ks
            by_cases hlt : k < u.a.2.1
            · have q : decide ((k : Int) < (u.a.2.1 : Int)) = true := decide_eq_true (by omega)
              have q2 : (k : Int) < (u.a.2.1 : Int) := by omega
              obtain ⟨a, ha⟩ : ∃ a, x.f8[k]? = some a := ⟨_, List.getElem?_eq_getElem (by rw [← N8.out]; exact hlt)⟩
              have HGA := Lib.hid ha
              have HTk := Lib.hid (show x.f8.take (k + 1) = x.f8.take k ++ [a] by
                obtain ⟨hk2, e⟩ := List.getElem?_eq_some_iff.1 ha
                rw [List.take_succ_eq_append_getElem hk2, e])
              obtain ⟨ad, had, _⟩ := at_A5 (Kd.C_below H8.out HB.out.bw) ha
              have HAD := Lib.hid had
              rw [had] at x8
              have HKL := Lib.hid (show k + 1 ≤ u.a.2.1 by omega)
              have HW := Lib.hid (show wrap64 ((k : Int) + 1) = ((k + 1 : Nat) : Int) by have := Mf.out; unfold wrap64; omega)
              obtain ⟨bn, hbn, hcn⟩ := name_d a.f0
              have HNA := Lib.hid hcn
              have HNS := Lib.hid hbn
              obtain ⟨bv, hbv, hcv⟩ := value_d a.f1.f0 a.f1.f1 a.f1.f2 a.f1.f3
              have HVA := Lib.hid hcv
              have HVS := Lib.hid hbv
              clear ha had hlt hk hbn hcn hbv hcv
              cases bn with
              | false =>
                go_upto_region 8 with (fail)
                have hbd := HB.out.drew
                clear x0 x1 x2 x3 x4 x5 x6 x7 x8 x9 x10
                obtain ⟨x8, z0, z1, z2, z3, z4⟩ := held5 H8.out hbd HAD.out HGA.out
                refine start_ (n := 41) (S := fun w' => w'.cell? ⟨w.heap.size, 8, none⟩ = some (.slice (some ad) u.a.2.1 u.a.2.2) ∧ w'.cell? (ad.add (k * 5)) = some (.string a.f0) ∧ w'.cell? ⟨(ad.add (k * 5)).block, (ad.add (k * 5)).off + 1, none⟩ = some (.int .i64 a.f1.f0) ∧ w'.cell? ⟨(ad.add (k * 5)).block, (ad.add (k * 5)).off + 2, none⟩ = some (.string a.f1.f1) ∧ w'.cell? ⟨(ad.add (k * 5)).block, (ad.add (k * 5)).off + 3, none⟩ = some (.int .i64 a.f1.f2) ∧ w'.cell? ⟨(ad.add (k * 5)).block, (ad.add (k * 5)).off + 4, none⟩ = some (.bool a.f1.f3)) (ds := []) (fl 41 0) (by kernel_rfl) rfl rfl ⟨x8, z0, z1, z2, z3, z4⟩ (fun hHeld => ?_)
                generalize wr.drew = w5 at x8 z0 z1 z2 z3 z4 hbd hHeld ⊢
                have HB := Lib.hid hbd
                clear x8 z0 z1 z2 z3 z4 hbd
                refine pu 0 (some 78) (fl 41 1) ?_
                refine pu 2 (some 80) (fl 41 5) ?_
                refine tk 1 (some 79) (fl 41 7) hHeld ?_
                refine pu 3 (some 81) (fl 41 15) ?_
                refine pu 4 (some 82) (fl 41 31) ?_
                refine tk 5 (some 83) (fl 41 63) hHeld ?_
                refine on_ 6 (some 84) (fl 41 127) fun K hK => ?_
                refine gs Try.func34 #[.string a.f0] ?_
                with_reducible refine (HNA.out _).mono ?_
                rintro ee w6 ⟨rfl, hb⟩
                refine ⟨_, rfl, ?_⟩
                have HB := Lib.hid (HB.out.next hb)
                clear hb
                refine hK.out _ _ ⟨(held5 H8.out HB.out HAD.out HGA.out).1, (held5 H8.out HB.out HAD.out HGA.out).2.1, (held5 H8.out HB.out HAD.out HGA.out).2.2.1, (held5 H8.out HB.out HAD.out HGA.out).2.2.2.1, (held5 H8.out HB.out HAD.out HGA.out).2.2.2.2.1, (held5 H8.out HB.out HAD.out HGA.out).2.2.2.2.2⟩ (fun hHeld => ?_)
                clear hK K
                refine nm ?_
                refine pu 7 (some 85) (fl 41 255) ?_
                refine pu 8 (some 86) (fl 41 511) ?_
                refine off 9 (some 87) (fl 41 1023) ?_
                refine off 10 (some 88) (fl 41 2047) ?_
                refine off 11 (some 89) (fl 41 4095) ?_
                refine off 12 (some 90) (fl 41 8191) ?_
                refine off 13 (some 91) (fl 41 16383) ?_
                refine off 14 (some 92) (fl 41 32767) ?_
                refine off 15 (some 93) (fl 41 65535) ?_
                refine off 16 (some 94) (fl 41 131071) ?_
                refine pu 17 (some 95) (fl 41 262143) ?_
                refine pu 18 (some 96) (fl 41 524287) ?_
                refine off 19 (some 97) (fl 41 1048575) ?_
                refine off 20 (some 98) (fl 41 2097151) ?_
                refine off 21 (some 99) (fl 41 4194303) ?_
                refine off 22 (some 100) (fl 41 8388607) ?_
                refine off 23 (some 101) (fl 41 16777215) ?_
                refine off 24 (some 102) (fl 41 33554431) ?_
                refine off 25 (some 103) (fl 41 67108863) ?_
                refine off 26 (some 104) (fl 41 134217727) ?_
                refine off 27 (some 105) (fl 41 268435455) ?_
                refine off 28 (some 106) (fl 41 536870911) ?_
                refine off 29 (some 107) (fl 41 1073741823) ?_
                refine off 30 (some 108) (fl 41 2147483647) ?_
                refine off 31 (some 109) (fl 41 4294967295) ?_
                refine off 32 (some 110) (fl 41 8589934591) ?_
                refine off 33 (some 111) (fl 41 17179869183) ?_
                refine off 34 (some 112) (fl 41 34359738367) ?_
                refine off 35 (some 113) (fl 41 68719476735) ?_
                refine off 36 (some 114) (fl 41 137438953471) ?_
                refine off 37 (some 115) (fl 41 274877906943) ?_
                refine off 38 (some 116) (fl 41 549755813887) ?_
                refine off 39 (some 117) (fl 41 1099511627775) ?_
                refine pu 40 (some 118) (fl 41 2199023255551) ?_
                refine done_ (by kernel_rfl) ?_
                go_wp2
                go_ret
                exact ⟨RetB.no, HB.out.bw⟩
              | true =>
                have HSa := Lib.hid (HNS.out (by first | rfl | trivial))
                cases bv with
                | false =>
                  go_upto_region 8 with (fail)
                  have hbd := HB.out.drew
                  clear x0 x1 x2 x3 x4 x5 x6 x7 x8 x9 x10
                  obtain ⟨x8, z0, z1, z2, z3, z4⟩ := held5 H8.out hbd HAD.out HGA.out
                  refine start_ (n := 41) (S := fun w' => w'.cell? ⟨w.heap.size, 8, none⟩ = some (.slice (some ad) u.a.2.1 u.a.2.2) ∧ w'.cell? (ad.add (k * 5)) = some (.string a.f0) ∧ w'.cell? ⟨(ad.add (k * 5)).block, (ad.add (k * 5)).off + 1, none⟩ = some (.int .i64 a.f1.f0) ∧ w'.cell? ⟨(ad.add (k * 5)).block, (ad.add (k * 5)).off + 2, none⟩ = some (.string a.f1.f1) ∧ w'.cell? ⟨(ad.add (k * 5)).block, (ad.add (k * 5)).off + 3, none⟩ = some (.int .i64 a.f1.f2) ∧ w'.cell? ⟨(ad.add (k * 5)).block, (ad.add (k * 5)).off + 4, none⟩ = some (.bool a.f1.f3)) (ds := []) (fl 41 0) (by kernel_rfl) rfl rfl ⟨x8, z0, z1, z2, z3, z4⟩ (fun hHeld => ?_)
                  generalize wr.drew = w5 at x8 z0 z1 z2 z3 z4 hbd hHeld ⊢
                  have HB := Lib.hid hbd
                  clear x8 z0 z1 z2 z3 z4 hbd
                  refine pu 0 (some 78) (fl 41 1) ?_
                  refine pu 2 (some 80) (fl 41 5) ?_
                  refine tk 1 (some 79) (fl 41 7) hHeld ?_
                  refine pu 3 (some 81) (fl 41 15) ?_
                  refine pu 4 (some 82) (fl 41 31) ?_
                  refine tk 5 (some 83) (fl 41 63) hHeld ?_
                  refine on_ 6 (some 84) (fl 41 127) fun K hK => ?_
                  refine gs Try.func34 #[.string a.f0] ?_
                  with_reducible refine (HNA.out _).mono ?_
                  rintro ee w6 ⟨rfl, hb⟩
                  refine ⟨_, rfl, ?_⟩
                  have HB := Lib.hid (HB.out.next hb)
                  clear hb
                  refine hK.out _ _ ⟨(held5 H8.out HB.out HAD.out HGA.out).1, (held5 H8.out HB.out HAD.out HGA.out).2.1, (held5 H8.out HB.out HAD.out HGA.out).2.2.1, (held5 H8.out HB.out HAD.out HGA.out).2.2.2.1, (held5 H8.out HB.out HAD.out HGA.out).2.2.2.2.1, (held5 H8.out HB.out HAD.out HGA.out).2.2.2.2.2⟩ (fun hHeld => ?_)
                  clear hK K
                  refine nm ?_
                  refine pu 7 (some 85) (fl 41 255) ?_
                  refine pu 8 (some 86) (fl 41 511) ?_
                  refine pu 9 (some 87) (fl 41 1023) ?_
                  refine pu 11 (some 89) (fl 41 3071) ?_
                  refine tk 10 (some 88) (fl 41 4095) hHeld ?_
                  refine pu 12 (some 90) (fl 41 8191) ?_
                  refine pu 13 (some 91) (fl 41 16383) ?_
                  refine tk 14 (some 92) (fl 41 32767) hHeld ?_
                  refine on_ 15 (some 93) (fl 41 65535) fun K hK => ?_
                  refine gs Try.func31 #[.agg #[.int .i64 a.f1.f0, .string a.f1.f1, .int .i64 a.f1.f2, .bool a.f1.f3]] ?_
                  with_reducible refine (HVA.out _).mono ?_
                  rintro ee WN0 ⟨rfl, hb⟩
                  refine ⟨_, rfl, ?_⟩
                  have HB := Lib.hid (HB.out.next hb)
                  clear hb
                  refine hK.out _ _ ⟨(held5 H8.out HB.out HAD.out HGA.out).1, (held5 H8.out HB.out HAD.out HGA.out).2.1, (held5 H8.out HB.out HAD.out HGA.out).2.2.1, (held5 H8.out HB.out HAD.out HGA.out).2.2.2.1, (held5 H8.out HB.out HAD.out HGA.out).2.2.2.2.1, (held5 H8.out HB.out HAD.out HGA.out).2.2.2.2.2⟩ (fun hHeld => ?_)
                  clear hK K
                  refine nm ?_
                  refine pu 16 (some 94) (fl 41 131071) ?_
                  refine pu 17 (some 95) (fl 41 262143) ?_
                  refine pu 18 (some 96) (fl 41 524287) ?_
                  refine off 19 (some 97) (fl 41 1048575) ?_
                  refine off 20 (some 98) (fl 41 2097151) ?_
                  refine off 21 (some 99) (fl 41 4194303) ?_
                  refine off 22 (some 100) (fl 41 8388607) ?_
                  refine off 23 (some 101) (fl 41 16777215) ?_
                  refine off 24 (some 102) (fl 41 33554431) ?_
                  refine off 25 (some 103) (fl 41 67108863) ?_
                  refine off 26 (some 104) (fl 41 134217727) ?_
                  refine off 27 (some 105) (fl 41 268435455) ?_
                  refine off 28 (some 106) (fl 41 536870911) ?_
                  refine off 29 (some 107) (fl 41 1073741823) ?_
                  refine off 30 (some 108) (fl 41 2147483647) ?_
                  refine off 31 (some 109) (fl 41 4294967295) ?_
                  refine off 32 (some 110) (fl 41 8589934591) ?_
                  refine off 33 (some 111) (fl 41 17179869183) ?_
                  refine off 34 (some 112) (fl 41 34359738367) ?_
                  refine off 35 (some 113) (fl 41 68719476735) ?_
                  refine off 36 (some 114) (fl 41 137438953471) ?_
                  refine off 37 (some 115) (fl 41 274877906943) ?_
                  refine off 38 (some 116) (fl 41 549755813887) ?_
                  refine off 39 (some 117) (fl 41 1099511627775) ?_
                  refine pu 40 (some 118) (fl 41 2199023255551) ?_
                  refine done_ (by kernel_rfl) ?_
                  go_wp2
                  go_ret
                  exact ⟨RetB.no, HB.out.bw⟩
                | true =>
                  have HVT := Lib.hid (HVS.out (by first | rfl | trivial))
                  by_cases hk0 : k = 0
                  · have q0 : decide ((0 : Int) < (k : Int)) = false := decide_eq_false (by omega)
                    have q0n : decide (0 < k) = false := decide_eq_false (by omega)
                    have HK0 := Lib.hid hk0
                    clear hk0
                    go_upto_region 8 with (fail)
                    have hbd := HB.out.drew
                    clear x0 x1 x2 x3 x4 x5 x6 x7 x8 x9 x10
                    obtain ⟨x8, z0, z1, z2, z3, z4⟩ := held5 H8.out hbd HAD.out HGA.out
                    refine start_ (n := 41) (S := fun w' => w'.cell? ⟨w.heap.size, 8, none⟩ = some (.slice (some ad) u.a.2.1 u.a.2.2) ∧ w'.cell? (ad.add (k * 5)) = some (.string a.f0) ∧ w'.cell? ⟨(ad.add (k * 5)).block, (ad.add (k * 5)).off + 1, none⟩ = some (.int .i64 a.f1.f0) ∧ w'.cell? ⟨(ad.add (k * 5)).block, (ad.add (k * 5)).off + 2, none⟩ = some (.string a.f1.f1) ∧ w'.cell? ⟨(ad.add (k * 5)).block, (ad.add (k * 5)).off + 3, none⟩ = some (.int .i64 a.f1.f2) ∧ w'.cell? ⟨(ad.add (k * 5)).block, (ad.add (k * 5)).off + 4, none⟩ = some (.bool a.f1.f3)) (ds := []) (fl 41 0) (by kernel_rfl) rfl rfl ⟨x8, z0, z1, z2, z3, z4⟩ (fun hHeld => ?_)
                    generalize wr.drew = w5 at x8 z0 z1 z2 z3 z4 hbd hHeld ⊢
                    have HB := Lib.hid hbd
                    clear x8 z0 z1 z2 z3 z4 hbd
                    refine pu 0 (some 78) (fl 41 1) ?_
                    refine pu 2 (some 80) (fl 41 5) ?_
                    refine tk 1 (some 79) (fl 41 7) hHeld ?_
                    refine pu 3 (some 81) (fl 41 15) ?_
                    refine pu 4 (some 82) (fl 41 31) ?_
                    refine tk 5 (some 83) (fl 41 63) hHeld ?_
                    refine on_ 6 (some 84) (fl 41 127) fun K hK => ?_
                    refine gs Try.func34 #[.string a.f0] ?_
                    with_reducible refine (HNA.out _).mono ?_
                    rintro ee w6 ⟨rfl, hb⟩
                    refine ⟨_, rfl, ?_⟩
                    have HB := Lib.hid (HB.out.next hb)
                    clear hb
                    refine hK.out _ _ ⟨(held5 H8.out HB.out HAD.out HGA.out).1, (held5 H8.out HB.out HAD.out HGA.out).2.1, (held5 H8.out HB.out HAD.out HGA.out).2.2.1, (held5 H8.out HB.out HAD.out HGA.out).2.2.2.1, (held5 H8.out HB.out HAD.out HGA.out).2.2.2.2.1, (held5 H8.out HB.out HAD.out HGA.out).2.2.2.2.2⟩ (fun hHeld => ?_)
                    clear hK K
                    refine nm ?_
                    refine pu 7 (some 85) (fl 41 255) ?_
                    refine pu 8 (some 86) (fl 41 511) ?_
                    refine pu 9 (some 87) (fl 41 1023) ?_
                    refine pu 11 (some 89) (fl 41 3071) ?_
                    refine tk 10 (some 88) (fl 41 4095) hHeld ?_
                    refine pu 12 (some 90) (fl 41 8191) ?_
                    refine pu 13 (some 91) (fl 41 16383) ?_
                    refine tk 14 (some 92) (fl 41 32767) hHeld ?_
                    refine on_ 15 (some 93) (fl 41 65535) fun K hK => ?_
                    refine gs Try.func31 #[.agg #[.int .i64 a.f1.f0, .string a.f1.f1, .int .i64 a.f1.f2, .bool a.f1.f3]] ?_
                    with_reducible refine (HVA.out _).mono ?_
                    rintro ee WN0 ⟨rfl, hb⟩
                    refine ⟨_, rfl, ?_⟩
                    have HB := Lib.hid (HB.out.next hb)
                    clear hb
                    refine hK.out _ _ ⟨(held5 H8.out HB.out HAD.out HGA.out).1, (held5 H8.out HB.out HAD.out HGA.out).2.1, (held5 H8.out HB.out HAD.out HGA.out).2.2.1, (held5 H8.out HB.out HAD.out HGA.out).2.2.2.1, (held5 H8.out HB.out HAD.out HGA.out).2.2.2.2.1, (held5 H8.out HB.out HAD.out HGA.out).2.2.2.2.2⟩ (fun hHeld => ?_)
                    clear hK K
                    refine nm ?_
                    refine pu 16 (some 94) (fl 41 131071) ?_
                    refine pu 17 (some 95) (fl 41 262143) ?_
                    refine pu 18 (some 96) (fl 41 524287) ?_
                    refine pu 19 (some 97) (fl 41 1048575) ?_
                    refine pu 20 (some 98) (fl 41 2097151) ?_
                    refine pu 21 (some 99) (fl 41 4194303) ?_
                    refine off 22 (some 100) (fl 41 8388607) ?_
                    refine off 23 (some 101) (fl 41 16777215) ?_
                    refine off 24 (some 102) (fl 41 33554431) ?_
                    refine off 25 (some 103) (fl 41 67108863) ?_
                    refine off 26 (some 104) (fl 41 134217727) ?_
                    refine off 27 (some 105) (fl 41 268435455) ?_
                    refine off 28 (some 106) (fl 41 536870911) ?_
                    refine off 29 (some 107) (fl 41 1073741823) ?_
                    refine off 30 (some 108) (fl 41 2147483647) ?_
                    refine off 31 (some 109) (fl 41 4294967295) ?_
                    refine off 32 (some 110) (fl 41 8589934591) ?_
                    refine off 33 (some 111) (fl 41 17179869183) ?_
                    refine off 34 (some 112) (fl 41 34359738367) ?_
                    refine off 35 (some 113) (fl 41 68719476735) ?_
                    refine off 36 (some 114) (fl 41 137438953471) ?_
                    refine off 37 (some 115) (fl 41 274877906943) ?_
                    refine off 38 (some 116) (fl 41 549755813887) ?_
                    refine pu 39 (some 117) (fl 41 1099511627775) ?_
                    refine pu 40 (some 118) (fl 41 2199023255551) ?_
                    refine done_ (by kernel_rfl) ?_
                    go_wp2
                    go_roundw
                    case rel => exact ⟨k + 1, HKL.out, by rw [HW.out], Lib.hid ⟨by rw [HTk.out]; intro y hy; rcases List.mem_append.1 hy with hy | hy; exact HP.out.1 y hy; rw [List.mem_singleton.1 hy]; exact ⟨HSa.out, HVT.out.1⟩, fun j a b h => by have := HK0.out; omega⟩, HB⟩
                    case measure => exact meas_up2 (by have := Mf.out; omega) HKL.out
                  · obtain ⟨j, hkk⟩ : ∃ j, j + 1 = k := ⟨k - 1, by omega⟩
                    obtain ⟨p, hp⟩ : ∃ p, x.f8[j]? = some p := ⟨_, List.getElem?_eq_getElem (by have := HKL.out; have := N8.out; omega)⟩
                    have HGP := Lib.hid hp
                    have HSp := Lib.hid (show p.f0.size ≤ 32 from (HP.out.1 p (by
                      obtain ⟨hk2, e⟩ := List.getElem?_eq_some_iff.1 hp
                      rw [List.mem_take_iff_getElem]
                      exact ⟨j, by omega, e⟩)).1)
                    have hj0 : decide ((0 : Int) < (k : Int)) = true := decide_eq_true (by omega)
                    have hj0n : decide (0 < k) = true := decide_eq_true (by omega)
                    have hj1 : wrap64 ((k : Int) - 1) = (j : Int) := by have := HKL.out; have := Mf.out; unfold wrap64; omega
                    have hj2 : (j : Int) < (u.a.2.1 : Int) := by omega
                    have hj3 : 0 < k := by omega
                    have HK1 := Lib.hid hkk
                    clear hp hk0 hkk
                    go_upto_region 8 with (fail)
                    have hbd := HB.out.drew
                    clear x0 x1 x2 x3 x4 x5 x6 x7 x8 x9 x10
                    obtain ⟨x8, z0, z1, z2, z3, z4, y0⟩ := held6 H8.out hbd HAD.out HGA.out HGP.out
                    refine start_ (n := 41) (S := fun w' => w'.cell? ⟨w.heap.size, 8, none⟩ = some (.slice (some ad) u.a.2.1 u.a.2.2) ∧ w'.cell? (ad.add (k * 5)) = some (.string a.f0) ∧ w'.cell? ⟨(ad.add (k * 5)).block, (ad.add (k * 5)).off + 1, none⟩ = some (.int .i64 a.f1.f0) ∧ w'.cell? ⟨(ad.add (k * 5)).block, (ad.add (k * 5)).off + 2, none⟩ = some (.string a.f1.f1) ∧ w'.cell? ⟨(ad.add (k * 5)).block, (ad.add (k * 5)).off + 3, none⟩ = some (.int .i64 a.f1.f2) ∧ w'.cell? ⟨(ad.add (k * 5)).block, (ad.add (k * 5)).off + 4, none⟩ = some (.bool a.f1.f3) ∧ w'.cell? (ad.add (j * 5)) = some (.string p.f0)) (ds := []) (fl 41 0) (by kernel_rfl) rfl rfl ⟨x8, z0, z1, z2, z3, z4, y0⟩ (fun hHeld => ?_)
                    generalize wr.drew = w5 at x8 z0 z1 z2 z3 z4 y0 hbd hHeld ⊢
                    have HB := Lib.hid hbd
                    clear x8 z0 z1 z2 z3 z4 y0 hbd
                    refine pu 0 (some 78) (fl 41 1) ?_
                    refine pu 2 (some 80) (fl 41 5) ?_
                    refine tk 1 (some 79) (fl 41 7) hHeld ?_
                    refine pu 3 (some 81) (fl 41 15) ?_
                    refine pu 4 (some 82) (fl 41 31) ?_
                    refine tk 5 (some 83) (fl 41 63) hHeld ?_
                    refine on_ 6 (some 84) (fl 41 127) fun K hK => ?_
                    refine gs Try.func34 #[.string a.f0] ?_
                    with_reducible refine (HNA.out _).mono ?_
                    rintro ee w6 ⟨rfl, hb⟩
                    refine ⟨_, rfl, ?_⟩
                    have HB := Lib.hid (HB.out.next hb)
                    clear hb
                    refine hK.out _ _ ⟨(held6 H8.out HB.out HAD.out HGA.out HGP.out).1, (held6 H8.out HB.out HAD.out HGA.out HGP.out).2.1, (held6 H8.out HB.out HAD.out HGA.out HGP.out).2.2.1, (held6 H8.out HB.out HAD.out HGA.out HGP.out).2.2.2.1, (held6 H8.out HB.out HAD.out HGA.out HGP.out).2.2.2.2.1, (held6 H8.out HB.out HAD.out HGA.out HGP.out).2.2.2.2.2.1, (held6 H8.out HB.out HAD.out HGA.out HGP.out).2.2.2.2.2.2⟩ (fun hHeld => ?_)
                    clear hK K
                    refine nm ?_
                    refine pu 7 (some 85) (fl 41 255) ?_
                    refine pu 8 (some 86) (fl 41 511) ?_
                    refine pu 9 (some 87) (fl 41 1023) ?_
                    refine pu 11 (some 89) (fl 41 3071) ?_
                    refine tk 10 (some 88) (fl 41 4095) hHeld ?_
                    refine pu 12 (some 90) (fl 41 8191) ?_
                    refine pu 13 (some 91) (fl 41 16383) ?_
                    refine tk 14 (some 92) (fl 41 32767) hHeld ?_
                    refine on_ 15 (some 93) (fl 41 65535) fun K hK => ?_
                    refine gs Try.func31 #[.agg #[.int .i64 a.f1.f0, .string a.f1.f1, .int .i64 a.f1.f2, .bool a.f1.f3]] ?_
                    with_reducible refine (HVA.out _).mono ?_
                    rintro ee WN0 ⟨rfl, hb⟩
                    refine ⟨_, rfl, ?_⟩
                    have HB := Lib.hid (HB.out.next hb)
                    clear hb
                    refine hK.out _ _ ⟨(held6 H8.out HB.out HAD.out HGA.out HGP.out).1, (held6 H8.out HB.out HAD.out HGA.out HGP.out).2.1, (held6 H8.out HB.out HAD.out HGA.out HGP.out).2.2.1, (held6 H8.out HB.out HAD.out HGA.out HGP.out).2.2.2.1, (held6 H8.out HB.out HAD.out HGA.out HGP.out).2.2.2.2.1, (held6 H8.out HB.out HAD.out HGA.out HGP.out).2.2.2.2.2.1, (held6 H8.out HB.out HAD.out HGA.out HGP.out).2.2.2.2.2.2⟩ (fun hHeld => ?_)
                    clear hK K
                    refine nm ?_
                    refine pu 16 (some 94) (fl 41 131071) ?_
                    refine pu 17 (some 95) (fl 41 262143) ?_
                    refine pu 18 (some 96) (fl 41 524287) ?_
                    refine pu 19 (some 97) (fl 41 1048575) ?_
                    refine pu 20 (some 98) (fl 41 2097151) ?_
                    refine pu 21 (some 99) (fl 41 4194303) ?_
                    refine pu 22 (some 100) (fl 41 8388607) ?_
                    refine pu 24 (some 102) (fl 41 25165823) ?_
                    refine pu 25 (some 103) (fl 41 58720255) ?_
                    refine pu 30 (some 108) (fl 41 1132462079) ?_
                    refine pu 32 (some 110) (fl 41 5427429375) ?_
                    refine tk 23 (some 101) (fl 41 5435817983) hHeld ?_
                    refine pu 26 (some 104) (fl 41 5502926847) ?_
                    refine pu 27 (some 105) (fl 41 5637144575) ?_
                    refine tk 28 (some 106) (fl 41 5905580031) hHeld ?_
                    refine tk 31 (some 109) (fl 41 8053063679) hHeld ?_
                    refine pu 33 (some 111) (fl 41 16642998271) ?_
                    refine pu 34 (some 112) (fl 41 33822867455) ?_
                    refine tk 35 (some 113) (fl 41 68182605823) hHeld ?_
                    refine join_ (σ := (Option Addr × Nat) × (Option Addr × Nat)) 4 (fl 41 137438953471) (fun s => [(107, .slice (s.1).1 (bytesOf p.f0).length (s.1).2), (114, .slice (s.2).1 (bytesOf a.f0).length (s.2).2)]) (fun s w' => ((bytesOf p.f0).length ≤ (s.1).2 ∧ Kd.C (Kd.int .u8) w' (s.1).1 (bytesOf p.f0).length (bytesOf p.f0)) ∧ ((bytesOf a.f0).length ≤ (s.2).2 ∧ Kd.C (Kd.int .u8) w' (s.2).1 (bytesOf a.f0).length (bytesOf a.f0)) ∧ (BS w u w')) ?_ ?_
                    rotate_left
                    · intro hJ29_36
                      refine join_ (σ := (Option Addr × Nat)) 5 (fl 41 68719476735) (fun s => [(107, .slice (s).1 (bytesOf p.f0).length (s).2)]) (fun s w' => ((bytesOf p.f0).length ≤ (s).2 ∧ Kd.C (Kd.int .u8) w' (s).1 (bytesOf p.f0).length (bytesOf p.f0)) ∧ (BS w u w')) ?_ ?_
                      rotate_left
                      · intro hJ29
                        refine join_ (σ := (Option Addr × Nat)) 5 (fl 41 136902082559) (fun s => [(114, .slice (s).1 (bytesOf a.f0).length (s).2)]) (fun s w' => ((bytesOf a.f0).length ≤ (s).2 ∧ Kd.C (Kd.int .u8) w' (s).1 (bytesOf a.f0).length (bytesOf a.f0)) ∧ (BS w u w')) ?_ ?_
                        rotate_left
                        · intro hJ36
                          refine two_ (i := 29) (j := 36) (Ni := some 107) (Nj := some 114) (fl 41 68719476735) (fl 41 136902082559) rfl rfl rfl rfl (by kernel_rfl) (by decide) (by decide) (fun K hK => ?_) (fun K hK => ?_)
                          · skip
                            refine Conv.V_conv_step (w0 := WN0) WN0.heap.size 5 (by rfl) (by rfl) 9 50 (.tmp 106) (by rfl) Try.underlying9 Try.underlying50 Try.underlying5 p.f0 (by rfl) (by have := HSp.out; omega) (Below.refl _ _) (Nat.le_refl _) ?_
                            intro v29 wn_29m ho hb hg_ hnew_
                            obtain ⟨Ap, cp, rfl, hc_, hr_⟩ := V_open ho
                            have HF29 := Lib.hid (show _ ∧ _ from ⟨hc_, hr_⟩)
                            have HS := Lib.hid hb
                            clear ho hb hg_ hnew_ hc_ hr_
                            have HB_ := HB
                            clear HB
                            have HB := Lib.hid (HB_.out.next HS.out)
                            refine hK.out _ _ ⟨(held6 H8.out HB.out HAD.out HGA.out HGP.out).1, (held6 H8.out HB.out HAD.out HGA.out HGP.out).2.1, (held6 H8.out HB.out HAD.out HGA.out HGP.out).2.2.1, (held6 H8.out HB.out HAD.out HGA.out HGP.out).2.2.2.1, (held6 H8.out HB.out HAD.out HGA.out HGP.out).2.2.2.2.1, (held6 H8.out HB.out HAD.out HGA.out HGP.out).2.2.2.2.2.1, (held6 H8.out HB.out HAD.out HGA.out HGP.out).2.2.2.2.2.2⟩ (fun hHeld => ?_)
                            clear hK K
                            refine nm ?_
                            exact norm_ (by first | (simp only [putAll, Act.put, List.setIfInBounds_toArray, List.set_cons_zero, List.set_cons_succ]; done) | (simp only [putAll, Act.put, List.setIfInBounds_toArray, List.set_cons_zero, List.set_cons_succ]; rfl)) (hJ29 (Ap, cp) _ ⟨HF29.out, HB.out⟩)
                          · skip
                            refine Conv.V_conv_step (w0 := WN0) WN0.heap.size 5 (by rfl) (by rfl) 9 50 (.tmp 113) (by rfl) Try.underlying9 Try.underlying50 Try.underlying5 a.f0 (by rfl) (by have := HSa.out; omega) (Below.refl _ _) (Nat.le_refl _) ?_
                            intro v36 wn_36m ho hb hg_ hnew_
                            obtain ⟨Aa, ca, rfl, hc_, hr_⟩ := V_open ho
                            have HF36 := Lib.hid (show _ ∧ _ from ⟨hc_, hr_⟩)
                            have HS := Lib.hid hb
                            clear ho hb hg_ hnew_ hc_ hr_
                            have HB_ := HB
                            clear HB
                            have HB := Lib.hid (HB_.out.next HS.out)
                            refine hK.out _ _ ⟨(held6 H8.out HB.out HAD.out HGA.out HGP.out).1, (held6 H8.out HB.out HAD.out HGA.out HGP.out).2.1, (held6 H8.out HB.out HAD.out HGA.out HGP.out).2.2.1, (held6 H8.out HB.out HAD.out HGA.out HGP.out).2.2.2.1, (held6 H8.out HB.out HAD.out HGA.out HGP.out).2.2.2.2.1, (held6 H8.out HB.out HAD.out HGA.out HGP.out).2.2.2.2.2.1, (held6 H8.out HB.out HAD.out HGA.out HGP.out).2.2.2.2.2.2⟩ (fun hHeld => ?_)
                            clear hK K
                            refine nm ?_
                            exact norm_ (by first | (simp only [putAll, Act.put, List.setIfInBounds_toArray, List.set_cons_zero, List.set_cons_succ]; done) | (simp only [putAll, Act.put, List.setIfInBounds_toArray, List.set_cons_zero, List.set_cons_succ]; rfl)) (hJ36 (Aa, ca) _ ⟨HF36.out, HB.out⟩)
                        · skip
                          rintro v36 wn_36 ⟨hf36, hbase⟩
                          have HF36 := Lib.hid hf36
                          have HB := Lib.hid hbase
                          clear hbase hf36
                          have hHeld : (fun w' => w'.cell? ⟨w.heap.size, 8, none⟩ = some (.slice (some ad) u.a.2.1 u.a.2.2) ∧ w'.cell? (ad.add (k * 5)) = some (.string a.f0) ∧ w'.cell? ⟨(ad.add (k * 5)).block, (ad.add (k * 5)).off + 1, none⟩ = some (.int .i64 a.f1.f0) ∧ w'.cell? ⟨(ad.add (k * 5)).block, (ad.add (k * 5)).off + 2, none⟩ = some (.string a.f1.f1) ∧ w'.cell? ⟨(ad.add (k * 5)).block, (ad.add (k * 5)).off + 3, none⟩ = some (.int .i64 a.f1.f2) ∧ w'.cell? ⟨(ad.add (k * 5)).block, (ad.add (k * 5)).off + 4, none⟩ = some (.bool a.f1.f3) ∧ w'.cell? (ad.add (j * 5)) = some (.string p.f0)) wn_36 := held6 H8.out HB.out HAD.out HGA.out HGP.out
                          refine nm ?_
                          refine on_ 29 (some 107) (fl 41 137438953471) fun K hK => ?_
                          refine Conv.V_conv_step (w0 := wn_36) wn_36.heap.size 5 (by rfl) (by rfl) 9 50 (.tmp 106) (by rfl) Try.underlying9 Try.underlying50 Try.underlying5 p.f0 (by rfl) (by have := HSp.out; omega) (Below.refl _ _) (Nat.le_refl _) ?_
                          intro v29 wn_29_36m ho hb hg_ hnew_
                          obtain ⟨Ap, cp, rfl, hc_, hr_⟩ := V_open ho
                          have HF29 := Lib.hid (show _ ∧ _ from ⟨hc_, hr_⟩)
                          have HS := Lib.hid hb
                          clear ho hb hg_ hnew_ hc_ hr_
                          have HB_ := HB
                          clear HB
                          have HB := Lib.hid (HB_.out.next HS.out)
                          refine hK.out _ _ ⟨(held6 H8.out HB.out HAD.out HGA.out HGP.out).1, (held6 H8.out HB.out HAD.out HGA.out HGP.out).2.1, (held6 H8.out HB.out HAD.out HGA.out HGP.out).2.2.1, (held6 H8.out HB.out HAD.out HGA.out HGP.out).2.2.2.1, (held6 H8.out HB.out HAD.out HGA.out HGP.out).2.2.2.2.1, (held6 H8.out HB.out HAD.out HGA.out HGP.out).2.2.2.2.2.1, (held6 H8.out HB.out HAD.out HGA.out HGP.out).2.2.2.2.2.2⟩ (fun hHeld => ?_)
                          clear hK K
                          refine nm ?_
                          exact norm_ (by first | (simp only [putAll, Act.put, List.setIfInBounds_toArray, List.set_cons_zero, List.set_cons_succ]; done) | (simp only [putAll, Act.put, List.setIfInBounds_toArray, List.set_cons_zero, List.set_cons_succ]; rfl)) (hJ29_36 ((Ap, cp), v36) _ ⟨HF29.out, (⟨HF36.out.1, Kd.C_below HF36.out.2 HS.out⟩), HB.out⟩)
                      · skip
                        rintro v29 wn_29 ⟨hf29, hbase⟩
                        have HF29 := Lib.hid hf29
                        have HB := Lib.hid hbase
                        clear hbase hf29
                        have hHeld : (fun w' => w'.cell? ⟨w.heap.size, 8, none⟩ = some (.slice (some ad) u.a.2.1 u.a.2.2) ∧ w'.cell? (ad.add (k * 5)) = some (.string a.f0) ∧ w'.cell? ⟨(ad.add (k * 5)).block, (ad.add (k * 5)).off + 1, none⟩ = some (.int .i64 a.f1.f0) ∧ w'.cell? ⟨(ad.add (k * 5)).block, (ad.add (k * 5)).off + 2, none⟩ = some (.string a.f1.f1) ∧ w'.cell? ⟨(ad.add (k * 5)).block, (ad.add (k * 5)).off + 3, none⟩ = some (.int .i64 a.f1.f2) ∧ w'.cell? ⟨(ad.add (k * 5)).block, (ad.add (k * 5)).off + 4, none⟩ = some (.bool a.f1.f3) ∧ w'.cell? (ad.add (j * 5)) = some (.string p.f0)) wn_29 := held6 H8.out HB.out HAD.out HGA.out HGP.out
                        refine nm ?_
                        refine on_ 36 (some 114) (fl 41 137438953471) fun K hK => ?_
                        refine Conv.V_conv_step (w0 := wn_29) wn_29.heap.size 5 (by rfl) (by rfl) 9 50 (.tmp 113) (by rfl) Try.underlying9 Try.underlying50 Try.underlying5 a.f0 (by rfl) (by have := HSa.out; omega) (Below.refl _ _) (Nat.le_refl _) ?_
                        intro v36 wn_29_36m ho hb hg_ hnew_
                        obtain ⟨Aa, ca, rfl, hc_, hr_⟩ := V_open ho
                        have HF36 := Lib.hid (show _ ∧ _ from ⟨hc_, hr_⟩)
                        have HS := Lib.hid hb
                        clear ho hb hg_ hnew_ hc_ hr_
                        have HB_ := HB
                        clear HB
                        have HB := Lib.hid (HB_.out.next HS.out)
                        refine hK.out _ _ ⟨(held6 H8.out HB.out HAD.out HGA.out HGP.out).1, (held6 H8.out HB.out HAD.out HGA.out HGP.out).2.1, (held6 H8.out HB.out HAD.out HGA.out HGP.out).2.2.1, (held6 H8.out HB.out HAD.out HGA.out HGP.out).2.2.2.1, (held6 H8.out HB.out HAD.out HGA.out HGP.out).2.2.2.2.1, (held6 H8.out HB.out HAD.out HGA.out HGP.out).2.2.2.2.2.1, (held6 H8.out HB.out HAD.out HGA.out HGP.out).2.2.2.2.2.2⟩ (fun hHeld => ?_)
                        clear hK K
                        refine nm ?_
                        exact norm_ (by first | (simp only [putAll, Act.put, List.setIfInBounds_toArray, List.set_cons_zero, List.set_cons_succ]; done) | (simp only [putAll, Act.put, List.setIfInBounds_toArray, List.set_cons_zero, List.set_cons_succ]; rfl)) (hJ29_36 (v29, (Aa, ca)) _ ⟨(⟨HF29.out.1, Kd.C_below HF29.out.2 HS.out⟩), HF36.out, HB.out⟩)
                    rintro ⟨v29, v36⟩ wn_29_36 ⟨hf29, hf36, hbase⟩
                    have HF29 := Lib.hid hf29
                    have HF36 := Lib.hid hf36
                    have HB := Lib.hid hbase
                    clear hbase hf29 hf36
                    have hHeld : (fun w' => w'.cell? ⟨w.heap.size, 8, none⟩ = some (.slice (some ad) u.a.2.1 u.a.2.2) ∧ w'.cell? (ad.add (k * 5)) = some (.string a.f0) ∧ w'.cell? ⟨(ad.add (k * 5)).block, (ad.add (k * 5)).off + 1, none⟩ = some (.int .i64 a.f1.f0) ∧ w'.cell? ⟨(ad.add (k * 5)).block, (ad.add (k * 5)).off + 2, none⟩ = some (.string a.f1.f1) ∧ w'.cell? ⟨(ad.add (k * 5)).block, (ad.add (k * 5)).off + 3, none⟩ = some (.int .i64 a.f1.f2) ∧ w'.cell? ⟨(ad.add (k * 5)).block, (ad.add (k * 5)).off + 4, none⟩ = some (.bool a.f1.f3) ∧ w'.cell? (ad.add (j * 5)) = some (.string p.f0)) wn_29_36 := held6 H8.out HB.out HAD.out HGA.out HGP.out
                    refine nm ?_
                    refine on_ 37 (some 115) (fl 41 274877906943) fun K hK => ?_
                    have hlc := cambiumref01_Less.calls 3000 v29.1 v29.2 (bytesOf p.f0) v36.1 v36.2 (bytesOf a.f0) _ wn_29_36 HF29.out.2 HF29.out.1 HF36.out.2 HF36.out.1 (less_txt 3000 p.f0 a.f0 (by have := HSp.out; omega) (by omega))
                    refine gs Try.func19 #[.slice v29.1 (bytesOf p.f0).length v29.2, .slice v36.1 (bytesOf a.f0).length v36.2] ?_
                    with_reducible refine (hlc).mono ?_
                    rintro ee w9 ⟨rfl, nd, rfl⟩
                    refine ⟨_, rfl, ?_⟩
                    have HB := Lib.hid (HB.out.drewN nd)
                    clear hlc
                    refine hK.out _ _ ⟨(held6 H8.out HB.out HAD.out HGA.out HGP.out).1, (held6 H8.out HB.out HAD.out HGA.out HGP.out).2.1, (held6 H8.out HB.out HAD.out HGA.out HGP.out).2.2.1, (held6 H8.out HB.out HAD.out HGA.out HGP.out).2.2.2.1, (held6 H8.out HB.out HAD.out HGA.out HGP.out).2.2.2.2.1, (held6 H8.out HB.out HAD.out HGA.out HGP.out).2.2.2.2.2.1, (held6 H8.out HB.out HAD.out HGA.out HGP.out).2.2.2.2.2.2⟩ (fun hHeld => ?_)
                    clear hK K
                    refine nm ?_
                    refine pu 38 (some 116) (fl 41 549755813887) ?_
                    refine pu 39 (some 117) (fl 41 1099511627775) ?_
                    refine pu 40 (some 118) (fl 41 2199023255551) ?_
                    refine done_ (by kernel_rfl) ?_
                    cases hlz : lexLt (nums p.f0.data.toList) (nums a.f0.data.toList) with
                    | false =>
                      clear hlz
                      go_wp2
                      go_ret
                      exact ⟨RetB.no, HB.out.bw⟩
                    | true =>
                      have HLZ := Lib.hid hlz
                      clear hlz
                      go_wp2
                      go_roundw
                      case rel => exact ⟨k + 1, HKL.out, by rw [HW.out], Lib.hid ⟨by rw [HTk.out]; intro y hy; rcases List.mem_append.1 hy with hy | hy; exact HP.out.1 y hy; rw [List.mem_singleton.1 hy]; exact ⟨HSa.out, HVT.out.1⟩, fun i u v h hu hv => by
                        rcases Nat.lt_or_ge (i + 1) k with hik | hik
                        · exact HP.out.2 i u v hik hu hv
                        · have hij : i = j := by have := HK1.out; omega
                          subst hij
                          rw [HGP.out] at hu
                          rw [HK1.out, HGA.out] at hv
                          injection hu with hu
                          injection hv with hv
                          rw [← hu, ← hv]
                          exact HLZ.out⟩, HB⟩
                      case measure => exact meas_up2 (by have := Mf.out; omega) HKL.out
            · have hkl : k = u.a.2.1 := by omega
              subst hkl
              have q : decide ((u.a.2.1 : Int) < (u.a.2.1 : Int)) = false := decide_eq_false (by omega)
              rw [N8.out, List.take_length] at HP
              have HOK := Lib.hid (OkS.mk (x := x) (by rw [HF.out.1]; exact HSV.out (by first | rfl | trivial)) (by rw [HF.out.2]; exact HSO.out (by first | rfl | trivial)) (by rw [← N8.out]; exact Mf.out) HP.out.1 (pair_chain HP.out.2) (by rw [← N9.out]; exact Mg.out) (by rw [← N10.out]; exact Mh.out))
              clear hlt hk HP
              go_wp2
              clear x0 x1 x2 x3 x4 x5 x6 x7 x8 x9 x10
              go_loopw [4] (fun i wr => ∃ k : Nat, k ≤ u.e.2.1 ∧ i = .int .i64 k ∧ Hid (BS w u wr)) (fun i _ => u.e.2.1 - (intOf i).toNat)
              case atStart => exact ⟨0, by omega, rfl, HB⟩
              case round =>
                clear HB
                obtain ⟨k, hk, rfl, HB⟩ := hrel
                obtain ⟨x0, x1, x2, x3, x4, x5, x6, x7, x8, x9, x10⟩ := blkS HB.out.ks
                by_cases hlt : k < u.e.2.1
                · have q : decide ((k : Int) < (u.e.2.1 : Int)) = true := decide_eq_true (by omega)
                  have q2 : (k : Int) < (u.e.2.1 : Int) := by omega
                  obtain ⟨v, hv⟩ : ∃ v, x.f9[k]? = some v := ⟨_, List.getElem?_eq_getElem (by rw [← N9.out]; exact hlt)⟩
                  have HGV := Lib.hid hv
                  obtain ⟨ad, had, z0, z1⟩ := at_E2 (Kd.C_below H9.out HB.out.bw) hv
                  have HAD := Lib.hid had
                  rw [had] at x9
                  have HKL := Lib.hid (show k + 1 ≤ u.e.2.1 by omega)
                  have HW := Lib.hid (show wrap64 ((k : Int) + 1) = ((k + 1 : Nat) : Int) by have := Mg.out; unfold wrap64; omega)
                  clear hv had hlt hk
                  go_wp2_with fail
                  refine (time_w v.f0 _).mono ?_
                  rintro e w1 ⟨⟨r, rfl, _⟩, rfl⟩
                  cases r with
                  | false =>
                    go_wp2
                    go_ret
                    exact ⟨RetB.no, HB.out.bw⟩
                  | true =>
                    go_wp2_with fail
                    refine (name_w v.f1 _).mono ?_
                    rintro e w2 ⟨⟨r, rfl, _⟩, hb⟩
                    have HB := Lib.hid (HB.out.next hb)
                    clear hb x0 x1 x2 x3 x4 x5 x6 x7 x8 x9 x10 z0 z1
                    cases r with
                    | false =>
                      go_wp2
                      go_ret
                      exact ⟨RetB.no, HB.out.bw⟩
                    | true =>
                      go_wp2
                      go_roundw
                      case rel => exact ⟨k + 1, HKL.out, by rw [HW.out], HB⟩
                      case measure => exact meas_up2 (by have := Mg.out; omega) HKL.out
                · have hkl : k = u.e.2.1 := by omega
                  subst hkl
                  have q : decide ((u.e.2.1 : Int) < (u.e.2.1 : Int)) = false := decide_eq_false (by omega)
                  clear hlt hk
                  go_wp2
                  clear x0 x1 x2 x3 x4 x5 x6 x7 x8 x9 x10
                  go_loopw [5] (fun i wr => ∃ k : Nat, k ≤ u.l.2.1 ∧ i = .int .i64 k ∧ Hid (BS w u wr)) (fun i _ => u.l.2.1 - (intOf i).toNat)
                  case atStart => exact ⟨0, by omega, rfl, HB⟩
                  case round =>
                    clear HB
                    obtain ⟨k, hk, rfl, HB⟩ := hrel
                    obtain ⟨x0, x1, x2, x3, x4, x5, x6, x7, x8, x9, x10⟩ := blkS HB.out.ks
                    by_cases hlt : k < u.l.2.1
                    · have q : decide ((k : Int) < (u.l.2.1 : Int)) = true := decide_eq_true (by omega)
                      have q2 : (k : Int) < (u.l.2.1 : Int) := by omega
                      obtain ⟨v, hv⟩ : ∃ v, x.f10[k]? = some v := ⟨_, List.getElem?_eq_getElem (by rw [← N10.out]; exact hlt)⟩
                      obtain ⟨ad, had, z0, z1⟩ := at_L2 (Kd.C_below H10.out HB.out.bw) hv
                      rw [had] at x10
                      have HKL := Lib.hid (show k + 1 ≤ u.l.2.1 by omega)
                      have HW := Lib.hid (show wrap64 ((k : Int) + 1) = ((k + 1 : Nat) : Int) by have := Mh.out; unfold wrap64; omega)
                      clear hv had hlt hk
                      cases b0 : (v.f0 == 0) with
                      | true =>
                        go_wp2
                        go_ret
                        exact ⟨RetB.no, HB.out.bw⟩
                      | false =>
                        cases b1 : (v.f1 == 0) with
                        | true =>
                          go_wp2
                          go_ret
                          exact ⟨RetB.no, HB.out.bw⟩
                        | false =>
                          go_wp2
                          go_roundw
                          case rel => exact ⟨k + 1, HKL.out, by rw [HW.out], HB⟩
                          case measure => exact meas_up2 (by have := Mh.out; omega) HKL.out
                    · have hkl : k = u.l.2.1 := by omega
                      subst hkl
                      have q : decide ((u.l.2.1 : Int) < (u.l.2.1 : Int)) = false := decide_eq_false (by omega)
                      clear hlt hk
                      go_wp2
                      go_ret
                      exact ⟨RetB.yes _ HOK.out, HB.out.bw⟩
set_option maxHeartbeats 4000000 in
theorem fits_w {s : Sp} {x : S34} {w : World} (hx : Is w s x) (h8 : x.f8.length ≤ 100000000000000) (h9 : x.f9.length ≤ 100000000000000) :
    Calls Try.prog 10 #[.agg (encS s).toArray] w fun e w' => RetB (fun b => b = true → OkS x) e ∧ Below w.heap.size w w' := by
  have HB := Lib.hid (BS.start w s)
  obtain ⟨x0, x1, x2, x3, x4, x5, x6, x7, x8, x9, x10⟩ := blkS HB.out.ks
  have H1 := Lib.hid (small16_w (hx.below HB.out.bw) h8 h9)
  have HX := Lib.hid hx
  clear hx h8 h9
  rw [arr_S] at HB H1 x0 x1 x2 x3 x4 x5 x6 x7 x8 x9 x10 ⊢
  go_enter Try.func10, Try.ntmps10
  go_wp2_with fail
  refine H1.out.mono ?_
  rintro e w1 ⟨⟨r, rfl, _⟩, hb⟩
  have HB1 := Lib.hid (show BS w s w1 from (show BS w s _ from HB.out).next hb)
  clear hb x0 x1 x2 x3 x4 x5 x6 x7 x8 x9 x10 H1 HB
  obtain ⟨x0, x1, x2, x3, x4, x5, x6, x7, x8, x9, x10⟩ := blkS HB1.out.ks
  cases r with
  | false =>
    go_wp2
    go_ret
    exact ⟨RetB.no, HB1.out.bw⟩
  | true =>
    have H2 := may16_w (HX.out.below HB1.out.bw)
    rw [arr_S] at H2
    have H2 := Lib.hid H2
    go_wp2_with fail
    refine H2.out.mono ?_
    rintro e w2 ⟨⟨r, rfl, hr⟩, hb⟩
    have HR := Lib.hid hr
    have HB2 := Lib.hid (HB1.out.next hb)
    clear hb hr H2
    go_wp2
    go_ret
    exact ⟨⟨r, rfl, HR.out⟩, HB2.out.bw⟩
end Go.Proofs.Ytffggkhahambhaa.Tr

namespace Go.Proofs.Ytffggkhahambhaa.Tr
open Go.RowKit Go.Proofs.YtffggkhahambhaaW.PrintWords Go.Proofs.YtffggkhahambhaaW.PrintLast Go.Proofs.YtffggkhahambhaaW.PrintMore Go.Proofs.Ytffggkhahambhaa.Math Go.Proofs.Ytffggkhahambhaa.PAll Go.Proofs.Ytffggkhahambhaa.Stab Go.Proofs.Ytffggkhahambhaa.Open
set_option linter.unusedVariables false
theorem OkS.tot {x : S34} (h : OkS x) (t : S41) (ht : t.f2.f1.size ≤ 200) : ∃ k b, holdF k t x = some b :=
  holdF_tot t x (by omega) (by have := h.len; omega) (by have := h.svc; omega) (by have := h.op; omega) (fun a ha => by have := (h.att a ha).2; omega)
theorem G_lens {x : S34} (h : Open.G34 x) : x.f8.length ≤ 100000000000000 ∧ x.f9.length ≤ 100000000000000 := by
  obtain ⟨_, _, _, _, _, _, _, _, ⟨_, h8⟩, ⟨_, h9⟩, _⟩ := h
  have e8 : List.length x.f8 = x.f8.length := rfl
  have e9 : List.length x.f9 = x.f9.length := rfl
  exact ⟨by omega, by omega⟩
theorem tells {rs : List Sp} {fs : Sp → S34} (ts : List S41) (hOk : ∀ s ∈ rs, OkS (fs s)) (hts : ∀ t ∈ ts, t.f2.f1.size ≤ 200) : ∃ P : S41 → Sp → Bool, ∀ t ∈ ts, ∀ s ∈ rs, ∃ k, holdF k t (fs s) = some (P t s) := by
  have h : ∀ (t : S41) (s : Sp), ∃ b : Bool, t ∈ ts → s ∈ rs → ∃ k, holdF k t (fs s) = some b := by
    intro t s
    by_cases h : t ∈ ts ∧ s ∈ rs
    · obtain ⟨k, b, e⟩ := (hOk s h.2).tot t (hts t h.1)
      exact ⟨b, fun _ _ => ⟨k, e⟩⟩
    · exact ⟨false, fun h1 h2 => absurd ⟨h1, h2⟩ h⟩
  exact ⟨fun t s => (h t s).choose, fun t ht s hs => (h t s).choose_spec ht hs⟩
theorem is_all2 {W : World} {rs : List Sp} {l : List S34} (hI : ∀ (j : Nat) (s : Sp), rs[j]? = some s → ∃ x, l[j]? = some x ∧ Is W s x) : ∃ f : Sp → S34, ∀ s ∈ rs, Is W s (f s) ∧ f s ∈ l := by
  have h : ∀ s : Sp, ∃ x, s ∈ rs → Is W s x ∧ x ∈ l := by
    intro s
    by_cases hs : s ∈ rs
    · obtain ⟨j, hj, e⟩ := List.getElem_of_mem hs
      obtain ⟨x, hx, hi⟩ := hI j s (by rw [← e]; exact List.getElem?_eq_getElem hj)
      exact ⟨x, fun _ => ⟨hi, List.mem_of_getElem? hx⟩⟩
    · exact ⟨nilS, fun h => absurd h hs⟩
  exact ⟨fun s => (h s).choose, fun s hs => (h s).choose_spec hs⟩
theorem box2 {w : World} {g : Nat} {t : TypeId} {a b : Value} (h : w.heap[g]? = some (.cells #[a, b] t (0, 0))) : w.cell? ⟨g, 0, none⟩ = some a ∧ w.cell? ⟨g, 1, none⟩ = some b := ⟨(blk_cell h 0).trans rfl, (blk_cell h 1).trans rfl⟩
/-- Two boxes of two cells, the call's own. -/
structure Two (W : World) (a0 a1 b0 b1 : Value) (w : World) : Prop where
  bw : Below W.heap.size W w
  ka : w.heap[W.heap.size]? = some (.cells #[a0, a1] 24 (0, 0))
  kb : w.heap[W.heap.size + 1]? = some (.cells #[b0, b1] 24 (0, 0))
theorem lt_of_blk {w : World} {g : Nat} {o : Obj} (h : w.heap[g]? = some o) : g < w.heap.size := by
  rcases Nat.lt_or_ge g w.heap.size with h1 | h1
  · exact h1
  · rw [Array.getElem?_eq_none h1] at h; cases h
theorem Two.size {W w : World} {a0 a1 b0 b1 : Value} (h : Two W a0 a1 b0 b1 w) : W.heap.size + 2 ≤ w.heap.size := lt_of_blk h.kb
theorem Two.nextB {W w w' : World} {a0 a1 b0 b1 : Value} (h : Two W a0 a1 b0 b1 w) (hb : Below (W.heap.size + 2) w w') : Two W a0 a1 b0 b1 w' :=
  ⟨h.bw.trans (hb.mono (by omega)), (hb.block _ (by omega)).trans h.ka, (hb.block _ (by omega)).trans h.kb⟩
theorem Two.next {W w w' : World} {a0 a1 b0 b1 : Value} (h : Two W a0 a1 b0 b1 w) (hb : Below w.heap.size w w') : Two W a0 a1 b0 b1 w' := h.nextB (hb.mono h.size)
theorem Two.drew {W w : World} {a0 a1 b0 b1 : Value} (h : Two W a0 a1 b0 b1 w) : Two W a0 a1 b0 b1 w.drew := h.next (below_drew (Below.refl _ _))
theorem Two.cells {W w : World} {a0 a1 b0 b1 : Value} (h : Two W a0 a1 b0 b1 w) : w.cell? ⟨W.heap.size, 0, none⟩ = some a0 ∧ w.cell? ⟨W.heap.size, 1, none⟩ = some a1 ∧ w.cell? ⟨W.heap.size + 1, 0, none⟩ = some b0 ∧ w.cell? ⟨W.heap.size + 1, 1, none⟩ = some b1 :=
  ⟨(box2 h.ka).1, (box2 h.ka).2, (box2 h.kb).1, (box2 h.kb).2⟩
theorem Two.far {W w : World} {a0 a1 b0 b1 : Value} (h : Two W a0 a1 b0 b1 w) {g : Nat} (hg : W.heap.size + 2 ≤ g) (i : Nat) (v : Value) : Two W a0 a1 b0 b1 (w.setCell ⟨g, i, none⟩ v) :=
  h.nextB ((Below.refl _ _).setCell (p := ⟨g, i, none⟩) hg _)
/-- One box of two cells. -/
structure One1 (W : World) (a0 a1 : Value) (w : World) : Prop where
  bw : Below W.heap.size W w
  ka : w.heap[W.heap.size]? = some (.cells #[a0, a1] 24 (0, 0))
theorem One1.size {W w : World} {a0 a1 : Value} (h : One1 W a0 a1 w) : W.heap.size + 1 ≤ w.heap.size := lt_of_blk h.ka
theorem One1.next {W w w' : World} {a0 a1 : Value} (h : One1 W a0 a1 w) (hb : Below w.heap.size w w') : One1 W a0 a1 w' := ⟨below_step h.bw hb, block_below h.ka hb⟩
theorem One1.nextB {W w w' : World} {a0 a1 : Value} (h : One1 W a0 a1 w) (hb : Below (W.heap.size + 1) w w') : One1 W a0 a1 w' := ⟨h.bw.trans (hb.mono (by omega)), (hb.block _ (by omega)).trans h.ka⟩
theorem One1.drew {W w : World} {a0 a1 : Value} (h : One1 W a0 a1 w) : One1 W a0 a1 w.drew := h.next (below_drew (Below.refl _ _))
theorem One1.cells {W w : World} {a0 a1 : Value} (h : One1 W a0 a1 w) : w.cell? ⟨W.heap.size, 0, none⟩ = some a0 ∧ w.cell? ⟨W.heap.size, 1, none⟩ = some a1 := box2 h.ka
/-- And a third one. -/
structure Three (W : World) (a0 a1 b0 b1 : Value) (g : Nat) (c0 c1 : Value) (w : World) : Prop where
  two : Two W a0 a1 b0 b1 w
  hg : W.heap.size + 2 ≤ g
  kc : w.heap[g]? = some (.cells #[c0, c1] 24 (0, 0))
theorem Three.next {W w w' : World} {a0 a1 b0 b1 : Value} {g : Nat} {c0 c1 : Value} (h : Three W a0 a1 b0 b1 g c0 c1 w) (hb : Below w.heap.size w w') : Three W a0 a1 b0 b1 g c0 c1 w' := ⟨h.two.next hb, h.hg, block_below h.kc hb⟩
theorem Three.drew {W w : World} {a0 a1 b0 b1 : Value} {g : Nat} {c0 c1 : Value} (h : Three W a0 a1 b0 b1 g c0 c1 w) : Three W a0 a1 b0 b1 g c0 c1 w.drew := h.next (below_drew (Below.refl _ _))
theorem Three.setb {W w : World} {a0 a1 b0 b1 : Value} {g : Nat} {c0 c1 : Value} (h : Three W a0 a1 b0 b1 g c0 c1 w) (v : Value) : Three W a0 a1 b0 v g c0 c1 (w.setCell ⟨W.heap.size + 1, 1, none⟩ v) := by
  refine ⟨⟨h.two.bw.setCell (p := ⟨W.heap.size + 1, 1, none⟩) (by show W.heap.size ≤ W.heap.size + 1; omega) _, ?_, blk_set h.two.kb 1 v⟩, h.hg, ?_⟩
  · rw [Below.heap_setCell _ ⟨W.heap.size + 1, 1, none⟩ _ _ (by show W.heap.size ≠ W.heap.size + 1; omega)]; exact h.two.ka
  · rw [Below.heap_setCell _ ⟨W.heap.size + 1, 1, none⟩ _ _ (by show g ≠ W.heap.size + 1; have := h.hg; omega)]; exact h.kc
theorem Three.store {W w : World} {a0 a1 b0 b1 : Value} {g : Nat} {c0 c1 : Value} (h : Two W a0 a1 b0 b1 w) (hg : W.heap.size + 2 ≤ g) {d0 d1 : Value} (hk : w.heap[g]? = some (.cells #[d0, d1] 24 (0, 0))) : Three W a0 a1 b0 b1 g c0 c1 ((w.setCell ⟨g, 0, none⟩ c0).setCell ⟨g, 1, none⟩ c1) :=
  ⟨(h.far hg 0 c0).far hg 1 c1, hg, blk_set (blk_set hk 0 c0) 1 c1⟩
theorem rowT_lt {w : World} {base : Nat} {v : Value} {xs : List S41} (h : Kd.R k41 41 w base (fun _ => True) v xs) : ∀ k, v.ownBlock = some k → base ≤ k ∧ k < w.heap.size := by
  obtain ⟨_, inner, ho, _⟩ := h
  exact fun k hk => ⟨own_base ho k hk, own_lt ho k hk⟩
theorem rowT_far {w : World} {base g : Nat} {v : Value} {xs : List S41} (h : Kd.R k41 41 w base (fun _ => True) v xs) (hne : ∀ k, v.ownBlock = some k → k ≠ g) (i : Nat) (u : Value) : Kd.R k41 41 (w.setCell ⟨g, i, none⟩ u) base (fun _ => True) v xs := by
  have h4 := Kd.R_flat (ok' := fun k => some k = v.ownBlock) (fun {_ _ _ _} hm => hm) h (fun k hk _ => hk.symm)
  exact Kd.R_mono (Kd.R_step h4 fun k hk hlt => Below.heap_setCell w ⟨g, i, none⟩ u k (hne k hk.symm)) (fun _ _ => trivial)
theorem infoT : (Try.prog.info? 41).map (fun i => (i.zero, i.size, i.bytes)) = some (some (.agg #[(.string ⟨#[]⟩), (.int .i64 0), (.int .i64 0), (.string ⟨#[]⟩), (.int .i64 0), (.bool false)]), 6, 64) := by kernel_rfl
theorem query_cells {W : World} {x : S24} {cs : Array Value} (h : k24.K W x cs.toList) : ∃ A c, cs = #[.slice A x.f0.length c, .int .i64 x.f1] ∧ x.f0.length ≤ c ∧ Kd.C k41 W A x.f0.length x.f0 := by
  obtain ⟨A, c, he, hl, hC⟩ := k24_open h
  refine ⟨A, c, ?_, hl, hC⟩
  rw [← Array.toArray_toList (xs := cs), he]
end Go.Proofs.Ytffggkhahambhaa.Tr

namespace Go.Proofs.Ytffggkhahambhaa.Tr
open Go.RowKit Go.Proofs.YtffggkhahambhaaW.PrintWords Go.Proofs.YtffggkhahambhaaW.PrintLast Go.Proofs.YtffggkhahambhaaW.PrintMore Go.Proofs.Ytffggkhahambhaa.Math Go.Proofs.Ytffggkhahambhaa.PAll Go.Proofs.Ytffggkhahambhaa.Sq
set_option linter.unusedVariables false
set_option linter.unusedSimpArgs false
attribute [local go_sem high] eqA45 eqA77 eqA80
/-- Two boxes of one span. -/
structure B2 (W : World) (s : Sp) (w : World) : Prop where
  bw : Below W.heap.size W w
  k1 : w.heap[W.heap.size]? = some (.cells (encS s).toArray 34 (0, 0))
  k2 : w.heap[W.heap.size + 1]? = some (.cells (encS s).toArray 34 (0, 0))
theorem B2.start (w : World) (s : Sp) : B2 w s ((w.alloc (.cells (encS s).toArray 34)).alloc (.cells (encS s).toArray 34)) := by
  have h := heap_alloc_new (w.alloc (.cells (encS s).toArray 34)) (.cells (encS s).toArray 34)
  rw [show (w.alloc (.cells (encS s).toArray 34)).heap.size = w.heap.size + 1 by simp] at h
  exact ⟨below_alloc (below_alloc (Below.refl _ _) _) _, block_below (heap_alloc_new w _) (below_alloc (Below.refl _ _) _), h⟩
theorem B2.next {W w w' : World} {s : Sp} (h : B2 W s w) (hb : Below w.heap.size w w') : B2 W s w' := ⟨below_step h.bw hb, block_below h.k1 hb, block_below h.k2 hb⟩
theorem B2.drewN {W w : World} {s : Sp} (h : B2 W s w) (n : Nat) : B2 W s (w.drewN n) := h.next ⟨rfl, rfl, rfl, Nat.le_refl _, fun _ _ => rfl⟩
set_option maxHeartbeats 8000000 in
set_option maxRecDepth 100000 in
theorem same_w {s : Sp} {x : S34} {w : World} (hx : Is w s x) (h8 : x.f8.length ≤ 1000000) (h9 : x.f9.length ≤ 1000000) (h10 : x.f10.length ≤ 1000000) :
    Calls Try.prog 22 #[.agg (encS s).toArray, .agg (encS s).toArray] w fun e w' => e = .returned (.bool true) ∧ Below w.heap.size w w' := by
  obtain ⟨n8, n9, n10, C8, C9, C10⟩ := hx.rows
  have H8 := Lib.hid C8
  have H9 := Lib.hid C9
  have H10 := Lib.hid C10
  have N8 := Lib.hid n8
  have N9 := Lib.hid n9
  have N10 := Lib.hid n10
  have M8 := Lib.hid (show s.a.2.1 ≤ 1000000 by omega)
  have M9 := Lib.hid (show s.e.2.1 ≤ 1000000 by omega)
  have M10 := Lib.hid (show s.l.2.1 ≤ 1000000 by omega)
  have HB := Lib.hid (B2.start w s)
  clear n8 n9 n10 C8 C9 C10 hx h8 h9 h10
  obtain ⟨w0, hw0⟩ : ∃ w0, (w.alloc (.cells (encS s).toArray 34)).alloc (.cells (encS s).toArray 34) = w0 := ⟨_, rfl⟩
  rw [hw0] at HB
  rw [arr_S] at hw0 ⊢
  obtain ⟨x0, x1, x2, x3, x4, x5, x6, x7, x8, x9, x10⟩ := blkS HB.out.k1
  obtain ⟨y0, y1, y2, y3, y4, y5, y6, y7, y8, y9, y10⟩ := blkS HB.out.k2
  go_enter Try.func22, Try.ntmps22
  go_wp2
  clear hw0 x0 x1 x2 x3 x4 x5 x6 x7 x8 x9 x10 y0 y1 y2 y3 y4 y5 y6 y7 y8 y9 y10
  go_loopw [5] (fun i wr => ∃ k : Nat, k ≤ s.a.2.1 ∧ i = .int .i64 k ∧ Hid (B2 w s wr)) (fun i _ => s.a.2.1 - (intOf i).toNat)
  case atStart => exact ⟨0, Nat.zero_le _, rfl, HB⟩
  case round =>
    clear HB
    obtain ⟨k, hk, rfl, HB⟩ := hrel
    obtain ⟨x0, x1, x2, x3, x4, x5, x6, x7, x8, x9, x10⟩ := blkS HB.out.k1
    obtain ⟨y0, y1, y2, y3, y4, y5, y6, y7, y8, y9, y10⟩ := blkS HB.out.k2
    by_cases hlt : k < s.a.2.1
    · have q : decide ((k : Int) < (s.a.2.1 : Int)) = true := decide_eq_true (by omega)
      have q2 : (k : Int) < (s.a.2.1 : Int) := by omega
      obtain ⟨t, hs⟩ : ∃ t, x.f8[k]? = some t := ⟨_, List.getElem?_eq_getElem (by rw [← N8.out]; exact hlt)⟩
      obtain ⟨ad, had, z0, z1, z2, z3, z4⟩ := at_A5 (Kd.C_below H8.out HB.out.bw) hs
      rw [had] at x8 y8
      have HKL := Lib.hid (show k + 1 ≤ s.a.2.1 by omega)
      have HW := Lib.hid (show wrap64 ((k : Int) + 1) = ((k + 1 : Nat) : Int) by have := M8.out; unfold wrap64; omega)
      have e0 := beq_self_eq_true t.f0.toList
      have e1 := beq_self_eq_true t.f1.f0
      have e2 := beq_self_eq_true t.f1.f1.toList
      have e3 := beq_self_eq_true t.f1.f2
      have e4 := beq_self_eq_true t.f1.f3
      clear hs hlt hk had
      go_wp2
      repeat (go_quiet (fail); try go_wp2)
      go_roundw
      case rel => exact ⟨k + 1, HKL.out, by rw [HW.out], Lib.hid (HB.out.drewN _)⟩
      case measure => exact meas_up M8.out HKL.out
    · have hkl : k = s.a.2.1 := by omega
      subst hkl
      have q : decide ((s.a.2.1 : Int) < (s.a.2.1 : Int)) = false := decide_eq_false (by omega)
      clear hlt hk
      go_wp2
      clear x0 x1 x2 x3 x4 x5 x6 x7 x8 x9 x10 y0 y1 y2 y3 y4 y5 y6 y7 y8 y9 y10
      go_loopw [6] (fun i wr => ∃ k : Nat, k ≤ s.e.2.1 ∧ i = .int .i64 k ∧ Hid (B2 w s wr)) (fun i _ => s.e.2.1 - (intOf i).toNat)
      case atStart => exact ⟨0, Nat.zero_le _, rfl, HB⟩
      case round =>
        clear HB
        obtain ⟨k, hk, rfl, HB⟩ := hrel
        obtain ⟨x0, x1, x2, x3, x4, x5, x6, x7, x8, x9, x10⟩ := blkS HB.out.k1
        obtain ⟨y0, y1, y2, y3, y4, y5, y6, y7, y8, y9, y10⟩ := blkS HB.out.k2
        by_cases hlt : k < s.e.2.1
        · have q : decide ((k : Int) < (s.e.2.1 : Int)) = true := decide_eq_true (by omega)
          have q2 : (k : Int) < (s.e.2.1 : Int) := by omega
          obtain ⟨t, hs⟩ : ∃ t, x.f9[k]? = some t := ⟨_, List.getElem?_eq_getElem (by rw [← N9.out]; exact hlt)⟩
          obtain ⟨ad, had, z0, z1⟩ := at_E2 (Kd.C_below H9.out HB.out.bw) hs
          rw [had] at x9 y9
          have HKL := Lib.hid (show k + 1 ≤ s.e.2.1 by omega)
          have HW := Lib.hid (show wrap64 ((k : Int) + 1) = ((k + 1 : Nat) : Int) by have := M9.out; unfold wrap64; omega)
          have e0 := beq_self_eq_true t.f0
          have e1 := beq_self_eq_true t.f1.toList
          clear hs hlt hk had
          go_wp2
          repeat (go_quiet (fail); try go_wp2)
          go_roundw
          case rel => exact ⟨k + 1, HKL.out, by rw [HW.out], Lib.hid (HB.out.drewN _)⟩
          case measure => exact meas_up M9.out HKL.out
        · have hkl : k = s.e.2.1 := by omega
          subst hkl
          have q : decide ((s.e.2.1 : Int) < (s.e.2.1 : Int)) = false := decide_eq_false (by omega)
          clear hlt hk
          go_wp2
          clear x0 x1 x2 x3 x4 x5 x6 x7 x8 x9 x10 y0 y1 y2 y3 y4 y5 y6 y7 y8 y9 y10
          go_loopw [7] (fun i wr => ∃ k : Nat, k ≤ s.l.2.1 ∧ i = .int .i64 k ∧ Hid (B2 w s wr)) (fun i _ => s.l.2.1 - (intOf i).toNat)
          case atStart => exact ⟨0, Nat.zero_le _, rfl, HB⟩
          case round =>
            clear HB
            obtain ⟨k, hk, rfl, HB⟩ := hrel
            obtain ⟨x0, x1, x2, x3, x4, x5, x6, x7, x8, x9, x10⟩ := blkS HB.out.k1
            obtain ⟨y0, y1, y2, y3, y4, y5, y6, y7, y8, y9, y10⟩ := blkS HB.out.k2
            by_cases hlt : k < s.l.2.1
            · have q : decide ((k : Int) < (s.l.2.1 : Int)) = true := decide_eq_true (by omega)
              have q2 : (k : Int) < (s.l.2.1 : Int) := by omega
              obtain ⟨t, hs⟩ : ∃ t, x.f10[k]? = some t := ⟨_, List.getElem?_eq_getElem (by rw [← N10.out]; exact hlt)⟩
              obtain ⟨ad, had, z0, z1⟩ := at_L2 (Kd.C_below H10.out HB.out.bw) hs
              rw [had] at x10 y10
              have HKL := Lib.hid (show k + 1 ≤ s.l.2.1 by omega)
              have HW := Lib.hid (show wrap64 ((k : Int) + 1) = ((k + 1 : Nat) : Int) by have := M10.out; unfold wrap64; omega)
              have e0 := beq_self_eq_true t.f0
              have e1 := beq_self_eq_true t.f1
              clear hs hlt hk had
              go_wp2
              repeat (go_quiet (fail); try go_wp2)
              go_roundw
              case rel => exact ⟨k + 1, HKL.out, by rw [HW.out], Lib.hid (HB.out.drewN _)⟩
              case measure => exact meas_up M10.out HKL.out
            · have hkl : k = s.l.2.1 := by omega
              subst hkl
              have q : decide ((s.l.2.1 : Int) < (s.l.2.1 : Int)) = false := decide_eq_false (by omega)
              clear hlt hk
              go_wp2
              go_ret
              exact ⟨rfl, HB.out.bw⟩
set_option maxHeartbeats 8000000 in
set_option maxRecDepth 100000 in
theorem spans_w {A1 A2 : Option Addr} {c1 c2 : Nat} {ys : List Sp} {fs : Sp → S34} {w : World} (h1 : Kd.C kS w A1 ys.length ys) (h2 : Kd.C kS w A2 ys.length ys) (hn : ys.length ≤ 1000000) (hI : ∀ s ∈ ys, Is w s (fs s) ∧ (fs s).f8.length ≤ 1000000 ∧ (fs s).f9.length ≤ 1000000 ∧ (fs s).f10.length ≤ 1000000) :
    Calls Try.prog 11 #[.slice A1 ys.length c1, .slice A2 ys.length c2] w fun e w' => e = .returned (.bool true) ∧ Below w.heap.size w w' := by
  have H1 := Lib.hid h1
  have H2 := Lib.hid h2
  have HN := Lib.hid hn
  have HI := Lib.hid hI
  have e0 : ((ys.length : Int) != (ys.length : Int)) = false := by simp
  clear h1 h2 hn hI
  go_enter Try.func11, Try.ntmps11
  go_wp2
  go_loopw [5] (fun i wr => ∃ k : Nat, k ≤ ys.length ∧ i = .int .i64 k ∧ Hid (Below w.heap.size w wr)) (fun i _ => ys.length - (intOf i).toNat)
  case atStart => exact ⟨0, Nat.zero_le _, rfl, Lib.hid (Below.refl _ _)⟩
  case round =>
    obtain ⟨k, hk, rfl, HB⟩ := hrel
    by_cases hlt : k < ys.length
    · have q : decide ((k : Int) < (ys.length : Int)) = true := decide_eq_true (by omega)
      have q2 : (k : Int) < (ys.length : Int) := by omega
      obtain ⟨s, hs⟩ : ∃ s, ys[k]? = some s := ⟨_, List.getElem?_eq_getElem hlt⟩
      have HGS := Lib.hid hs
      have HMS := Lib.hid (List.mem_of_getElem? hs)
      obtain ⟨a1, rfl, _⟩ := at_S (Kd.C_below H1.out HB.out) hs
      obtain ⟨a2, rfl, _⟩ := at_S (Kd.C_below H2.out HB.out) hs
      have HKL := Lib.hid (show k + 1 ≤ ys.length by omega)
      have HW := Lib.hid (show wrap64 ((k : Int) + 1) = ((k + 1 : Nat) : Int) by have := HN.out; unfold wrap64; omega)
      clear hs hlt hk
      go_upto_region 6 with (fail)
      have hbd := below_drew HB.out
      obtain ⟨ad2, he2, x0, x1, x2, x3, x4, x5, x6, x7, x8, x9, x10⟩ := at_S (Kd.C_below H1.out hbd) HGS.out
      injection he2 with he2
      subst he2
      obtain ⟨ad2, he2, y0, y1, y2, y3, y4, y5, y6, y7, y8, y9, y10⟩ := at_S (Kd.C_below H2.out hbd) HGS.out
      injection he2 with he2
      subst he2
      refine start_ (n := 10) (S := fun w' => w'.cell? (a1.add (k * 11)) = some (.int .u64 s.tr) ∧ w'.cell? ⟨(a1.add (k * 11)).block, (a1.add (k * 11)).off + 1, none⟩ = some (.int .u64 s.id) ∧ w'.cell? ⟨(a1.add (k * 11)).block, (a1.add (k * 11)).off + 2, none⟩ = some (.int .u64 s.par) ∧ w'.cell? ⟨(a1.add (k * 11)).block, (a1.add (k * 11)).off + 3, none⟩ = some (.string s.svc) ∧ w'.cell? ⟨(a1.add (k * 11)).block, (a1.add (k * 11)).off + 4, none⟩ = some (.string s.op) ∧ w'.cell? ⟨(a1.add (k * 11)).block, (a1.add (k * 11)).off + 5, none⟩ = some (.int .i64 s.st) ∧ w'.cell? ⟨(a1.add (k * 11)).block, (a1.add (k * 11)).off + 6, none⟩ = some (.int .i64 s.du) ∧ w'.cell? ⟨(a1.add (k * 11)).block, (a1.add (k * 11)).off + 7, none⟩ = some (.int .i64 s.stt) ∧ w'.cell? ⟨(a1.add (k * 11)).block, (a1.add (k * 11)).off + 8, none⟩ = some (.slice s.a.1 s.a.2.1 s.a.2.2) ∧ w'.cell? ⟨(a1.add (k * 11)).block, (a1.add (k * 11)).off + 9, none⟩ = some (.slice s.e.1 s.e.2.1 s.e.2.2) ∧ w'.cell? ⟨(a1.add (k * 11)).block, (a1.add (k * 11)).off + 10, none⟩ = some (.slice s.l.1 s.l.2.1 s.l.2.2) ∧ w'.cell? (a2.add (k * 11)) = some (.int .u64 s.tr) ∧ w'.cell? ⟨(a2.add (k * 11)).block, (a2.add (k * 11)).off + 1, none⟩ = some (.int .u64 s.id) ∧ w'.cell? ⟨(a2.add (k * 11)).block, (a2.add (k * 11)).off + 2, none⟩ = some (.int .u64 s.par) ∧ w'.cell? ⟨(a2.add (k * 11)).block, (a2.add (k * 11)).off + 3, none⟩ = some (.string s.svc) ∧ w'.cell? ⟨(a2.add (k * 11)).block, (a2.add (k * 11)).off + 4, none⟩ = some (.string s.op) ∧ w'.cell? ⟨(a2.add (k * 11)).block, (a2.add (k * 11)).off + 5, none⟩ = some (.int .i64 s.st) ∧ w'.cell? ⟨(a2.add (k * 11)).block, (a2.add (k * 11)).off + 6, none⟩ = some (.int .i64 s.du) ∧ w'.cell? ⟨(a2.add (k * 11)).block, (a2.add (k * 11)).off + 7, none⟩ = some (.int .i64 s.stt) ∧ w'.cell? ⟨(a2.add (k * 11)).block, (a2.add (k * 11)).off + 8, none⟩ = some (.slice s.a.1 s.a.2.1 s.a.2.2) ∧ w'.cell? ⟨(a2.add (k * 11)).block, (a2.add (k * 11)).off + 9, none⟩ = some (.slice s.e.1 s.e.2.1 s.e.2.2) ∧ w'.cell? ⟨(a2.add (k * 11)).block, (a2.add (k * 11)).off + 10, none⟩ = some (.slice s.l.1 s.l.2.1 s.l.2.2)) (ds := []) (fl 10 0) (by kernel_rfl) rfl rfl ⟨x0, x1, x2, x3, x4, x5, x6, x7, x8, x9, x10, y0, y1, y2, y3, y4, y5, y6, y7, y8, y9, y10⟩ (fun hHeld => ?_)
      generalize wr.drew = w5 at x0 x1 x2 x3 x4 x5 x6 x7 x8 x9 x10 y0 y1 y2 y3 y4 y5 y6 y7 y8 y9 y10 hbd hHeld ⊢
      have HB5 := Lib.hid hbd
      clear x0 x1 x2 x3 x4 x5 x6 x7 x8 x9 x10 y0 y1 y2 y3 y4 y5 y6 y7 y8 y9 y10 hbd
      refine pu 0 (some 17) (fl 10 1) ?_
      refine pu 1 (some 18) (fl 10 3) ?_
      refine pu 2 (some 19) (fl 10 7) ?_
      refine pu 4 (some 21) (fl 10 23) ?_
      refine pu 5 (some 22) (fl 10 55) ?_
      refine pu 6 (some 23) (fl 10 119) ?_
      refine tk 3 (some 20) (fl 10 127) hHeld ?_
      refine tk 7 (some 24) (fl 10 255) hHeld ?_
      refine on_ 8 (some 25) (fl 10 511) fun K hK => ?_
      have hsc := same_w ((HI.out s HMS.out).1.below HB5.out) (HI.out s HMS.out).2.1 (HI.out s HMS.out).2.2.1 (HI.out s HMS.out).2.2.2
      rw [arr_S] at hsc
      refine gs Try.func22 #[.agg #[.int .u64 s.tr, .int .u64 s.id, .int .u64 s.par, .string s.svc, .string s.op, .int .i64 s.st, .int .i64 s.du, .int .i64 s.stt, .slice s.a.1 s.a.2.1 s.a.2.2, .slice s.e.1 s.e.2.1 s.e.2.2, .slice s.l.1 s.l.2.1 s.l.2.2], .agg #[.int .u64 s.tr, .int .u64 s.id, .int .u64 s.par, .string s.svc, .string s.op, .int .i64 s.st, .int .i64 s.du, .int .i64 s.stt, .slice s.a.1 s.a.2.1 s.a.2.2, .slice s.e.1 s.e.2.1 s.e.2.2, .slice s.l.1 s.l.2.1 s.l.2.2]] ?_
      with_reducible refine (hsc).mono ?_
      rintro ee w6 ⟨rfl, hb⟩
      refine ⟨_, rfl, ?_⟩
      have HB6 := Lib.hid (below_step HB5.out hb)
      clear hb hsc
      obtain ⟨ad2, he2, x0, x1, x2, x3, x4, x5, x6, x7, x8, x9, x10⟩ := at_S (Kd.C_below H1.out HB6.out) HGS.out
      injection he2 with he2
      subst he2
      obtain ⟨ad2, he2, y0, y1, y2, y3, y4, y5, y6, y7, y8, y9, y10⟩ := at_S (Kd.C_below H2.out HB6.out) HGS.out
      injection he2 with he2
      subst he2
      refine hK.out _ _ ⟨x0, x1, x2, x3, x4, x5, x6, x7, x8, x9, x10, y0, y1, y2, y3, y4, y5, y6, y7, y8, y9, y10⟩ (fun hHeld => ?_)
      clear hK K
      refine nm ?_
      refine pu 9 (some 26) (fl 10 1023) ?_
      refine done_ (by kernel_rfl) ?_
      clear x0 x1 x2 x3 x4 x5 x6 x7 x8 x9 x10 y0 y1 y2 y3 y4 y5 y6 y7 y8 y9 y10
      go_wp2
      go_roundw
      case rel => exact ⟨k + 1, HKL.out, by rw [HW.out], HB6⟩
      case measure => exact meas_up HN.out HKL.out
    · have hkl : k = ys.length := by omega
      subst hkl
      have q : decide ((ys.length : Int) < (ys.length : Int)) = false := decide_eq_false (by omega)
      clear hlt hk
      go_wp2
      go_ret
      exact ⟨rfl, HB.out⟩
end Go.Proofs.Ytffggkhahambhaa.Tr
