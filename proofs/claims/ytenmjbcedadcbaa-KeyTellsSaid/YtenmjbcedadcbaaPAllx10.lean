-- Written by a program: the kit's print.py, driven for several laws at once. Not trusted: Lean checks it.
import Derived.Test.YtenmjbcedadcbaaPAllx0
import Derived.Test.YtenmjbcedadcbaaPAllx1
import Derived.Test.YtenmjbcedadcbaaPAllx2
import Derived.Test.YtenmjbcedadcbaaPAllx7
import Derived.Test.YtenmjbcedadcbaaPAllx8
import Derived.Test.YtenmjbcedadcbaaPAllx9
import Derived.Test.YtenmjbcedadcbaaExtAwake18
import Derived.Test.YtenmjbcedadcbaaExtIndex2
namespace Go.Proofs.Ytenmjbcedadcbaa.PAll
open Go.RowKit Go.Proofs.YtenmjbcedadcbaaW.PrintWords Go.Proofs.YtenmjbcedadcbaaW.PrintLast Go.Proofs.YtenmjbcedadcbaaW.PrintMore
attribute [local go_sem] max2_int min2_int max_two min_two max_three min_three max_four min_four   -- for this text's walks alone
set_option linter.unusedVariables false
set_option linter.unusedSimpArgs false

/-! ### cambiumlaw18_KeyTells: function 6 -/
def q10m (n m : Nat) : Array Bool := ((List.range n).map (Nat.testBit m)).toArray
theorem q10a {α : Type} (xs : List α) (i : Nat) (x : α) : xs.toArray.setIfInBounds i x = (xs.set i x).toArray := List.setIfInBounds_toArray ..
theorem q10b {α : Type} (x y : α) (xs : List α) : (x :: xs).set 0 y = y :: xs := List.set_cons_zero ..
theorem q10c {α : Type} (x y : α) (xs : List α) (n : Nat) : (x :: xs).set (n + 1) y = x :: xs.set n y := List.set_cons_succ ..
theorem q10h {w w' : World} {p : Addr} {v : Value} (h : Below w.heap.size w w') (x : w.cell? p = some v) : w'.cell? p = some v := (h.cell (World.block_lt_of_cell? w _ x)).trans x
theorem q10p {P : Program} {md : Region.Mode} {ops : Array Oper} {Q : Exit → Act → World → Prop} {S : World → Prop} {ds : List Nat} {T : Bool × List (List Nat × List Nat)} {i : Nat} {N : Option Tmp} {oi : Oper} {v : Value} {fuel : Nat} {l : Array Bool} {a : Act} {w : World} (l' : Array Bool) (hT : rtab md ops = T) {a' : Act}
    (h : wpAnyLast P md ops Q S ds fuel l' a' w) (hi : ops[i]? = some oi := by rfl) (hN : oi.dst = N := by rfl) (hc : anyT T l.toList l'.toList i = true := by kernel_rfl) (hQ : ∀ c a w, Q (.panic c) (a.put oi.dst v) w → Q (.panic c) a w := by exact fun _ _ _ h => h)
    (hw : Region.wanted oi (yielded ops a.tmps) = true := by rfl) (hy : ∀ w', (execOp a.eval oi).run P w' = .ok (.value v) w' := by intro w'; go_simp; with_reducible rfl) (ha : a.put N v = a' := by simp only [Act.put, q10a, q10b, q10c, i64_w, i32_w]; rfl) :
    wpAnyLast P md ops Q S ds (fuel + 1) l a w := pure_ l' hi hN (any_of hT hc) hQ (Or.inl ⟨hw, hy⟩) ha h
theorem q10u {P : Program} {md : Region.Mode} {ops : Array Oper} {Q : Exit → Act → World → Prop} {S : World → Prop} {ds : List Nat} {T : Bool × List (List Nat × List Nat)} {i : Nat} {N : Option Tmp} {oi : Oper} {fuel : Nat} {l : Array Bool} {a : Act} {w : World} (l' : Array Bool) (hT : rtab md ops = T) {a' : Act}
    (h : wpAnyLast P md ops Q S ds fuel l' a' w) (hi : ops[i]? = some oi := by rfl) (hN : oi.dst = N := by rfl) (hc : anyT T l.toList l'.toList i = true := by kernel_rfl) (hQ : ∀ c a w, Q (.panic c) (a.put oi.dst undef) w → Q (.panic c) a w := by exact fun _ _ _ h => h)
    (hw : Region.wanted oi (yielded ops a.tmps) = false := by rfl) (ha : a.put N undef = a' := by simp only [Act.put, q10a, q10b, q10c, i64_w, i32_w]; rfl) :
    wpAnyLast P md ops Q S ds (fuel + 1) l a w := pure_ l' hi hN (any_of hT hc) hQ (Or.inr ⟨hw, rfl⟩) ha h
theorem q10k {w : World} {g : Nat} {cs : Array Value} {t : TypeId} (h : w.heap[g]? = some (.cells cs t (0, 0))) (i : Nat) {v : Value} (e : cs[i]? = some v := by rfl) : w.cell? ⟨g, i, none⟩ = some v := (blk_cell h i).trans e
theorem q10y0 {P : Prop} (h : P := by repeat (first | (with_reducible first | exact HB.out | apply below_alloc | apply pw_below_drewN | apply below_drew1 | refine below_set ?_ GE272.out) | exact HB.out)) : P := h
theorem q10y1 {P : Prop} (h : P := by (with_reducible repeat (first | apply Kd.R_alloc | apply Kd.R_drewN | apply Kd.R_drew)); exact HO278.out) : P := h
theorem q10y2 {P : Prop} (h : P := by (try simp only [List.map_toArray, List.map_cons, List.map_nil]); first | done | rfl | (simp only [List.length_drop, List.length_take]; rfl)) : P := h
theorem q10y3 {P : Prop} (h : P := by (with_reducible repeat (first | apply Kd.R_alloc | apply Kd.R_drewN | apply Kd.R_drew)); exact HO281.out) : P := h
theorem q10y4 {P : Prop} (h : P := by (with_reducible repeat (first | refine blk_drewN ?_ _ | refine blk_drew ?_ | refine blk_alloc ?_ _)); exact BK272.out) : P := h
theorem q10y5 {P : Prop} (h : P := by (with_reducible repeat (first | apply Kd.R_alloc | apply Kd.R_drewN | apply Kd.R_drew)); exact HO287.out) : P := h
theorem q10y6 {P : Prop} (h : P := by repeat (first | (with_reducible first | exact HB.out | apply below_alloc | apply pw_below_drewN | apply below_drew1) | exact HB.out)) : P := h
theorem q10y7 {P : Prop} (h : P := by first | rfl | (simp; done) | (simp [*]; done)) : P := h

mutual
def cambiumlaw18_KeyTells.j0 : Nat → Int → Bool → Int → Int → Int → ByteArray → ByteArray → Int → Int → Int → List (S51) → List (S53) → List (S58) → Option (Bool)
 | 0, _, _, _, _, _, _, _, _, _, _, _, _, _ => none
 | k + 1, x1, x19, x273000, x273001, x273002, x273003, x273004, x273005, x273006, x273007, x273008, x273009, x273010 => if x19 = true then (some true) else ((key_Primary.f k x273000 x273001 x273002 x273003 x273004 x273005 x273006 x273007 x273008 x273009 x273010).bind fun t276 => ((key_Index.f k x1 x273000 x273001 x273002 x273003 x273004 x273005 x273006 x273007 x273008 x273009 x273010).bind fun t279 => ((key_FromPrimary.f t276).bind fun bt282 => ((cambiumref18_Primary.f k x273000 x273001 x273002 x273003 x273004 x273005 x273006 x273007 x273008 x273009 x273010).bind fun t285 => ((cambiumref01_Same.f k t276 t285).bind fun t288 => (if t288 = true then ((cambiumref18_Index.f k x1 x273000 x273001 x273002 x273003 x273004 x273005 x273006 x273007 x273008 x273009 x273010).bind fun t289 => ((cambiumref01_Same.f k t279 t289).bind fun t292 => (if t292 = true then (if bt282.2.2 = true then (if bt282.1 = x273000 then (if bt282.2.1 = x273001 then ((key_Name.f x1).bind fun t293 => ((cambiumref18_Name.f x1).bind fun t294 => (cambiumlaw18_KeyTells.j1 k x1 t276 t279 (t293.toList != t294.toList)))) else (cambiumlaw18_KeyTells.j1 k x1 t276 t279 true)) else (cambiumlaw18_KeyTells.j1 k x1 t276 t279 true)) else (cambiumlaw18_KeyTells.j1 k x1 t276 t279 true)) else (cambiumlaw18_KeyTells.j1 k x1 t276 t279 true)))) else (cambiumlaw18_KeyTells.j1 k x1 t276 t279 true)))))))
def cambiumlaw18_KeyTells.j1 : Nat → Int → List Int → List Int → Bool → Option (Bool)
 | 0, _, _, _, _ => none
 | k + 1, x1, x5, x6, x66 => if x66 = true then (some false) else (if x1 < 1 then (cambiumlaw18_KeyTells.j2 k x5 x6 true) else (cambiumlaw18_KeyTells.j2 k x5 x6 (decide (x1 > 4))))
def cambiumlaw18_KeyTells.j2 : Nat → List Int → List Int → Bool → Option (Bool)
 | 0, _, _, _ => none
 | k + 1, x5, x6, x72 => if x72 = true then (some ((x6.length : Int) == 0)) else (if (x6.length : Int) ≤ 100 then ((key_Tail.f x6).bind fun t295 => ((cambiumref01_Same.f k t295 x5).bind fun t298 => (some t298))) else (some false))
end
def cambiumlaw18_KeyTells.f (k : Nat) (a0_0 : Int) (a0_1 : Int) (a0_2 : Int) (a0_3 : ByteArray) (a0_4 : ByteArray) (a0_5 : Int) (a0_6 : Int) (a0_7 : Int) (l0_8 : List (S51)) (l0_9 : List (S53)) (l0_10 : List (S58)) (a1 : Int) : Option (Bool) := (cambiumlaw18_awake.f).bind fun t273 => (if t273 = true then ((cambiumref16_Small.f k a0_0 a0_1 a0_2 a0_3 a0_4 a0_5 a0_6 a0_7 l0_8 l0_9 l0_10).bind fun t274 => (if t274 = true then ((cambiumref16_May.f k a0_0 a0_1 a0_2 a0_3 a0_4 a0_5 a0_6 a0_7 l0_8 l0_9 l0_10).bind fun t275 => (cambiumlaw18_KeyTells.j0 k a1 (!t275) a0_0 a0_1 a0_2 a0_3 a0_4 a0_5 a0_6 a0_7 l0_8 l0_9 l0_10)) else (cambiumlaw18_KeyTells.j0 k a1 true a0_0 a0_1 a0_2 a0_3 a0_4 a0_5 a0_6 a0_7 l0_8 l0_9 l0_10))) else (some false))
theorem cambiumlaw18_KeyTells.mono_l : ∀ k, (∀ y0 y1 y2 y3 y4 y5 y6 y7 y8 y9 y10 y11 y12, LeO (cambiumlaw18_KeyTells.j0 k y0 y1 y2 y3 y4 y5 y6 y7 y8 y9 y10 y11 y12) (cambiumlaw18_KeyTells.j0 (k + 1) y0 y1 y2 y3 y4 y5 y6 y7 y8 y9 y10 y11 y12)) ∧ (∀ y0 y1 y2 y3, LeO (cambiumlaw18_KeyTells.j1 k y0 y1 y2 y3) (cambiumlaw18_KeyTells.j1 (k + 1) y0 y1 y2 y3)) ∧ (∀ y0 y1 y2, LeO (cambiumlaw18_KeyTells.j2 k y0 y1 y2) (cambiumlaw18_KeyTells.j2 (k + 1) y0 y1 y2))
 | 0 => ⟨fun _ _ _ _ _ _ _ _ _ _ _ _ _ r h => by simp [cambiumlaw18_KeyTells.j0] at h, fun _ _ _ _ r h => by simp [cambiumlaw18_KeyTells.j1] at h, fun _ _ _ r h => by simp [cambiumlaw18_KeyTells.j2] at h⟩
 | k + 1 => by
  obtain ⟨ih0, ih1, ih2⟩ := cambiumlaw18_KeyTells.mono_l k
  refine ⟨?_, ?_, ?_⟩
  ·intro y0 y1 y2 y3 y4 y5 y6 y7 y8 y9 y10 y11 y12
   unfold cambiumlaw18_KeyTells.j0
   repeat' first
   | (with_reducible exact ih0 _ _ _ _ _ _ _ _ _ _ _ _ _)
   | (with_reducible exact ih1 _ _ _ _)
   | (with_reducible exact ih2 _ _ _)
   | (with_reducible exact cambiumref01_Same.mono _ _ _)
   | (with_reducible exact cambiumref16_May.mono _ _ _ _ _ _ _ _ _ _ _ _)
   | (with_reducible exact cambiumref16_Small.mono _ _ _ _ _ _ _ _ _ _ _ _)
   | (with_reducible exact cambiumref18_Index.mono _ _ _ _ _ _ _ _ _ _ _ _ _)
   | (with_reducible exact cambiumref18_Primary.mono _ _ _ _ _ _ _ _ _ _ _ _)
   | (with_reducible exact key_Index.mono _ _ _ _ _ _ _ _ _ _ _ _ _)
   | (with_reducible exact key_Primary.mono _ _ _ _ _ _ _ _ _ _ _ _)
   | (with_reducible exact LeO.refl _)
   | (with_reducible exact LeO.none _)
   | (with_reducible refine LeO.ite ?_ ?_)
   | (with_reducible refine LeO.bind ?_ (fun _ => ?_))
   | exact ih0 _ _ _ _ _ _ _ _ _ _ _ _ _
   | exact ih1 _ _ _ _
   | exact ih2 _ _ _
   | exact cambiumref01_Same.mono _ _ _
   | exact cambiumref16_May.mono _ _ _ _ _ _ _ _ _ _ _ _
   | exact cambiumref16_Small.mono _ _ _ _ _ _ _ _ _ _ _ _
   | exact cambiumref18_Index.mono _ _ _ _ _ _ _ _ _ _ _ _ _
   | exact cambiumref18_Primary.mono _ _ _ _ _ _ _ _ _ _ _ _
   | exact key_Index.mono _ _ _ _ _ _ _ _ _ _ _ _ _
   | exact key_Primary.mono _ _ _ _ _ _ _ _ _ _ _ _
   | exact LeO.none _
   | refine LeO.ite ?_ ?_
   | refine LeO.bind ?_ (fun _ => ?_)
  ·intro y0 y1 y2 y3
   unfold cambiumlaw18_KeyTells.j1
   repeat' first
   | (with_reducible exact ih0 _ _ _ _ _ _ _ _ _ _ _ _ _)
   | (with_reducible exact ih1 _ _ _ _)
   | (with_reducible exact ih2 _ _ _)
   | (with_reducible exact cambiumref01_Same.mono _ _ _)
   | (with_reducible exact cambiumref16_May.mono _ _ _ _ _ _ _ _ _ _ _ _)
   | (with_reducible exact cambiumref16_Small.mono _ _ _ _ _ _ _ _ _ _ _ _)
   | (with_reducible exact cambiumref18_Index.mono _ _ _ _ _ _ _ _ _ _ _ _ _)
   | (with_reducible exact cambiumref18_Primary.mono _ _ _ _ _ _ _ _ _ _ _ _)
   | (with_reducible exact key_Index.mono _ _ _ _ _ _ _ _ _ _ _ _ _)
   | (with_reducible exact key_Primary.mono _ _ _ _ _ _ _ _ _ _ _ _)
   | (with_reducible exact LeO.refl _)
   | (with_reducible exact LeO.none _)
   | (with_reducible refine LeO.ite ?_ ?_)
   | (with_reducible refine LeO.bind ?_ (fun _ => ?_))
   | exact ih0 _ _ _ _ _ _ _ _ _ _ _ _ _
   | exact ih1 _ _ _ _
   | exact ih2 _ _ _
   | exact cambiumref01_Same.mono _ _ _
   | exact cambiumref16_May.mono _ _ _ _ _ _ _ _ _ _ _ _
   | exact cambiumref16_Small.mono _ _ _ _ _ _ _ _ _ _ _ _
   | exact cambiumref18_Index.mono _ _ _ _ _ _ _ _ _ _ _ _ _
   | exact cambiumref18_Primary.mono _ _ _ _ _ _ _ _ _ _ _ _
   | exact key_Index.mono _ _ _ _ _ _ _ _ _ _ _ _ _
   | exact key_Primary.mono _ _ _ _ _ _ _ _ _ _ _ _
   | exact LeO.none _
   | refine LeO.ite ?_ ?_
   | refine LeO.bind ?_ (fun _ => ?_)
  ·intro y0 y1 y2
   unfold cambiumlaw18_KeyTells.j2
   repeat' first
   | (with_reducible exact ih0 _ _ _ _ _ _ _ _ _ _ _ _ _)
   | (with_reducible exact ih1 _ _ _ _)
   | (with_reducible exact ih2 _ _ _)
   | (with_reducible exact cambiumref01_Same.mono _ _ _)
   | (with_reducible exact cambiumref16_May.mono _ _ _ _ _ _ _ _ _ _ _ _)
   | (with_reducible exact cambiumref16_Small.mono _ _ _ _ _ _ _ _ _ _ _ _)
   | (with_reducible exact cambiumref18_Index.mono _ _ _ _ _ _ _ _ _ _ _ _ _)
   | (with_reducible exact cambiumref18_Primary.mono _ _ _ _ _ _ _ _ _ _ _ _)
   | (with_reducible exact key_Index.mono _ _ _ _ _ _ _ _ _ _ _ _ _)
   | (with_reducible exact key_Primary.mono _ _ _ _ _ _ _ _ _ _ _ _)
   | (with_reducible exact LeO.refl _)
   | (with_reducible exact LeO.none _)
   | (with_reducible refine LeO.ite ?_ ?_)
   | (with_reducible refine LeO.bind ?_ (fun _ => ?_))
   | exact ih0 _ _ _ _ _ _ _ _ _ _ _ _ _
   | exact ih1 _ _ _ _
   | exact ih2 _ _ _
   | exact cambiumref01_Same.mono _ _ _
   | exact cambiumref16_May.mono _ _ _ _ _ _ _ _ _ _ _ _
   | exact cambiumref16_Small.mono _ _ _ _ _ _ _ _ _ _ _ _
   | exact cambiumref18_Index.mono _ _ _ _ _ _ _ _ _ _ _ _ _
   | exact cambiumref18_Primary.mono _ _ _ _ _ _ _ _ _ _ _ _
   | exact key_Index.mono _ _ _ _ _ _ _ _ _ _ _ _ _
   | exact key_Primary.mono _ _ _ _ _ _ _ _ _ _ _ _
   | exact LeO.none _
   | refine LeO.ite ?_ ?_
   | refine LeO.bind ?_ (fun _ => ?_)
theorem cambiumlaw18_KeyTells.mono : ∀ a0 a1 a2 a3 a4 a5 a6 a7 a8 a9 a10 a11 k, LeO (cambiumlaw18_KeyTells.f k a0 a1 a2 a3 a4 a5 a6 a7 a8 a9 a10 a11) (cambiumlaw18_KeyTells.f (k + 1) a0 a1 a2 a3 a4 a5 a6 a7 a8 a9 a10 a11) := by
 intro a0 a1 a2 a3 a4 a5 a6 a7 a8 a9 a10 a11 k
 obtain ⟨ih0, ih1, ih2⟩ := cambiumlaw18_KeyTells.mono_l k
 unfold cambiumlaw18_KeyTells.f
 repeat' first
   | (with_reducible exact ih0 _ _ _ _ _ _ _ _ _ _ _ _ _)
   | (with_reducible exact ih1 _ _ _ _)
   | (with_reducible exact ih2 _ _ _)
   | (with_reducible exact cambiumref01_Same.mono _ _ _)
   | (with_reducible exact cambiumref16_May.mono _ _ _ _ _ _ _ _ _ _ _ _)
   | (with_reducible exact cambiumref16_Small.mono _ _ _ _ _ _ _ _ _ _ _ _)
   | (with_reducible exact cambiumref18_Index.mono _ _ _ _ _ _ _ _ _ _ _ _ _)
   | (with_reducible exact cambiumref18_Primary.mono _ _ _ _ _ _ _ _ _ _ _ _)
   | (with_reducible exact key_Index.mono _ _ _ _ _ _ _ _ _ _ _ _ _)
   | (with_reducible exact key_Primary.mono _ _ _ _ _ _ _ _ _ _ _ _)
   | (with_reducible exact LeO.refl _)
   | (with_reducible exact LeO.none _)
   | (with_reducible refine LeO.ite ?_ ?_)
   | (with_reducible refine LeO.bind ?_ (fun _ => ?_))
   | exact ih0 _ _ _ _ _ _ _ _ _ _ _ _ _
   | exact ih1 _ _ _ _
   | exact ih2 _ _ _
   | exact cambiumref01_Same.mono _ _ _
   | exact cambiumref16_May.mono _ _ _ _ _ _ _ _ _ _ _ _
   | exact cambiumref16_Small.mono _ _ _ _ _ _ _ _ _ _ _ _
   | exact cambiumref18_Index.mono _ _ _ _ _ _ _ _ _ _ _ _ _
   | exact cambiumref18_Primary.mono _ _ _ _ _ _ _ _ _ _ _ _
   | exact key_Index.mono _ _ _ _ _ _ _ _ _ _ _ _ _
   | exact key_Primary.mono _ _ _ _ _ _ _ _ _ _ _ _
   | exact LeO.none _
   | refine LeO.ite ?_ ?_
   | refine LeO.bind ?_ (fun _ => ?_)
set_option maxHeartbeats 8000000 in
set_option maxRecDepth 100000 in
theorem cambiumlaw18_KeyTells.calls (k : Nat) (a0_0 : Int) (a0_1 : Int) (a0_2 : Int) (a0_3 : ByteArray) (a0_4 : ByteArray) (a0_5 : Int) (a0_6 : Int) (a0_7 : Int) (A0_8 : Option Addr) (c0_8 : Nat) (l0_8 : List (S51)) (A0_9 : Option Addr) (c0_9 : Nat) (l0_9 : List (S53)) (A0_10 : Option Addr) (c0_10 : Nat) (l0_10 : List (S58)) (a1 : Int) (r : Bool) (w : World) (hr0_8 : Kd.C k51 w A0_8 l0_8.length l0_8) (hc0_8 : l0_8.length ≤ c0_8) (hr0_9 : Kd.C k53 w A0_9 l0_9.length l0_9) (hc0_9 : l0_9.length ≤ c0_9) (hr0_10 : Kd.C k58 w A0_10 l0_10.length l0_10) (hc0_10 : l0_10.length ≤ c0_10) (h : cambiumlaw18_KeyTells.f k a0_0 a0_1 a0_2 a0_3 a0_4 a0_5 a0_6 a0_7 l0_8 l0_9 l0_10 a1 = some r) :
  Calls Try.prog 6 #[.agg #[.int .u64 a0_0, .int .u64 a0_1, .int .u64 a0_2, .string a0_3, .string a0_4, .int .i64 a0_5, .int .i64 a0_6, .int .i64 a0_7, .slice A0_8 l0_8.length c0_8, .slice A0_9 l0_9.length c0_9, .slice A0_10 l0_10.length c0_10], .int .i64 a1] w fun e w' => e = .returned (.bool r) ∧ Below w.heap.size w w' := by
 have hu34 := Try.underlying34
 have HR0_8 := Aside0.mk hr0_8
 have HC0_8 := Aside0.mk hc0_8
 clear hr0_8 hc0_8
 have HR0_9 := Aside0.mk hr0_9
 have HC0_9 := Aside0.mk hc0_9
 clear hr0_9 hc0_9
 have HR0_10 := Aside0.mk hr0_10
 have HC0_10 := Aside0.mk hc0_10
 clear hr0_10 hc0_10
 have HB := Aside0.mk (Below.refl w.heap.size w)
 have H : ((cambiumlaw18_awake.f).bind fun t273 => (if t273 = true then ((cambiumref16_Small.f k a0_0 a0_1 a0_2 a0_3 a0_4 a0_5 a0_6 a0_7 l0_8 l0_9 l0_10).bind fun t274 => (if t274 = true then ((cambiumref16_May.f k a0_0 a0_1 a0_2 a0_3 a0_4 a0_5 a0_6 a0_7 l0_8 l0_9 l0_10).bind fun t275 => (cambiumlaw18_KeyTells.j0 k a1 (!t275) a0_0 a0_1 a0_2 a0_3 a0_4 a0_5 a0_6 a0_7 l0_8 l0_9 l0_10)) else (cambiumlaw18_KeyTells.j0 k a1 true a0_0 a0_1 a0_2 a0_3 a0_4 a0_5 a0_6 a0_7 l0_8 l0_9 l0_10))) else (some false))) = some r := h
 clear h
 replace H := Option.bind_eq_some_iff.mp H
 obtain ⟨t273, A30, H⟩ := H
 replace H : (if t273 = true then ((cambiumref16_Small.f k a0_0 a0_1 a0_2 a0_3 a0_4 a0_5 a0_6 a0_7 l0_8 l0_9 l0_10).bind fun t274 => (if t274 = true then ((cambiumref16_May.f k a0_0 a0_1 a0_2 a0_3 a0_4 a0_5 a0_6 a0_7 l0_8 l0_9 l0_10).bind fun t275 => (cambiumlaw18_KeyTells.j0 k a1 (!t275) a0_0 a0_1 a0_2 a0_3 a0_4 a0_5 a0_6 a0_7 l0_8 l0_9 l0_10)) else (cambiumlaw18_KeyTells.j0 k a1 true a0_0 a0_1 a0_2 a0_3 a0_4 a0_5 a0_6 a0_7 l0_8 l0_9 l0_10))) else (some false)) = some r := H
 have A3 := Aside0.mk A30
 clear A30
 by_cases c4 : t273 = true
 rotate_left
 ·replace c4 := Bool.eq_false_iff.mpr c4
  subst c4
  have H1 : (some false) = some r := by rw [if_neg (show ¬ (false = true) by decide)] at H; exact H
  clear H
  have H := H1
  clear H1
  obtain rfl := Option.some.inj H
  go_enter Try.func6, Try.ntmps6
  go_wp2_with (first | ((with_reducible refine gate_dst (N := 2) rfl ?_); refine box_event ?hg (N := 2) ?hd (cs := #[.int .u64 a0_0, .int .u64 a0_1, .int .u64 a0_2, .string a0_3, .string a0_4, .int .i64 a0_5, .int .i64 a0_6, .int .i64 a0_7, .slice A0_8 l0_8.length c0_8, .slice A0_9 l0_9.length c0_9, .slice A0_10 l0_10.length c0_10]) (t := 34) ?hr ?_; (case hd => rfl); (case hg => rfl); (case hr => first | (go_simp; done) | (go_simp; rfl)); intro gb272 hg w93 hbox hb; have n0_ := Aside0.mk (below_step q10y6 hb); have n1_ := Aside0.mk (hbox); have n2_ := Aside0.mk ((by rw [hg]; exact (below_size q10y6) : w.heap.size ≤ gb272)); have n3_ := Aside0.mk ((by rw [hg]; exact (below_size q10y6) : w.heap.size ≤ gb272)); clear HB; have HB := n0_; have BK272 := n1_; have GW272 := n2_; have GE272 := n3_; clear n0_ n1_ n2_ n3_; clear hb hbox hg) | ((with_reducible refine gate_callee (f := 7) rfl ?_); refine goesL_ (some 10) rfl rfl Try.func7 (by kernel_rfl) rfl #[] rfl q10y2 ?_; (with_reducible refine (cambiumlaw18_awake.calls  false _ A3.out).mono ?_); rintro e w94 ⟨rfl, hb⟩; refine ⟨_, rfl, ?_⟩; have n0_ := Aside0.mk (blk_below (g := gb272) (o := .cells #[.int .u64 a0_0, .int .u64 a0_1, .int .u64 a0_2, .string a0_3, .string a0_4, .int .i64 a0_5, .int .i64 a0_6, .int .i64 a0_7, .slice A0_8 l0_8.length c0_8, .slice A0_9 l0_9.length c0_9, .slice A0_10 l0_10.length c0_10] 34 (0, 0)) q10y4 hb); have n1_ := Aside0.mk (below_step q10y0 hb); clear BK272; clear HB; have BK272 := n0_; have HB := n1_; clear n0_ n1_; (try clear hb); (try clear hb2); (try clear hk); (try clear hi)))
  go_ret
  exact ⟨by first | rfl | (simp [errW_none, errW_some] <;> rfl) | (simp [*, errW_none, errW_some] <;> rfl), by repeat (first | (with_reducible first | exact HB.out | apply below_alloc | apply pw_below_drewN | apply below_drew1 | refine below_set ?_ GE272.out) | exact HB.out)⟩

 subst c4
 have H1 : ((cambiumref16_Small.f k a0_0 a0_1 a0_2 a0_3 a0_4 a0_5 a0_6 a0_7 l0_8 l0_9 l0_10).bind fun t274 => (if t274 = true then ((cambiumref16_May.f k a0_0 a0_1 a0_2 a0_3 a0_4 a0_5 a0_6 a0_7 l0_8 l0_9 l0_10).bind fun t275 => (cambiumlaw18_KeyTells.j0 k a1 (!t275) a0_0 a0_1 a0_2 a0_3 a0_4 a0_5 a0_6 a0_7 l0_8 l0_9 l0_10)) else (cambiumlaw18_KeyTells.j0 k a1 true a0_0 a0_1 a0_2 a0_3 a0_4 a0_5 a0_6 a0_7 l0_8 l0_9 l0_10))) = some r := by rw [if_pos rfl] at H; exact H
 clear H
 have H := H1
 clear H1
 have HC5 := Aside0.mk H
 clear H
 go_enter Try.func6, Try.ntmps6
 go_upto_region 3 with (first | ((with_reducible refine gate_dst (N := 2) rfl ?_); refine box_event ?hg (N := 2) ?hd (cs := #[.int .u64 a0_0, .int .u64 a0_1, .int .u64 a0_2, .string a0_3, .string a0_4, .int .i64 a0_5, .int .i64 a0_6, .int .i64 a0_7, .slice A0_8 l0_8.length c0_8, .slice A0_9 l0_9.length c0_9, .slice A0_10 l0_10.length c0_10]) (t := 34) ?hr ?_; (case hd => rfl); (case hg => rfl); (case hr => first | (go_simp; done) | (go_simp; rfl)); intro gb272 hg w6 hbox hb; have n0_ := Aside0.mk (below_step q10y6 hb); have n1_ := Aside0.mk (hbox); have n2_ := Aside0.mk ((by rw [hg]; exact (below_size q10y6) : w.heap.size ≤ gb272)); have n3_ := Aside0.mk ((by rw [hg]; exact (below_size q10y6) : w.heap.size ≤ gb272)); clear HB; have HB := n0_; have BK272 := n1_; have GW272 := n2_; have GE272 := n3_; clear n0_ n1_ n2_ n3_; clear hb hbox hg) | ((with_reducible refine gate_callee (f := 7) rfl ?_); refine goesL_ (some 10) rfl rfl Try.func7 (by kernel_rfl) rfl #[] rfl q10y2 ?_; (with_reducible refine (cambiumlaw18_awake.calls  true _ A3.out).mono ?_); rintro e w7 ⟨rfl, hb⟩; refine ⟨_, rfl, ?_⟩; have n0_ := Aside0.mk (blk_below (g := gb272) (o := .cells #[.int .u64 a0_0, .int .u64 a0_1, .int .u64 a0_2, .string a0_3, .string a0_4, .int .i64 a0_5, .int .i64 a0_6, .int .i64 a0_7, .slice A0_8 l0_8.length c0_8, .slice A0_9 l0_9.length c0_9, .slice A0_10 l0_10.length c0_10] 34 (0, 0)) q10y4 hb); have n1_ := Aside0.mk (below_step q10y0 hb); clear BK272; clear HB; have BK272 := n0_; have HB := n1_; clear n0_ n1_; (try clear hb); (try clear hb2); (try clear hk); (try clear hi)))
 (try simp only [Act.put, q10a, q10b, q10c])
 go_cut [19] (fun v19 wc => ∃ (kq : Nat) (x19_4 : Bool), v19 = .bool x19_4 ∧ Aside0 (cambiumlaw18_KeyTells.j0 kq a1 x19_4 a0_0 a0_1 a0_2 a0_3 a0_4 a0_5 a0_6 a0_7 l0_8 l0_9 l0_10 = some r) ∧ Aside0 (kq ≤ k) ∧ Aside0 (wc.heap[gb272]? = some (.cells #[.int .u64 a0_0, .int .u64 a0_1, .int .u64 a0_2, .string a0_3, .string a0_4, .int .i64 a0_5, .int .i64 a0_6, .int .i64 a0_7, (.slice A0_8 l0_8.length c0_8), (.slice A0_9 l0_9.length c0_9), (.slice A0_10 l0_10.length c0_10)] 34 (0, 0))) ∧ Aside0 (Below w.heap.size w wc))
 case first =>
  have H := HC5.out
  clear HC5
  replace H := Option.bind_eq_some_iff.mp H
  obtain ⟨t274, A80, H⟩ := H
  replace H : (if t274 = true then ((cambiumref16_May.f k a0_0 a0_1 a0_2 a0_3 a0_4 a0_5 a0_6 a0_7 l0_8 l0_9 l0_10).bind fun t275 => (cambiumlaw18_KeyTells.j0 k a1 (!t275) a0_0 a0_1 a0_2 a0_3 a0_4 a0_5 a0_6 a0_7 l0_8 l0_9 l0_10)) else (cambiumlaw18_KeyTells.j0 k a1 true a0_0 a0_1 a0_2 a0_3 a0_4 a0_5 a0_6 a0_7 l0_8 l0_9 l0_10)) = some r := H
  have A8 := Aside0.mk A80
  clear A80
  by_cases c9 : t274 = true
  rotate_left
  ·replace c9 := Bool.eq_false_iff.mpr c9
   subst c9
   have H1 : (cambiumlaw18_KeyTells.j0 k a1 true a0_0 a0_1 a0_2 a0_3 a0_4 a0_5 a0_6 a0_7 l0_8 l0_9 l0_10) = some r := by rw [if_neg (show ¬ (false = true) by decide)] at H; exact H
   clear H
   have H := H1
   clear H1
   have H' := Aside0.mk H
   clear H
   have hcz15_0 : w7.cell? ⟨gb272, 0, none⟩ = some (.int .u64 a0_0) := (blk_cell BK272.out 0).trans rfl
   have hcz15_1 : w7.cell? ⟨gb272, 1, none⟩ = some (.int .u64 a0_1) := (blk_cell BK272.out 1).trans rfl
   have hcz15_2 : w7.cell? ⟨gb272, 2, none⟩ = some (.int .u64 a0_2) := (blk_cell BK272.out 2).trans rfl
   have hcz15_3 : w7.cell? ⟨gb272, 3, none⟩ = some (.string a0_3) := (blk_cell BK272.out 3).trans rfl
   have hcz15_4 : w7.cell? ⟨gb272, 4, none⟩ = some (.string a0_4) := (blk_cell BK272.out 4).trans rfl
   have hcz15_5 : w7.cell? ⟨gb272, 5, none⟩ = some (.int .i64 a0_5) := (blk_cell BK272.out 5).trans rfl
   have hcz15_6 : w7.cell? ⟨gb272, 6, none⟩ = some (.int .i64 a0_6) := (blk_cell BK272.out 6).trans rfl
   have hcz15_7 : w7.cell? ⟨gb272, 7, none⟩ = some (.int .i64 a0_7) := (blk_cell BK272.out 7).trans rfl
   have hcz15_8 : w7.cell? ⟨gb272, 8, none⟩ = some (.slice A0_8 l0_8.length c0_8) := (blk_cell BK272.out 8).trans rfl
   have hcz15_9 : w7.cell? ⟨gb272, 9, none⟩ = some (.slice A0_9 l0_9.length c0_9) := (blk_cell BK272.out 9).trans rfl
   have hcz15_10 : w7.cell? ⟨gb272, 10, none⟩ = some (.slice A0_10 l0_10.length c0_10) := (blk_cell BK272.out 10).trans rfl
   have hfz15_0 := blk_frozen BK272.out 0
   have hfz15_1 := blk_frozen BK272.out 1
   have hfz15_2 := blk_frozen BK272.out 2
   have hfz15_3 := blk_frozen BK272.out 3
   have hfz15_4 := blk_frozen BK272.out 4
   have hfz15_5 := blk_frozen BK272.out 5
   have hfz15_6 := blk_frozen BK272.out 6
   have hfz15_7 := blk_frozen BK272.out 7
   have hfz15_8 := blk_frozen BK272.out 8
   have hfz15_9 := blk_frozen BK272.out 9
   have hfz15_10 := blk_frozen BK272.out 10
   go_wp2_with (first | ((with_reducible refine gate_callee (f := 12) rfl ?_); refine goesL_ (some 13) rfl rfl Try.func12 (by kernel_rfl) rfl #[.agg #[.int .u64 a0_0, .int .u64 a0_1, .int .u64 a0_2, .string a0_3, .string a0_4, .int .i64 a0_5, .int .i64 a0_6, .int .i64 a0_7, .slice A0_8 l0_8.length c0_8, .slice A0_9 l0_9.length c0_9, .slice A0_10 l0_10.length c0_10]] rfl q10y2 ?_; (with_reducible refine (cambiumref16_Small.calls k a0_0 a0_1 a0_2 a0_3 a0_4 a0_5 a0_6 a0_7 _ _ l0_8 _ _ l0_9 _ _ l0_10 false _ ?side1 ?side2 ?side3 ?side4 ?side5 ?side6 A8.out).mono ?_); (case side1 => repeat (first | exact (Kd.C_below HR0_8.out HB.out) | (with_reducible refine Kd.C_alloc ?_ _) | (with_reducible refine Kd.C_drewN ?_ _) | (with_reducible refine Kd.C_drew ?_))); (case side2 => exact HC0_8.out); (case side3 => repeat (first | exact (Kd.C_below HR0_9.out HB.out) | (with_reducible refine Kd.C_alloc ?_ _) | (with_reducible refine Kd.C_drewN ?_ _) | (with_reducible refine Kd.C_drew ?_))); (case side4 => exact HC0_9.out); (case side5 => repeat (first | exact (Kd.C_below HR0_10.out HB.out) | (with_reducible refine Kd.C_alloc ?_ _) | (with_reducible refine Kd.C_drewN ?_ _) | (with_reducible refine Kd.C_drew ?_))); (case side6 => exact HC0_10.out); rintro e w16 ⟨rfl, hb⟩; refine ⟨_, rfl, ?_⟩; have n0_ := Aside0.mk (blk_below (g := gb272) (o := .cells #[.int .u64 a0_0, .int .u64 a0_1, .int .u64 a0_2, .string a0_3, .string a0_4, .int .i64 a0_5, .int .i64 a0_6, .int .i64 a0_7, .slice A0_8 l0_8.length c0_8, .slice A0_9 l0_9.length c0_9, .slice A0_10 l0_10.length c0_10] 34 (0, 0)) q10y4 hb); have n1_ := Aside0.mk (below_step q10y0 hb); clear BK272; clear HB; have BK272 := n0_; have HB := n1_; clear n0_ n1_; (try clear hb); (try clear hb2); (try clear hk); (try clear hi)))
   go_meet
   case rel => exact ⟨_, (true), q10y7, H', ⟨by first | omega | exact Nat.le_refl _⟩, ⟨by (with_reducible repeat (first | refine blk_drewN ?_ _ | refine blk_drew ?_ | refine blk_alloc ?_ _)); exact BK272.out⟩, ⟨by repeat (first | (with_reducible first | exact HB.out | apply below_alloc | apply pw_below_drewN | apply below_drew1 | refine below_set ?_ GE272.out) | exact HB.out)⟩⟩
  subst c9
  have H1 : ((cambiumref16_May.f k a0_0 a0_1 a0_2 a0_3 a0_4 a0_5 a0_6 a0_7 l0_8 l0_9 l0_10).bind fun t275 => (cambiumlaw18_KeyTells.j0 k a1 (!t275) a0_0 a0_1 a0_2 a0_3 a0_4 a0_5 a0_6 a0_7 l0_8 l0_9 l0_10)) = some r := by rw [if_pos rfl] at H; exact H
  clear H
  have H := H1
  clear H1
  replace H := Option.bind_eq_some_iff.mp H
  obtain ⟨t275, A100, H⟩ := H
  replace H : (cambiumlaw18_KeyTells.j0 k a1 (!t275) a0_0 a0_1 a0_2 a0_3 a0_4 a0_5 a0_6 a0_7 l0_8 l0_9 l0_10) = some r := H
  have A10 := Aside0.mk A100
  clear A100
  have H' := Aside0.mk H
  clear H
  have hcz11_0 : w7.cell? ⟨gb272, 0, none⟩ = some (.int .u64 a0_0) := (blk_cell BK272.out 0).trans rfl
  have hcz11_1 : w7.cell? ⟨gb272, 1, none⟩ = some (.int .u64 a0_1) := (blk_cell BK272.out 1).trans rfl
  have hcz11_2 : w7.cell? ⟨gb272, 2, none⟩ = some (.int .u64 a0_2) := (blk_cell BK272.out 2).trans rfl
  have hcz11_3 : w7.cell? ⟨gb272, 3, none⟩ = some (.string a0_3) := (blk_cell BK272.out 3).trans rfl
  have hcz11_4 : w7.cell? ⟨gb272, 4, none⟩ = some (.string a0_4) := (blk_cell BK272.out 4).trans rfl
  have hcz11_5 : w7.cell? ⟨gb272, 5, none⟩ = some (.int .i64 a0_5) := (blk_cell BK272.out 5).trans rfl
  have hcz11_6 : w7.cell? ⟨gb272, 6, none⟩ = some (.int .i64 a0_6) := (blk_cell BK272.out 6).trans rfl
  have hcz11_7 : w7.cell? ⟨gb272, 7, none⟩ = some (.int .i64 a0_7) := (blk_cell BK272.out 7).trans rfl
  have hcz11_8 : w7.cell? ⟨gb272, 8, none⟩ = some (.slice A0_8 l0_8.length c0_8) := (blk_cell BK272.out 8).trans rfl
  have hcz11_9 : w7.cell? ⟨gb272, 9, none⟩ = some (.slice A0_9 l0_9.length c0_9) := (blk_cell BK272.out 9).trans rfl
  have hcz11_10 : w7.cell? ⟨gb272, 10, none⟩ = some (.slice A0_10 l0_10.length c0_10) := (blk_cell BK272.out 10).trans rfl
  have hfz11_0 := blk_frozen BK272.out 0
  have hfz11_1 := blk_frozen BK272.out 1
  have hfz11_2 := blk_frozen BK272.out 2
  have hfz11_3 := blk_frozen BK272.out 3
  have hfz11_4 := blk_frozen BK272.out 4
  have hfz11_5 := blk_frozen BK272.out 5
  have hfz11_6 := blk_frozen BK272.out 6
  have hfz11_7 := blk_frozen BK272.out 7
  have hfz11_8 := blk_frozen BK272.out 8
  have hfz11_9 := blk_frozen BK272.out 9
  have hfz11_10 := blk_frozen BK272.out 10
  go_wp2_with (first | ((with_reducible refine gate_callee (f := 12) rfl ?_); refine goesL_ (some 13) rfl rfl Try.func12 (by kernel_rfl) rfl #[.agg #[.int .u64 a0_0, .int .u64 a0_1, .int .u64 a0_2, .string a0_3, .string a0_4, .int .i64 a0_5, .int .i64 a0_6, .int .i64 a0_7, .slice A0_8 l0_8.length c0_8, .slice A0_9 l0_9.length c0_9, .slice A0_10 l0_10.length c0_10]] rfl q10y2 ?_; (with_reducible refine (cambiumref16_Small.calls k a0_0 a0_1 a0_2 a0_3 a0_4 a0_5 a0_6 a0_7 _ _ l0_8 _ _ l0_9 _ _ l0_10 true _ ?side1 ?side2 ?side3 ?side4 ?side5 ?side6 A8.out).mono ?_); (case side1 => repeat (first | exact (Kd.C_below HR0_8.out HB.out) | (with_reducible refine Kd.C_alloc ?_ _) | (with_reducible refine Kd.C_drewN ?_ _) | (with_reducible refine Kd.C_drew ?_))); (case side2 => exact HC0_8.out); (case side3 => repeat (first | exact (Kd.C_below HR0_9.out HB.out) | (with_reducible refine Kd.C_alloc ?_ _) | (with_reducible refine Kd.C_drewN ?_ _) | (with_reducible refine Kd.C_drew ?_))); (case side4 => exact HC0_9.out); (case side5 => repeat (first | exact (Kd.C_below HR0_10.out HB.out) | (with_reducible refine Kd.C_alloc ?_ _) | (with_reducible refine Kd.C_drewN ?_ _) | (with_reducible refine Kd.C_drew ?_))); (case side6 => exact HC0_10.out); rintro e w12 ⟨rfl, hb⟩; refine ⟨_, rfl, ?_⟩; have n0_ := Aside0.mk (blk_below (g := gb272) (o := .cells #[.int .u64 a0_0, .int .u64 a0_1, .int .u64 a0_2, .string a0_3, .string a0_4, .int .i64 a0_5, .int .i64 a0_6, .int .i64 a0_7, .slice A0_8 l0_8.length c0_8, .slice A0_9 l0_9.length c0_9, .slice A0_10 l0_10.length c0_10] 34 (0, 0)) q10y4 hb); have n1_ := Aside0.mk (below_step q10y0 hb); clear BK272; clear HB; have BK272 := n0_; have HB := n1_; clear n0_ n1_; (try clear hb); (try clear hb2); (try clear hk); (try clear hi); have hcz13_0 : w12.cell? ⟨gb272, 0, none⟩ = some (.int .u64 a0_0) := (blk_cell BK272.out 0).trans rfl; have hcz13_1 : w12.cell? ⟨gb272, 1, none⟩ = some (.int .u64 a0_1) := (blk_cell BK272.out 1).trans rfl; have hcz13_2 : w12.cell? ⟨gb272, 2, none⟩ = some (.int .u64 a0_2) := (blk_cell BK272.out 2).trans rfl; have hcz13_3 : w12.cell? ⟨gb272, 3, none⟩ = some (.string a0_3) := (blk_cell BK272.out 3).trans rfl; have hcz13_4 : w12.cell? ⟨gb272, 4, none⟩ = some (.string a0_4) := (blk_cell BK272.out 4).trans rfl; have hcz13_5 : w12.cell? ⟨gb272, 5, none⟩ = some (.int .i64 a0_5) := (blk_cell BK272.out 5).trans rfl; have hcz13_6 : w12.cell? ⟨gb272, 6, none⟩ = some (.int .i64 a0_6) := (blk_cell BK272.out 6).trans rfl; have hcz13_7 : w12.cell? ⟨gb272, 7, none⟩ = some (.int .i64 a0_7) := (blk_cell BK272.out 7).trans rfl; have hcz13_8 : w12.cell? ⟨gb272, 8, none⟩ = some (.slice A0_8 l0_8.length c0_8) := (blk_cell BK272.out 8).trans rfl; have hcz13_9 : w12.cell? ⟨gb272, 9, none⟩ = some (.slice A0_9 l0_9.length c0_9) := (blk_cell BK272.out 9).trans rfl; have hcz13_10 : w12.cell? ⟨gb272, 10, none⟩ = some (.slice A0_10 l0_10.length c0_10) := (blk_cell BK272.out 10).trans rfl; have hfz13_0 := blk_frozen BK272.out 0; have hfz13_1 := blk_frozen BK272.out 1; have hfz13_2 := blk_frozen BK272.out 2; have hfz13_3 := blk_frozen BK272.out 3; have hfz13_4 := blk_frozen BK272.out 4; have hfz13_5 := blk_frozen BK272.out 5; have hfz13_6 := blk_frozen BK272.out 6; have hfz13_7 := blk_frozen BK272.out 7; have hfz13_8 := blk_frozen BK272.out 8; have hfz13_9 := blk_frozen BK272.out 9; have hfz13_10 := blk_frozen BK272.out 10) | (go_at_call 13; (with_reducible refine (cambiumref16_May.calls k a0_0 a0_1 a0_2 a0_3 a0_4 a0_5 a0_6 a0_7 _ _ l0_8 _ _ l0_9 _ _ l0_10 t275 _ ?side1 ?side2 ?side3 ?side4 ?side5 ?side6 A10.out).mono ?_); (case side1 => repeat (first | exact (Kd.C_below HR0_8.out HB.out) | (with_reducible refine Kd.C_alloc ?_ _) | (with_reducible refine Kd.C_drewN ?_ _) | (with_reducible refine Kd.C_drew ?_))); (case side2 => exact HC0_8.out); (case side3 => repeat (first | exact (Kd.C_below HR0_9.out HB.out) | (with_reducible refine Kd.C_alloc ?_ _) | (with_reducible refine Kd.C_drewN ?_ _) | (with_reducible refine Kd.C_drew ?_))); (case side4 => exact HC0_9.out); (case side5 => repeat (first | exact (Kd.C_below HR0_10.out HB.out) | (with_reducible refine Kd.C_alloc ?_ _) | (with_reducible refine Kd.C_drewN ?_ _) | (with_reducible refine Kd.C_drew ?_))); (case side6 => exact HC0_10.out); rintro e w14 ⟨rfl, hb⟩; have n0_ := Aside0.mk (blk_below (g := gb272) (o := .cells #[.int .u64 a0_0, .int .u64 a0_1, .int .u64 a0_2, .string a0_3, .string a0_4, .int .i64 a0_5, .int .i64 a0_6, .int .i64 a0_7, .slice A0_8 l0_8.length c0_8, .slice A0_9 l0_9.length c0_9, .slice A0_10 l0_10.length c0_10] 34 (0, 0)) q10y4 hb); have n1_ := Aside0.mk (below_step q10y0 hb); clear BK272; clear HB; have BK272 := n0_; have HB := n1_; clear n0_ n1_; (try clear hb); (try clear hb2); (try clear hk); (try clear hi)))
  go_meet
  case rel => exact ⟨_, (!t275), q10y7, H', ⟨by first | omega | exact Nat.le_refl _⟩, ⟨by (with_reducible repeat (first | refine blk_drewN ?_ _ | refine blk_drew ?_ | refine blk_alloc ?_ _)); exact BK272.out⟩, ⟨by repeat (first | (with_reducible first | exact HB.out | apply below_alloc | apply pw_below_drewN | apply below_drew1 | refine below_set ?_ GE272.out) | exact HB.out)⟩⟩
 case rest =>
  clear HC5
  try clear c1
  try clear p2
  try clear c4
  try clear c6
  try clear c7
  try clear c9
  try clear c12
  try clear hcz11_0 hcz11_1 hcz11_10 hcz11_2 hcz11_3 hcz11_4 hcz11_5 hcz11_6 hcz11_7 hcz11_8 hcz11_9
  try clear hcz13_0 hcz13_1 hcz13_10 hcz13_2 hcz13_3 hcz13_4 hcz13_5 hcz13_6 hcz13_7 hcz13_8 hcz13_9
  try clear hcz15_0 hcz15_1 hcz15_10 hcz15_2 hcz15_3 hcz15_4 hcz15_5 hcz15_6 hcz15_7 hcz15_8 hcz15_9
  try clear hfz11_0 hfz11_1 hfz11_10 hfz11_2 hfz11_3 hfz11_4 hfz11_5 hfz11_6 hfz11_7 hfz11_8 hfz11_9
  try clear hfz13_0 hfz13_1 hfz13_10 hfz13_2 hfz13_3 hfz13_4 hfz13_5 hfz13_6 hfz13_7 hfz13_8 hfz13_9
  try clear hfz15_0 hfz15_1 hfz15_10 hfz15_2 hfz15_3 hfz15_4 hfz15_5 hfz15_6 hfz15_7 hfz15_8 hfz15_9
  obtain ⟨kq, x19_4, rfl, HA, HJ4, BK272, HB⟩ := hcut
  cases kq with
  | zero => exact absurd HA.out (by simp [cambiumlaw18_KeyTells.j0])
  | succ kj4 =>
   have H := HA.out
   clear HA
   simp only [cambiumlaw18_KeyTells.j0] at H
   by_cases c17 : x19_4 = true
   ·subst c17
    have H1 : (some true) = some r := by rw [if_pos rfl] at H; exact H
    clear H
    have H := H1
    clear H1
    obtain rfl := Option.some.inj H
    go_wp2
    go_ret
    exact ⟨by first | rfl | (simp [errW_none, errW_some] <;> rfl) | (simp [*, errW_none, errW_some] <;> rfl), by repeat (first | (with_reducible first | exact HB.out | apply below_alloc | apply pw_below_drewN | apply below_drew1 | refine below_set ?_ GE272.out) | exact HB.out)⟩
   replace c17 := Bool.eq_false_iff.mpr c17
   subst c17
   have H1 : ((key_Primary.f kj4 a0_0 a0_1 a0_2 a0_3 a0_4 a0_5 a0_6 a0_7 l0_8 l0_9 l0_10).bind fun t276 => ((key_Index.f kj4 a1 a0_0 a0_1 a0_2 a0_3 a0_4 a0_5 a0_6 a0_7 l0_8 l0_9 l0_10).bind fun t279 => ((key_FromPrimary.f t276).bind fun bt282 => ((cambiumref18_Primary.f kj4 a0_0 a0_1 a0_2 a0_3 a0_4 a0_5 a0_6 a0_7 l0_8 l0_9 l0_10).bind fun t285 => ((cambiumref01_Same.f kj4 t276 t285).bind fun t288 => (if t288 = true then ((cambiumref18_Index.f kj4 a1 a0_0 a0_1 a0_2 a0_3 a0_4 a0_5 a0_6 a0_7 l0_8 l0_9 l0_10).bind fun t289 => ((cambiumref01_Same.f kj4 t279 t289).bind fun t292 => (if t292 = true then (if bt282.2.2 = true then (if bt282.1 = a0_0 then (if bt282.2.1 = a0_1 then ((key_Name.f a1).bind fun t293 => ((cambiumref18_Name.f a1).bind fun t294 => (cambiumlaw18_KeyTells.j1 kj4 a1 t276 t279 (t293.toList != t294.toList)))) else (cambiumlaw18_KeyTells.j1 kj4 a1 t276 t279 true)) else (cambiumlaw18_KeyTells.j1 kj4 a1 t276 t279 true)) else (cambiumlaw18_KeyTells.j1 kj4 a1 t276 t279 true)) else (cambiumlaw18_KeyTells.j1 kj4 a1 t276 t279 true)))) else (cambiumlaw18_KeyTells.j1 kj4 a1 t276 t279 true))))))) = some r := by rw [if_neg (show ¬ (false = true) by decide)] at H; exact H
   clear H
   have H := H1
   clear H1
   replace H := Option.bind_eq_some_iff.mp H
   obtain ⟨t276, A180, H⟩ := H
   replace H : ((key_Index.f kj4 a1 a0_0 a0_1 a0_2 a0_3 a0_4 a0_5 a0_6 a0_7 l0_8 l0_9 l0_10).bind fun t279 => ((key_FromPrimary.f t276).bind fun bt282 => ((cambiumref18_Primary.f kj4 a0_0 a0_1 a0_2 a0_3 a0_4 a0_5 a0_6 a0_7 l0_8 l0_9 l0_10).bind fun t285 => ((cambiumref01_Same.f kj4 t276 t285).bind fun t288 => (if t288 = true then ((cambiumref18_Index.f kj4 a1 a0_0 a0_1 a0_2 a0_3 a0_4 a0_5 a0_6 a0_7 l0_8 l0_9 l0_10).bind fun t289 => ((cambiumref01_Same.f kj4 t279 t289).bind fun t292 => (if t292 = true then (if bt282.2.2 = true then (if bt282.1 = a0_0 then (if bt282.2.1 = a0_1 then ((key_Name.f a1).bind fun t293 => ((cambiumref18_Name.f a1).bind fun t294 => (cambiumlaw18_KeyTells.j1 kj4 a1 t276 t279 (t293.toList != t294.toList)))) else (cambiumlaw18_KeyTells.j1 kj4 a1 t276 t279 true)) else (cambiumlaw18_KeyTells.j1 kj4 a1 t276 t279 true)) else (cambiumlaw18_KeyTells.j1 kj4 a1 t276 t279 true)) else (cambiumlaw18_KeyTells.j1 kj4 a1 t276 t279 true)))) else (cambiumlaw18_KeyTells.j1 kj4 a1 t276 t279 true)))))) = some r := H
   have A18 := Aside0.mk A180
   clear A180
   replace H := Option.bind_eq_some_iff.mp H
   obtain ⟨t279, A190, H⟩ := H
   replace H : ((key_FromPrimary.f t276).bind fun bt282 => ((cambiumref18_Primary.f kj4 a0_0 a0_1 a0_2 a0_3 a0_4 a0_5 a0_6 a0_7 l0_8 l0_9 l0_10).bind fun t285 => ((cambiumref01_Same.f kj4 t276 t285).bind fun t288 => (if t288 = true then ((cambiumref18_Index.f kj4 a1 a0_0 a0_1 a0_2 a0_3 a0_4 a0_5 a0_6 a0_7 l0_8 l0_9 l0_10).bind fun t289 => ((cambiumref01_Same.f kj4 t279 t289).bind fun t292 => (if t292 = true then (if bt282.2.2 = true then (if bt282.1 = a0_0 then (if bt282.2.1 = a0_1 then ((key_Name.f a1).bind fun t293 => ((cambiumref18_Name.f a1).bind fun t294 => (cambiumlaw18_KeyTells.j1 kj4 a1 t276 t279 (t293.toList != t294.toList)))) else (cambiumlaw18_KeyTells.j1 kj4 a1 t276 t279 true)) else (cambiumlaw18_KeyTells.j1 kj4 a1 t276 t279 true)) else (cambiumlaw18_KeyTells.j1 kj4 a1 t276 t279 true)) else (cambiumlaw18_KeyTells.j1 kj4 a1 t276 t279 true)))) else (cambiumlaw18_KeyTells.j1 kj4 a1 t276 t279 true))))) = some r := H
   have A19 := Aside0.mk A190
   clear A190
   replace H := Option.bind_eq_some_iff.mp H
   obtain ⟨⟨t282, t283, t284⟩, A200, H⟩ := H
   replace H : ((cambiumref18_Primary.f kj4 a0_0 a0_1 a0_2 a0_3 a0_4 a0_5 a0_6 a0_7 l0_8 l0_9 l0_10).bind fun t285 => ((cambiumref01_Same.f kj4 t276 t285).bind fun t288 => (if t288 = true then ((cambiumref18_Index.f kj4 a1 a0_0 a0_1 a0_2 a0_3 a0_4 a0_5 a0_6 a0_7 l0_8 l0_9 l0_10).bind fun t289 => ((cambiumref01_Same.f kj4 t279 t289).bind fun t292 => (if t292 = true then (if t284 = true then (if t282 = a0_0 then (if t283 = a0_1 then ((key_Name.f a1).bind fun t293 => ((cambiumref18_Name.f a1).bind fun t294 => (cambiumlaw18_KeyTells.j1 kj4 a1 t276 t279 (t293.toList != t294.toList)))) else (cambiumlaw18_KeyTells.j1 kj4 a1 t276 t279 true)) else (cambiumlaw18_KeyTells.j1 kj4 a1 t276 t279 true)) else (cambiumlaw18_KeyTells.j1 kj4 a1 t276 t279 true)) else (cambiumlaw18_KeyTells.j1 kj4 a1 t276 t279 true)))) else (cambiumlaw18_KeyTells.j1 kj4 a1 t276 t279 true)))) = some r := H
   have A20 := Aside0.mk A200
   clear A200
   have HC21 := Aside0.mk H
   clear H
   have hcz22_0 : wc.cell? ⟨gb272, 0, none⟩ = some (.int .u64 a0_0) := (blk_cell BK272.out 0).trans rfl
   have hcz22_1 : wc.cell? ⟨gb272, 1, none⟩ = some (.int .u64 a0_1) := (blk_cell BK272.out 1).trans rfl
   have hcz22_2 : wc.cell? ⟨gb272, 2, none⟩ = some (.int .u64 a0_2) := (blk_cell BK272.out 2).trans rfl
   have hcz22_3 : wc.cell? ⟨gb272, 3, none⟩ = some (.string a0_3) := (blk_cell BK272.out 3).trans rfl
   have hcz22_4 : wc.cell? ⟨gb272, 4, none⟩ = some (.string a0_4) := (blk_cell BK272.out 4).trans rfl
   have hcz22_5 : wc.cell? ⟨gb272, 5, none⟩ = some (.int .i64 a0_5) := (blk_cell BK272.out 5).trans rfl
   have hcz22_6 : wc.cell? ⟨gb272, 6, none⟩ = some (.int .i64 a0_6) := (blk_cell BK272.out 6).trans rfl
   have hcz22_7 : wc.cell? ⟨gb272, 7, none⟩ = some (.int .i64 a0_7) := (blk_cell BK272.out 7).trans rfl
   have hcz22_8 : wc.cell? ⟨gb272, 8, none⟩ = some (.slice A0_8 l0_8.length c0_8) := (blk_cell BK272.out 8).trans rfl
   have hcz22_9 : wc.cell? ⟨gb272, 9, none⟩ = some (.slice A0_9 l0_9.length c0_9) := (blk_cell BK272.out 9).trans rfl
   have hcz22_10 : wc.cell? ⟨gb272, 10, none⟩ = some (.slice A0_10 l0_10.length c0_10) := (blk_cell BK272.out 10).trans rfl
   have hfz22_0 := blk_frozen BK272.out 0
   have hfz22_1 := blk_frozen BK272.out 1
   have hfz22_2 := blk_frozen BK272.out 2
   have hfz22_3 := blk_frozen BK272.out 3
   have hfz22_4 := blk_frozen BK272.out 4
   have hfz22_5 := blk_frozen BK272.out 5
   have hfz22_6 := blk_frozen BK272.out 6
   have hfz22_7 := blk_frozen BK272.out 7
   have hfz22_8 := blk_frozen BK272.out 8
   have hfz22_9 := blk_frozen BK272.out 9
   have hfz22_10 := blk_frozen BK272.out 10
   go_upto_region 8 with (first | ((with_reducible refine gate_callee (f := 20) rfl ?_); refine goesL_ (some 21) rfl rfl Try.func20 (by kernel_rfl) rfl #[.agg #[.int .u64 a0_0, .int .u64 a0_1, .int .u64 a0_2, .string a0_3, .string a0_4, .int .i64 a0_5, .int .i64 a0_6, .int .i64 a0_7, .slice A0_8 l0_8.length c0_8, .slice A0_9 l0_9.length c0_9, .slice A0_10 l0_10.length c0_10]] rfl q10y2 ?_; (with_reducible refine (key_Primary.calls kj4 a0_0 a0_1 a0_2 a0_3 a0_4 a0_5 a0_6 a0_7 _ _ l0_8 _ _ l0_9 _ _ l0_10 t276 _ ?side1 ?side2 ?side3 ?side4 ?side5 ?side6 A18.out).mono ?_); (case side1 => repeat (first | exact (Kd.C_below HR0_8.out HB.out) | (with_reducible refine Kd.C_alloc ?_ _) | (with_reducible refine Kd.C_drewN ?_ _) | (with_reducible refine Kd.C_drew ?_))); (case side2 => exact HC0_8.out); (case side3 => repeat (first | exact (Kd.C_below HR0_9.out HB.out) | (with_reducible refine Kd.C_alloc ?_ _) | (with_reducible refine Kd.C_drewN ?_ _) | (with_reducible refine Kd.C_drew ?_))); (case side4 => exact HC0_9.out); (case side5 => repeat (first | exact (Kd.C_below HR0_10.out HB.out) | (with_reducible refine Kd.C_alloc ?_ _) | (with_reducible refine Kd.C_drewN ?_ _) | (with_reducible refine Kd.C_drew ?_))); (case side6 => exact HC0_10.out); rintro e w23 ⟨v277, rfl, ho0, hb⟩; refine ⟨_, rfl, ?_⟩; have n0_ := Aside0.mk (Kd.R_lower ho0 (below_size q10y0)); have n1_ := Aside0.mk (blk_below (g := gb272) (o := .cells #[.int .u64 a0_0, .int .u64 a0_1, .int .u64 a0_2, .string a0_3, .string a0_4, .int .i64 a0_5, .int .i64 a0_6, .int .i64 a0_7, .slice A0_8 l0_8.length c0_8, .slice A0_9 l0_9.length c0_9, .slice A0_10 l0_10.length c0_10] 34 (0, 0)) q10y4 hb); have n2_ := Aside0.mk (below_step q10y0 hb); clear BK272; clear HB; have HO278 := n0_; have BK272 := n1_; have HB := n2_; clear n0_ n1_ n2_; (try clear hb); (try clear hb2); (try clear hk); (try clear hi); (try clear ho0); have hcz24_0 : w23.cell? ⟨gb272, 0, none⟩ = some (.int .u64 a0_0) := (blk_cell BK272.out 0).trans rfl; have hcz24_1 : w23.cell? ⟨gb272, 1, none⟩ = some (.int .u64 a0_1) := (blk_cell BK272.out 1).trans rfl; have hcz24_2 : w23.cell? ⟨gb272, 2, none⟩ = some (.int .u64 a0_2) := (blk_cell BK272.out 2).trans rfl; have hcz24_3 : w23.cell? ⟨gb272, 3, none⟩ = some (.string a0_3) := (blk_cell BK272.out 3).trans rfl; have hcz24_4 : w23.cell? ⟨gb272, 4, none⟩ = some (.string a0_4) := (blk_cell BK272.out 4).trans rfl; have hcz24_5 : w23.cell? ⟨gb272, 5, none⟩ = some (.int .i64 a0_5) := (blk_cell BK272.out 5).trans rfl; have hcz24_6 : w23.cell? ⟨gb272, 6, none⟩ = some (.int .i64 a0_6) := (blk_cell BK272.out 6).trans rfl; have hcz24_7 : w23.cell? ⟨gb272, 7, none⟩ = some (.int .i64 a0_7) := (blk_cell BK272.out 7).trans rfl; have hcz24_8 : w23.cell? ⟨gb272, 8, none⟩ = some (.slice A0_8 l0_8.length c0_8) := (blk_cell BK272.out 8).trans rfl; have hcz24_9 : w23.cell? ⟨gb272, 9, none⟩ = some (.slice A0_9 l0_9.length c0_9) := (blk_cell BK272.out 9).trans rfl; have hcz24_10 : w23.cell? ⟨gb272, 10, none⟩ = some (.slice A0_10 l0_10.length c0_10) := (blk_cell BK272.out 10).trans rfl; have hfz24_0 := blk_frozen BK272.out 0; have hfz24_1 := blk_frozen BK272.out 1; have hfz24_2 := blk_frozen BK272.out 2; have hfz24_3 := blk_frozen BK272.out 3; have hfz24_4 := blk_frozen BK272.out 4; have hfz24_5 := blk_frozen BK272.out 5; have hfz24_6 := blk_frozen BK272.out 6; have hfz24_7 := blk_frozen BK272.out 7; have hfz24_8 := blk_frozen BK272.out 8; have hfz24_9 := blk_frozen BK272.out 9; have hfz24_10 := blk_frozen BK272.out 10) | ((with_reducible refine gate_callee (f := 14) rfl ?_); refine goesL_ (some 24) rfl rfl Try.func14 (by kernel_rfl) rfl #[.int .i64 a1, .agg #[.int .u64 a0_0, .int .u64 a0_1, .int .u64 a0_2, .string a0_3, .string a0_4, .int .i64 a0_5, .int .i64 a0_6, .int .i64 a0_7, .slice A0_8 l0_8.length c0_8, .slice A0_9 l0_9.length c0_9, .slice A0_10 l0_10.length c0_10]] rfl q10y2 ?_; (with_reducible refine (key_Index.calls kj4 a1 a0_0 a0_1 a0_2 a0_3 a0_4 a0_5 a0_6 a0_7 _ _ l0_8 _ _ l0_9 _ _ l0_10 t279 _ ?side1 ?side2 ?side3 ?side4 ?side5 ?side6 A19.out).mono ?_); (case side1 => repeat (first | exact (Kd.C_below HR0_8.out HB.out) | (with_reducible refine Kd.C_alloc ?_ _) | (with_reducible refine Kd.C_drewN ?_ _) | (with_reducible refine Kd.C_drew ?_))); (case side2 => exact HC0_8.out); (case side3 => repeat (first | exact (Kd.C_below HR0_9.out HB.out) | (with_reducible refine Kd.C_alloc ?_ _) | (with_reducible refine Kd.C_drewN ?_ _) | (with_reducible refine Kd.C_drew ?_))); (case side4 => exact HC0_9.out); (case side5 => repeat (first | exact (Kd.C_below HR0_10.out HB.out) | (with_reducible refine Kd.C_alloc ?_ _) | (with_reducible refine Kd.C_drewN ?_ _) | (with_reducible refine Kd.C_drew ?_))); (case side6 => exact HC0_10.out); rintro e w25 ⟨v280, rfl, ho0, hb⟩; refine ⟨_, rfl, ?_⟩; have n0_ := Aside0.mk (Kd.R_elder' q10y1 (Kd.R_base ho0) hb); have n1_ := Aside0.mk (Kd.R_lower (Kd.R_new' ho0 (Kd.R_lt q10y1)) (below_size q10y0)); have n2_ := Aside0.mk (blk_below (g := gb272) (o := .cells #[.int .u64 a0_0, .int .u64 a0_1, .int .u64 a0_2, .string a0_3, .string a0_4, .int .i64 a0_5, .int .i64 a0_6, .int .i64 a0_7, .slice A0_8 l0_8.length c0_8, .slice A0_9 l0_9.length c0_9, .slice A0_10 l0_10.length c0_10] 34 (0, 0)) q10y4 hb); have n3_ := Aside0.mk (below_step q10y0 hb); clear HO278; clear BK272; clear HB; have HO278 := n0_; have HO281 := n1_; have BK272 := n2_; have HB := n3_; clear n0_ n1_ n2_ n3_; (try clear hb); (try clear hb2); (try clear hk); (try clear hi); (try clear ho0); obtain ⟨Ao26, co26, eo26⟩ := Kd.R_slice HO278.out; subst eo26) | ((with_reducible refine gate_callee (f := 8) rfl ?_); refine goesL_ (some 27) rfl rfl Try.func8 (by kernel_rfl) rfl #[.slice Ao26 t276.length co26] rfl q10y2 ?_; (with_reducible refine (key_FromPrimary.calls _ _ t276 t282 t283 t284 _ ?side1 ?side2 A20.out).mono ?_); (case side1 => repeat (first | exact (Kd.R_reads' HO278.out).2.2 | (with_reducible refine Kd.C_alloc ?_ _) | (with_reducible refine Kd.C_drewN ?_ _) | (with_reducible refine Kd.C_drew ?_))); (case side2 => exact (Kd.R_reads' HO278.out).2.1); rintro e w27 ⟨rfl, hb⟩; refine ⟨_, rfl, ?_⟩; have n0_ := Aside0.mk (Kd.R_below q10y1 hb); have n1_ := Aside0.mk (Kd.R_below q10y3 hb); have n2_ := Aside0.mk (blk_below (g := gb272) (o := .cells #[.int .u64 a0_0, .int .u64 a0_1, .int .u64 a0_2, .string a0_3, .string a0_4, .int .i64 a0_5, .int .i64 a0_6, .int .i64 a0_7, .slice A0_8 l0_8.length c0_8, .slice A0_9 l0_9.length c0_9, .slice A0_10 l0_10.length c0_10] 34 (0, 0)) q10y4 hb); have n3_ := Aside0.mk (below_step q10y0 hb); clear HO278; clear HO281; clear BK272; clear HB; have HO278 := n0_; have HO281 := n1_; have BK272 := n2_; have HB := n3_; clear n0_ n1_ n2_ n3_; (try clear hb); (try clear hb2); (try clear hk); (try clear hi)))
   (try simp only [Act.put, q10a, q10b, q10c])
   go_cut [66] (fun v66 wc => ∃ (kq : Nat) (x66_20 : Bool), v66 = .bool x66_20 ∧ Aside0 (cambiumlaw18_KeyTells.j1 kq a1 t276 t279 x66_20 = some r) ∧ Aside0 (kq ≤ kj4) ∧ Aside0 (Kd.R (Kd.int .u8) 5 wc w.heap.size (fun k_ => some k_ ≠ (v280 : Value).ownBlock) (.slice Ao26 t276.length co26) t276) ∧ Aside0 (Kd.R (Kd.int .u8) 5 wc w.heap.size (fun k_ => some k_ ≠ ((.slice Ao26 t276.length co26) : Value).ownBlock) v280 t279) ∧ Aside0 (wc.heap[gb272]? = some (.cells #[.int .u64 a0_0, .int .u64 a0_1, .int .u64 a0_2, .string a0_3, .string a0_4, .int .i64 a0_5, .int .i64 a0_6, .int .i64 a0_7, (.slice A0_8 l0_8.length c0_8), (.slice A0_9 l0_9.length c0_9), (.slice A0_10 l0_10.length c0_10)] 34 (0, 0))) ∧ Aside0 (Below w.heap.size w wc))
   case first =>
    have H := HC21.out
    clear HC21
    replace H := Option.bind_eq_some_iff.mp H
    obtain ⟨t285, A280, H⟩ := H
    replace H : ((cambiumref01_Same.f kj4 t276 t285).bind fun t288 => (if t288 = true then ((cambiumref18_Index.f kj4 a1 a0_0 a0_1 a0_2 a0_3 a0_4 a0_5 a0_6 a0_7 l0_8 l0_9 l0_10).bind fun t289 => ((cambiumref01_Same.f kj4 t279 t289).bind fun t292 => (if t292 = true then (if t284 = true then (if t282 = a0_0 then (if t283 = a0_1 then ((key_Name.f a1).bind fun t293 => ((cambiumref18_Name.f a1).bind fun t294 => (cambiumlaw18_KeyTells.j1 kj4 a1 t276 t279 (t293.toList != t294.toList)))) else (cambiumlaw18_KeyTells.j1 kj4 a1 t276 t279 true)) else (cambiumlaw18_KeyTells.j1 kj4 a1 t276 t279 true)) else (cambiumlaw18_KeyTells.j1 kj4 a1 t276 t279 true)) else (cambiumlaw18_KeyTells.j1 kj4 a1 t276 t279 true)))) else (cambiumlaw18_KeyTells.j1 kj4 a1 t276 t279 true))) = some r := H
    have A28 := Aside0.mk A280
    clear A280
    replace H := Option.bind_eq_some_iff.mp H
    obtain ⟨t288, A290, H⟩ := H
    replace H : (if t288 = true then ((cambiumref18_Index.f kj4 a1 a0_0 a0_1 a0_2 a0_3 a0_4 a0_5 a0_6 a0_7 l0_8 l0_9 l0_10).bind fun t289 => ((cambiumref01_Same.f kj4 t279 t289).bind fun t292 => (if t292 = true then (if t284 = true then (if t282 = a0_0 then (if t283 = a0_1 then ((key_Name.f a1).bind fun t293 => ((cambiumref18_Name.f a1).bind fun t294 => (cambiumlaw18_KeyTells.j1 kj4 a1 t276 t279 (t293.toList != t294.toList)))) else (cambiumlaw18_KeyTells.j1 kj4 a1 t276 t279 true)) else (cambiumlaw18_KeyTells.j1 kj4 a1 t276 t279 true)) else (cambiumlaw18_KeyTells.j1 kj4 a1 t276 t279 true)) else (cambiumlaw18_KeyTells.j1 kj4 a1 t276 t279 true)))) else (cambiumlaw18_KeyTells.j1 kj4 a1 t276 t279 true)) = some r := H
    have A29 := Aside0.mk A290
    clear A290
    by_cases c30 : t288 = true
    rotate_left
    ·replace c30 := Bool.eq_false_iff.mpr c30
     subst c30
     have H1 : (cambiumlaw18_KeyTells.j1 kj4 a1 t276 t279 true) = some r := by rw [if_neg (show ¬ (false = true) by decide)] at H; exact H
     clear H
     have H := H1
     clear H1
     have H' := Aside0.mk H
     clear H
     have hcz78_0 : w27.cell? ⟨gb272, 0, none⟩ = some (.int .u64 a0_0) := (blk_cell BK272.out 0).trans rfl
     have hcz78_1 : w27.cell? ⟨gb272, 1, none⟩ = some (.int .u64 a0_1) := (blk_cell BK272.out 1).trans rfl
     have hcz78_2 : w27.cell? ⟨gb272, 2, none⟩ = some (.int .u64 a0_2) := (blk_cell BK272.out 2).trans rfl
     have hcz78_3 : w27.cell? ⟨gb272, 3, none⟩ = some (.string a0_3) := (blk_cell BK272.out 3).trans rfl
     have hcz78_4 : w27.cell? ⟨gb272, 4, none⟩ = some (.string a0_4) := (blk_cell BK272.out 4).trans rfl
     have hcz78_5 : w27.cell? ⟨gb272, 5, none⟩ = some (.int .i64 a0_5) := (blk_cell BK272.out 5).trans rfl
     have hcz78_6 : w27.cell? ⟨gb272, 6, none⟩ = some (.int .i64 a0_6) := (blk_cell BK272.out 6).trans rfl
     have hcz78_7 : w27.cell? ⟨gb272, 7, none⟩ = some (.int .i64 a0_7) := (blk_cell BK272.out 7).trans rfl
     have hcz78_8 : w27.cell? ⟨gb272, 8, none⟩ = some (.slice A0_8 l0_8.length c0_8) := (blk_cell BK272.out 8).trans rfl
     have hcz78_9 : w27.cell? ⟨gb272, 9, none⟩ = some (.slice A0_9 l0_9.length c0_9) := (blk_cell BK272.out 9).trans rfl
     have hcz78_10 : w27.cell? ⟨gb272, 10, none⟩ = some (.slice A0_10 l0_10.length c0_10) := (blk_cell BK272.out 10).trans rfl
     have hfz78_0 := blk_frozen BK272.out 0
     have hfz78_1 := blk_frozen BK272.out 1
     have hfz78_2 := blk_frozen BK272.out 2
     have hfz78_3 := blk_frozen BK272.out 3
     have hfz78_4 := blk_frozen BK272.out 4
     have hfz78_5 := blk_frozen BK272.out 5
     have hfz78_6 := blk_frozen BK272.out 6
     have hfz78_7 := blk_frozen BK272.out 7
     have hfz78_8 := blk_frozen BK272.out 8
     have hfz78_9 := blk_frozen BK272.out 9
     have hfz78_10 := blk_frozen BK272.out 10
     go_wp2_with (first | ((with_reducible refine gate_callee (f := 11) rfl ?_); refine goesL_ (some 33) rfl rfl Try.func11 (by kernel_rfl) rfl #[.agg #[.int .u64 a0_0, .int .u64 a0_1, .int .u64 a0_2, .string a0_3, .string a0_4, .int .i64 a0_5, .int .i64 a0_6, .int .i64 a0_7, .slice A0_8 l0_8.length c0_8, .slice A0_9 l0_9.length c0_9, .slice A0_10 l0_10.length c0_10]] rfl q10y2 ?_; (with_reducible refine (cambiumref18_Primary.calls kj4 a0_0 a0_1 a0_2 a0_3 a0_4 a0_5 a0_6 a0_7 _ _ l0_8 _ _ l0_9 _ _ l0_10 t285 _ ?side1 ?side2 ?side3 ?side4 ?side5 ?side6 A28.out).mono ?_); (case side1 => repeat (first | exact (Kd.C_below HR0_8.out HB.out) | (with_reducible refine Kd.C_alloc ?_ _) | (with_reducible refine Kd.C_drewN ?_ _) | (with_reducible refine Kd.C_drew ?_))); (case side2 => exact HC0_8.out); (case side3 => repeat (first | exact (Kd.C_below HR0_9.out HB.out) | (with_reducible refine Kd.C_alloc ?_ _) | (with_reducible refine Kd.C_drewN ?_ _) | (with_reducible refine Kd.C_drew ?_))); (case side4 => exact HC0_9.out); (case side5 => repeat (first | exact (Kd.C_below HR0_10.out HB.out) | (with_reducible refine Kd.C_alloc ?_ _) | (with_reducible refine Kd.C_drewN ?_ _) | (with_reducible refine Kd.C_drew ?_))); (case side6 => exact HC0_10.out); rintro e w79 ⟨v286, rfl, ho0, hb⟩; refine ⟨_, rfl, ?_⟩; have n0_ := Aside0.mk (Kd.R_elder' q10y1 (Kd.R_base ho0) hb); have n1_ := Aside0.mk (Kd.R_elder' q10y3 (Kd.R_base ho0) hb); have n2_ := Aside0.mk (Kd.R_lower (Kd.R_new' (Kd.R_new' ho0 (Kd.R_lt q10y1)) (Kd.R_lt q10y3)) (below_size q10y0)); have n3_ := Aside0.mk (blk_below (g := gb272) (o := .cells #[.int .u64 a0_0, .int .u64 a0_1, .int .u64 a0_2, .string a0_3, .string a0_4, .int .i64 a0_5, .int .i64 a0_6, .int .i64 a0_7, .slice A0_8 l0_8.length c0_8, .slice A0_9 l0_9.length c0_9, .slice A0_10 l0_10.length c0_10] 34 (0, 0)) q10y4 hb); have n4_ := Aside0.mk (below_step q10y0 hb); clear HO278; clear HO281; clear BK272; clear HB; have HO278 := n0_; have HO281 := n1_; have HO287 := n2_; have BK272 := n3_; have HB := n4_; clear n0_ n1_ n2_ n3_ n4_; (try clear hb); (try clear hb2); (try clear hk); (try clear hi); (try clear ho0); obtain ⟨Ao80, co80, eo80⟩ := Kd.R_slice HO287.out; subst eo80) | ((with_reducible refine gate_callee (f := 10) rfl ?_); refine goesL_ (some 34) rfl rfl Try.func10 (by kernel_rfl) rfl #[.slice Ao26 t276.length co26, .slice Ao80 t285.length co80] rfl q10y2 ?_; (with_reducible refine (cambiumref01_Same.calls kj4 _ _ t276 _ _ t285 false _ ?side1 ?side2 ?side3 ?side4 A29.out).mono ?_); (case side1 => repeat (first | exact (Kd.R_reads' HO278.out).2.2 | (with_reducible refine Kd.C_alloc ?_ _) | (with_reducible refine Kd.C_drewN ?_ _) | (with_reducible refine Kd.C_drew ?_))); (case side2 => exact (Kd.R_reads' HO278.out).2.1); (case side3 => repeat (first | exact (Kd.R_reads' HO287.out).2.2 | (with_reducible refine Kd.C_alloc ?_ _) | (with_reducible refine Kd.C_drewN ?_ _) | (with_reducible refine Kd.C_drew ?_))); (case side4 => exact (Kd.R_reads' HO287.out).2.1); rintro e w' ⟨rfl, ⟨nd, rfl⟩⟩; refine ⟨_, rfl, ?_⟩))
     go_meet
     case rel => exact ⟨_, (true), q10y7, H', ⟨by have := HJ4.out; first | omega | exact Nat.le_refl _⟩, ⟨by (with_reducible repeat (first | apply Kd.R_alloc | apply Kd.R_drewN | apply Kd.R_drew)); exact Kd.R_mono HO278.out (fun _ hk => hk.1.2)⟩, ⟨by (with_reducible repeat (first | apply Kd.R_alloc | apply Kd.R_drewN | apply Kd.R_drew)); exact Kd.R_mono HO281.out (fun _ hk => hk.1.2)⟩, ⟨by (with_reducible repeat (first | refine blk_drewN ?_ _ | refine blk_drew ?_ | refine blk_alloc ?_ _)); exact BK272.out⟩, ⟨by repeat (first | (with_reducible first | exact HB.out | apply below_alloc | apply pw_below_drewN | apply below_drew1 | refine below_set ?_ GE272.out) | exact HB.out)⟩⟩
    subst c30
    have H1 : ((cambiumref18_Index.f kj4 a1 a0_0 a0_1 a0_2 a0_3 a0_4 a0_5 a0_6 a0_7 l0_8 l0_9 l0_10).bind fun t289 => ((cambiumref01_Same.f kj4 t279 t289).bind fun t292 => (if t292 = true then (if t284 = true then (if t282 = a0_0 then (if t283 = a0_1 then ((key_Name.f a1).bind fun t293 => ((cambiumref18_Name.f a1).bind fun t294 => (cambiumlaw18_KeyTells.j1 kj4 a1 t276 t279 (t293.toList != t294.toList)))) else (cambiumlaw18_KeyTells.j1 kj4 a1 t276 t279 true)) else (cambiumlaw18_KeyTells.j1 kj4 a1 t276 t279 true)) else (cambiumlaw18_KeyTells.j1 kj4 a1 t276 t279 true)) else (cambiumlaw18_KeyTells.j1 kj4 a1 t276 t279 true)))) = some r := by rw [if_pos rfl] at H; exact H
    clear H
    have H := H1
    clear H1
    replace H := Option.bind_eq_some_iff.mp H
    obtain ⟨t289, A310, H⟩ := H
    replace H : ((cambiumref01_Same.f kj4 t279 t289).bind fun t292 => (if t292 = true then (if t284 = true then (if t282 = a0_0 then (if t283 = a0_1 then ((key_Name.f a1).bind fun t293 => ((cambiumref18_Name.f a1).bind fun t294 => (cambiumlaw18_KeyTells.j1 kj4 a1 t276 t279 (t293.toList != t294.toList)))) else (cambiumlaw18_KeyTells.j1 kj4 a1 t276 t279 true)) else (cambiumlaw18_KeyTells.j1 kj4 a1 t276 t279 true)) else (cambiumlaw18_KeyTells.j1 kj4 a1 t276 t279 true)) else (cambiumlaw18_KeyTells.j1 kj4 a1 t276 t279 true))) = some r := H
    have A31 := Aside0.mk A310
    clear A310
    replace H := Option.bind_eq_some_iff.mp H
    obtain ⟨t292, A320, H⟩ := H
    replace H : (if t292 = true then (if t284 = true then (if t282 = a0_0 then (if t283 = a0_1 then ((key_Name.f a1).bind fun t293 => ((cambiumref18_Name.f a1).bind fun t294 => (cambiumlaw18_KeyTells.j1 kj4 a1 t276 t279 (t293.toList != t294.toList)))) else (cambiumlaw18_KeyTells.j1 kj4 a1 t276 t279 true)) else (cambiumlaw18_KeyTells.j1 kj4 a1 t276 t279 true)) else (cambiumlaw18_KeyTells.j1 kj4 a1 t276 t279 true)) else (cambiumlaw18_KeyTells.j1 kj4 a1 t276 t279 true)) = some r := H
    have A32 := Aside0.mk A320
    clear A320
    by_cases c33 : t292 = true
    rotate_left
    ·replace c33 := Bool.eq_false_iff.mpr c33
     subst c33
     have H1 : (cambiumlaw18_KeyTells.j1 kj4 a1 t276 t279 true) = some r := by rw [if_neg (show ¬ (false = true) by decide)] at H; exact H
     clear H
     have H := H1
     clear H1
     have H' := Aside0.mk H
     clear H
     have hcz71_0 : w27.cell? ⟨gb272, 0, none⟩ = some (.int .u64 a0_0) := (blk_cell BK272.out 0).trans rfl
     have hcz71_1 : w27.cell? ⟨gb272, 1, none⟩ = some (.int .u64 a0_1) := (blk_cell BK272.out 1).trans rfl
     have hcz71_2 : w27.cell? ⟨gb272, 2, none⟩ = some (.int .u64 a0_2) := (blk_cell BK272.out 2).trans rfl
     have hcz71_3 : w27.cell? ⟨gb272, 3, none⟩ = some (.string a0_3) := (blk_cell BK272.out 3).trans rfl
     have hcz71_4 : w27.cell? ⟨gb272, 4, none⟩ = some (.string a0_4) := (blk_cell BK272.out 4).trans rfl
     have hcz71_5 : w27.cell? ⟨gb272, 5, none⟩ = some (.int .i64 a0_5) := (blk_cell BK272.out 5).trans rfl
     have hcz71_6 : w27.cell? ⟨gb272, 6, none⟩ = some (.int .i64 a0_6) := (blk_cell BK272.out 6).trans rfl
     have hcz71_7 : w27.cell? ⟨gb272, 7, none⟩ = some (.int .i64 a0_7) := (blk_cell BK272.out 7).trans rfl
     have hcz71_8 : w27.cell? ⟨gb272, 8, none⟩ = some (.slice A0_8 l0_8.length c0_8) := (blk_cell BK272.out 8).trans rfl
     have hcz71_9 : w27.cell? ⟨gb272, 9, none⟩ = some (.slice A0_9 l0_9.length c0_9) := (blk_cell BK272.out 9).trans rfl
     have hcz71_10 : w27.cell? ⟨gb272, 10, none⟩ = some (.slice A0_10 l0_10.length c0_10) := (blk_cell BK272.out 10).trans rfl
     have hfz71_0 := blk_frozen BK272.out 0
     have hfz71_1 := blk_frozen BK272.out 1
     have hfz71_2 := blk_frozen BK272.out 2
     have hfz71_3 := blk_frozen BK272.out 3
     have hfz71_4 := blk_frozen BK272.out 4
     have hfz71_5 := blk_frozen BK272.out 5
     have hfz71_6 := blk_frozen BK272.out 6
     have hfz71_7 := blk_frozen BK272.out 7
     have hfz71_8 := blk_frozen BK272.out 8
     have hfz71_9 := blk_frozen BK272.out 9
     have hfz71_10 := blk_frozen BK272.out 10
     go_wp2_with (first | ((with_reducible refine gate_callee (f := 11) rfl ?_); refine goesL_ (some 33) rfl rfl Try.func11 (by kernel_rfl) rfl #[.agg #[.int .u64 a0_0, .int .u64 a0_1, .int .u64 a0_2, .string a0_3, .string a0_4, .int .i64 a0_5, .int .i64 a0_6, .int .i64 a0_7, .slice A0_8 l0_8.length c0_8, .slice A0_9 l0_9.length c0_9, .slice A0_10 l0_10.length c0_10]] rfl q10y2 ?_; (with_reducible refine (cambiumref18_Primary.calls kj4 a0_0 a0_1 a0_2 a0_3 a0_4 a0_5 a0_6 a0_7 _ _ l0_8 _ _ l0_9 _ _ l0_10 t285 _ ?side1 ?side2 ?side3 ?side4 ?side5 ?side6 A28.out).mono ?_); (case side1 => repeat (first | exact (Kd.C_below HR0_8.out HB.out) | (with_reducible refine Kd.C_alloc ?_ _) | (with_reducible refine Kd.C_drewN ?_ _) | (with_reducible refine Kd.C_drew ?_))); (case side2 => exact HC0_8.out); (case side3 => repeat (first | exact (Kd.C_below HR0_9.out HB.out) | (with_reducible refine Kd.C_alloc ?_ _) | (with_reducible refine Kd.C_drewN ?_ _) | (with_reducible refine Kd.C_drew ?_))); (case side4 => exact HC0_9.out); (case side5 => repeat (first | exact (Kd.C_below HR0_10.out HB.out) | (with_reducible refine Kd.C_alloc ?_ _) | (with_reducible refine Kd.C_drewN ?_ _) | (with_reducible refine Kd.C_drew ?_))); (case side6 => exact HC0_10.out); rintro e w72 ⟨v286, rfl, ho0, hb⟩; refine ⟨_, rfl, ?_⟩; have n0_ := Aside0.mk (Kd.R_elder' q10y1 (Kd.R_base ho0) hb); have n1_ := Aside0.mk (Kd.R_elder' q10y3 (Kd.R_base ho0) hb); have n2_ := Aside0.mk (Kd.R_lower (Kd.R_new' (Kd.R_new' ho0 (Kd.R_lt q10y1)) (Kd.R_lt q10y3)) (below_size q10y0)); have n3_ := Aside0.mk (blk_below (g := gb272) (o := .cells #[.int .u64 a0_0, .int .u64 a0_1, .int .u64 a0_2, .string a0_3, .string a0_4, .int .i64 a0_5, .int .i64 a0_6, .int .i64 a0_7, .slice A0_8 l0_8.length c0_8, .slice A0_9 l0_9.length c0_9, .slice A0_10 l0_10.length c0_10] 34 (0, 0)) q10y4 hb); have n4_ := Aside0.mk (below_step q10y0 hb); clear HO278; clear HO281; clear BK272; clear HB; have HO278 := n0_; have HO281 := n1_; have HO287 := n2_; have BK272 := n3_; have HB := n4_; clear n0_ n1_ n2_ n3_ n4_; (try clear hb); (try clear hb2); (try clear hk); (try clear hi); (try clear ho0); obtain ⟨Ao73, co73, eo73⟩ := Kd.R_slice HO287.out; subst eo73) | ((with_reducible refine gate_callee (f := 10) rfl ?_); refine goesL_ (some 34) rfl rfl Try.func10 (by kernel_rfl) rfl #[.slice Ao26 t276.length co26, .slice Ao73 t285.length co73] rfl q10y2 ?_; (with_reducible refine (cambiumref01_Same.calls kj4 _ _ t276 _ _ t285 true _ ?side1 ?side2 ?side3 ?side4 A29.out).mono ?_); (case side1 => repeat (first | exact (Kd.R_reads' HO278.out).2.2 | (with_reducible refine Kd.C_alloc ?_ _) | (with_reducible refine Kd.C_drewN ?_ _) | (with_reducible refine Kd.C_drew ?_))); (case side2 => exact (Kd.R_reads' HO278.out).2.1); (case side3 => repeat (first | exact (Kd.R_reads' HO287.out).2.2 | (with_reducible refine Kd.C_alloc ?_ _) | (with_reducible refine Kd.C_drewN ?_ _) | (with_reducible refine Kd.C_drew ?_))); (case side4 => exact (Kd.R_reads' HO287.out).2.1); rintro e w' ⟨rfl, ⟨nd, rfl⟩⟩; refine ⟨_, rfl, ?_⟩; have hcz74_0 : w72.cell? ⟨gb272, 0, none⟩ = some (.int .u64 a0_0) := (blk_cell BK272.out 0).trans rfl; have hcz74_1 : w72.cell? ⟨gb272, 1, none⟩ = some (.int .u64 a0_1) := (blk_cell BK272.out 1).trans rfl; have hcz74_2 : w72.cell? ⟨gb272, 2, none⟩ = some (.int .u64 a0_2) := (blk_cell BK272.out 2).trans rfl; have hcz74_3 : w72.cell? ⟨gb272, 3, none⟩ = some (.string a0_3) := (blk_cell BK272.out 3).trans rfl; have hcz74_4 : w72.cell? ⟨gb272, 4, none⟩ = some (.string a0_4) := (blk_cell BK272.out 4).trans rfl; have hcz74_5 : w72.cell? ⟨gb272, 5, none⟩ = some (.int .i64 a0_5) := (blk_cell BK272.out 5).trans rfl; have hcz74_6 : w72.cell? ⟨gb272, 6, none⟩ = some (.int .i64 a0_6) := (blk_cell BK272.out 6).trans rfl; have hcz74_7 : w72.cell? ⟨gb272, 7, none⟩ = some (.int .i64 a0_7) := (blk_cell BK272.out 7).trans rfl; have hcz74_8 : w72.cell? ⟨gb272, 8, none⟩ = some (.slice A0_8 l0_8.length c0_8) := (blk_cell BK272.out 8).trans rfl; have hcz74_9 : w72.cell? ⟨gb272, 9, none⟩ = some (.slice A0_9 l0_9.length c0_9) := (blk_cell BK272.out 9).trans rfl; have hcz74_10 : w72.cell? ⟨gb272, 10, none⟩ = some (.slice A0_10 l0_10.length c0_10) := (blk_cell BK272.out 10).trans rfl; have hfz74_0 := blk_frozen BK272.out 0; have hfz74_1 := blk_frozen BK272.out 1; have hfz74_2 := blk_frozen BK272.out 2; have hfz74_3 := blk_frozen BK272.out 3; have hfz74_4 := blk_frozen BK272.out 4; have hfz74_5 := blk_frozen BK272.out 5; have hfz74_6 := blk_frozen BK272.out 6; have hfz74_7 := blk_frozen BK272.out 7; have hfz74_8 := blk_frozen BK272.out 8; have hfz74_9 := blk_frozen BK272.out 9; have hfz74_10 := blk_frozen BK272.out 10) | (go_at_call 21; (with_reducible refine (cambiumref18_Index.calls kj4 a1 a0_0 a0_1 a0_2 a0_3 a0_4 a0_5 a0_6 a0_7 _ _ l0_8 _ _ l0_9 _ _ l0_10 t289 _ ?side1 ?side2 ?side3 ?side4 ?side5 ?side6 A31.out).mono ?_); (case side1 => repeat (first | exact (Kd.C_below HR0_8.out q10y0) | (with_reducible refine Kd.C_alloc ?_ _) | (with_reducible refine Kd.C_drewN ?_ _) | (with_reducible refine Kd.C_drew ?_))); (case side2 => exact HC0_8.out); (case side3 => repeat (first | exact (Kd.C_below HR0_9.out q10y0) | (with_reducible refine Kd.C_alloc ?_ _) | (with_reducible refine Kd.C_drewN ?_ _) | (with_reducible refine Kd.C_drew ?_))); (case side4 => exact HC0_9.out); (case side5 => repeat (first | exact (Kd.C_below HR0_10.out q10y0) | (with_reducible refine Kd.C_alloc ?_ _) | (with_reducible refine Kd.C_drewN ?_ _) | (with_reducible refine Kd.C_drew ?_))); (case side6 => exact HC0_10.out); rintro e w75 ⟨v290, rfl, ho0, hb⟩; have n0_ := Aside0.mk (Kd.R_elder' q10y1 (Kd.R_base ho0) hb); have n1_ := Aside0.mk (Kd.R_elder' q10y3 (Kd.R_base ho0) hb); have n2_ := Aside0.mk (Kd.R_elder' q10y5 (Kd.R_base ho0) hb); have n3_ := Aside0.mk (Kd.R_lower (Kd.R_new' (Kd.R_new' (Kd.R_new' ho0 (Kd.R_lt q10y1)) (Kd.R_lt q10y3)) (Kd.R_lt q10y5)) (below_size q10y0)); have n4_ := Aside0.mk (blk_below (g := gb272) (o := .cells #[.int .u64 a0_0, .int .u64 a0_1, .int .u64 a0_2, .string a0_3, .string a0_4, .int .i64 a0_5, .int .i64 a0_6, .int .i64 a0_7, .slice A0_8 l0_8.length c0_8, .slice A0_9 l0_9.length c0_9, .slice A0_10 l0_10.length c0_10] 34 (0, 0)) q10y4 hb); have n5_ := Aside0.mk (below_step q10y0 hb); clear HO278; clear HO281; clear HO287; clear BK272; clear HB; have HO278 := n0_; have HO281 := n1_; have HO287 := n2_; have HO291 := n3_; have BK272 := n4_; have HB := n5_; clear n0_ n1_ n2_ n3_ n4_ n5_; (try clear hb); (try clear hb2); (try clear hk); (try clear hi); (try clear ho0); obtain ⟨Ao76, co76, eo76⟩ := Kd.R_slice HO281.out; subst eo76; obtain ⟨Ao77, co77, eo77⟩ := Kd.R_slice HO291.out; subst eo77) | (go_at_call 10; (with_reducible refine (cambiumref01_Same.calls kj4 _ _ t279 _ _ t289 false _ ?side1 ?side2 ?side3 ?side4 A32.out).mono ?_); (case side1 => repeat (first | exact (Kd.R_reads' HO281.out).2.2 | (with_reducible refine Kd.C_alloc ?_ _) | (with_reducible refine Kd.C_drewN ?_ _) | (with_reducible refine Kd.C_drew ?_))); (case side2 => exact (Kd.R_reads' HO281.out).2.1); (case side3 => repeat (first | exact (Kd.R_reads' HO291.out).2.2 | (with_reducible refine Kd.C_alloc ?_ _) | (with_reducible refine Kd.C_drewN ?_ _) | (with_reducible refine Kd.C_drew ?_))); (case side4 => exact (Kd.R_reads' HO291.out).2.1); rintro e w' ⟨rfl, ⟨nd, rfl⟩⟩))
     go_meet
     case rel => exact ⟨_, (true), q10y7, H', ⟨by have := HJ4.out; first | omega | exact Nat.le_refl _⟩, ⟨by (with_reducible repeat (first | apply Kd.R_alloc | apply Kd.R_drewN | apply Kd.R_drew)); exact Kd.R_mono HO278.out (fun _ hk => hk.1.1.2)⟩, ⟨by (with_reducible repeat (first | apply Kd.R_alloc | apply Kd.R_drewN | apply Kd.R_drew)); exact Kd.R_mono HO281.out (fun _ hk => hk.1.1.2)⟩, ⟨by (with_reducible repeat (first | refine blk_drewN ?_ _ | refine blk_drew ?_ | refine blk_alloc ?_ _)); exact BK272.out⟩, ⟨by repeat (first | (with_reducible first | exact HB.out | apply below_alloc | apply pw_below_drewN | apply below_drew1 | refine below_set ?_ GE272.out) | exact HB.out)⟩⟩
    subst c33
    have H1 : (if t284 = true then (if t282 = a0_0 then (if t283 = a0_1 then ((key_Name.f a1).bind fun t293 => ((cambiumref18_Name.f a1).bind fun t294 => (cambiumlaw18_KeyTells.j1 kj4 a1 t276 t279 (t293.toList != t294.toList)))) else (cambiumlaw18_KeyTells.j1 kj4 a1 t276 t279 true)) else (cambiumlaw18_KeyTells.j1 kj4 a1 t276 t279 true)) else (cambiumlaw18_KeyTells.j1 kj4 a1 t276 t279 true)) = some r := by rw [if_pos rfl] at H; exact H
    clear H
    have H := H1
    clear H1
    by_cases c34 : t284 = true
    rotate_left
    ·replace c34 := Bool.eq_false_iff.mpr c34
     subst c34
     have H1 : (cambiumlaw18_KeyTells.j1 kj4 a1 t276 t279 true) = some r := by rw [if_neg (show ¬ (false = true) by decide)] at H; exact H
     clear H
     have H := H1
     clear H1
     have H' := Aside0.mk H
     clear H
     have hcz64_0 : w27.cell? ⟨gb272, 0, none⟩ = some (.int .u64 a0_0) := (blk_cell BK272.out 0).trans rfl
     have hcz64_1 : w27.cell? ⟨gb272, 1, none⟩ = some (.int .u64 a0_1) := (blk_cell BK272.out 1).trans rfl
     have hcz64_2 : w27.cell? ⟨gb272, 2, none⟩ = some (.int .u64 a0_2) := (blk_cell BK272.out 2).trans rfl
     have hcz64_3 : w27.cell? ⟨gb272, 3, none⟩ = some (.string a0_3) := (blk_cell BK272.out 3).trans rfl
     have hcz64_4 : w27.cell? ⟨gb272, 4, none⟩ = some (.string a0_4) := (blk_cell BK272.out 4).trans rfl
     have hcz64_5 : w27.cell? ⟨gb272, 5, none⟩ = some (.int .i64 a0_5) := (blk_cell BK272.out 5).trans rfl
     have hcz64_6 : w27.cell? ⟨gb272, 6, none⟩ = some (.int .i64 a0_6) := (blk_cell BK272.out 6).trans rfl
     have hcz64_7 : w27.cell? ⟨gb272, 7, none⟩ = some (.int .i64 a0_7) := (blk_cell BK272.out 7).trans rfl
     have hcz64_8 : w27.cell? ⟨gb272, 8, none⟩ = some (.slice A0_8 l0_8.length c0_8) := (blk_cell BK272.out 8).trans rfl
     have hcz64_9 : w27.cell? ⟨gb272, 9, none⟩ = some (.slice A0_9 l0_9.length c0_9) := (blk_cell BK272.out 9).trans rfl
     have hcz64_10 : w27.cell? ⟨gb272, 10, none⟩ = some (.slice A0_10 l0_10.length c0_10) := (blk_cell BK272.out 10).trans rfl
     have hfz64_0 := blk_frozen BK272.out 0
     have hfz64_1 := blk_frozen BK272.out 1
     have hfz64_2 := blk_frozen BK272.out 2
     have hfz64_3 := blk_frozen BK272.out 3
     have hfz64_4 := blk_frozen BK272.out 4
     have hfz64_5 := blk_frozen BK272.out 5
     have hfz64_6 := blk_frozen BK272.out 6
     have hfz64_7 := blk_frozen BK272.out 7
     have hfz64_8 := blk_frozen BK272.out 8
     have hfz64_9 := blk_frozen BK272.out 9
     have hfz64_10 := blk_frozen BK272.out 10
     go_wp2_with (first | ((with_reducible refine gate_callee (f := 11) rfl ?_); refine goesL_ (some 33) rfl rfl Try.func11 (by kernel_rfl) rfl #[.agg #[.int .u64 a0_0, .int .u64 a0_1, .int .u64 a0_2, .string a0_3, .string a0_4, .int .i64 a0_5, .int .i64 a0_6, .int .i64 a0_7, .slice A0_8 l0_8.length c0_8, .slice A0_9 l0_9.length c0_9, .slice A0_10 l0_10.length c0_10]] rfl q10y2 ?_; (with_reducible refine (cambiumref18_Primary.calls kj4 a0_0 a0_1 a0_2 a0_3 a0_4 a0_5 a0_6 a0_7 _ _ l0_8 _ _ l0_9 _ _ l0_10 t285 _ ?side1 ?side2 ?side3 ?side4 ?side5 ?side6 A28.out).mono ?_); (case side1 => repeat (first | exact (Kd.C_below HR0_8.out HB.out) | (with_reducible refine Kd.C_alloc ?_ _) | (with_reducible refine Kd.C_drewN ?_ _) | (with_reducible refine Kd.C_drew ?_))); (case side2 => exact HC0_8.out); (case side3 => repeat (first | exact (Kd.C_below HR0_9.out HB.out) | (with_reducible refine Kd.C_alloc ?_ _) | (with_reducible refine Kd.C_drewN ?_ _) | (with_reducible refine Kd.C_drew ?_))); (case side4 => exact HC0_9.out); (case side5 => repeat (first | exact (Kd.C_below HR0_10.out HB.out) | (with_reducible refine Kd.C_alloc ?_ _) | (with_reducible refine Kd.C_drewN ?_ _) | (with_reducible refine Kd.C_drew ?_))); (case side6 => exact HC0_10.out); rintro e w65 ⟨v286, rfl, ho0, hb⟩; refine ⟨_, rfl, ?_⟩; have n0_ := Aside0.mk (Kd.R_elder' q10y1 (Kd.R_base ho0) hb); have n1_ := Aside0.mk (Kd.R_elder' q10y3 (Kd.R_base ho0) hb); have n2_ := Aside0.mk (Kd.R_lower (Kd.R_new' (Kd.R_new' ho0 (Kd.R_lt q10y1)) (Kd.R_lt q10y3)) (below_size q10y0)); have n3_ := Aside0.mk (blk_below (g := gb272) (o := .cells #[.int .u64 a0_0, .int .u64 a0_1, .int .u64 a0_2, .string a0_3, .string a0_4, .int .i64 a0_5, .int .i64 a0_6, .int .i64 a0_7, .slice A0_8 l0_8.length c0_8, .slice A0_9 l0_9.length c0_9, .slice A0_10 l0_10.length c0_10] 34 (0, 0)) q10y4 hb); have n4_ := Aside0.mk (below_step q10y0 hb); clear HO278; clear HO281; clear BK272; clear HB; have HO278 := n0_; have HO281 := n1_; have HO287 := n2_; have BK272 := n3_; have HB := n4_; clear n0_ n1_ n2_ n3_ n4_; (try clear hb); (try clear hb2); (try clear hk); (try clear hi); (try clear ho0); obtain ⟨Ao66, co66, eo66⟩ := Kd.R_slice HO287.out; subst eo66) | ((with_reducible refine gate_callee (f := 10) rfl ?_); refine goesL_ (some 34) rfl rfl Try.func10 (by kernel_rfl) rfl #[.slice Ao26 t276.length co26, .slice Ao66 t285.length co66] rfl q10y2 ?_; (with_reducible refine (cambiumref01_Same.calls kj4 _ _ t276 _ _ t285 true _ ?side1 ?side2 ?side3 ?side4 A29.out).mono ?_); (case side1 => repeat (first | exact (Kd.R_reads' HO278.out).2.2 | (with_reducible refine Kd.C_alloc ?_ _) | (with_reducible refine Kd.C_drewN ?_ _) | (with_reducible refine Kd.C_drew ?_))); (case side2 => exact (Kd.R_reads' HO278.out).2.1); (case side3 => repeat (first | exact (Kd.R_reads' HO287.out).2.2 | (with_reducible refine Kd.C_alloc ?_ _) | (with_reducible refine Kd.C_drewN ?_ _) | (with_reducible refine Kd.C_drew ?_))); (case side4 => exact (Kd.R_reads' HO287.out).2.1); rintro e w' ⟨rfl, ⟨nd, rfl⟩⟩; refine ⟨_, rfl, ?_⟩; have hcz67_0 : w65.cell? ⟨gb272, 0, none⟩ = some (.int .u64 a0_0) := (blk_cell BK272.out 0).trans rfl; have hcz67_1 : w65.cell? ⟨gb272, 1, none⟩ = some (.int .u64 a0_1) := (blk_cell BK272.out 1).trans rfl; have hcz67_2 : w65.cell? ⟨gb272, 2, none⟩ = some (.int .u64 a0_2) := (blk_cell BK272.out 2).trans rfl; have hcz67_3 : w65.cell? ⟨gb272, 3, none⟩ = some (.string a0_3) := (blk_cell BK272.out 3).trans rfl; have hcz67_4 : w65.cell? ⟨gb272, 4, none⟩ = some (.string a0_4) := (blk_cell BK272.out 4).trans rfl; have hcz67_5 : w65.cell? ⟨gb272, 5, none⟩ = some (.int .i64 a0_5) := (blk_cell BK272.out 5).trans rfl; have hcz67_6 : w65.cell? ⟨gb272, 6, none⟩ = some (.int .i64 a0_6) := (blk_cell BK272.out 6).trans rfl; have hcz67_7 : w65.cell? ⟨gb272, 7, none⟩ = some (.int .i64 a0_7) := (blk_cell BK272.out 7).trans rfl; have hcz67_8 : w65.cell? ⟨gb272, 8, none⟩ = some (.slice A0_8 l0_8.length c0_8) := (blk_cell BK272.out 8).trans rfl; have hcz67_9 : w65.cell? ⟨gb272, 9, none⟩ = some (.slice A0_9 l0_9.length c0_9) := (blk_cell BK272.out 9).trans rfl; have hcz67_10 : w65.cell? ⟨gb272, 10, none⟩ = some (.slice A0_10 l0_10.length c0_10) := (blk_cell BK272.out 10).trans rfl; have hfz67_0 := blk_frozen BK272.out 0; have hfz67_1 := blk_frozen BK272.out 1; have hfz67_2 := blk_frozen BK272.out 2; have hfz67_3 := blk_frozen BK272.out 3; have hfz67_4 := blk_frozen BK272.out 4; have hfz67_5 := blk_frozen BK272.out 5; have hfz67_6 := blk_frozen BK272.out 6; have hfz67_7 := blk_frozen BK272.out 7; have hfz67_8 := blk_frozen BK272.out 8; have hfz67_9 := blk_frozen BK272.out 9; have hfz67_10 := blk_frozen BK272.out 10) | (go_at_call 21; (with_reducible refine (cambiumref18_Index.calls kj4 a1 a0_0 a0_1 a0_2 a0_3 a0_4 a0_5 a0_6 a0_7 _ _ l0_8 _ _ l0_9 _ _ l0_10 t289 _ ?side1 ?side2 ?side3 ?side4 ?side5 ?side6 A31.out).mono ?_); (case side1 => repeat (first | exact (Kd.C_below HR0_8.out q10y0) | (with_reducible refine Kd.C_alloc ?_ _) | (with_reducible refine Kd.C_drewN ?_ _) | (with_reducible refine Kd.C_drew ?_))); (case side2 => exact HC0_8.out); (case side3 => repeat (first | exact (Kd.C_below HR0_9.out q10y0) | (with_reducible refine Kd.C_alloc ?_ _) | (with_reducible refine Kd.C_drewN ?_ _) | (with_reducible refine Kd.C_drew ?_))); (case side4 => exact HC0_9.out); (case side5 => repeat (first | exact (Kd.C_below HR0_10.out q10y0) | (with_reducible refine Kd.C_alloc ?_ _) | (with_reducible refine Kd.C_drewN ?_ _) | (with_reducible refine Kd.C_drew ?_))); (case side6 => exact HC0_10.out); rintro e w68 ⟨v290, rfl, ho0, hb⟩; have n0_ := Aside0.mk (Kd.R_elder' q10y1 (Kd.R_base ho0) hb); have n1_ := Aside0.mk (Kd.R_elder' q10y3 (Kd.R_base ho0) hb); have n2_ := Aside0.mk (Kd.R_elder' q10y5 (Kd.R_base ho0) hb); have n3_ := Aside0.mk (Kd.R_lower (Kd.R_new' (Kd.R_new' (Kd.R_new' ho0 (Kd.R_lt q10y1)) (Kd.R_lt q10y3)) (Kd.R_lt q10y5)) (below_size q10y0)); have n4_ := Aside0.mk (blk_below (g := gb272) (o := .cells #[.int .u64 a0_0, .int .u64 a0_1, .int .u64 a0_2, .string a0_3, .string a0_4, .int .i64 a0_5, .int .i64 a0_6, .int .i64 a0_7, .slice A0_8 l0_8.length c0_8, .slice A0_9 l0_9.length c0_9, .slice A0_10 l0_10.length c0_10] 34 (0, 0)) q10y4 hb); have n5_ := Aside0.mk (below_step q10y0 hb); clear HO278; clear HO281; clear HO287; clear BK272; clear HB; have HO278 := n0_; have HO281 := n1_; have HO287 := n2_; have HO291 := n3_; have BK272 := n4_; have HB := n5_; clear n0_ n1_ n2_ n3_ n4_ n5_; (try clear hb); (try clear hb2); (try clear hk); (try clear hi); (try clear ho0); obtain ⟨Ao69, co69, eo69⟩ := Kd.R_slice HO281.out; subst eo69; obtain ⟨Ao70, co70, eo70⟩ := Kd.R_slice HO291.out; subst eo70) | (go_at_call 10; (with_reducible refine (cambiumref01_Same.calls kj4 _ _ t279 _ _ t289 true _ ?side1 ?side2 ?side3 ?side4 A32.out).mono ?_); (case side1 => repeat (first | exact (Kd.R_reads' HO281.out).2.2 | (with_reducible refine Kd.C_alloc ?_ _) | (with_reducible refine Kd.C_drewN ?_ _) | (with_reducible refine Kd.C_drew ?_))); (case side2 => exact (Kd.R_reads' HO281.out).2.1); (case side3 => repeat (first | exact (Kd.R_reads' HO291.out).2.2 | (with_reducible refine Kd.C_alloc ?_ _) | (with_reducible refine Kd.C_drewN ?_ _) | (with_reducible refine Kd.C_drew ?_))); (case side4 => exact (Kd.R_reads' HO291.out).2.1); rintro e w' ⟨rfl, ⟨nd, rfl⟩⟩))
     go_meet
     case rel => exact ⟨_, (true), q10y7, H', ⟨by have := HJ4.out; first | omega | exact Nat.le_refl _⟩, ⟨by (with_reducible repeat (first | apply Kd.R_alloc | apply Kd.R_drewN | apply Kd.R_drew)); exact Kd.R_mono HO278.out (fun _ hk => hk.1.1.2)⟩, ⟨by (with_reducible repeat (first | apply Kd.R_alloc | apply Kd.R_drewN | apply Kd.R_drew)); exact Kd.R_mono HO281.out (fun _ hk => hk.1.1.2)⟩, ⟨by (with_reducible repeat (first | refine blk_drewN ?_ _ | refine blk_drew ?_ | refine blk_alloc ?_ _)); exact BK272.out⟩, ⟨by repeat (first | (with_reducible first | exact HB.out | apply below_alloc | apply pw_below_drewN | apply below_drew1 | refine below_set ?_ GE272.out) | exact HB.out)⟩⟩
    subst c34
    have H1 : (if t282 = a0_0 then (if t283 = a0_1 then ((key_Name.f a1).bind fun t293 => ((cambiumref18_Name.f a1).bind fun t294 => (cambiumlaw18_KeyTells.j1 kj4 a1 t276 t279 (t293.toList != t294.toList)))) else (cambiumlaw18_KeyTells.j1 kj4 a1 t276 t279 true)) else (cambiumlaw18_KeyTells.j1 kj4 a1 t276 t279 true)) = some r := by rw [if_pos rfl] at H; exact H
    clear H
    have H := H1
    clear H1
    by_cases c35 : t282 = a0_0
    rotate_left
    ·rw [if_neg c35] at H
     have c35b0 : (t282 == a0_0) = false := beq_eq_false_iff_ne.mpr c35
     have c35b1 : (t282 != a0_0) = true := bne_iff_ne.mpr c35
     (first | rw [c35b0] | (simp only [i64_w, i32_w]; rw [c35b0]) | skip)
     have H' := Aside0.mk H
     clear H
     have hcz56_0 : w27.cell? ⟨gb272, 0, none⟩ = some (.int .u64 a0_0) := (blk_cell BK272.out 0).trans rfl
     have hcz56_1 : w27.cell? ⟨gb272, 1, none⟩ = some (.int .u64 a0_1) := (blk_cell BK272.out 1).trans rfl
     have hcz56_2 : w27.cell? ⟨gb272, 2, none⟩ = some (.int .u64 a0_2) := (blk_cell BK272.out 2).trans rfl
     have hcz56_3 : w27.cell? ⟨gb272, 3, none⟩ = some (.string a0_3) := (blk_cell BK272.out 3).trans rfl
     have hcz56_4 : w27.cell? ⟨gb272, 4, none⟩ = some (.string a0_4) := (blk_cell BK272.out 4).trans rfl
     have hcz56_5 : w27.cell? ⟨gb272, 5, none⟩ = some (.int .i64 a0_5) := (blk_cell BK272.out 5).trans rfl
     have hcz56_6 : w27.cell? ⟨gb272, 6, none⟩ = some (.int .i64 a0_6) := (blk_cell BK272.out 6).trans rfl
     have hcz56_7 : w27.cell? ⟨gb272, 7, none⟩ = some (.int .i64 a0_7) := (blk_cell BK272.out 7).trans rfl
     have hcz56_8 : w27.cell? ⟨gb272, 8, none⟩ = some (.slice A0_8 l0_8.length c0_8) := (blk_cell BK272.out 8).trans rfl
     have hcz56_9 : w27.cell? ⟨gb272, 9, none⟩ = some (.slice A0_9 l0_9.length c0_9) := (blk_cell BK272.out 9).trans rfl
     have hcz56_10 : w27.cell? ⟨gb272, 10, none⟩ = some (.slice A0_10 l0_10.length c0_10) := (blk_cell BK272.out 10).trans rfl
     have hfz56_0 := blk_frozen BK272.out 0
     have hfz56_1 := blk_frozen BK272.out 1
     have hfz56_2 := blk_frozen BK272.out 2
     have hfz56_3 := blk_frozen BK272.out 3
     have hfz56_4 := blk_frozen BK272.out 4
     have hfz56_5 := blk_frozen BK272.out 5
     have hfz56_6 := blk_frozen BK272.out 6
     have hfz56_7 := blk_frozen BK272.out 7
     have hfz56_8 := blk_frozen BK272.out 8
     have hfz56_9 := blk_frozen BK272.out 9
     have hfz56_10 := blk_frozen BK272.out 10
     go_wp2_with (first | ((with_reducible refine gate_callee (f := 11) rfl ?_); refine goesL_ (some 33) rfl rfl Try.func11 (by kernel_rfl) rfl #[.agg #[.int .u64 a0_0, .int .u64 a0_1, .int .u64 a0_2, .string a0_3, .string a0_4, .int .i64 a0_5, .int .i64 a0_6, .int .i64 a0_7, .slice A0_8 l0_8.length c0_8, .slice A0_9 l0_9.length c0_9, .slice A0_10 l0_10.length c0_10]] rfl q10y2 ?_; (with_reducible refine (cambiumref18_Primary.calls kj4 a0_0 a0_1 a0_2 a0_3 a0_4 a0_5 a0_6 a0_7 _ _ l0_8 _ _ l0_9 _ _ l0_10 t285 _ ?side1 ?side2 ?side3 ?side4 ?side5 ?side6 A28.out).mono ?_); (case side1 => repeat (first | exact (Kd.C_below HR0_8.out HB.out) | (with_reducible refine Kd.C_alloc ?_ _) | (with_reducible refine Kd.C_drewN ?_ _) | (with_reducible refine Kd.C_drew ?_))); (case side2 => exact HC0_8.out); (case side3 => repeat (first | exact (Kd.C_below HR0_9.out HB.out) | (with_reducible refine Kd.C_alloc ?_ _) | (with_reducible refine Kd.C_drewN ?_ _) | (with_reducible refine Kd.C_drew ?_))); (case side4 => exact HC0_9.out); (case side5 => repeat (first | exact (Kd.C_below HR0_10.out HB.out) | (with_reducible refine Kd.C_alloc ?_ _) | (with_reducible refine Kd.C_drewN ?_ _) | (with_reducible refine Kd.C_drew ?_))); (case side6 => exact HC0_10.out); rintro e w57 ⟨v286, rfl, ho0, hb⟩; refine ⟨_, rfl, ?_⟩; have n0_ := Aside0.mk (Kd.R_elder' q10y1 (Kd.R_base ho0) hb); have n1_ := Aside0.mk (Kd.R_elder' q10y3 (Kd.R_base ho0) hb); have n2_ := Aside0.mk (Kd.R_lower (Kd.R_new' (Kd.R_new' ho0 (Kd.R_lt q10y1)) (Kd.R_lt q10y3)) (below_size q10y0)); have n3_ := Aside0.mk (blk_below (g := gb272) (o := .cells #[.int .u64 a0_0, .int .u64 a0_1, .int .u64 a0_2, .string a0_3, .string a0_4, .int .i64 a0_5, .int .i64 a0_6, .int .i64 a0_7, .slice A0_8 l0_8.length c0_8, .slice A0_9 l0_9.length c0_9, .slice A0_10 l0_10.length c0_10] 34 (0, 0)) q10y4 hb); have n4_ := Aside0.mk (below_step q10y0 hb); clear HO278; clear HO281; clear BK272; clear HB; have HO278 := n0_; have HO281 := n1_; have HO287 := n2_; have BK272 := n3_; have HB := n4_; clear n0_ n1_ n2_ n3_ n4_; (try clear hb); (try clear hb2); (try clear hk); (try clear hi); (try clear ho0); obtain ⟨Ao58, co58, eo58⟩ := Kd.R_slice HO287.out; subst eo58) | ((with_reducible refine gate_callee (f := 10) rfl ?_); refine goesL_ (some 34) rfl rfl Try.func10 (by kernel_rfl) rfl #[.slice Ao26 t276.length co26, .slice Ao58 t285.length co58] rfl q10y2 ?_; (with_reducible refine (cambiumref01_Same.calls kj4 _ _ t276 _ _ t285 true _ ?side1 ?side2 ?side3 ?side4 A29.out).mono ?_); (case side1 => repeat (first | exact (Kd.R_reads' HO278.out).2.2 | (with_reducible refine Kd.C_alloc ?_ _) | (with_reducible refine Kd.C_drewN ?_ _) | (with_reducible refine Kd.C_drew ?_))); (case side2 => exact (Kd.R_reads' HO278.out).2.1); (case side3 => repeat (first | exact (Kd.R_reads' HO287.out).2.2 | (with_reducible refine Kd.C_alloc ?_ _) | (with_reducible refine Kd.C_drewN ?_ _) | (with_reducible refine Kd.C_drew ?_))); (case side4 => exact (Kd.R_reads' HO287.out).2.1); rintro e w' ⟨rfl, ⟨nd, rfl⟩⟩; refine ⟨_, rfl, ?_⟩; have hcz59_0 : w57.cell? ⟨gb272, 0, none⟩ = some (.int .u64 a0_0) := (blk_cell BK272.out 0).trans rfl; have hcz59_1 : w57.cell? ⟨gb272, 1, none⟩ = some (.int .u64 a0_1) := (blk_cell BK272.out 1).trans rfl; have hcz59_2 : w57.cell? ⟨gb272, 2, none⟩ = some (.int .u64 a0_2) := (blk_cell BK272.out 2).trans rfl; have hcz59_3 : w57.cell? ⟨gb272, 3, none⟩ = some (.string a0_3) := (blk_cell BK272.out 3).trans rfl; have hcz59_4 : w57.cell? ⟨gb272, 4, none⟩ = some (.string a0_4) := (blk_cell BK272.out 4).trans rfl; have hcz59_5 : w57.cell? ⟨gb272, 5, none⟩ = some (.int .i64 a0_5) := (blk_cell BK272.out 5).trans rfl; have hcz59_6 : w57.cell? ⟨gb272, 6, none⟩ = some (.int .i64 a0_6) := (blk_cell BK272.out 6).trans rfl; have hcz59_7 : w57.cell? ⟨gb272, 7, none⟩ = some (.int .i64 a0_7) := (blk_cell BK272.out 7).trans rfl; have hcz59_8 : w57.cell? ⟨gb272, 8, none⟩ = some (.slice A0_8 l0_8.length c0_8) := (blk_cell BK272.out 8).trans rfl; have hcz59_9 : w57.cell? ⟨gb272, 9, none⟩ = some (.slice A0_9 l0_9.length c0_9) := (blk_cell BK272.out 9).trans rfl; have hcz59_10 : w57.cell? ⟨gb272, 10, none⟩ = some (.slice A0_10 l0_10.length c0_10) := (blk_cell BK272.out 10).trans rfl; have hfz59_0 := blk_frozen BK272.out 0; have hfz59_1 := blk_frozen BK272.out 1; have hfz59_2 := blk_frozen BK272.out 2; have hfz59_3 := blk_frozen BK272.out 3; have hfz59_4 := blk_frozen BK272.out 4; have hfz59_5 := blk_frozen BK272.out 5; have hfz59_6 := blk_frozen BK272.out 6; have hfz59_7 := blk_frozen BK272.out 7; have hfz59_8 := blk_frozen BK272.out 8; have hfz59_9 := blk_frozen BK272.out 9; have hfz59_10 := blk_frozen BK272.out 10) | (go_at_call 21; (with_reducible refine (cambiumref18_Index.calls kj4 a1 a0_0 a0_1 a0_2 a0_3 a0_4 a0_5 a0_6 a0_7 _ _ l0_8 _ _ l0_9 _ _ l0_10 t289 _ ?side1 ?side2 ?side3 ?side4 ?side5 ?side6 A31.out).mono ?_); (case side1 => repeat (first | exact (Kd.C_below HR0_8.out q10y0) | (with_reducible refine Kd.C_alloc ?_ _) | (with_reducible refine Kd.C_drewN ?_ _) | (with_reducible refine Kd.C_drew ?_))); (case side2 => exact HC0_8.out); (case side3 => repeat (first | exact (Kd.C_below HR0_9.out q10y0) | (with_reducible refine Kd.C_alloc ?_ _) | (with_reducible refine Kd.C_drewN ?_ _) | (with_reducible refine Kd.C_drew ?_))); (case side4 => exact HC0_9.out); (case side5 => repeat (first | exact (Kd.C_below HR0_10.out q10y0) | (with_reducible refine Kd.C_alloc ?_ _) | (with_reducible refine Kd.C_drewN ?_ _) | (with_reducible refine Kd.C_drew ?_))); (case side6 => exact HC0_10.out); rintro e w60 ⟨v290, rfl, ho0, hb⟩; have n0_ := Aside0.mk (Kd.R_elder' q10y1 (Kd.R_base ho0) hb); have n1_ := Aside0.mk (Kd.R_elder' q10y3 (Kd.R_base ho0) hb); have n2_ := Aside0.mk (Kd.R_elder' q10y5 (Kd.R_base ho0) hb); have n3_ := Aside0.mk (Kd.R_lower (Kd.R_new' (Kd.R_new' (Kd.R_new' ho0 (Kd.R_lt q10y1)) (Kd.R_lt q10y3)) (Kd.R_lt q10y5)) (below_size q10y0)); have n4_ := Aside0.mk (blk_below (g := gb272) (o := .cells #[.int .u64 a0_0, .int .u64 a0_1, .int .u64 a0_2, .string a0_3, .string a0_4, .int .i64 a0_5, .int .i64 a0_6, .int .i64 a0_7, .slice A0_8 l0_8.length c0_8, .slice A0_9 l0_9.length c0_9, .slice A0_10 l0_10.length c0_10] 34 (0, 0)) q10y4 hb); have n5_ := Aside0.mk (below_step q10y0 hb); clear HO278; clear HO281; clear HO287; clear BK272; clear HB; have HO278 := n0_; have HO281 := n1_; have HO287 := n2_; have HO291 := n3_; have BK272 := n4_; have HB := n5_; clear n0_ n1_ n2_ n3_ n4_ n5_; (try clear hb); (try clear hb2); (try clear hk); (try clear hi); (try clear ho0); obtain ⟨Ao61, co61, eo61⟩ := Kd.R_slice HO281.out; subst eo61; obtain ⟨Ao62, co62, eo62⟩ := Kd.R_slice HO291.out; subst eo62) | (go_at_call 10; (with_reducible refine (cambiumref01_Same.calls kj4 _ _ t279 _ _ t289 true _ ?side1 ?side2 ?side3 ?side4 A32.out).mono ?_); (case side1 => repeat (first | exact (Kd.R_reads' HO281.out).2.2 | (with_reducible refine Kd.C_alloc ?_ _) | (with_reducible refine Kd.C_drewN ?_ _) | (with_reducible refine Kd.C_drew ?_))); (case side2 => exact (Kd.R_reads' HO281.out).2.1); (case side3 => repeat (first | exact (Kd.R_reads' HO291.out).2.2 | (with_reducible refine Kd.C_alloc ?_ _) | (with_reducible refine Kd.C_drewN ?_ _) | (with_reducible refine Kd.C_drew ?_))); (case side4 => exact (Kd.R_reads' HO291.out).2.1); rintro e w' ⟨rfl, ⟨nd, rfl⟩⟩; have hcz63_0 : w60.cell? ⟨gb272, 0, none⟩ = some (.int .u64 a0_0) := (blk_cell BK272.out 0).trans rfl; have hcz63_1 : w60.cell? ⟨gb272, 1, none⟩ = some (.int .u64 a0_1) := (blk_cell BK272.out 1).trans rfl; have hcz63_2 : w60.cell? ⟨gb272, 2, none⟩ = some (.int .u64 a0_2) := (blk_cell BK272.out 2).trans rfl; have hcz63_3 : w60.cell? ⟨gb272, 3, none⟩ = some (.string a0_3) := (blk_cell BK272.out 3).trans rfl; have hcz63_4 : w60.cell? ⟨gb272, 4, none⟩ = some (.string a0_4) := (blk_cell BK272.out 4).trans rfl; have hcz63_5 : w60.cell? ⟨gb272, 5, none⟩ = some (.int .i64 a0_5) := (blk_cell BK272.out 5).trans rfl; have hcz63_6 : w60.cell? ⟨gb272, 6, none⟩ = some (.int .i64 a0_6) := (blk_cell BK272.out 6).trans rfl; have hcz63_7 : w60.cell? ⟨gb272, 7, none⟩ = some (.int .i64 a0_7) := (blk_cell BK272.out 7).trans rfl; have hcz63_8 : w60.cell? ⟨gb272, 8, none⟩ = some (.slice A0_8 l0_8.length c0_8) := (blk_cell BK272.out 8).trans rfl; have hcz63_9 : w60.cell? ⟨gb272, 9, none⟩ = some (.slice A0_9 l0_9.length c0_9) := (blk_cell BK272.out 9).trans rfl; have hcz63_10 : w60.cell? ⟨gb272, 10, none⟩ = some (.slice A0_10 l0_10.length c0_10) := (blk_cell BK272.out 10).trans rfl; have hfz63_0 := blk_frozen BK272.out 0; have hfz63_1 := blk_frozen BK272.out 1; have hfz63_2 := blk_frozen BK272.out 2; have hfz63_3 := blk_frozen BK272.out 3; have hfz63_4 := blk_frozen BK272.out 4; have hfz63_5 := blk_frozen BK272.out 5; have hfz63_6 := blk_frozen BK272.out 6; have hfz63_7 := blk_frozen BK272.out 7; have hfz63_8 := blk_frozen BK272.out 8; have hfz63_9 := blk_frozen BK272.out 9; have hfz63_10 := blk_frozen BK272.out 10))
     go_meet
     case rel => exact ⟨_, (true), q10y7, H', ⟨by have := HJ4.out; first | omega | exact Nat.le_refl _⟩, ⟨by (with_reducible repeat (first | apply Kd.R_alloc | apply Kd.R_drewN | apply Kd.R_drew)); exact Kd.R_mono HO278.out (fun _ hk => hk.1.1.2)⟩, ⟨by (with_reducible repeat (first | apply Kd.R_alloc | apply Kd.R_drewN | apply Kd.R_drew)); exact Kd.R_mono HO281.out (fun _ hk => hk.1.1.2)⟩, ⟨by (with_reducible repeat (first | refine blk_drewN ?_ _ | refine blk_drew ?_ | refine blk_alloc ?_ _)); exact BK272.out⟩, ⟨by repeat (first | (with_reducible first | exact HB.out | apply below_alloc | apply pw_below_drewN | apply below_drew1 | refine below_set ?_ GE272.out) | exact HB.out)⟩⟩
    rw [if_pos c35] at H
    have c35b0 : (t282 == a0_0) = true := beq_iff_eq.mpr c35
    have c35b1 : (t282 != a0_0) = false := bne_eq_false_iff_eq.mpr c35
    clear c35
    (first | rw [c35b0] | (simp only [i64_w, i32_w]; rw [c35b0]) | skip)
    by_cases c36 : t283 = a0_1
    rotate_left
    ·rw [if_neg c36] at H
     have c36b0 : (t283 == a0_1) = false := beq_eq_false_iff_ne.mpr c36
     have c36b1 : (t283 != a0_1) = true := bne_iff_ne.mpr c36
     have H' := Aside0.mk H
     clear H
     have hcz48_0 : w27.cell? ⟨gb272, 0, none⟩ = some (.int .u64 a0_0) := (blk_cell BK272.out 0).trans rfl
     have hcz48_1 : w27.cell? ⟨gb272, 1, none⟩ = some (.int .u64 a0_1) := (blk_cell BK272.out 1).trans rfl
     have hcz48_2 : w27.cell? ⟨gb272, 2, none⟩ = some (.int .u64 a0_2) := (blk_cell BK272.out 2).trans rfl
     have hcz48_3 : w27.cell? ⟨gb272, 3, none⟩ = some (.string a0_3) := (blk_cell BK272.out 3).trans rfl
     have hcz48_4 : w27.cell? ⟨gb272, 4, none⟩ = some (.string a0_4) := (blk_cell BK272.out 4).trans rfl
     have hcz48_5 : w27.cell? ⟨gb272, 5, none⟩ = some (.int .i64 a0_5) := (blk_cell BK272.out 5).trans rfl
     have hcz48_6 : w27.cell? ⟨gb272, 6, none⟩ = some (.int .i64 a0_6) := (blk_cell BK272.out 6).trans rfl
     have hcz48_7 : w27.cell? ⟨gb272, 7, none⟩ = some (.int .i64 a0_7) := (blk_cell BK272.out 7).trans rfl
     have hcz48_8 : w27.cell? ⟨gb272, 8, none⟩ = some (.slice A0_8 l0_8.length c0_8) := (blk_cell BK272.out 8).trans rfl
     have hcz48_9 : w27.cell? ⟨gb272, 9, none⟩ = some (.slice A0_9 l0_9.length c0_9) := (blk_cell BK272.out 9).trans rfl
     have hcz48_10 : w27.cell? ⟨gb272, 10, none⟩ = some (.slice A0_10 l0_10.length c0_10) := (blk_cell BK272.out 10).trans rfl
     have hfz48_0 := blk_frozen BK272.out 0
     have hfz48_1 := blk_frozen BK272.out 1
     have hfz48_2 := blk_frozen BK272.out 2
     have hfz48_3 := blk_frozen BK272.out 3
     have hfz48_4 := blk_frozen BK272.out 4
     have hfz48_5 := blk_frozen BK272.out 5
     have hfz48_6 := blk_frozen BK272.out 6
     have hfz48_7 := blk_frozen BK272.out 7
     have hfz48_8 := blk_frozen BK272.out 8
     have hfz48_9 := blk_frozen BK272.out 9
     have hfz48_10 := blk_frozen BK272.out 10
     go_wp2_with (first | ((with_reducible refine gate_callee (f := 11) rfl ?_); refine goesL_ (some 33) rfl rfl Try.func11 (by kernel_rfl) rfl #[.agg #[.int .u64 a0_0, .int .u64 a0_1, .int .u64 a0_2, .string a0_3, .string a0_4, .int .i64 a0_5, .int .i64 a0_6, .int .i64 a0_7, .slice A0_8 l0_8.length c0_8, .slice A0_9 l0_9.length c0_9, .slice A0_10 l0_10.length c0_10]] rfl q10y2 ?_; (with_reducible refine (cambiumref18_Primary.calls kj4 a0_0 a0_1 a0_2 a0_3 a0_4 a0_5 a0_6 a0_7 _ _ l0_8 _ _ l0_9 _ _ l0_10 t285 _ ?side1 ?side2 ?side3 ?side4 ?side5 ?side6 A28.out).mono ?_); (case side1 => repeat (first | exact (Kd.C_below HR0_8.out HB.out) | (with_reducible refine Kd.C_alloc ?_ _) | (with_reducible refine Kd.C_drewN ?_ _) | (with_reducible refine Kd.C_drew ?_))); (case side2 => exact HC0_8.out); (case side3 => repeat (first | exact (Kd.C_below HR0_9.out HB.out) | (with_reducible refine Kd.C_alloc ?_ _) | (with_reducible refine Kd.C_drewN ?_ _) | (with_reducible refine Kd.C_drew ?_))); (case side4 => exact HC0_9.out); (case side5 => repeat (first | exact (Kd.C_below HR0_10.out HB.out) | (with_reducible refine Kd.C_alloc ?_ _) | (with_reducible refine Kd.C_drewN ?_ _) | (with_reducible refine Kd.C_drew ?_))); (case side6 => exact HC0_10.out); rintro e w49 ⟨v286, rfl, ho0, hb⟩; refine ⟨_, rfl, ?_⟩; have n0_ := Aside0.mk (Kd.R_elder' q10y1 (Kd.R_base ho0) hb); have n1_ := Aside0.mk (Kd.R_elder' q10y3 (Kd.R_base ho0) hb); have n2_ := Aside0.mk (Kd.R_lower (Kd.R_new' (Kd.R_new' ho0 (Kd.R_lt q10y1)) (Kd.R_lt q10y3)) (below_size q10y0)); have n3_ := Aside0.mk (blk_below (g := gb272) (o := .cells #[.int .u64 a0_0, .int .u64 a0_1, .int .u64 a0_2, .string a0_3, .string a0_4, .int .i64 a0_5, .int .i64 a0_6, .int .i64 a0_7, .slice A0_8 l0_8.length c0_8, .slice A0_9 l0_9.length c0_9, .slice A0_10 l0_10.length c0_10] 34 (0, 0)) q10y4 hb); have n4_ := Aside0.mk (below_step q10y0 hb); clear HO278; clear HO281; clear BK272; clear HB; have HO278 := n0_; have HO281 := n1_; have HO287 := n2_; have BK272 := n3_; have HB := n4_; clear n0_ n1_ n2_ n3_ n4_; (try clear hb); (try clear hb2); (try clear hk); (try clear hi); (try clear ho0); obtain ⟨Ao50, co50, eo50⟩ := Kd.R_slice HO287.out; subst eo50) | ((with_reducible refine gate_callee (f := 10) rfl ?_); refine goesL_ (some 34) rfl rfl Try.func10 (by kernel_rfl) rfl #[.slice Ao26 t276.length co26, .slice Ao50 t285.length co50] rfl q10y2 ?_; (with_reducible refine (cambiumref01_Same.calls kj4 _ _ t276 _ _ t285 true _ ?side1 ?side2 ?side3 ?side4 A29.out).mono ?_); (case side1 => repeat (first | exact (Kd.R_reads' HO278.out).2.2 | (with_reducible refine Kd.C_alloc ?_ _) | (with_reducible refine Kd.C_drewN ?_ _) | (with_reducible refine Kd.C_drew ?_))); (case side2 => exact (Kd.R_reads' HO278.out).2.1); (case side3 => repeat (first | exact (Kd.R_reads' HO287.out).2.2 | (with_reducible refine Kd.C_alloc ?_ _) | (with_reducible refine Kd.C_drewN ?_ _) | (with_reducible refine Kd.C_drew ?_))); (case side4 => exact (Kd.R_reads' HO287.out).2.1); rintro e w' ⟨rfl, ⟨nd, rfl⟩⟩; refine ⟨_, rfl, ?_⟩; have hcz51_0 : w49.cell? ⟨gb272, 0, none⟩ = some (.int .u64 a0_0) := (blk_cell BK272.out 0).trans rfl; have hcz51_1 : w49.cell? ⟨gb272, 1, none⟩ = some (.int .u64 a0_1) := (blk_cell BK272.out 1).trans rfl; have hcz51_2 : w49.cell? ⟨gb272, 2, none⟩ = some (.int .u64 a0_2) := (blk_cell BK272.out 2).trans rfl; have hcz51_3 : w49.cell? ⟨gb272, 3, none⟩ = some (.string a0_3) := (blk_cell BK272.out 3).trans rfl; have hcz51_4 : w49.cell? ⟨gb272, 4, none⟩ = some (.string a0_4) := (blk_cell BK272.out 4).trans rfl; have hcz51_5 : w49.cell? ⟨gb272, 5, none⟩ = some (.int .i64 a0_5) := (blk_cell BK272.out 5).trans rfl; have hcz51_6 : w49.cell? ⟨gb272, 6, none⟩ = some (.int .i64 a0_6) := (blk_cell BK272.out 6).trans rfl; have hcz51_7 : w49.cell? ⟨gb272, 7, none⟩ = some (.int .i64 a0_7) := (blk_cell BK272.out 7).trans rfl; have hcz51_8 : w49.cell? ⟨gb272, 8, none⟩ = some (.slice A0_8 l0_8.length c0_8) := (blk_cell BK272.out 8).trans rfl; have hcz51_9 : w49.cell? ⟨gb272, 9, none⟩ = some (.slice A0_9 l0_9.length c0_9) := (blk_cell BK272.out 9).trans rfl; have hcz51_10 : w49.cell? ⟨gb272, 10, none⟩ = some (.slice A0_10 l0_10.length c0_10) := (blk_cell BK272.out 10).trans rfl; have hfz51_0 := blk_frozen BK272.out 0; have hfz51_1 := blk_frozen BK272.out 1; have hfz51_2 := blk_frozen BK272.out 2; have hfz51_3 := blk_frozen BK272.out 3; have hfz51_4 := blk_frozen BK272.out 4; have hfz51_5 := blk_frozen BK272.out 5; have hfz51_6 := blk_frozen BK272.out 6; have hfz51_7 := blk_frozen BK272.out 7; have hfz51_8 := blk_frozen BK272.out 8; have hfz51_9 := blk_frozen BK272.out 9; have hfz51_10 := blk_frozen BK272.out 10) | (go_at_call 21; (with_reducible refine (cambiumref18_Index.calls kj4 a1 a0_0 a0_1 a0_2 a0_3 a0_4 a0_5 a0_6 a0_7 _ _ l0_8 _ _ l0_9 _ _ l0_10 t289 _ ?side1 ?side2 ?side3 ?side4 ?side5 ?side6 A31.out).mono ?_); (case side1 => repeat (first | exact (Kd.C_below HR0_8.out q10y0) | (with_reducible refine Kd.C_alloc ?_ _) | (with_reducible refine Kd.C_drewN ?_ _) | (with_reducible refine Kd.C_drew ?_))); (case side2 => exact HC0_8.out); (case side3 => repeat (first | exact (Kd.C_below HR0_9.out q10y0) | (with_reducible refine Kd.C_alloc ?_ _) | (with_reducible refine Kd.C_drewN ?_ _) | (with_reducible refine Kd.C_drew ?_))); (case side4 => exact HC0_9.out); (case side5 => repeat (first | exact (Kd.C_below HR0_10.out q10y0) | (with_reducible refine Kd.C_alloc ?_ _) | (with_reducible refine Kd.C_drewN ?_ _) | (with_reducible refine Kd.C_drew ?_))); (case side6 => exact HC0_10.out); rintro e w52 ⟨v290, rfl, ho0, hb⟩; have n0_ := Aside0.mk (Kd.R_elder' q10y1 (Kd.R_base ho0) hb); have n1_ := Aside0.mk (Kd.R_elder' q10y3 (Kd.R_base ho0) hb); have n2_ := Aside0.mk (Kd.R_elder' q10y5 (Kd.R_base ho0) hb); have n3_ := Aside0.mk (Kd.R_lower (Kd.R_new' (Kd.R_new' (Kd.R_new' ho0 (Kd.R_lt q10y1)) (Kd.R_lt q10y3)) (Kd.R_lt q10y5)) (below_size q10y0)); have n4_ := Aside0.mk (blk_below (g := gb272) (o := .cells #[.int .u64 a0_0, .int .u64 a0_1, .int .u64 a0_2, .string a0_3, .string a0_4, .int .i64 a0_5, .int .i64 a0_6, .int .i64 a0_7, .slice A0_8 l0_8.length c0_8, .slice A0_9 l0_9.length c0_9, .slice A0_10 l0_10.length c0_10] 34 (0, 0)) q10y4 hb); have n5_ := Aside0.mk (below_step q10y0 hb); clear HO278; clear HO281; clear HO287; clear BK272; clear HB; have HO278 := n0_; have HO281 := n1_; have HO287 := n2_; have HO291 := n3_; have BK272 := n4_; have HB := n5_; clear n0_ n1_ n2_ n3_ n4_ n5_; (try clear hb); (try clear hb2); (try clear hk); (try clear hi); (try clear ho0); obtain ⟨Ao53, co53, eo53⟩ := Kd.R_slice HO281.out; subst eo53; obtain ⟨Ao54, co54, eo54⟩ := Kd.R_slice HO291.out; subst eo54) | (go_at_call 10; (with_reducible refine (cambiumref01_Same.calls kj4 _ _ t279 _ _ t289 true _ ?side1 ?side2 ?side3 ?side4 A32.out).mono ?_); (case side1 => repeat (first | exact (Kd.R_reads' HO281.out).2.2 | (with_reducible refine Kd.C_alloc ?_ _) | (with_reducible refine Kd.C_drewN ?_ _) | (with_reducible refine Kd.C_drew ?_))); (case side2 => exact (Kd.R_reads' HO281.out).2.1); (case side3 => repeat (first | exact (Kd.R_reads' HO291.out).2.2 | (with_reducible refine Kd.C_alloc ?_ _) | (with_reducible refine Kd.C_drewN ?_ _) | (with_reducible refine Kd.C_drew ?_))); (case side4 => exact (Kd.R_reads' HO291.out).2.1); rintro e w' ⟨rfl, ⟨nd, rfl⟩⟩; have hcz55_0 : w52.cell? ⟨gb272, 0, none⟩ = some (.int .u64 a0_0) := (blk_cell BK272.out 0).trans rfl; have hcz55_1 : w52.cell? ⟨gb272, 1, none⟩ = some (.int .u64 a0_1) := (blk_cell BK272.out 1).trans rfl; have hcz55_2 : w52.cell? ⟨gb272, 2, none⟩ = some (.int .u64 a0_2) := (blk_cell BK272.out 2).trans rfl; have hcz55_3 : w52.cell? ⟨gb272, 3, none⟩ = some (.string a0_3) := (blk_cell BK272.out 3).trans rfl; have hcz55_4 : w52.cell? ⟨gb272, 4, none⟩ = some (.string a0_4) := (blk_cell BK272.out 4).trans rfl; have hcz55_5 : w52.cell? ⟨gb272, 5, none⟩ = some (.int .i64 a0_5) := (blk_cell BK272.out 5).trans rfl; have hcz55_6 : w52.cell? ⟨gb272, 6, none⟩ = some (.int .i64 a0_6) := (blk_cell BK272.out 6).trans rfl; have hcz55_7 : w52.cell? ⟨gb272, 7, none⟩ = some (.int .i64 a0_7) := (blk_cell BK272.out 7).trans rfl; have hcz55_8 : w52.cell? ⟨gb272, 8, none⟩ = some (.slice A0_8 l0_8.length c0_8) := (blk_cell BK272.out 8).trans rfl; have hcz55_9 : w52.cell? ⟨gb272, 9, none⟩ = some (.slice A0_9 l0_9.length c0_9) := (blk_cell BK272.out 9).trans rfl; have hcz55_10 : w52.cell? ⟨gb272, 10, none⟩ = some (.slice A0_10 l0_10.length c0_10) := (blk_cell BK272.out 10).trans rfl; have hfz55_0 := blk_frozen BK272.out 0; have hfz55_1 := blk_frozen BK272.out 1; have hfz55_2 := blk_frozen BK272.out 2; have hfz55_3 := blk_frozen BK272.out 3; have hfz55_4 := blk_frozen BK272.out 4; have hfz55_5 := blk_frozen BK272.out 5; have hfz55_6 := blk_frozen BK272.out 6; have hfz55_7 := blk_frozen BK272.out 7; have hfz55_8 := blk_frozen BK272.out 8; have hfz55_9 := blk_frozen BK272.out 9; have hfz55_10 := blk_frozen BK272.out 10))
     go_meet
     case rel => exact ⟨_, (true), q10y7, H', ⟨by have := HJ4.out; first | omega | exact Nat.le_refl _⟩, ⟨by (with_reducible repeat (first | apply Kd.R_alloc | apply Kd.R_drewN | apply Kd.R_drew)); exact Kd.R_mono HO278.out (fun _ hk => hk.1.1.2)⟩, ⟨by (with_reducible repeat (first | apply Kd.R_alloc | apply Kd.R_drewN | apply Kd.R_drew)); exact Kd.R_mono HO281.out (fun _ hk => hk.1.1.2)⟩, ⟨by (with_reducible repeat (first | refine blk_drewN ?_ _ | refine blk_drew ?_ | refine blk_alloc ?_ _)); exact BK272.out⟩, ⟨by repeat (first | (with_reducible first | exact HB.out | apply below_alloc | apply pw_below_drewN | apply below_drew1 | refine below_set ?_ GE272.out) | exact HB.out)⟩⟩
    rw [if_pos c36] at H
    have c36b0 : (t283 == a0_1) = true := beq_iff_eq.mpr c36
    have c36b1 : (t283 != a0_1) = false := bne_eq_false_iff_eq.mpr c36
    clear c36
    replace H := Option.bind_eq_some_iff.mp H
    obtain ⟨t293, A370, H⟩ := H
    replace H : ((cambiumref18_Name.f a1).bind fun t294 => (cambiumlaw18_KeyTells.j1 kj4 a1 t276 t279 (t293.toList != t294.toList))) = some r := H
    have A37 := Aside0.mk A370
    clear A370
    replace H := Option.bind_eq_some_iff.mp H
    obtain ⟨t294, A380, H⟩ := H
    replace H : (cambiumlaw18_KeyTells.j1 kj4 a1 t276 t279 (t293.toList != t294.toList)) = some r := H
    have A38 := Aside0.mk A380
    clear A380
    have H' := Aside0.mk H
    clear H
    have hcz39_0 : w27.cell? ⟨gb272, 0, none⟩ = some (.int .u64 a0_0) := (blk_cell BK272.out 0).trans rfl
    have hcz39_1 : w27.cell? ⟨gb272, 1, none⟩ = some (.int .u64 a0_1) := (blk_cell BK272.out 1).trans rfl
    have hcz39_2 : w27.cell? ⟨gb272, 2, none⟩ = some (.int .u64 a0_2) := (blk_cell BK272.out 2).trans rfl
    have hcz39_3 : w27.cell? ⟨gb272, 3, none⟩ = some (.string a0_3) := (blk_cell BK272.out 3).trans rfl
    have hcz39_4 : w27.cell? ⟨gb272, 4, none⟩ = some (.string a0_4) := (blk_cell BK272.out 4).trans rfl
    have hcz39_5 : w27.cell? ⟨gb272, 5, none⟩ = some (.int .i64 a0_5) := (blk_cell BK272.out 5).trans rfl
    have hcz39_6 : w27.cell? ⟨gb272, 6, none⟩ = some (.int .i64 a0_6) := (blk_cell BK272.out 6).trans rfl
    have hcz39_7 : w27.cell? ⟨gb272, 7, none⟩ = some (.int .i64 a0_7) := (blk_cell BK272.out 7).trans rfl
    have hcz39_8 : w27.cell? ⟨gb272, 8, none⟩ = some (.slice A0_8 l0_8.length c0_8) := (blk_cell BK272.out 8).trans rfl
    have hcz39_9 : w27.cell? ⟨gb272, 9, none⟩ = some (.slice A0_9 l0_9.length c0_9) := (blk_cell BK272.out 9).trans rfl
    have hcz39_10 : w27.cell? ⟨gb272, 10, none⟩ = some (.slice A0_10 l0_10.length c0_10) := (blk_cell BK272.out 10).trans rfl
    have hfz39_0 := blk_frozen BK272.out 0
    have hfz39_1 := blk_frozen BK272.out 1
    have hfz39_2 := blk_frozen BK272.out 2
    have hfz39_3 := blk_frozen BK272.out 3
    have hfz39_4 := blk_frozen BK272.out 4
    have hfz39_5 := blk_frozen BK272.out 5
    have hfz39_6 := blk_frozen BK272.out 6
    have hfz39_7 := blk_frozen BK272.out 7
    have hfz39_8 := blk_frozen BK272.out 8
    have hfz39_9 := blk_frozen BK272.out 9
    have hfz39_10 := blk_frozen BK272.out 10
    go_wp2_with (first | ((with_reducible refine gate_callee (f := 11) rfl ?_); refine goesL_ (some 33) rfl rfl Try.func11 (by kernel_rfl) rfl #[.agg #[.int .u64 a0_0, .int .u64 a0_1, .int .u64 a0_2, .string a0_3, .string a0_4, .int .i64 a0_5, .int .i64 a0_6, .int .i64 a0_7, .slice A0_8 l0_8.length c0_8, .slice A0_9 l0_9.length c0_9, .slice A0_10 l0_10.length c0_10]] rfl q10y2 ?_; (with_reducible refine (cambiumref18_Primary.calls kj4 a0_0 a0_1 a0_2 a0_3 a0_4 a0_5 a0_6 a0_7 _ _ l0_8 _ _ l0_9 _ _ l0_10 t285 _ ?side1 ?side2 ?side3 ?side4 ?side5 ?side6 A28.out).mono ?_); (case side1 => repeat (first | exact (Kd.C_below HR0_8.out HB.out) | (with_reducible refine Kd.C_alloc ?_ _) | (with_reducible refine Kd.C_drewN ?_ _) | (with_reducible refine Kd.C_drew ?_))); (case side2 => exact HC0_8.out); (case side3 => repeat (first | exact (Kd.C_below HR0_9.out HB.out) | (with_reducible refine Kd.C_alloc ?_ _) | (with_reducible refine Kd.C_drewN ?_ _) | (with_reducible refine Kd.C_drew ?_))); (case side4 => exact HC0_9.out); (case side5 => repeat (first | exact (Kd.C_below HR0_10.out HB.out) | (with_reducible refine Kd.C_alloc ?_ _) | (with_reducible refine Kd.C_drewN ?_ _) | (with_reducible refine Kd.C_drew ?_))); (case side6 => exact HC0_10.out); rintro e w40 ⟨v286, rfl, ho0, hb⟩; refine ⟨_, rfl, ?_⟩; have n0_ := Aside0.mk (Kd.R_elder' q10y1 (Kd.R_base ho0) hb); have n1_ := Aside0.mk (Kd.R_elder' q10y3 (Kd.R_base ho0) hb); have n2_ := Aside0.mk (Kd.R_lower (Kd.R_new' (Kd.R_new' ho0 (Kd.R_lt q10y1)) (Kd.R_lt q10y3)) (below_size q10y0)); have n3_ := Aside0.mk (blk_below (g := gb272) (o := .cells #[.int .u64 a0_0, .int .u64 a0_1, .int .u64 a0_2, .string a0_3, .string a0_4, .int .i64 a0_5, .int .i64 a0_6, .int .i64 a0_7, .slice A0_8 l0_8.length c0_8, .slice A0_9 l0_9.length c0_9, .slice A0_10 l0_10.length c0_10] 34 (0, 0)) q10y4 hb); have n4_ := Aside0.mk (below_step q10y0 hb); clear HO278; clear HO281; clear BK272; clear HB; have HO278 := n0_; have HO281 := n1_; have HO287 := n2_; have BK272 := n3_; have HB := n4_; clear n0_ n1_ n2_ n3_ n4_; (try clear hb); (try clear hb2); (try clear hk); (try clear hi); (try clear ho0); obtain ⟨Ao41, co41, eo41⟩ := Kd.R_slice HO287.out; subst eo41) | ((with_reducible refine gate_callee (f := 10) rfl ?_); refine goesL_ (some 34) rfl rfl Try.func10 (by kernel_rfl) rfl #[.slice Ao26 t276.length co26, .slice Ao41 t285.length co41] rfl q10y2 ?_; (with_reducible refine (cambiumref01_Same.calls kj4 _ _ t276 _ _ t285 true _ ?side1 ?side2 ?side3 ?side4 A29.out).mono ?_); (case side1 => repeat (first | exact (Kd.R_reads' HO278.out).2.2 | (with_reducible refine Kd.C_alloc ?_ _) | (with_reducible refine Kd.C_drewN ?_ _) | (with_reducible refine Kd.C_drew ?_))); (case side2 => exact (Kd.R_reads' HO278.out).2.1); (case side3 => repeat (first | exact (Kd.R_reads' HO287.out).2.2 | (with_reducible refine Kd.C_alloc ?_ _) | (with_reducible refine Kd.C_drewN ?_ _) | (with_reducible refine Kd.C_drew ?_))); (case side4 => exact (Kd.R_reads' HO287.out).2.1); rintro e w' ⟨rfl, ⟨nd, rfl⟩⟩; refine ⟨_, rfl, ?_⟩; have hcz42_0 : w40.cell? ⟨gb272, 0, none⟩ = some (.int .u64 a0_0) := (blk_cell BK272.out 0).trans rfl; have hcz42_1 : w40.cell? ⟨gb272, 1, none⟩ = some (.int .u64 a0_1) := (blk_cell BK272.out 1).trans rfl; have hcz42_2 : w40.cell? ⟨gb272, 2, none⟩ = some (.int .u64 a0_2) := (blk_cell BK272.out 2).trans rfl; have hcz42_3 : w40.cell? ⟨gb272, 3, none⟩ = some (.string a0_3) := (blk_cell BK272.out 3).trans rfl; have hcz42_4 : w40.cell? ⟨gb272, 4, none⟩ = some (.string a0_4) := (blk_cell BK272.out 4).trans rfl; have hcz42_5 : w40.cell? ⟨gb272, 5, none⟩ = some (.int .i64 a0_5) := (blk_cell BK272.out 5).trans rfl; have hcz42_6 : w40.cell? ⟨gb272, 6, none⟩ = some (.int .i64 a0_6) := (blk_cell BK272.out 6).trans rfl; have hcz42_7 : w40.cell? ⟨gb272, 7, none⟩ = some (.int .i64 a0_7) := (blk_cell BK272.out 7).trans rfl; have hcz42_8 : w40.cell? ⟨gb272, 8, none⟩ = some (.slice A0_8 l0_8.length c0_8) := (blk_cell BK272.out 8).trans rfl; have hcz42_9 : w40.cell? ⟨gb272, 9, none⟩ = some (.slice A0_9 l0_9.length c0_9) := (blk_cell BK272.out 9).trans rfl; have hcz42_10 : w40.cell? ⟨gb272, 10, none⟩ = some (.slice A0_10 l0_10.length c0_10) := (blk_cell BK272.out 10).trans rfl; have hfz42_0 := blk_frozen BK272.out 0; have hfz42_1 := blk_frozen BK272.out 1; have hfz42_2 := blk_frozen BK272.out 2; have hfz42_3 := blk_frozen BK272.out 3; have hfz42_4 := blk_frozen BK272.out 4; have hfz42_5 := blk_frozen BK272.out 5; have hfz42_6 := blk_frozen BK272.out 6; have hfz42_7 := blk_frozen BK272.out 7; have hfz42_8 := blk_frozen BK272.out 8; have hfz42_9 := blk_frozen BK272.out 9; have hfz42_10 := blk_frozen BK272.out 10) | (go_at_call 21; (with_reducible refine (cambiumref18_Index.calls kj4 a1 a0_0 a0_1 a0_2 a0_3 a0_4 a0_5 a0_6 a0_7 _ _ l0_8 _ _ l0_9 _ _ l0_10 t289 _ ?side1 ?side2 ?side3 ?side4 ?side5 ?side6 A31.out).mono ?_); (case side1 => repeat (first | exact (Kd.C_below HR0_8.out q10y0) | (with_reducible refine Kd.C_alloc ?_ _) | (with_reducible refine Kd.C_drewN ?_ _) | (with_reducible refine Kd.C_drew ?_))); (case side2 => exact HC0_8.out); (case side3 => repeat (first | exact (Kd.C_below HR0_9.out q10y0) | (with_reducible refine Kd.C_alloc ?_ _) | (with_reducible refine Kd.C_drewN ?_ _) | (with_reducible refine Kd.C_drew ?_))); (case side4 => exact HC0_9.out); (case side5 => repeat (first | exact (Kd.C_below HR0_10.out q10y0) | (with_reducible refine Kd.C_alloc ?_ _) | (with_reducible refine Kd.C_drewN ?_ _) | (with_reducible refine Kd.C_drew ?_))); (case side6 => exact HC0_10.out); rintro e w43 ⟨v290, rfl, ho0, hb⟩; have n0_ := Aside0.mk (Kd.R_elder' q10y1 (Kd.R_base ho0) hb); have n1_ := Aside0.mk (Kd.R_elder' q10y3 (Kd.R_base ho0) hb); have n2_ := Aside0.mk (Kd.R_elder' q10y5 (Kd.R_base ho0) hb); have n3_ := Aside0.mk (Kd.R_lower (Kd.R_new' (Kd.R_new' (Kd.R_new' ho0 (Kd.R_lt q10y1)) (Kd.R_lt q10y3)) (Kd.R_lt q10y5)) (below_size q10y0)); have n4_ := Aside0.mk (blk_below (g := gb272) (o := .cells #[.int .u64 a0_0, .int .u64 a0_1, .int .u64 a0_2, .string a0_3, .string a0_4, .int .i64 a0_5, .int .i64 a0_6, .int .i64 a0_7, .slice A0_8 l0_8.length c0_8, .slice A0_9 l0_9.length c0_9, .slice A0_10 l0_10.length c0_10] 34 (0, 0)) q10y4 hb); have n5_ := Aside0.mk (below_step q10y0 hb); clear HO278; clear HO281; clear HO287; clear BK272; clear HB; have HO278 := n0_; have HO281 := n1_; have HO287 := n2_; have HO291 := n3_; have BK272 := n4_; have HB := n5_; clear n0_ n1_ n2_ n3_ n4_ n5_; (try clear hb); (try clear hb2); (try clear hk); (try clear hi); (try clear ho0); obtain ⟨Ao44, co44, eo44⟩ := Kd.R_slice HO281.out; subst eo44; obtain ⟨Ao45, co45, eo45⟩ := Kd.R_slice HO291.out; subst eo45) | (go_at_call 10; (with_reducible refine (cambiumref01_Same.calls kj4 _ _ t279 _ _ t289 true _ ?side1 ?side2 ?side3 ?side4 A32.out).mono ?_); (case side1 => repeat (first | exact (Kd.R_reads' HO281.out).2.2 | (with_reducible refine Kd.C_alloc ?_ _) | (with_reducible refine Kd.C_drewN ?_ _) | (with_reducible refine Kd.C_drew ?_))); (case side2 => exact (Kd.R_reads' HO281.out).2.1); (case side3 => repeat (first | exact (Kd.R_reads' HO291.out).2.2 | (with_reducible refine Kd.C_alloc ?_ _) | (with_reducible refine Kd.C_drewN ?_ _) | (with_reducible refine Kd.C_drew ?_))); (case side4 => exact (Kd.R_reads' HO291.out).2.1); rintro e w' ⟨rfl, ⟨nd, rfl⟩⟩; have hcz46_0 : w43.cell? ⟨gb272, 0, none⟩ = some (.int .u64 a0_0) := (blk_cell BK272.out 0).trans rfl; have hcz46_1 : w43.cell? ⟨gb272, 1, none⟩ = some (.int .u64 a0_1) := (blk_cell BK272.out 1).trans rfl; have hcz46_2 : w43.cell? ⟨gb272, 2, none⟩ = some (.int .u64 a0_2) := (blk_cell BK272.out 2).trans rfl; have hcz46_3 : w43.cell? ⟨gb272, 3, none⟩ = some (.string a0_3) := (blk_cell BK272.out 3).trans rfl; have hcz46_4 : w43.cell? ⟨gb272, 4, none⟩ = some (.string a0_4) := (blk_cell BK272.out 4).trans rfl; have hcz46_5 : w43.cell? ⟨gb272, 5, none⟩ = some (.int .i64 a0_5) := (blk_cell BK272.out 5).trans rfl; have hcz46_6 : w43.cell? ⟨gb272, 6, none⟩ = some (.int .i64 a0_6) := (blk_cell BK272.out 6).trans rfl; have hcz46_7 : w43.cell? ⟨gb272, 7, none⟩ = some (.int .i64 a0_7) := (blk_cell BK272.out 7).trans rfl; have hcz46_8 : w43.cell? ⟨gb272, 8, none⟩ = some (.slice A0_8 l0_8.length c0_8) := (blk_cell BK272.out 8).trans rfl; have hcz46_9 : w43.cell? ⟨gb272, 9, none⟩ = some (.slice A0_9 l0_9.length c0_9) := (blk_cell BK272.out 9).trans rfl; have hcz46_10 : w43.cell? ⟨gb272, 10, none⟩ = some (.slice A0_10 l0_10.length c0_10) := (blk_cell BK272.out 10).trans rfl; have hfz46_0 := blk_frozen BK272.out 0; have hfz46_1 := blk_frozen BK272.out 1; have hfz46_2 := blk_frozen BK272.out 2; have hfz46_3 := blk_frozen BK272.out 3; have hfz46_4 := blk_frozen BK272.out 4; have hfz46_5 := blk_frozen BK272.out 5; have hfz46_6 := blk_frozen BK272.out 6; have hfz46_7 := blk_frozen BK272.out 7; have hfz46_8 := blk_frozen BK272.out 8; have hfz46_9 := blk_frozen BK272.out 9; have hfz46_10 := blk_frozen BK272.out 10) | (go_at_call 22; (with_reducible refine (key_Name.calls a1 t293 _ A37.out).mono ?_); rintro e w47 ⟨rfl, hb⟩; have n0_ := Aside0.mk (Kd.R_below q10y1 hb); have n1_ := Aside0.mk (Kd.R_below q10y3 hb); have n2_ := Aside0.mk (Kd.R_below q10y5 hb); have n3_ := Aside0.mk (Kd.R_below (by (with_reducible repeat (first | apply Kd.R_alloc | apply Kd.R_drewN | apply Kd.R_drew)); exact HO291.out) hb); have n4_ := Aside0.mk (blk_below (g := gb272) (o := .cells #[.int .u64 a0_0, .int .u64 a0_1, .int .u64 a0_2, .string a0_3, .string a0_4, .int .i64 a0_5, .int .i64 a0_6, .int .i64 a0_7, .slice A0_8 l0_8.length c0_8, .slice A0_9 l0_9.length c0_9, .slice A0_10 l0_10.length c0_10] 34 (0, 0)) q10y4 hb); have n5_ := Aside0.mk (below_step q10y0 hb); clear HO278; clear HO281; clear HO287; clear HO291; clear BK272; clear HB; have HO278 := n0_; have HO281 := n1_; have HO287 := n2_; have HO291 := n3_; have BK272 := n4_; have HB := n5_; clear n0_ n1_ n2_ n3_ n4_ n5_; (try clear hb); (try clear hb2); (try clear hk); (try clear hi)) | (go_at_call 23; (with_reducible refine (cambiumref18_Name.calls a1 t294 _ A38.out).mono ?_); rintro e w' ⟨rfl, ⟨nd, rfl⟩⟩))
    go_meet
    case rel => exact ⟨_, ((t293.toList != t294.toList)), q10y7, H', ⟨by have := HJ4.out; first | omega | exact Nat.le_refl _⟩, ⟨by (with_reducible repeat (first | apply Kd.R_alloc | apply Kd.R_drewN | apply Kd.R_drew)); exact Kd.R_mono HO278.out (fun _ hk => hk.1.1.2)⟩, ⟨by (with_reducible repeat (first | apply Kd.R_alloc | apply Kd.R_drewN | apply Kd.R_drew)); exact Kd.R_mono HO281.out (fun _ hk => hk.1.1.2)⟩, ⟨by (with_reducible repeat (first | refine blk_drewN ?_ _ | refine blk_drew ?_ | refine blk_alloc ?_ _)); exact BK272.out⟩, ⟨by repeat (first | (with_reducible first | exact HB.out | apply below_alloc | apply pw_below_drewN | apply below_drew1 | refine below_set ?_ GE272.out) | exact HB.out)⟩⟩
   case rest =>
    clear HC21
    try clear c1
    try clear c2
    try clear p2
    try clear c3
    try clear c4
    try clear c6
    try clear c7
    try clear c8
    try clear c9
    try clear c10
    try clear c11
    try clear c12
    try clear c14
    try clear c17
    try clear c20
    try clear c30
    try clear c33
    try clear c34
    try clear c35
    try clear c35b0
    try clear c35b1
    try clear c36
    try clear c36b0
    try clear c36b1
    try clear hcz11_0 hcz11_1 hcz11_10 hcz11_2 hcz11_3 hcz11_4 hcz11_5 hcz11_6 hcz11_7 hcz11_8 hcz11_9
    try clear hcz13_0 hcz13_1 hcz13_10 hcz13_2 hcz13_3 hcz13_4 hcz13_5 hcz13_6 hcz13_7 hcz13_8 hcz13_9
    try clear hcz15_0 hcz15_1 hcz15_10 hcz15_2 hcz15_3 hcz15_4 hcz15_5 hcz15_6 hcz15_7 hcz15_8 hcz15_9
    try clear hcz22_0 hcz22_1 hcz22_10 hcz22_2 hcz22_3 hcz22_4 hcz22_5 hcz22_6 hcz22_7 hcz22_8 hcz22_9
    try clear hcz24_0 hcz24_1 hcz24_10 hcz24_2 hcz24_3 hcz24_4 hcz24_5 hcz24_6 hcz24_7 hcz24_8 hcz24_9
    try clear hcz39_0 hcz39_1 hcz39_10 hcz39_2 hcz39_3 hcz39_4 hcz39_5 hcz39_6 hcz39_7 hcz39_8 hcz39_9
    try clear hcz42_0 hcz42_1 hcz42_10 hcz42_2 hcz42_3 hcz42_4 hcz42_5 hcz42_6 hcz42_7 hcz42_8 hcz42_9
    try clear hcz46_0 hcz46_1 hcz46_10 hcz46_2 hcz46_3 hcz46_4 hcz46_5 hcz46_6 hcz46_7 hcz46_8 hcz46_9
    try clear hcz48_0 hcz48_1 hcz48_10 hcz48_2 hcz48_3 hcz48_4 hcz48_5 hcz48_6 hcz48_7 hcz48_8 hcz48_9
    try clear hcz51_0 hcz51_1 hcz51_10 hcz51_2 hcz51_3 hcz51_4 hcz51_5 hcz51_6 hcz51_7 hcz51_8 hcz51_9
    try clear hcz55_0 hcz55_1 hcz55_10 hcz55_2 hcz55_3 hcz55_4 hcz55_5 hcz55_6 hcz55_7 hcz55_8 hcz55_9
    try clear hcz56_0 hcz56_1 hcz56_10 hcz56_2 hcz56_3 hcz56_4 hcz56_5 hcz56_6 hcz56_7 hcz56_8 hcz56_9
    try clear hcz59_0 hcz59_1 hcz59_10 hcz59_2 hcz59_3 hcz59_4 hcz59_5 hcz59_6 hcz59_7 hcz59_8 hcz59_9
    try clear hcz63_0 hcz63_1 hcz63_10 hcz63_2 hcz63_3 hcz63_4 hcz63_5 hcz63_6 hcz63_7 hcz63_8 hcz63_9
    try clear hcz64_0 hcz64_1 hcz64_10 hcz64_2 hcz64_3 hcz64_4 hcz64_5 hcz64_6 hcz64_7 hcz64_8 hcz64_9
    try clear hcz67_0 hcz67_1 hcz67_10 hcz67_2 hcz67_3 hcz67_4 hcz67_5 hcz67_6 hcz67_7 hcz67_8 hcz67_9
    try clear hcz71_0 hcz71_1 hcz71_10 hcz71_2 hcz71_3 hcz71_4 hcz71_5 hcz71_6 hcz71_7 hcz71_8 hcz71_9
    try clear hcz74_0 hcz74_1 hcz74_10 hcz74_2 hcz74_3 hcz74_4 hcz74_5 hcz74_6 hcz74_7 hcz74_8 hcz74_9
    try clear hcz78_0 hcz78_1 hcz78_10 hcz78_2 hcz78_3 hcz78_4 hcz78_5 hcz78_6 hcz78_7 hcz78_8 hcz78_9
    try clear hfz11_0 hfz11_1 hfz11_10 hfz11_2 hfz11_3 hfz11_4 hfz11_5 hfz11_6 hfz11_7 hfz11_8 hfz11_9
    try clear hfz13_0 hfz13_1 hfz13_10 hfz13_2 hfz13_3 hfz13_4 hfz13_5 hfz13_6 hfz13_7 hfz13_8 hfz13_9
    try clear hfz15_0 hfz15_1 hfz15_10 hfz15_2 hfz15_3 hfz15_4 hfz15_5 hfz15_6 hfz15_7 hfz15_8 hfz15_9
    try clear hfz22_0 hfz22_1 hfz22_10 hfz22_2 hfz22_3 hfz22_4 hfz22_5 hfz22_6 hfz22_7 hfz22_8 hfz22_9
    try clear hfz24_0 hfz24_1 hfz24_10 hfz24_2 hfz24_3 hfz24_4 hfz24_5 hfz24_6 hfz24_7 hfz24_8 hfz24_9
    try clear hfz39_0 hfz39_1 hfz39_10 hfz39_2 hfz39_3 hfz39_4 hfz39_5 hfz39_6 hfz39_7 hfz39_8 hfz39_9
    try clear hfz42_0 hfz42_1 hfz42_10 hfz42_2 hfz42_3 hfz42_4 hfz42_5 hfz42_6 hfz42_7 hfz42_8 hfz42_9
    try clear hfz46_0 hfz46_1 hfz46_10 hfz46_2 hfz46_3 hfz46_4 hfz46_5 hfz46_6 hfz46_7 hfz46_8 hfz46_9
    try clear hfz48_0 hfz48_1 hfz48_10 hfz48_2 hfz48_3 hfz48_4 hfz48_5 hfz48_6 hfz48_7 hfz48_8 hfz48_9
    try clear hfz51_0 hfz51_1 hfz51_10 hfz51_2 hfz51_3 hfz51_4 hfz51_5 hfz51_6 hfz51_7 hfz51_8 hfz51_9
    try clear hfz55_0 hfz55_1 hfz55_10 hfz55_2 hfz55_3 hfz55_4 hfz55_5 hfz55_6 hfz55_7 hfz55_8 hfz55_9
    try clear hfz56_0 hfz56_1 hfz56_10 hfz56_2 hfz56_3 hfz56_4 hfz56_5 hfz56_6 hfz56_7 hfz56_8 hfz56_9
    try clear hfz59_0 hfz59_1 hfz59_10 hfz59_2 hfz59_3 hfz59_4 hfz59_5 hfz59_6 hfz59_7 hfz59_8 hfz59_9
    try clear hfz63_0 hfz63_1 hfz63_10 hfz63_2 hfz63_3 hfz63_4 hfz63_5 hfz63_6 hfz63_7 hfz63_8 hfz63_9
    try clear hfz64_0 hfz64_1 hfz64_10 hfz64_2 hfz64_3 hfz64_4 hfz64_5 hfz64_6 hfz64_7 hfz64_8 hfz64_9
    try clear hfz67_0 hfz67_1 hfz67_10 hfz67_2 hfz67_3 hfz67_4 hfz67_5 hfz67_6 hfz67_7 hfz67_8 hfz67_9
    try clear hfz71_0 hfz71_1 hfz71_10 hfz71_2 hfz71_3 hfz71_4 hfz71_5 hfz71_6 hfz71_7 hfz71_8 hfz71_9
    try clear hfz74_0 hfz74_1 hfz74_10 hfz74_2 hfz74_3 hfz74_4 hfz74_5 hfz74_6 hfz74_7 hfz74_8 hfz74_9
    try clear hfz78_0 hfz78_1 hfz78_10 hfz78_2 hfz78_3 hfz78_4 hfz78_5 hfz78_6 hfz78_7 hfz78_8 hfz78_9
    try clear p2
    obtain ⟨kq, x66_20, rfl, HA, HJ20, HO_5, HO_6, BK272, HB⟩ := hcut
    cases kq with
    | zero => exact absurd HA.out (by simp [cambiumlaw18_KeyTells.j1])
    | succ kj20 =>
     have H := HA.out
     clear HA
     simp only [cambiumlaw18_KeyTells.j1] at H
     by_cases c81 : x66_20 = true
     ·subst c81
      have H1 : (some false) = some r := by rw [if_pos rfl] at H; exact H
      clear H
      have H := H1
      clear H1
      obtain rfl := Option.some.inj H
      go_wp2
      go_ret
      exact ⟨by first | rfl | (simp [errW_none, errW_some] <;> rfl) | (simp [*, errW_none, errW_some] <;> rfl), by repeat (first | (with_reducible first | exact HB.out | apply below_alloc | apply pw_below_drewN | apply below_drew1 | refine below_set ?_ GE272.out) | exact HB.out)⟩
     replace c81 := Bool.eq_false_iff.mpr c81
     subst c81
     have H1 : (if a1 < 1 then (cambiumlaw18_KeyTells.j2 kj20 t276 t279 true) else (cambiumlaw18_KeyTells.j2 kj20 t276 t279 (decide (a1 > 4)))) = some r := by rw [if_neg (show ¬ (false = true) by decide)] at H; exact H
     clear H
     have H := H1
     clear H1
     have HC82 := Aside0.mk H
     clear H
     go_upto_region 10 with (fail)
     go_cut [72] (fun v72 wc => ∃ (kq : Nat) (x72_81 : Bool), v72 = .bool x72_81 ∧ Aside0 (cambiumlaw18_KeyTells.j2 kq t276 t279 x72_81 = some r) ∧ Aside0 (kq ≤ kj20) ∧ Aside0 (Kd.R (Kd.int .u8) 5 wc w.heap.size (fun k_ => some k_ ≠ (v280 : Value).ownBlock) (.slice Ao26 t276.length co26) t276) ∧ Aside0 (Kd.R (Kd.int .u8) 5 wc w.heap.size (fun k_ => some k_ ≠ ((.slice Ao26 t276.length co26) : Value).ownBlock) v280 t279) ∧ Aside0 (wc.heap[gb272]? = some (.cells #[.int .u64 a0_0, .int .u64 a0_1, .int .u64 a0_2, .string a0_3, .string a0_4, .int .i64 a0_5, .int .i64 a0_6, .int .i64 a0_7, (.slice A0_8 l0_8.length c0_8), (.slice A0_9 l0_9.length c0_9), (.slice A0_10 l0_10.length c0_10)] 34 (0, 0))) ∧ Aside0 (Below w.heap.size w wc))
     case first =>
      have H := HC82.out
      clear HC82
      by_cases c83 : a1 < 1
      ·rw [if_pos c83] at H
       have c83b0 : decide (a1 < 1) = true := decide_eq_true c83
       clear c83
       (first | rw [c83b0] | (simp only [i64_w, i32_w]; rw [c83b0]) | skip)
       have H' := Aside0.mk H
       clear H
       go_wp2
       go_meet
       case rel => exact ⟨_, (true), q10y7, H', ⟨by have := HJ4.out; have := HJ20.out; first | omega | exact Nat.le_refl _⟩, ⟨by (with_reducible repeat (first | apply Kd.R_alloc | apply Kd.R_drewN | apply Kd.R_drew)); exact HO_5.out⟩, ⟨by (with_reducible repeat (first | apply Kd.R_alloc | apply Kd.R_drewN | apply Kd.R_drew)); exact HO_6.out⟩, ⟨by (with_reducible repeat (first | refine blk_drewN ?_ _ | refine blk_drew ?_ | refine blk_alloc ?_ _)); exact BK272.out⟩, ⟨by repeat (first | (with_reducible first | exact HB.out | apply below_alloc | apply pw_below_drewN | apply below_drew1 | refine below_set ?_ GE272.out) | exact HB.out)⟩⟩
      rw [if_neg c83] at H
      have c83b0 : decide (a1 < 1) = false := decide_eq_false c83
      clear c83
      (first | rw [c83b0] | (simp only [i64_w, i32_w]; rw [c83b0]) | skip)
      have H' := Aside0.mk H
      clear H
      go_wp2
      go_meet
      case rel => exact ⟨_, (decide (a1 > 4)), q10y7, H', ⟨by have := HJ4.out; have := HJ20.out; first | omega | exact Nat.le_refl _⟩, ⟨by (with_reducible repeat (first | apply Kd.R_alloc | apply Kd.R_drewN | apply Kd.R_drew)); exact HO_5.out⟩, ⟨by (with_reducible repeat (first | apply Kd.R_alloc | apply Kd.R_drewN | apply Kd.R_drew)); exact HO_6.out⟩, ⟨by (with_reducible repeat (first | refine blk_drewN ?_ _ | refine blk_drew ?_ | refine blk_alloc ?_ _)); exact BK272.out⟩, ⟨by repeat (first | (with_reducible first | exact HB.out | apply below_alloc | apply pw_below_drewN | apply below_drew1 | refine below_set ?_ GE272.out) | exact HB.out)⟩⟩
     case rest =>
      clear HC82
      try clear c1
      try clear c2
      try clear p2
      try clear c3
      try clear c4
      try clear c6
      try clear c7
      try clear c8
      try clear c9
      try clear c10
      try clear c11
      try clear c12
      try clear c14
      try clear c17
      try clear c20
      try clear c30
      try clear c33
      try clear c34
      try clear c35
      try clear c35b0
      try clear c35b1
      try clear c36
      try clear c36b0
      try clear c36b1
      try clear c81
      try clear c83
      try clear c83b0
      try clear hcz11_0 hcz11_1 hcz11_10 hcz11_2 hcz11_3 hcz11_4 hcz11_5 hcz11_6 hcz11_7 hcz11_8 hcz11_9
      try clear hcz13_0 hcz13_1 hcz13_10 hcz13_2 hcz13_3 hcz13_4 hcz13_5 hcz13_6 hcz13_7 hcz13_8 hcz13_9
      try clear hcz15_0 hcz15_1 hcz15_10 hcz15_2 hcz15_3 hcz15_4 hcz15_5 hcz15_6 hcz15_7 hcz15_8 hcz15_9
      try clear hcz22_0 hcz22_1 hcz22_10 hcz22_2 hcz22_3 hcz22_4 hcz22_5 hcz22_6 hcz22_7 hcz22_8 hcz22_9
      try clear hcz24_0 hcz24_1 hcz24_10 hcz24_2 hcz24_3 hcz24_4 hcz24_5 hcz24_6 hcz24_7 hcz24_8 hcz24_9
      try clear hcz39_0 hcz39_1 hcz39_10 hcz39_2 hcz39_3 hcz39_4 hcz39_5 hcz39_6 hcz39_7 hcz39_8 hcz39_9
      try clear hcz42_0 hcz42_1 hcz42_10 hcz42_2 hcz42_3 hcz42_4 hcz42_5 hcz42_6 hcz42_7 hcz42_8 hcz42_9
      try clear hcz46_0 hcz46_1 hcz46_10 hcz46_2 hcz46_3 hcz46_4 hcz46_5 hcz46_6 hcz46_7 hcz46_8 hcz46_9
      try clear hcz48_0 hcz48_1 hcz48_10 hcz48_2 hcz48_3 hcz48_4 hcz48_5 hcz48_6 hcz48_7 hcz48_8 hcz48_9
      try clear hcz51_0 hcz51_1 hcz51_10 hcz51_2 hcz51_3 hcz51_4 hcz51_5 hcz51_6 hcz51_7 hcz51_8 hcz51_9
      try clear hcz55_0 hcz55_1 hcz55_10 hcz55_2 hcz55_3 hcz55_4 hcz55_5 hcz55_6 hcz55_7 hcz55_8 hcz55_9
      try clear hcz56_0 hcz56_1 hcz56_10 hcz56_2 hcz56_3 hcz56_4 hcz56_5 hcz56_6 hcz56_7 hcz56_8 hcz56_9
      try clear hcz59_0 hcz59_1 hcz59_10 hcz59_2 hcz59_3 hcz59_4 hcz59_5 hcz59_6 hcz59_7 hcz59_8 hcz59_9
      try clear hcz63_0 hcz63_1 hcz63_10 hcz63_2 hcz63_3 hcz63_4 hcz63_5 hcz63_6 hcz63_7 hcz63_8 hcz63_9
      try clear hcz64_0 hcz64_1 hcz64_10 hcz64_2 hcz64_3 hcz64_4 hcz64_5 hcz64_6 hcz64_7 hcz64_8 hcz64_9
      try clear hcz67_0 hcz67_1 hcz67_10 hcz67_2 hcz67_3 hcz67_4 hcz67_5 hcz67_6 hcz67_7 hcz67_8 hcz67_9
      try clear hcz71_0 hcz71_1 hcz71_10 hcz71_2 hcz71_3 hcz71_4 hcz71_5 hcz71_6 hcz71_7 hcz71_8 hcz71_9
      try clear hcz74_0 hcz74_1 hcz74_10 hcz74_2 hcz74_3 hcz74_4 hcz74_5 hcz74_6 hcz74_7 hcz74_8 hcz74_9
      try clear hcz78_0 hcz78_1 hcz78_10 hcz78_2 hcz78_3 hcz78_4 hcz78_5 hcz78_6 hcz78_7 hcz78_8 hcz78_9
      try clear hfz11_0 hfz11_1 hfz11_10 hfz11_2 hfz11_3 hfz11_4 hfz11_5 hfz11_6 hfz11_7 hfz11_8 hfz11_9
      try clear hfz13_0 hfz13_1 hfz13_10 hfz13_2 hfz13_3 hfz13_4 hfz13_5 hfz13_6 hfz13_7 hfz13_8 hfz13_9
      try clear hfz15_0 hfz15_1 hfz15_10 hfz15_2 hfz15_3 hfz15_4 hfz15_5 hfz15_6 hfz15_7 hfz15_8 hfz15_9
      try clear hfz22_0 hfz22_1 hfz22_10 hfz22_2 hfz22_3 hfz22_4 hfz22_5 hfz22_6 hfz22_7 hfz22_8 hfz22_9
      try clear hfz24_0 hfz24_1 hfz24_10 hfz24_2 hfz24_3 hfz24_4 hfz24_5 hfz24_6 hfz24_7 hfz24_8 hfz24_9
      try clear hfz39_0 hfz39_1 hfz39_10 hfz39_2 hfz39_3 hfz39_4 hfz39_5 hfz39_6 hfz39_7 hfz39_8 hfz39_9
      try clear hfz42_0 hfz42_1 hfz42_10 hfz42_2 hfz42_3 hfz42_4 hfz42_5 hfz42_6 hfz42_7 hfz42_8 hfz42_9
      try clear hfz46_0 hfz46_1 hfz46_10 hfz46_2 hfz46_3 hfz46_4 hfz46_5 hfz46_6 hfz46_7 hfz46_8 hfz46_9
      try clear hfz48_0 hfz48_1 hfz48_10 hfz48_2 hfz48_3 hfz48_4 hfz48_5 hfz48_6 hfz48_7 hfz48_8 hfz48_9
      try clear hfz51_0 hfz51_1 hfz51_10 hfz51_2 hfz51_3 hfz51_4 hfz51_5 hfz51_6 hfz51_7 hfz51_8 hfz51_9
      try clear hfz55_0 hfz55_1 hfz55_10 hfz55_2 hfz55_3 hfz55_4 hfz55_5 hfz55_6 hfz55_7 hfz55_8 hfz55_9
      try clear hfz56_0 hfz56_1 hfz56_10 hfz56_2 hfz56_3 hfz56_4 hfz56_5 hfz56_6 hfz56_7 hfz56_8 hfz56_9
      try clear hfz59_0 hfz59_1 hfz59_10 hfz59_2 hfz59_3 hfz59_4 hfz59_5 hfz59_6 hfz59_7 hfz59_8 hfz59_9
      try clear hfz63_0 hfz63_1 hfz63_10 hfz63_2 hfz63_3 hfz63_4 hfz63_5 hfz63_6 hfz63_7 hfz63_8 hfz63_9
      try clear hfz64_0 hfz64_1 hfz64_10 hfz64_2 hfz64_3 hfz64_4 hfz64_5 hfz64_6 hfz64_7 hfz64_8 hfz64_9
      try clear hfz67_0 hfz67_1 hfz67_10 hfz67_2 hfz67_3 hfz67_4 hfz67_5 hfz67_6 hfz67_7 hfz67_8 hfz67_9
      try clear hfz71_0 hfz71_1 hfz71_10 hfz71_2 hfz71_3 hfz71_4 hfz71_5 hfz71_6 hfz71_7 hfz71_8 hfz71_9
      try clear hfz74_0 hfz74_1 hfz74_10 hfz74_2 hfz74_3 hfz74_4 hfz74_5 hfz74_6 hfz74_7 hfz74_8 hfz74_9
      try clear hfz78_0 hfz78_1 hfz78_10 hfz78_2 hfz78_3 hfz78_4 hfz78_5 hfz78_6 hfz78_7 hfz78_8 hfz78_9
      try clear p2
      obtain ⟨kq, x72_81, rfl, HA, HJ81, HO_5, HO_6, BK272, HB⟩ := hcut
      cases kq with
      | zero => exact absurd HA.out (by simp [cambiumlaw18_KeyTells.j2])
      | succ kj81 =>
       have H := HA.out
       clear HA
       simp only [cambiumlaw18_KeyTells.j2] at H
       by_cases c84 : x72_81 = true
       ·subst c84
        have H1 : (some ((t279.length : Int) == 0)) = some r := by rw [if_pos rfl] at H; exact H
        clear H
        have H := H1
        clear H1
        obtain rfl := Option.some.inj H
        obtain ⟨Ao85, co85, eo85⟩ := Kd.R_slice HO_6.out
        subst eo85
        go_wp2
        go_ret
        exact ⟨by first | rfl | (simp [errW_none, errW_some] <;> rfl) | (simp [*, errW_none, errW_some] <;> rfl), by repeat (first | (with_reducible first | exact HB.out | apply below_alloc | apply pw_below_drewN | apply below_drew1 | refine below_set ?_ GE272.out) | exact HB.out)⟩
       replace c84 := Bool.eq_false_iff.mpr c84
       subst c84
       have H1 : (if (t279.length : Int) ≤ 100 then ((key_Tail.f t279).bind fun t295 => ((cambiumref01_Same.f kj81 t295 t276).bind fun t298 => (some t298))) else (some false)) = some r := by rw [if_neg (show ¬ (false = true) by decide)] at H; exact H
       clear H
       have H := H1
       clear H1
       by_cases c86 : (t279.length : Int) ≤ 100
       rotate_left
       ·rw [if_neg c86] at H
        have c86b0 : decide ((t279.length : Int) ≤ 100) = false := decide_eq_false c86
        have c86b1 : decide (t279.length ≤ 100) = false := decide_eq_false (by omega)
        clear c86
        obtain rfl := Option.some.inj H
        obtain ⟨Ao92, co92, eo92⟩ := Kd.R_slice HO_6.out
        subst eo92
        go_wp2
        go_ret
        exact ⟨by first | rfl | (simp [errW_none, errW_some] <;> rfl) | (simp [*, errW_none, errW_some] <;> rfl), by repeat (first | (with_reducible first | exact HB.out | apply below_alloc | apply pw_below_drewN | apply below_drew1 | refine below_set ?_ GE272.out) | exact HB.out)⟩
       rw [if_pos c86] at H
       have c86b0 : decide ((t279.length : Int) ≤ 100) = true := decide_eq_true c86
       have c86b1 : decide (t279.length ≤ 100) = true := decide_eq_true (by omega)
       clear c86
       replace H := Option.bind_eq_some_iff.mp H
       obtain ⟨t295, A870, H⟩ := H
       replace H : ((cambiumref01_Same.f kj81 t295 t276).bind fun t298 => (some t298)) = some r := H
       have A87 := Aside0.mk A870
       clear A870
       replace H := Option.bind_eq_some_iff.mp H
       obtain ⟨t298, A880, H⟩ := H
       replace H : (some t298) = some r := H
       have A88 := Aside0.mk A880
       clear A880
       obtain rfl := Option.some.inj H
       obtain ⟨Ao89, co89, eo89⟩ := Kd.R_slice HO_6.out
       subst eo89
       go_wp2_with (first | (go_at_call 9; (with_reducible refine (key_Tail.calls _ _ t279 t295 _ ?side1 ?side2 A87.out).mono ?_); (case side1 => repeat (first | exact (Kd.R_reads' HO_6.out).2.2 | (with_reducible refine Kd.C_alloc ?_ _) | (with_reducible refine Kd.C_drewN ?_ _) | (with_reducible refine Kd.C_drew ?_))); (case side2 => exact (Kd.R_reads' HO_6.out).2.1); rintro e w90 ⟨v296, rfl, ho0, hb⟩; have n0_ := Aside0.mk (Kd.R_elder' (by (with_reducible repeat (first | apply Kd.R_alloc | apply Kd.R_drewN | apply Kd.R_drew)); exact HO_5.out) (Kd.R_base ho0) hb); have n1_ := Aside0.mk (Kd.R_elder' (by (with_reducible repeat (first | apply Kd.R_alloc | apply Kd.R_drewN | apply Kd.R_drew)); exact HO_6.out) (Kd.R_base ho0) hb); have n2_ := Aside0.mk (Kd.R_lower (Kd.R_new' (Kd.R_new' ho0 (Kd.R_lt (by (with_reducible repeat (first | apply Kd.R_alloc | apply Kd.R_drewN | apply Kd.R_drew)); exact HO_5.out))) (Kd.R_lt (by (with_reducible repeat (first | apply Kd.R_alloc | apply Kd.R_drewN | apply Kd.R_drew)); exact HO_6.out))) (below_size q10y0)); have n3_ := Aside0.mk (blk_below (g := gb272) (o := .cells #[.int .u64 a0_0, .int .u64 a0_1, .int .u64 a0_2, .string a0_3, .string a0_4, .int .i64 a0_5, .int .i64 a0_6, .int .i64 a0_7, .slice A0_8 l0_8.length c0_8, .slice A0_9 l0_9.length c0_9, .slice A0_10 l0_10.length c0_10] 34 (0, 0)) q10y4 hb); have n4_ := Aside0.mk (below_step q10y0 hb); clear HO_5; clear HO_6; clear BK272; clear HB; have HO_5 := n0_; have HO_6 := n1_; have HO297 := n2_; have BK272 := n3_; have HB := n4_; clear n0_ n1_ n2_ n3_ n4_; (try clear hb); (try clear hb2); (try clear hk); (try clear hi); (try clear ho0); obtain ⟨Ao91, co91, eo91⟩ := Kd.R_slice HO297.out; subst eo91) | (go_at_call 10; (with_reducible refine (cambiumref01_Same.calls kj81 _ _ t295 _ _ t276 t298 _ ?side1 ?side2 ?side3 ?side4 A88.out).mono ?_); (case side1 => repeat (first | exact (Kd.R_reads' HO297.out).2.2 | (with_reducible refine Kd.C_alloc ?_ _) | (with_reducible refine Kd.C_drewN ?_ _) | (with_reducible refine Kd.C_drew ?_))); (case side2 => exact (Kd.R_reads' HO297.out).2.1); (case side3 => repeat (first | exact (Kd.R_reads' HO_5.out).2.2 | (with_reducible refine Kd.C_alloc ?_ _) | (with_reducible refine Kd.C_drewN ?_ _) | (with_reducible refine Kd.C_drew ?_))); (case side4 => exact (Kd.R_reads' HO_5.out).2.1); rintro e w' ⟨rfl, ⟨nd, rfl⟩⟩))
       go_ret
       exact ⟨by first | rfl | (simp [errW_none, errW_some] <;> rfl) | (simp [*, errW_none, errW_some] <;> rfl), by repeat (first | (with_reducible first | exact HB.out | apply below_alloc | apply pw_below_drewN | apply below_drew1 | refine below_set ?_ GE272.out) | exact HB.out)⟩
end Go.Proofs.Ytenmjbcedadcbaa.PAll
