/- PageTurned's plain facts; the reference's Open, by hand. -/
import Derived.Test.YtmbhedlplmbfoaaPageFacts
import Derived.Test.YtmbhedlplmbfoaaTurned
import Derived.Test.YtmbhedlplmbfoaaSame
import Derived.Outline
namespace Go.Proofs.Ytmbhedlplmbfoaa.PAll
open Go.RowKit Go.Proofs.YtmbhedlplmbfoaaW.PrintWords Go.Proofs.YtmbhedlplmbfoaaW.PrintLast Go.Proofs.YtmbhedlplmbfoaaW.PrintMore Go.Proofs.Ytmbhedlplmbfoaa.Math
set_option linter.unusedVariables false
set_option linter.unusedSimpArgs false

theorem turned_left {p : List Int} (q : List Int) {y0 y1 y2 y3 : Int} {i : Nat} (hi : i + 3 < p.length) : turned (p ++ q) [y0, y1, y2, y3] i 4 = turned p [y0, y1, y2, y3] i 4 ++ q := by
  obtain ⟨p, a, b, c, d, r, rfl, rfl⟩ := split4 hi
  rw [turned_split]
  have := turned_split p (r ++ q) a b c d y0 y1 y2 y3
  rw [← List.append_assoc] at this
  rw [this, List.append_assoc, List.append_assoc, List.append_assoc]
theorem vbig_four (a b c d : Int) : vbig [a, b, c, d] = ((a * 256 + b) * 256 + c) * 256 + d := by simp [vbig]
theorem be4_bytes {a b c d : Int} (ha : 0 ≤ a ∧ a < 256) (hb : 0 ≤ b ∧ b < 256) (hc : 0 ≤ c ∧ c < 256) (hd : 0 ≤ d ∧ d < 256) : be4 (((a * 256 + b) * 256 + c) * 256 + d) = [a, b, c, d] := by
  unfold be4
  rw [show (((a * 256 + b) * 256 + c) * 256 + d) / 16777216 % 256 = a by omega, show (((a * 256 + b) * 256 + c) * 256 + d) / 65536 % 256 = b by omega, show (((a * 256 + b) * 256 + c) * 256 + d) / 256 % 256 = c by omega, show (((a * 256 + b) * 256 + c) * 256 + d) % 256 = d by omega]
theorem four_cells {l : List Int} (h : l.length = 4) : ∃ a b c d, l = [a, b, c, d] := by
  match l, h with
  | [a, b, c, d], _ => exact ⟨a, b, c, d, rfl⟩
theorem be4_vbig {l : List Int} (hb : IsB l) (h : l.length = 4) : be4 (vbig l) = l := by
  obtain ⟨a, b, c, d, rfl⟩ := four_cells h
  rw [vbig_four, be4_bytes (hb a (by simp)) (hb b (by simp)) (hb c (by simp)) (hb d (by simp))]
theorem isB_part {l m : List Int} (h : IsB l) (hm : ∀ x ∈ m, x ∈ l) : IsB m := fun x hx => h x (hm x hx)

/-- A page opens just if it is the page of what it says. -/
theorem again_iff {no : Int} {Q : List Int} (hb : IsB Q) (hl : Q.length = 1024) (h0 : 0 ≤ no) (h1 : no < 4294967296) : pageOf no (Q.take 1016) = Q ↔ opens no Q := by
  have hm : (Q.take 1016).length = 1016 := by rw [List.length_take]; omega
  have hbm : IsB (Q.take 1016) := isB_part hb (fun x hx => List.mem_of_mem_take hx)
  constructor
  · intro h
    have := (page_opens (other := no) (by omega) hbm h0 h1).2 rfl
    rwa [h] at this
  · rintro ⟨hs, hn⟩
    have e1 : be4 no = (Q.take 1020).drop 1016 := by
      rw [← hn]
      exact be4_vbig (isB_part hb (fun x hx => List.mem_of_mem_take (List.mem_of_mem_drop hx))) (by rw [List.length_drop, List.length_take]; omega)
    have e2 : be4 (crcSum (Q.take 1020)) = Q.drop 1020 := by
      rw [← hs]
      exact be4_vbig (isB_part hb (fun x hx => List.mem_of_mem_drop hx)) (by rw [List.length_drop]; omega)
    have e3 : body no (Q.take 1016) = Q.take 1020 := by
      unfold body
      rw [hm, e1, show 1016 - 1016 = 0 from rfl, List.replicate_zero, List.append_nil]
      have := List.take_append_drop 1016 (Q.take 1020)
      rwa [List.take_take, show min 1016 1020 = 1016 from rfl] at this
    unfold pageOf
    rw [e3, e2, List.take_append_drop]

theorem turned_opens {no : Int} {l : List Int} {y0 y1 y2 y3 : Int} {i : Nat} (hi : i ≤ 1020) (hb : IsB l) (hl : l.length ≤ 1016) (h0 : 0 ≤ no) (h1 : no < 4294967296) (hy : IsB [y0, y1, y2, y3]) :
    opens no (turned (pageOf no l) [y0, y1, y2, y3] i 4) ↔ (y0 = 0 ∧ y1 = 0 ∧ y2 = 0 ∧ y3 = 0) := by
  have hlen := page_len (no := no) hl
  have hpb := page_isB (no := no) hb
  constructor
  · intro ho
    have cb : 0 ≤ crcSum (body no l) ∧ crcSum (body no l) < 4294967296 := crcMore_bounds 0 _
    have hbl := body_len (no := no) hl
    by_cases hc : i + 4 ≤ 1020
    · have e : turned (pageOf no l) [y0, y1, y2, y3] i 4 = turned (body no l) [y0, y1, y2, y3] i 4 ++ be4 (crcSum (body no l)) := turned_left _ (by omega)
      obtain ⟨hs, _⟩ := ho
      have htl : (turned (body no l) [y0, y1, y2, y3] i 4).length = 1020 := by rw [turned_len, hbl]
      rw [e, List.drop_left' htl, List.take_left' htl, vbig_be4 cb.1 cb.2] at hs
      exact (turned_sum (by omega) (body_isB hb) hy).1 hs.symm
    · have z0 := hy y0 (by simp); have z1 := hy y1 (by simp); have z2 := hy y2 (by simp); have z3 := hy y3 (by simp)
      obtain ⟨Z, hZ⟩ : ∃ Z, Z = l ++ List.replicate (1016 - l.length) (0 : Int) := ⟨_, rfl⟩
      have hZl : Z.length = 1016 := by rw [hZ]; simp; omega
      obtain ⟨n0, n1, n2, n3, hn⟩ := four_cells (l := be4 no) rfl
      obtain ⟨s0, s1, s2, s3, hs⟩ := four_cells (l := be4 (crcSum (body no l))) rfl
      have hbody : body no l = Z ++ [n0, n1, n2, n3] := by unfold body; rw [← hZ, hn]
      have hP : pageOf no l = Z ++ [n0, n1, n2, n3, s0, s1, s2, s3] := by unfold pageOf; rw [hs, hbody]; simp
      have vno : vbig [n0, n1, n2, n3] = no := by rw [← hn]; exact vbig_be4 h0 h1
      have vs : vbig [s0, s1, s2, s3] = crcSum (body no l) := by rw [← hs]; exact vbig_be4 cb.1 cb.2
      rw [vbig_four] at vno vs
      rw [hP] at hpb
      have b0 := hpb n0 (by simp); have b1 := hpb n1 (by simp); have b2 := hpb n2 (by simp); have b3 := hpb n3 (by simp)
      have c0 := hpb s0 (by simp); have c1 := hpb s1 (by simp); have c2 := hpb s2 (by simp); have c3 := hpb s3 (by simp)
      have key : ∀ (N S : List Int), N.length = 4 → opens no (Z ++ (N ++ S)) → vbig N = no ∧ vbig S = crcSum (Z ++ N) := by
        intro N S hN ⟨h1, h2⟩
        have hZN : (Z ++ N).length = 1020 := by rw [List.length_append]; omega
        rw [← List.append_assoc, List.drop_left' hZN, List.take_left' hZN] at h1
        rw [← List.append_assoc, List.take_left' hZN, List.drop_left' hZl] at h2
        exact ⟨h2, h1⟩
      rw [hP] at ho
      have hcases : i = 1017 ∨ i = 1018 ∨ i = 1019 ∨ i = 1020 := by omega
      rcases hcases with rfl | rfl | rfl | rfl
      · have e := turned_split (Z ++ [n0]) [s1, s2, s3] n1 n2 n3 s0 y0 y1 y2 y3
        have x0 := bx_bounds b1 z0; have x1 := bx_bounds b2 z1; have x2 := bx_bounds b3 z2; have x3 := bx_bounds c0 z3
        have hp : (Z ++ [n0]).length = 1017 := by rw [List.length_append]; simp; omega
        rw [hp] at e
        rw [show Z ++ [n0, n1, n2, n3, s0, s1, s2, s3] = Z ++ [n0] ++ [n1, n2, n3, s0] ++ [s1, s2, s3] by simp, e] at ho
        obtain ⟨k1, k2⟩ := key [n0, bx n1 y0, bx n2 y1, bx n3 y2] [bx s0 y3, s1, s2, s3] rfl (by simpa using ho)
        rw [vbig_four] at k1 k2
        have q0 : bx n1 y0 = n1 := by omega
        have q1 : bx n2 y1 = n2 := by omega
        have q2 : bx n3 y2 = n3 := by omega
        rw [q0, q1, q2, ← hbody] at k2
        have q3 : bx s0 y3 = s0 := by omega
        exact ⟨(bx_same b1 z0).1 q0, (bx_same b2 z1).1 q1, (bx_same b3 z2).1 q2, (bx_same c0 z3).1 q3⟩
      · have e := turned_split (Z ++ [n0, n1]) [s2, s3] n2 n3 s0 s1 y0 y1 y2 y3
        have x0 := bx_bounds b2 z0; have x1 := bx_bounds b3 z1; have x2 := bx_bounds c0 z2; have x3 := bx_bounds c1 z3
        have hp : (Z ++ [n0, n1]).length = 1018 := by rw [List.length_append]; simp; omega
        rw [hp] at e
        rw [show Z ++ [n0, n1, n2, n3, s0, s1, s2, s3] = Z ++ [n0, n1] ++ [n2, n3, s0, s1] ++ [s2, s3] by simp, e] at ho
        obtain ⟨k1, k2⟩ := key [n0, n1, bx n2 y0, bx n3 y1] [bx s0 y2, bx s1 y3, s2, s3] rfl (by simpa using ho)
        rw [vbig_four] at k1 k2
        have q0 : bx n2 y0 = n2 := by omega
        have q1 : bx n3 y1 = n3 := by omega
        rw [q0, q1, ← hbody] at k2
        have q2 : bx s0 y2 = s0 := by omega
        have q3 : bx s1 y3 = s1 := by omega
        exact ⟨(bx_same b2 z0).1 q0, (bx_same b3 z1).1 q1, (bx_same c0 z2).1 q2, (bx_same c1 z3).1 q3⟩
      · have e := turned_split (Z ++ [n0, n1, n2]) [s3] n3 s0 s1 s2 y0 y1 y2 y3
        have x0 := bx_bounds b3 z0; have x1 := bx_bounds c0 z1; have x2 := bx_bounds c1 z2; have x3 := bx_bounds c2 z3
        have hp : (Z ++ [n0, n1, n2]).length = 1019 := by rw [List.length_append]; simp; omega
        rw [hp] at e
        rw [show Z ++ [n0, n1, n2, n3, s0, s1, s2, s3] = Z ++ [n0, n1, n2] ++ [n3, s0, s1, s2] ++ [s3] by simp, e] at ho
        obtain ⟨k1, k2⟩ := key [n0, n1, n2, bx n3 y0] [bx s0 y1, bx s1 y2, bx s2 y3, s3] rfl (by simpa using ho)
        rw [vbig_four] at k1 k2
        have q0 : bx n3 y0 = n3 := by omega
        rw [q0, ← hbody] at k2
        have q1 : bx s0 y1 = s0 := by omega
        have q2 : bx s1 y2 = s1 := by omega
        have q3 : bx s2 y3 = s2 := by omega
        exact ⟨(bx_same b3 z0).1 q0, (bx_same c0 z1).1 q1, (bx_same c1 z2).1 q2, (bx_same c2 z3).1 q3⟩
      · have e := turned_split (Z ++ [n0, n1, n2, n3]) [] s0 s1 s2 s3 y0 y1 y2 y3
        have x0 := bx_bounds c0 z0; have x1 := bx_bounds c1 z1; have x2 := bx_bounds c2 z2; have x3 := bx_bounds c3 z3
        have hp : (Z ++ [n0, n1, n2, n3]).length = 1020 := by rw [List.length_append]; simp; omega
        rw [hp] at e
        rw [show Z ++ [n0, n1, n2, n3, s0, s1, s2, s3] = Z ++ [n0, n1, n2, n3] ++ [s0, s1, s2, s3] ++ [] by simp, e] at ho
        obtain ⟨k1, k2⟩ := key [n0, n1, n2, n3] [bx s0 y0, bx s1 y1, bx s2 y2, bx s3 y3] rfl (by simpa using ho)
        rw [vbig_four] at k1 k2
        rw [← hbody] at k2
        have q0 : bx s0 y0 = s0 := by omega
        have q1 : bx s1 y1 = s1 := by omega
        have q2 : bx s2 y2 = s2 := by omega
        have q3 : bx s3 y3 = s3 := by omega
        exact ⟨(bx_same c0 z0).1 q0, (bx_same c1 z1).1 q1, (bx_same c2 z2).1 q2, (bx_same c3 z3).1 q3⟩
  · intro h
    rw [(turned_zero (by omega) hpb hy).2 h]
    exact (page_opens hl hb h0 h1).2 rfl

end Go.Proofs.Ytmbhedlplmbfoaa.PAll
