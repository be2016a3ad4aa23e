/- The plain law of GeometryDistances: what the printed functions compute answers true. By this session. -/
import Derived.Test.YtcdgpnjlaicbcaaPAx35
import Derived.Test.YtcdgpnjlaicbcaaGeoAtA
set_option linter.unusedVariables false
set_option linter.unusedSimpArgs false
namespace Go.Proofs.Ytcdgpnjlaicbcaa.Pure
open Go.RowKit Go.Proofs.YtcdgpnjlaicbcaaW.PrintWords Go.Proofs.YtcdgpnjlaicbcaaW.PrintLast Go.Proofs.YtcdgpnjlaicbcaaW.PrintMore Go.Proofs.Ytcdgpnjlaicbcaa.PA Go.Proofs.Ytcdgpnjlaicbcaa.Geo
theorem fall_mono {p q m n : Int} (hp : 0 ≤ p) (hm : 0 < m) (h : p ≤ q) (h' : m ≤ n) : fall p n ≤ fall q m := by
  unfold fall
  refine Int.le_ediv_of_mul_le hm ?_
  have h1 : p * 100 / n * n ≤ p * 100 := Int.ediv_mul_le _ (by omega)
  have h2 : 0 ≤ p * 100 / n := Int.ediv_nonneg (by omega) (by omega)
  have h3 := Int.mul_le_mul_of_nonneg_left h' h2
  omega
theorem dist_mono {ex p q m n : Int} (hp : okPw p) (hm : 100 ≤ m) (h : p ≤ q) (h' : m ≤ n) : dist ex p n ≤ dist ex q m := by
  have h1 := fall_mono (p := p) (q := q) (m := m) (n := n) hp.1 (by omega) h h'
  unfold dist
  split
  · exact fall_mono (fall_le hp (by omega)).1 (by omega) h1 h'
  · exact h1
theorem M_mono {a b c d e f : Int} (h : sq a b c d ≤ sq a b e f) : M a b c d ≤ M a b e f := by
  unfold M; split <;> split <;> omega
theorem M_ge (a b c d : Int) : 100 ≤ M a b c d := by
  unfold M; split <;> omega
theorem at_nil (ex a b p c d : Int) : atV [] ex a b p c d = dist ex p (M a b c d) := rfl
theorem GeometryDistances (y0_0 : (List S28)) (y0_1 : (List Int)) (y0_2 : (List S47)) (y0_3 : Int) (y0_4 : Int) (y0_5 : Int) (y1_0 : S28) (y1_1 : S28) (y1_2 : Int) (y1_3 : Int) (y1_4 : Int) (y2_0 : S28) (y2_1 : Int) (w0_0 : (∀ y ∈ y0_0, ((Lit.int .i64 y.f0).wf = true ∧ (Lit.int .i64 y.f1).wf = true))) (w0_1 : (∀ y ∈ y0_1, (Lit.int .i64 y).wf = true)) (w0_2 : (∀ y ∈ y0_2, (((Lit.int .i64 y.f0.f0).wf = true ∧ (Lit.int .i64 y.f0.f1).wf = true) ∧ ((Lit.int .i64 y.f1.f0).wf = true ∧ (Lit.int .i64 y.f1.f1).wf = true) ∧ (Lit.int .i64 y.f2).wf = true))) (w0_3 : (Lit.int .i64 y0_3).wf = true) (w0_4 : (Lit.int .i64 y0_4).wf = true) (w0_5 : (Lit.int .i64 y0_5).wf = true) (w1_0 : ((Lit.int .i64 y1_0.f0).wf = true ∧ (Lit.int .i64 y1_0.f1).wf = true)) (w1_1 : ((Lit.int .i64 y1_1.f0).wf = true ∧ (Lit.int .i64 y1_1.f1).wf = true)) (w1_2 : (Lit.int .i64 y1_2).wf = true) (w1_3 : (Lit.int .i64 y1_3).wf = true) (w1_4 : (Lit.int .i64 y1_4).wf = true) (w2_0 : ((Lit.int .i64 y2_0.f0).wf = true ∧ (Lit.int .i64 y2_0.f1).wf = true)) (w2_1 : (Lit.int .i64 y2_1).wf = true) : ∃ k, hopmeshlaw05_GeometryDistances.f k y0_0 y0_1 y0_2 y0_3 y0_4 y0_5 y1_0.f0 y1_0.f1 y1_1.f0 y1_1.f1 y1_2 y1_3 y1_4 y2_0.f0 y2_0.f1 y2_1 = some true := by
  refine ⟨4, ?_⟩
  unfold hopmeshlaw05_GeometryDistances.f hopmeshlaw05_awake.f
  simp only [Option.bind_some, if_true, few, At_eq (show 1 ≤ 4 by omega), At_eq (show 1 ≤ 3 by omega), hopmeshlaw05_GeometryDistances.j0]
  by_cases hf : y0_0.length ≤ 40 ∧ y0_1.length ≤ 40 ∧ y0_2.length ≤ 40
  · rw [if_pos (decide_eq_true hf)]
    by_cases hs : siteOk y0_0 y0_1 [] y0_3 y0_4 y0_5
    · simp only [if_pos hs]
      by_cases h1 : okPt y1_0.f0 y1_0.f1 ∧ okPt y1_1.f0 y1_1.f1 ∧ okPw y1_2
      · have hsq1 := sq_eq h1.1.nr.1 h1.1.nr.2 h1.2.1.nr.1 h1.2.1.nr.2
        by_cases h3 : okPt y1_0.f0 y1_0.f1 ∧ okPt y1_1.f0 y1_1.f1 ∧ okPw y2_1
        · have key : y2_1 < y1_2 ∨ dist y0_3 y1_2 (M y1_0.f0 y1_0.f1 y1_1.f0 y1_1.f1) ≤ dist y0_3 y2_1 (M y1_0.f0 y1_0.f1 y1_1.f0 y1_1.f1) := by
            by_cases q : y2_1 < y1_2
            · exact .inl q
            · exact .inr (dist_mono h1.2.2 (M_ge _ _ _ _) (by omega) (Int.le_refl _))
          by_cases h2 : okPt y1_0.f0 y1_0.f1 ∧ okPt y2_0.f0 y2_0.f1 ∧ okPw y1_2
          · have hsq2 := sq_eq h2.1.nr.1 h2.1.nr.2 h2.2.1.nr.1 h2.2.1.nr.2
            simp only [if_pos h1, if_pos h2, if_pos h3, if_true, hsq1.1, hsq2.1, Option.bind_some, at_nil]
            by_cases q : sq y1_0.f0 y1_0.f1 y1_1.f0 y1_1.f1 ≤ sq y1_0.f0 y1_0.f1 y2_0.f0 y2_0.f1
            · have := dist_mono (ex := y0_3) h1.2.2 (M_ge y1_0.f0 y1_0.f1 y1_1.f0 y1_1.f1) (Int.le_refl y1_2) (M_mono q)
              rw [if_pos q, if_neg (by simp; omega)]
              rcases key with k | k
              · rw [if_pos k]
              · split <;> simp [k]
            · rw [if_neg q, if_neg (by simp)]
              rcases key with k | k
              · rw [if_pos k]
              · split <;> simp [k]
          · simp only [if_pos h1, if_neg h2, if_pos h3, if_true, at_nil]
            rw [if_neg (by omega), if_neg (by simp)]
            rcases key with k | k
            · rw [if_pos k]
            · split <;> simp [k]
        · by_cases h2 : okPt y1_0.f0 y1_0.f1 ∧ okPt y2_0.f0 y2_0.f1 ∧ okPw y1_2
          · have hsq2 := sq_eq h2.1.nr.1 h2.1.nr.2 h2.2.1.nr.1 h2.2.1.nr.2
            simp only [if_pos h1, if_pos h2, if_neg h3, if_true, hsq1.1, hsq2.1, Option.bind_some, at_nil]
            by_cases q : sq y1_0.f0 y1_0.f1 y1_1.f0 y1_1.f1 ≤ sq y1_0.f0 y1_0.f1 y2_0.f0 y2_0.f1
            · have := dist_mono (ex := y0_3) h1.2.2 (M_ge y1_0.f0 y1_0.f1 y1_1.f0 y1_1.f1) (Int.le_refl y1_2) (M_mono q)
              rw [if_pos q, if_neg (by simp; omega)]
              simp
            · rw [if_neg q, if_neg (by simp)]
              simp
          · simp [if_pos h1, if_neg h2, if_neg h3]
      · simp [if_neg h1]
    · simp [hs]
  · rw [if_neg (by simpa using hf)]
end Go.Proofs.Ytcdgpnjlaicbcaa.Pure
