/- The plain law of GeometryShapes: what the printed functions compute answers true. By this session. -/
import Derived.Test.YtcdgpnjlaicbcaaGeoRef
import Derived.Test.YtcdgpnjlaicbcaaPAx32
set_option linter.unusedVariables false
set_option linter.unusedSimpArgs false
namespace Go.Proofs.Ytcdgpnjlaicbcaa.Pure
open Go.RowKit Go.Proofs.YtcdgpnjlaicbcaaW.PrintWords Go.Proofs.YtcdgpnjlaicbcaaW.PrintLast Go.Proofs.YtcdgpnjlaicbcaaW.PrintMore Go.Proofs.Ytcdgpnjlaicbcaa.PA Go.Proofs.Ytcdgpnjlaicbcaa.Geo
theorem near_of {a b : Int} (h : farPoint ⟨a, b⟩ = false) : nr a ∧ nr b := by
  simp only [farPoint, Bool.or_eq_false_iff, decide_eq_false_iff_not] at h
  exact ⟨⟨by omega, by omega⟩, by omega, by omega⟩
theorem GeometryShapes (y0_0 : Int) (y0_1 : Int) (y1_0 : Int) (y1_1 : Int) (y2_0 : S28) (y2_1 : S28) (y2_2 : Int) (w0_0 : (Lit.int .i64 y0_0).wf = true) (w0_1 : (Lit.int .i64 y0_1).wf = true) (w1_0 : (Lit.int .i64 y1_0).wf = true) (w1_1 : (Lit.int .i64 y1_1).wf = true) (w2_0 : ((Lit.int .i64 y2_0.f0).wf = true ∧ (Lit.int .i64 y2_0.f1).wf = true)) (w2_1 : ((Lit.int .i64 y2_1.f0).wf = true ∧ (Lit.int .i64 y2_1.f1).wf = true)) (w2_2 : (Lit.int .i64 y2_2).wf = true) : ∃ k, hopmeshlaw05_GeometryShapes.f k y0_0 y0_1 y1_0 y1_1 y2_0.f0 y2_0.f1 y2_1.f0 y2_1.f1 y2_2 = some true := by
  refine ⟨8, ?_⟩
  unfold hopmeshlaw05_GeometryShapes.f hopmeshlaw05_awake.f hopmeshlaw05_near.f
  simp only [Option.bind_some, if_true, List.any_cons, List.any_nil, Bool.or_false]
  by_cases h : farPoint ⟨y0_0, y0_1⟩ = false ∧ farPoint ⟨y1_0, y1_1⟩ = false ∧ farPoint ⟨y2_0.f0, y2_0.f1⟩ = false ∧ farPoint ⟨y2_1.f0, y2_1.f1⟩ = false
  · obtain ⟨h0, h1, h2, h3⟩ := h
    have n0 := near_of h0; have n1 := near_of h1; have n2 := near_of h2; have n3 := near_of h3
    rw [h0, h1, h2, h3]
    simp only [Bool.or_false, Bool.not_false, if_true, rsq_eq, (sq_eq n0.1 n0.2 n1.1 n1.2).1, Option.bind_some]
    rw [cross_at (by omega) y2_2 n0.1 n0.2 n1.1 n1.2 n2.1 n2.2 n3.1 n3.2, rcross_at (by omega) y2_2 n0.1 n0.2 n1.1 n1.2 n2.1 n2.2 n3.1 n3.2]
    simp
  · rw [if_neg]
    intro h'
    simp only [Bool.not_eq_true', Bool.or_eq_false_iff] at h'
    exact h ⟨h'.1, h'.2.1, h'.2.2.1, h'.2.2.2⟩
end Go.Proofs.Ytcdgpnjlaicbcaa.Pure
