/- The plain law of GeometryWalls: what the printed functions compute answers true. By this session. -/
import Derived.Test.YtcdgpnjlaicbcaaPAx11
import Derived.Test.YtcdgpnjlaicbcaaPAx38
import Derived.Test.YtcdgpnjlaicbcaaPAx43
import Derived.Test.YtcdgpnjlaicbcaaPAx47
import Derived.Test.YtcdgpnjlaicbcaaGeoAtA
set_option linter.unusedVariables false
set_option linter.unusedSimpArgs false
namespace Go.Proofs.Ytcdgpnjlaicbcaa.Pure
open Go.RowKit Go.Proofs.YtcdgpnjlaicbcaaW.PrintWords Go.Proofs.YtcdgpnjlaicbcaaW.PrintLast Go.Proofs.YtcdgpnjlaicbcaaW.PrintMore Go.Proofs.Ytcdgpnjlaicbcaa.PA Go.Proofs.Ytcdgpnjlaicbcaa.Geo
theorem atV_snoc (l : List S47) (x : S47) (ex a b p c d : Int) : atV (l ++ [x]) ex a b p c d = if crsP a b c d x.f0.f0 x.f0.f1 x.f1.f0 x.f1.f1 then wallF (atV l ex a b p c d) x.f2 else atV l ex a b p c d := by
  unfold atV cw walls
  rw [List.filter_append, List.foldl_append]
  by_cases h : crsP a b c d x.f0.f0 x.f0.f1 x.f1.f0 x.f1.f1
  · simp [h]
  · simp [h]
theorem wallF_full (p : Int) : wallF p 1000 = p := by unfold wallF; omega
theorem GeometryWalls (y0_0 : (List S28)) (y0_1 : (List Int)) (y0_2 : (List S47)) (y0_3 : Int) (y0_4 : Int) (y0_5 : Int) (y1_0 : S28) (y1_1 : S28) (y1_2 : Int) (y2_0 : S28) (y2_1 : S28) (y2_2 : Int) (y2_3 : Int) (y2_4 : Int) (w0_0 : (∀ y ∈ y0_0, ((Lit.int .i64 y.f0).wf = true ∧ (Lit.int .i64 y.f1).wf = true))) (w0_1 : (∀ y ∈ y0_1, (Lit.int .i64 y).wf = true)) (w0_2 : (∀ y ∈ y0_2, (((Lit.int .i64 y.f0.f0).wf = true ∧ (Lit.int .i64 y.f0.f1).wf = true) ∧ ((Lit.int .i64 y.f1.f0).wf = true ∧ (Lit.int .i64 y.f1.f1).wf = true) ∧ (Lit.int .i64 y.f2).wf = true))) (w0_3 : (Lit.int .i64 y0_3).wf = true) (w0_4 : (Lit.int .i64 y0_4).wf = true) (w0_5 : (Lit.int .i64 y0_5).wf = true) (w1_0 : ((Lit.int .i64 y1_0.f0).wf = true ∧ (Lit.int .i64 y1_0.f1).wf = true)) (w1_1 : ((Lit.int .i64 y1_1.f0).wf = true ∧ (Lit.int .i64 y1_1.f1).wf = true)) (w1_2 : (Lit.int .i64 y1_2).wf = true) (w2_0 : ((Lit.int .i64 y2_0.f0).wf = true ∧ (Lit.int .i64 y2_0.f1).wf = true)) (w2_1 : ((Lit.int .i64 y2_1.f0).wf = true ∧ (Lit.int .i64 y2_1.f1).wf = true)) (w2_2 : (Lit.int .i64 y2_2).wf = true) (w2_3 : (Lit.int .i64 y2_3).wf = true) (w2_4 : (Lit.int .i64 y2_4).wf = true) : ∃ k, hopmeshlaw05_GeometryWalls.f k y0_0 y0_1 y0_2 y0_3 y0_4 y0_5 y1_0.f0 y1_0.f1 y1_1.f0 y1_1.f1 y1_2 y2_0.f0 y2_0.f1 y2_1.f0 y2_1.f1 y2_2 y2_3 y2_4 = some true := by
  refine ⟨9, ?_⟩
  unfold hopmeshlaw05_GeometryWalls.f hopmeshlaw05_awake.f
  simp only [Option.bind_some, if_true, few, hopmeshlaw05_GeometryWalls.j0]
  by_cases hf : y0_0.length ≤ 40 ∧ y0_1.length ≤ 40 ∧ y0_2.length ≤ 40
  · rw [if_pos (decide_eq_true hf)]
    by_cases h31 : (y0_2.length : Int) > 31
    · rw [if_pos (decide_eq_true h31)]
    · rw [if_neg (by simpa using h31), At_eq (by omega), Option.bind_some]
      by_cases hs : siteOk y0_0 y0_1 y0_2 y0_3 y0_4 y0_5
      · by_cases hp : okPt y2_0.f0 y2_0.f1 ∧ okPt y2_1.f0 y2_1.f1 ∧ okPw y2_2
        · rw [if_pos hs, if_pos hp]
          dsimp only
          obtain ⟨_, k1, k2⟩ := at_eq y0_0 y0_1 (ex := y0_3) (y := y0_4) (z := y0_5) hp.1 hp.2.1 hp.2.2 (site_points hs).2.2
          have hB : okPw (atV y0_2 y0_3 y2_0.f0 y2_0.f1 y2_2 y2_1.f0 y2_1.f1) := ⟨k1, Int.le_trans k2 hp.2.2.2⟩
          rw [if_pos rfl, if_neg (by omega)]
          simp only [hopmeshlaw05_GeometryWalls.j1]
          rw [if_neg (by simp; omega)]
          unfold slices_Clone_api_Wall_api_Wall.f
          rw [if_pos (by omega), Option.bind_some, Option.bind_some, if_pos (by simp; omega), Option.bind_some, At_eq (by omega), Option.bind_some]
          by_cases hm : siteOk y0_0 y0_1 (y0_2 ++ [(⟨(⟨y1_0.f0, y1_0.f1⟩ : S28), (⟨y1_1.f0, y1_1.f1⟩ : S28), y1_2⟩ : S47)]) y0_3 y0_4 y0_5
          · have hw := (site_points hm).2.2 _ (List.mem_append_right _ (List.mem_singleton.2 rfl))
            rw [if_pos hm, if_pos hp]
            dsimp only
            rw [if_pos rfl, cross_at (by omega) y1_2 hp.1.nr.1 hp.1.nr.2 hp.2.1.nr.1 hp.2.1.nr.2 hw.1.nr.1 hw.1.nr.2 hw.2.1.nr.1 hw.2.1.nr.2, Option.bind_some, atV_snoc]
            dsimp only
            by_cases hc : crsP y2_0.f0 y2_0.f1 y2_1.f0 y2_1.f1 y1_0.f0 y1_0.f1 y1_1.f0 y1_1.f1
            · rw [if_pos (decide_eq_true hc), if_pos hc]
              by_cases h1 : y1_2 = 1000
              · rw [if_pos h1, h1, wallF_full]; simp
              · rw [if_neg h1]
                have := (wallF_le hB hw.2.2.1 hw.2.2.2).2
                simp only [decide_eq_true this]
            · rw [if_neg (by simpa using hc), if_neg hc]; simp
          · rw [if_neg hm]
            dsimp only
            rw [if_neg (by omega), if_pos rfl]
            unfold geometry_Check.f
            rw [if_neg hm]
            rfl
        · rw [if_pos hs, if_neg hp]
          dsimp only
          rw [if_neg (by omega)]; rfl
      · rw [if_neg hs]
        dsimp only
        rw [if_neg (by omega)]; rfl
  · rw [if_neg (by simpa using hf)]
end Go.Proofs.Ytcdgpnjlaicbcaa.Pure
