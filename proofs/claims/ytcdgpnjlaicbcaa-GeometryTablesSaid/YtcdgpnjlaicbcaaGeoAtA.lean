/- The plain law of geometry: what At computes. By this session. -/
import Derived.Test.YtcdgpnjlaicbcaaPAx2
import Derived.Test.YtcdgpnjlaicbcaaPAx30
import Derived.Test.YtcdgpnjlaicbcaaPAx43
import Derived.Test.YtcdgpnjlaicbcaaGeoAt
set_option linter.unusedVariables false
set_option linter.unusedSimpArgs false
namespace Go.Proofs.Ytcdgpnjlaicbcaa.Geo
open Go.RowKit Go.Proofs.YtcdgpnjlaicbcaaW.PrintWords Go.Proofs.YtcdgpnjlaicbcaaW.PrintLast Go.Proofs.YtcdgpnjlaicbcaaW.PrintMore Go.Proofs.Ytcdgpnjlaicbcaa.PA
theorem At_eq {k : Nat} (hk : 1 ≤ k) (l0 : List S28) (l1 : List Int) (l : List S47) (ex y z a b p c d : Int) :
    geometry_At.f k l0 l1 l ex y z a b p c d = some (if siteOk l0 l1 l ex y z then (if okPt a b ∧ okPt c d ∧ okPw p then (atV l ex a b p c d, 0) else (0, 2)) else (0, 1)) := by
  obtain ⟨j, rfl⟩ : ∃ j, k = j + 1 := ⟨k - 1, by omega⟩
  unfold geometry_At.f geometry_Check.f
  by_cases hs : siteOk l0 l1 l ex y z
  · have hl := (site_points hs).2.2
    simp only [Option.bind_some, if_pos hs, if_true, point_eq, geometry_isPower.f]
    by_cases h1 : okPt a b
    · have h1' : ptB a b = true := decide_eq_true h1
      by_cases h2 : okPt c d
      · have h2' : ptB c d = true := decide_eq_true h2
        by_cases h3 : okPw p
        · rw [h1', if_pos rfl, h2', if_pos rfl, if_pos (⟨h1, h2, h3⟩ : okPt a b ∧ okPt c d ∧ okPw p)]
          have h3' := h3
          obtain ⟨q1, q2⟩ := h3'
          simp [q1, q2, geometry_At.j0, (at_eq l0 l1 (ex := ex) (y := y) (z := z) h1 h2 h3 hl).1]
        · rw [h1', if_pos rfl, h2', if_pos rfl, if_neg (fun h : okPt a b ∧ okPt c d ∧ okPw p => h3 h.2.2)]
          by_cases q1 : p ≥ 0
          · have q2 : ¬ p ≤ 68719476736 := fun q => h3 ⟨q1, q⟩
            simp [q1, q2, geometry_At.j0]
          · simp [q1, geometry_At.j0]
      · have h2' : ptB c d = false := decide_eq_false h2
        rw [h1', if_pos rfl, h2', if_neg (by simp), if_neg (fun h : okPt a b ∧ okPt c d ∧ okPw p => h2 h.2.1)]
        simp [geometry_At.j0]
    · have h1' : ptB a b = false := decide_eq_false h1
      rw [h1', if_neg (by simp), if_neg (fun h : okPt a b ∧ okPt c d ∧ okPw p => h1 h.1)]
      simp [geometry_At.j0]
  · simp [hs]
end Go.Proofs.Ytcdgpnjlaicbcaa.Geo
