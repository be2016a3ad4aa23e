/- The plain law of geometry: the power of a node at another. By this session. -/
import Derived.Test.YtcdgpnjlaicbcaaPAx0
import Derived.Test.YtcdgpnjlaicbcaaPAx43
import Derived.Test.YtcdgpnjlaicbcaaPAx8
import Derived.Test.YtcdgpnjlaicbcaaGeoAt
set_option linter.unusedVariables false
set_option linter.unusedSimpArgs false
namespace Go.Proofs.Ytcdgpnjlaicbcaa.Geo
open Go.RowKit Go.Proofs.YtcdgpnjlaicbcaaW.PrintWords Go.Proofs.YtcdgpnjlaicbcaaW.PrintLast Go.Proofs.YtcdgpnjlaicbcaaW.PrintMore Go.Proofs.Ytcdgpnjlaicbcaa.PA
instance (x : S47) : Decidable (okWall x) := by unfold okWall; infer_instance
theorem siteOk_iff {l0 : List S28} {l1 : List Int} {l2 : List S47} {x y z : Int} : siteOk l0 l1 l2 x y z ↔ (2 ≤ l0.length ∧ l0.length ≤ 32 ∧ l1.length = l0.length ∧ l2.length ≤ 32 ∧ (x = 2 ∨ x = 4) ∧ (1000 ≤ z ∧ z ≤ 100000 ∧ 1 ≤ y ∧ y ≤ 68719476736)) ∧ (∀ q ∈ l0, okPt q.f0 q.f1) ∧ (∀ q ∈ l1, okPw q) ∧ (∀ q ∈ l2, okWall q) := by
  constructor
  · intro h
    refine ⟨?_, site_points h⟩
    obtain ⟨a, b, _, d, _, f, _, g⟩ := h
    exact ⟨a, b, d, f, g.1, g.2⟩
  · rintro ⟨⟨a, b, d, f, g, h⟩, p, q, r⟩
    refine ⟨a, b, ?_, d, ?_, f, ?_, g, h⟩
    · rw [List.any_eq_false]
      intro t ht
      have := p t ht
      simp only [badPoint, ptB, Bool.not_eq_true', decide_eq_false_iff_not, Classical.not_not]
      exact this
    · rw [List.any_eq_false]
      intro t ht
      have := q t ht
      simp only [badPower, Bool.not_eq_true', decide_eq_false_iff_not, Classical.not_not]
      exact this
    · rw [List.any_eq_false]
      intro t ht
      have := r t ht
      simp only [badWall, ptB, Bool.or_eq_true, Bool.not_eq_true', decide_eq_false_iff_not, decide_eq_true_eq, not_or, Classical.not_not]
      exact ⟨this.1, this.2.1, by have := this.2.2; omega, by have := this.2.2; omega⟩
theorem rd47 {l : List S47} {i : Nat} (h : i < l.length) : rd_T47 l (i : Int) = l[i] := by
  unfold rd_T47; rw [List.getD_eq_getElem?_getD, Int.toNat_natCast, List.getElem?_eq_getElem h]; rfl
theorem rd28 {l : List S28} {i : Nat} (h : i < l.length) : rd_T28 l (i : Int) = l[i] := by
  unfold rd_T28; rw [List.getD_eq_getElem?_getD, Int.toNat_natCast, List.getElem?_eq_getElem h]; rfl
theorem rdi {l : List Int} {i : Nat} (h : i < l.length) : rd l (i : Int) = l[i] := by
  unfold rd; rw [List.getD_eq_getElem?_getD, Int.toNat_natCast, List.getElem?_eq_getElem h]; rfl
theorem wsucc {i : Nat} (h : i < 1000) : wrap64 ((i : Int) + 1) = ((i + 1 : Nat) : Int) := by
  rw [w64 (by omega) (by omega)]; rfl
theorem check_eq (l0 : List S28) (l1 : List Int) (l2 : List S47) (ex y z : Int) : geometry_Check.f l0 l1 l2 ex y z = some (if siteOk l0 l1 l2 ex y z then 0 else 1) := rfl
/-- The power of the node i at the node j. -/
def btw (l0 : List S28) (l1 : List Int) (l2 : List S47) (ex : Int) (i j : Int) : Int :=
  if i = j then 0 else atV l2 ex (rd_T28 l0 i).f0 (rd_T28 l0 i).f1 (rd l1 i) (rd_T28 l0 j).f0 (rd_T28 l0 j).f1
theorem node_ok {l0 : List S28} {l1 : List Int} {l2 : List S47} {ex y z : Int} (hs : siteOk l0 l1 l2 ex y z) {i : Int} (h0 : 0 ≤ i) (h1 : i < l0.length) : okPt (rd_T28 l0 i).f0 (rd_T28 l0 i).f1 ∧ okPw (rd l1 i) := by
  obtain ⟨n, rfl⟩ : ∃ n : Nat, i = n := ⟨i.toNat, by omega⟩
  have hl := (siteOk_iff.1 hs).1.2.2.1
  have hp := site_points hs
  rw [rd28 (by omega), rdi (by omega)]
  exact ⟨hp.1 _ (List.getElem_mem _), hp.2.1 _ (List.getElem_mem _)⟩
theorem btw_le {l0 : List S28} {l1 : List Int} {l2 : List S47} {ex y z : Int} (hs : siteOk l0 l1 l2 ex y z) {i j : Int} (h0 : 0 ≤ i) (h1 : i < l0.length) (h2 : 0 ≤ j) (h3 : j < l0.length) : okPw (btw l0 l1 l2 ex i j) := by
  obtain ⟨a, b⟩ := node_ok hs h0 h1
  obtain ⟨c, _⟩ := node_ok hs h2 h3
  obtain ⟨_, e, f⟩ := at_eq l0 l1 (y := y) (z := z) (ex := ex) a c b (site_points hs).2.2
  unfold btw
  split
  · exact ⟨by omega, by omega⟩
  · exact ⟨e, Int.le_trans f b.2⟩
theorem between_eq {l0 : List S28} {l1 : List Int} {l2 : List S47} {ex y z : Int} (hs : siteOk l0 l1 l2 ex y z) {i j : Int} (h0 : 0 ≤ i) (h1 : i < l0.length) (h2 : 0 ≤ j) (h3 : j < l0.length) : geometry_between.f l0 l1 l2 ex y z i j = some (btw l0 l1 l2 ex i j) := by
  obtain ⟨a, b⟩ := node_ok hs h0 h1
  obtain ⟨c, _⟩ := node_ok hs h2 h3
  have hl := (siteOk_iff.1 hs).1.2.2.1
  have e := (at_eq l0 l1 (y := y) (z := z) (ex := ex) a c b (site_points hs).2.2).1
  unfold geometry_between.f btw
  by_cases q : i = j
  · rw [if_pos q, if_pos q]
  · rw [if_neg q, if_neg q, if_pos h0, if_pos h1, if_pos (by omega), if_pos h2, if_pos h3, e]
    rfl
end Go.Proofs.Ytcdgpnjlaicbcaa.Geo
