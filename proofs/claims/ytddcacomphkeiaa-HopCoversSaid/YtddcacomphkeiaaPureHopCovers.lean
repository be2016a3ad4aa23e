/- The plain law of HopCovers: what the printed functions compute answers true. By this session. -/
import Derived.Test.YtddcacomphkeiaaPAx0
import Derived.Test.YtddcacomphkeiaaPAx26
import Derived.Test.YtddcacomphkeiaaPAx32
import Derived.Test.YtddcacomphkeiaaPAx34
import Derived.Test.YtddcacomphkeiaaPAx6
import Derived.Test.YtddcacomphkeiaaHopC
set_option linter.unusedVariables false
set_option linter.unusedSimpArgs false
namespace Go.Proofs.Ytddcacomphkeiaa.Pure
open Go.RowKit Go.Proofs.YtddcacomphkeiaaW.PrintWords Go.Proofs.YtddcacomphkeiaaW.PrintLast Go.Proofs.YtddcacomphkeiaaW.PrintMore Go.Proofs.Ytddcacomphkeiaa.PA Go.Proofs.Ytddcacomphkeiaa.Hop
theorem valid_from (l : List S24) : ∀ n i, i + n = l.length → caFrom l n i = 0 → ∀ j : Nat, i ≤ j → j < l.length → okS (rd_T24 l (j : Int)) ∧ (0 < j → (rd_T24 l (j : Int)).f1 = (rd_T24 l ((j : Int) - 1)).f2)
  | 0, i, h, _, j, h1, h2 => by omega
  | n + 1, i, h, hc, j, h1, h2 => by
    rw [caFrom] at hc
    by_cases a1 : okS (rd_T24 l (i : Int))
    · rw [if_pos a1] at hc
      by_cases a2 : 0 < i ∧ (rd_T24 l (i : Int)).f1 ≠ (rd_T24 l ((i : Int) - 1)).f2
      · rw [if_pos a2] at hc; omega
      · rw [if_neg a2] at hc
        by_cases a3 : 0 < i ∧ (rd_T24 l (i : Int)).f0 ≠ Int.tmod (wrap64 ((rd_T24 l ((i : Int) - 1)).f0 + 1)) 256
        · rw [if_pos a3] at hc; omega
        · rw [if_neg a3] at hc
          rcases Nat.lt_or_ge i j with q | q
          · exact valid_from l n (i + 1) (by omega) hc j (by omega) h2
          · obtain rfl : i = j := by omega
            refine ⟨a1, fun h0 => ?_⟩
            by_cases e : (rd_T24 l (i : Int)).f1 = (rd_T24 l ((i : Int) - 1)).f2
            · exact e
            · exact absurd ⟨h0, e⟩ a2
    · rw [if_neg a1] at hc; omega
theorem chain {l : List S24} (hv : checkAllL l = 0) : 0 < l.length ∧ (∀ j (h : j < l.length), l[j].f1 < l[j].f2) ∧ ∀ j (h : j + 1 < l.length), l[j + 1].f1 = (l[j]'(by omega)).f2 := by
  unfold checkAllL at hv
  by_cases h : l.length < 1 ∨ l.length > 1024
  · rw [if_pos h] at hv; omega
  · rw [if_neg h] at hv
    have hh := valid_from l l.length 0 (by omega) hv
    refine ⟨by omega, fun j hj => ?_, fun j hj => ?_⟩
    · have := (hh j (by omega) hj).1
      rw [rdT hj] at this
      exact this.2.2.2.1
    · have := (hh (j + 1) (by omega) hj).2 (by omega)
      rw [rdT hj, show ((j + 1 : Nat) : Int) - 1 = (j : Int) by omega, rdT (by omega)] at this
      exact this
theorem first_le {l : List S24} (h0 : 0 < l.length) (h1 : ∀ j (h : j < l.length), l[j].f1 < l[j].f2) (h2 : ∀ j (h : j + 1 < l.length), l[j + 1].f1 = (l[j]'(by omega)).f2) : ∀ j (h : j < l.length), l[0].f1 ≤ l[j].f1
  | 0, _ => Int.le_refl _
  | j + 1, h => by
    have := first_le h0 h1 h2 j (by omega)
    have := h1 j (by omega)
    rw [h2 j h]
    omega
theorem le_last {l : List S24} (h0 : 0 < l.length) (h1 : ∀ j (h : j < l.length), l[j].f1 < l[j].f2) (h2 : ∀ j (h : j + 1 < l.length), l[j + 1].f1 = (l[j]'(by omega)).f2) : ∀ d j (h : j + d + 1 = l.length), (l[j]'(by omega)).f2 ≤ (l[l.length - 1]'(by omega)).f2
  | 0, j, h => by
    obtain rfl : j = l.length - 1 := by omega
    exact Int.le_refl _
  | d + 1, j, h => by
    have := le_last h0 h1 h2 d (j + 1) (by omega)
    have e1 := h1 (j + 1) (by omega)
    rw [h2 j (by omega)] at e1
    omega
theorem covered {l : List S24} {slot : Int} (h0 : 0 < l.length) (hf : l[0].f1 ≤ slot) (h2 : ∀ j (h : j + 1 < l.length), l[j + 1].f1 = (l[j]'(by omega)).f2) : ∀ m (h : m < l.length), slot < l[m].f2 → ∃ j, ∃ h : j < l.length, l[j].f1 ≤ slot ∧ slot < l[j].f2
  | 0, h, hs => ⟨0, h, hf, hs⟩
  | m + 1, h, hs => by
    by_cases q : l[m + 1].f1 ≤ slot
    · exact ⟨m + 1, h, q, hs⟩
    · rw [h2 m h] at q
      exact covered h0 hf h2 m (by omega) (by omega)
theorem not_found {l : List S24} {slot : Int} (hv : checkAllL l = 0) (h : slot < (rd_T24 l 0).f1 ∨ slot ≥ (rd_T24 l ((l.length : Int) - 1)).f2) : inForceL l slot = (0, 0, 0, [], 7) := by
  obtain ⟨h0, h1, h2⟩ := chain hv
  have e0 : rd_T24 l 0 = l[0] := rdT h0
  have e1 : rd_T24 l ((l.length : Int) - 1) = l[l.length - 1] := by rw [show (l.length : Int) - 1 = ((l.length - 1 : Nat) : Int) by omega, rdT (by omega)]
  rw [e0, e1] at h
  have : l.find? (inF slot) = none := by
    rw [List.find?_eq_none]
    intro x hx
    obtain ⟨j, hj, rfl⟩ := List.getElem_of_mem hx
    have a1 := first_le h0 h1 h2 j hj
    have a2 := le_last h0 h1 h2 (l.length - 1 - j) j (by omega)
    simp [inF]
    omega
  unfold inForceL
  rw [if_pos hv, this]
theorem found {l : List S24} {slot : Int} (hv : checkAllL l = 0) (h1 : slot ≥ (rd_T24 l 0).f1) (h2 : slot < (rd_T24 l ((l.length : Int) - 1)).f2) : ∃ x ∈ l, inForceL l slot = (x.f0, x.f1, x.f2, x.f3, 0) ∧ x.f1 ≤ slot ∧ slot < x.f2 := by
  obtain ⟨h0, g1, g2⟩ := chain hv
  have e0 : rd_T24 l 0 = l[0] := rdT h0
  have e1 : rd_T24 l ((l.length : Int) - 1) = l[l.length - 1] := by rw [show (l.length : Int) - 1 = ((l.length - 1 : Nat) : Int) by omega, rdT (by omega)]
  rw [e0] at h1
  rw [e1] at h2
  obtain ⟨j, hj, a1, a2⟩ := covered h0 h1 g2 (l.length - 1) (by omega) h2
  cases hf : l.find? (inF slot) with
  | none => exact absurd (List.find?_eq_none.1 hf l[j] (List.getElem_mem hj)) (by simp [inF, a1, a2])
  | some x =>
    have hp := List.find?_some hf
    simp only [inF, Bool.and_eq_true, decide_eq_true_eq] at hp
    refine ⟨x, List.mem_of_find?_eq_some hf, ?_, hp.1, hp.2⟩
    unfold inForceL
    rw [if_pos hv, hf]
theorem HopCovers (l0 : (List S24)) (a1 : Int) (w0 : (∀ y ∈ l0, ((Lit.int .i64 y.f0).wf = true ∧ (Lit.int .i64 y.f1).wf = true ∧ (Lit.int .i64 y.f2).wf = true ∧ (∀ z ∈ y.f3, (Lit.int .i64 z).wf = true)))) (w1 : (Lit.int .i64 a1).wf = true) : ∃ k, hopmeshlaw11_HopCovers.f k l0 a1 = some true := by
  refine ⟨5000 + 1 + 1, ?_⟩
  unfold hopmeshlaw11_HopCovers.f hopmeshlaw11_awake.f
  rw [Option.bind_some, if_pos rfl, few_eq, Option.bind_some]
  by_cases h : l0.length ≤ 10 ∧ ∀ x ∈ l0, x.f3.length ≤ 20
  · have hs : ∀ x ∈ l0, x.f3.length ≤ 1000 := fun x hx => by have := h.2 x hx; omega
    rw [if_pos (decide_eq_true h), cp_eq h.1 hs, Option.bind_some, InForce_eq a1 h.1 hs (by omega), Option.bind_some, Option.bind_some, CheckAll_eq h.1 hs (by omega), Option.bind_some]
    by_cases hv : checkAllL l0 = 0
    · obtain ⟨h0, _, _⟩ := chain hv
      rw [if_pos hv, if_neg (show ¬ (l0.length : Int) = 0 by omega), if_pos (show (0 : Int) < (l0.length : Int) by omega), w64 (x := (l0.length : Int) - 1) (by omega) (by omega)]
      by_cases q1 : a1 ≥ (rd_T24 l0 0).f1
      · rw [if_pos q1, if_pos (show (0 : Int) ≤ (l0.length : Int) - 1 by omega), if_pos (show (l0.length : Int) - 1 < (l0.length : Int) by omega), hopmeshlaw11_HopCovers.j0]
        by_cases q2 : a1 < (rd_T24 l0 ((l0.length : Int) - 1)).f2
        · obtain ⟨x, hx, e, b1, b2⟩ := found hv q1 q2
          rw [if_pos (decide_eq_true q2), e]
          dsimp only
          rw [if_pos rfl, if_neg (show ¬ a1 < x.f1 by omega), decide_eq_false (show ¬ a1 ≥ x.f2 by omega), hopmeshlaw11_HopCovers.j1, if_neg (by simp)]
          unfold slices_ContainsFunc_api_HopList_api_HopList__hopmeshlaw11_HopCovers_1.f
          rw [Option.bind_some, List.any_eq_true.2 ⟨x, hx, by simp [sameX]⟩]
        · rw [if_neg (by simpa using q2), not_found hv (.inr (by omega))]
          rfl
      · rw [if_neg q1, hopmeshlaw11_HopCovers.j0, if_neg (by simp), not_found hv (.inl (by omega))]
        rfl
    · rw [if_neg hv]
      have : inForceL l0 a1 = (0, 0, 0, [], checkAllL l0) := by unfold inForceL; rw [if_neg hv]
      rw [this]
      dsimp only
      rw [if_pos rfl]
      rfl
  · rw [if_neg (by simpa using h)]
end Go.Proofs.Ytddcacomphkeiaa.Pure
