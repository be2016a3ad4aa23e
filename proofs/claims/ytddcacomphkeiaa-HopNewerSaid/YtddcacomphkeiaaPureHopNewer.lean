/- The plain law of HopNewer: what the printed functions compute answers true. By this session. -/
import Derived.Test.YtddcacomphkeiaaPAx0
import Derived.Test.YtddcacomphkeiaaPAx11
import Derived.Test.YtddcacomphkeiaaPAx21
import Derived.Test.YtddcacomphkeiaaPAx30
import Derived.Test.YtddcacomphkeiaaPAx32
import Derived.Test.YtddcacomphkeiaaPAx33
import Derived.Test.YtddcacomphkeiaaPAx6
import Derived.Test.YtddcacomphkeiaaHopC
set_option linter.unusedVariables false
set_option linter.unusedSimpArgs false
namespace Go.Proofs.Ytddcacomphkeiaa.Pure
open Go.RowKit Go.Proofs.YtddcacomphkeiaaW.PrintWords Go.Proofs.YtddcacomphkeiaaW.PrintLast Go.Proofs.YtddcacomphkeiaaW.PrintMore Go.Proofs.Ytddcacomphkeiaa.PA Go.Proofs.Ytddcacomphkeiaa.Hop
/-- A version is newer. -/
def newB (a b : Int) : Bool := decide (0 ≤ a ∧ a ≤ 255 ∧ 0 ≤ b ∧ b ≤ 255 ∧ 1 ≤ (a - b) % 256 ∧ (a - b) % 256 ≤ 127)
theorem Newer_eq (a b : Int) : hop_Newer.f a b = some (newB a b) := by
  unfold hop_Newer.f newB mn mx
  by_cases h1 : (if b < a then b else a) < 0
  · rw [if_pos h1, decide_eq_false]
    intro h
    split at h1 <;> omega
  · rw [if_neg h1]
    by_cases h2 : (if a < b then b else a) ≥ 256
    · rw [if_pos h2, decide_eq_false]
      intro h
      split at h2 <;> omega
    · rw [if_neg h2]
      congr 1
      rw [decide_eq_decide]
      constructor
      · intro h
        refine ⟨?_, ?_, ?_, ?_, h.1, h.2⟩
        all_goals (split at h1 <;> split at h2 <;> omega)
      · intro h
        exact ⟨h.2.2.2.2.1, h.2.2.2.2.2⟩
theorem Clone_eqN {l : List Int} (h : l.length ≤ 1000) : slices_Clone_int_int.f l = some l := by
  unfold slices_Clone_int_int.f
  rw [if_pos (by omega)]
theorem j2_true (v f u : Int) (l : List Int) (un : Int) (hl : l.length ≤ 20) {k : Nat} (hk : 4000 ≤ k) : hopmeshlaw11_HopNewer.j2 k un v f u l = some true := by
  obtain ⟨k, rfl⟩ : ∃ j, k = j + 1 := ⟨k - 1, by omega⟩
  have hl' : l.length ≤ 1000 := by omega
  rw [hopmeshlaw11_HopNewer.j2, Clone_eqN hl', Option.bind_some]
  unfold hop_Next.f
  rw [Clone_eqN hl', Option.bind_some, Check_eq _ _ _ hl' (by omega), Option.bind_some, Check_eq _ _ _ hl' (by omega), Option.bind_some]
  by_cases h1 : okL v f u l
  · rw [if_pos h1, if_pos rfl]
    have hv0 := h1.1
    have hv1 := h1.2.1
    have hw : Int.tmod (wrap64 (v + 1)) 256 = (v + 1) % 256 := by rw [w64 (by omega) (by omega), Int.tmod_eq_emod_of_nonneg (by omega)]
    rw [hw]
    by_cases h2 : okL ((v + 1) % 256) u un l
    · rw [if_pos h2, if_pos rfl, Option.bind_some]
      dsimp only
      have n1 : newB ((v + 1) % 256) v = true := by
        unfold newB
        rw [decide_eq_true_eq]
        omega
      have n2 : newB v ((v + 1) % 256) = false := by
        unfold newB
        rw [decide_eq_false_iff_not]
        omega
      rw [if_pos rfl, Newer_eq, Option.bind_some, n1, if_pos rfl, Newer_eq, Option.bind_some, n2, if_neg (by simp)]
      have hs : ∀ x ∈ [(⟨v, f, u, l⟩ : S24), (⟨(v + 1) % 256, u, un, l⟩ : S24)], x.f3.length ≤ 1000 := by
        intro x hx
        simp only [List.mem_cons, List.not_mem_nil, or_false] at hx
        rcases hx with rfl | rfl <;> exact hl'
      have hc : checkAllL [(⟨v, f, u, l⟩ : S24), (⟨(v + 1) % 256, u, un, l⟩ : S24)] = 0 := by
        have r0 : rd_T24 [(⟨v, f, u, l⟩ : S24), (⟨(v + 1) % 256, u, un, l⟩ : S24)] ((0 : Nat) : Int) = ⟨v, f, u, l⟩ := rfl
        have r1 : rd_T24 [(⟨v, f, u, l⟩ : S24), (⟨(v + 1) % 256, u, un, l⟩ : S24)] ((0 + 1 : Nat) : Int) = ⟨(v + 1) % 256, u, un, l⟩ := rfl
        have r2 : rd_T24 [(⟨v, f, u, l⟩ : S24), (⟨(v + 1) % 256, u, un, l⟩ : S24)] (((0 + 1 : Nat) : Int) - 1) = ⟨v, f, u, l⟩ := rfl
        unfold checkAllL
        rw [if_neg (by simp)]
        show caFrom _ 2 0 = 0
        rw [caFrom, r0, if_pos (show okS ⟨v, f, u, l⟩ from h1), if_neg (fun h => absurd h.1 (by omega)), if_neg (fun h => absurd h.1 (by omega)), caFrom, r1, r2, if_pos (show okS ⟨(v + 1) % 256, u, un, l⟩ from h2), if_neg (fun h => h.2 rfl), if_neg (fun h => h.2 hw.symm), caFrom]
      unfold hop_CheckAll__pair.f
      rw [CheckAll_eq (by simp) hs (by omega), Option.bind_some, hc, if_pos rfl]
      simp
    · rw [if_neg h2, if_neg (by omega), Option.bind_some]
      dsimp only
      rw [if_neg (by omega), if_pos rfl]
      rfl
  · rw [if_neg h1, if_neg (by omega), Option.bind_some]
    dsimp only
    rw [if_neg (by omega), if_pos rfl]
    rfl
theorem j1_true (v f u : Int) (l : List Int) (un : Int) (hl : l.length ≤ 20) {k : Nat} (hk : 4001 ≤ k) : hopmeshlaw11_HopNewer.j1 k un false v f u l = some true := by
  obtain ⟨k, rfl⟩ : ∃ j, k = j + 1 := ⟨k - 1, by omega⟩
  rw [hopmeshlaw11_HopNewer.j1, if_neg (by simp)]
  exact j2_true v f u l un hl (by omega)
theorem j0_true (v f u : Int) (l : List Int) (un a b : Int) (c : Bool) (hl : l.length ≤ 20) (hc : c = decide (0 ≤ a ∧ a ≤ 255 ∧ 0 ≤ b ∧ b ≤ 255)) {k : Nat} (hk : 4002 ≤ k) : hopmeshlaw11_HopNewer.j0 k un a b c v f u l = some true := by
  obtain ⟨k, rfl⟩ : ∃ j, k = j + 1 := ⟨k - 1, by omega⟩
  have hj := j1_true v f u l un hl (k := k) (by omega)
  rw [hopmeshlaw11_HopNewer.j0]
  simp only [Newer_eq, Option.bind_some]
  by_cases h : 0 ≤ a ∧ a ≤ 255 ∧ 0 ≤ b ∧ b ≤ 255
  · rw [decide_eq_true h] at hc
    subst hc
    rw [if_pos rfl]
    have hm : mx (wrap64 (a - b)) (wrap64 (b - a)) = mx (a - b) (b - a) := by rw [w64 (by omega) (by omega), w64 (by omega) (by omega)]
    have hmz : mx (a - b) (b - a) = 0 ↔ a = b := by unfold mx; split <;> omega
    have hm8 : mx (a - b) (b - a) = 128 ↔ (a - b = 128 ∨ b - a = 128) := by unfold mx; split <;> omega
    rw [hm]
    have nab : newB a b = decide (1 ≤ (a - b) % 256 ∧ (a - b) % 256 ≤ 127) := by unfold newB; rw [decide_eq_decide]; omega
    have nba : newB b a = decide (1 ≤ (b - a) % 256 ∧ (b - a) % 256 ≤ 127) := by unfold newB; rw [decide_eq_decide]; omega
    by_cases e0 : a = b
    · have x1 : newB a b = false := by rw [nab, decide_eq_false_iff_not]; omega
      have x2 : newB b a = false := by rw [nba, decide_eq_false_iff_not]; omega
      rw [x1, x2, if_neg (by simp), if_pos (hmz.2 e0), if_neg (by simp), if_neg (by simp)]
      exact hj
    · have hz : ¬ mx (a - b) (b - a) = 0 := fun h' => e0 (hmz.1 h')
      by_cases e8 : a - b = 128 ∨ b - a = 128
      · have x1 : newB a b = false := by rw [nab, decide_eq_false_iff_not]; omega
        have x2 : newB b a = false := by rw [nba, decide_eq_false_iff_not]; omega
        rw [x1, x2, if_neg (by simp), if_neg hz, hm8.2 e8, if_neg (by simp), if_neg (by simp)]
        exact hj
      · have h8 : (mx (a - b) (b - a) != 128) = true := bne_iff_ne.2 (fun h' => e8 (hm8.1 h'))
        by_cases q : newB a b = true
        · have q2 : newB b a = false := by
            rw [nab, decide_eq_true_eq] at q
            rw [nba, decide_eq_false_iff_not]
            omega
          rw [q, q2, if_pos rfl, if_neg hz, h8, if_neg (by simp), if_pos rfl]
          exact hj
        · have q1 : newB a b = false := by simpa using q
          have q2 : newB b a = true := by
            rw [nab, decide_eq_false_iff_not] at q1
            rw [nba, decide_eq_true_eq]
            omega
          rw [q1, q2, if_neg (by simp), if_neg hz, h8, if_neg (by simp), if_neg (by simp)]
          exact hj
  · rw [decide_eq_false h] at hc
    subst hc
    rw [if_neg (by simp), show newB a b = false by unfold newB; rw [decide_eq_false_iff_not]; omega, if_neg (by simp)]
    exact j2_true v f u l un hl (by omega)
theorem HopNewer (y0_0 : Int) (y0_1 : Int) (y0_2 : Int) (y0_3 : (List Int)) (a1 : Int) (y2_0 : Int) (y2_1 : Int) (w0_0 : (Lit.int .i64 y0_0).wf = true) (w0_1 : (Lit.int .i64 y0_1).wf = true) (w0_2 : (Lit.int .i64 y0_2).wf = true) (w0_3 : (∀ y ∈ y0_3, (Lit.int .i64 y).wf = true)) (w1 : (Lit.int .i64 a1).wf = true) (w2_0 : (Lit.int .i64 y2_0).wf = true) (w2_1 : (Lit.int .i64 y2_1).wf = true) : ∃ k, hopmeshlaw11_HopNewer.f k y0_0 y0_1 y0_2 y0_3 a1 y2_0 y2_1 = some true := by
  refine ⟨5000, ?_⟩
  unfold hopmeshlaw11_HopNewer.f hopmeshlaw11_awake.f
  rw [Option.bind_some, if_pos rfl]
  by_cases hl : (y0_3.length : Int) > 20
  · rw [if_pos hl]
  rw [if_neg hl]
  by_cases h1 : y2_0 ≥ 0
  · rw [if_pos h1]
    by_cases h2 : y2_0 ≤ 255
    · rw [if_pos h2]
      by_cases h3 : y2_1 ≥ 0
      · rw [if_pos h3]
        exact j0_true _ _ _ _ _ _ _ _ (by omega) (by rw [decide_eq_decide]; omega) (by omega)
      · rw [if_neg h3]
        exact j0_true _ _ _ _ _ _ _ _ (by omega) (by symm; rw [decide_eq_false_iff_not]; omega) (by omega)
    · rw [if_neg h2]
      exact j0_true _ _ _ _ _ _ _ _ (by omega) (by symm; rw [decide_eq_false_iff_not]; omega) (by omega)
  · rw [if_neg h1]
    exact j0_true _ _ _ _ _ _ _ _ (by omega) (by symm; rw [decide_eq_false_iff_not]; omega) (by omega)
end Go.Proofs.Ytddcacomphkeiaa.Pure
