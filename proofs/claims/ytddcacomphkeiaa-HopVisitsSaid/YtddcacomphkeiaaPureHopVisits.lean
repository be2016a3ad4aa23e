/- The plain law of HopVisits: what the printed functions compute answers true. By this session. -/
import Derived.Test.YtddcacomphkeiaaPAx29
import Derived.Test.YtddcacomphkeiaaPAx6
import Derived.Test.YtddcacomphkeiaaPAx7
import Derived.Test.YtddcacomphkeiaaHopA
set_option linter.unusedVariables false
set_option linter.unusedSimpArgs false
namespace Go.Proofs.Ytddcacomphkeiaa.Pure
open Go.RowKit Go.Proofs.YtddcacomphkeiaaW.PrintWords Go.Proofs.YtddcacomphkeiaaW.PrintLast Go.Proofs.YtddcacomphkeiaaW.PrintMore Go.Proofs.Ytddcacomphkeiaa.PA Go.Proofs.Ytddcacomphkeiaa.Hop
theorem chan_ok {v f u : Int} {l : List Int} {s o : Int} (h : (chanL v f u l s o).2 = 0) : okCh l ∧ 0 ≤ o ∧ o < l.length ∧ chanL v f u l s o = (rd l ((s + o) % (l.length : Int)), 0) := by
  unfold chanL at h ⊢
  by_cases hk : okL v f u l
  · rw [if_pos hk] at h ⊢
    by_cases hs : s < f ∨ s ≥ u
    · rw [if_pos hs] at h; simp at h
    · rw [if_neg hs] at h ⊢
      by_cases ho : o < 0 ∨ o ≥ (l.length : Int)
      · rw [if_pos ho] at h; simp at h
      · rw [if_neg ho]
        exact ⟨hk.2.2.2.2.2, by omega, by omega, rfl⟩
  · rw [if_neg hk] at h; simp at h
/-- What has been seen in the first k rounds. -/
def seenV (l : List Int) (s o : Int) (k : Nat) : List Int := (List.range k).map (fun j : Nat => rd l ((s + j + o) % (l.length : Int)))
theorem not_seenV {l : List Int} (hn : l.Nodup) {s o : Int} {k : Nat} (hk : k < l.length) : rd l ((s + k + o) % (l.length : Int)) ∉ seenV l s o k := by
  intro h
  obtain ⟨j, hj, e⟩ := List.mem_map.1 h
  rw [List.mem_range] at hj
  rw [show s + (j : Int) + o = (s + o) + j by omega, show s + (k : Int) + o = (s + o) + k by omega] at e
  have := chan_inj hn (by omega) (by omega) (by omega) (by omega) e
  omega
theorem visits_from (v f u : Int) (l : List Int) (s o : Int) (hl : l.length ≤ 20) (hs0 : 0 ≤ s) (hs1 : s ≤ 1099511627776) : ∀ n i k, i + n = l.length → n + 2200 ≤ k → hopmeshlaw11_HopVisits.l0 k s o (seenV l s o i) (l.length : Int) (i : Int) v f u l = some true
  | 0, i, k, h, hk => by
    obtain ⟨k, rfl⟩ : ∃ j, k = j + 1 := ⟨k - 1, by omega⟩
    have hsl : (seenV l s o i).length = i := by simp [seenV]
    rw [hopmeshlaw11_HopVisits.l0, if_neg (by omega), w64 (by omega) (by omega), Channel_eq _ _ _ _ _ (by omega) (by omega), Option.bind_some]
    by_cases hz : ((seenV l s o i).length : Int) = 0
    · rw [if_pos hz]
    · rw [if_neg hz]
      by_cases hc : (chanL v f u l (s + (l.length : Int)) o).2 = 0
      · obtain ⟨hok, h1, h2, h3⟩ := chan_ok hc
        rw [if_pos hc, if_pos (by omega), h3]
        have hr : rd (seenV l s o i) 0 = rd l ((s + 0 + o) % (l.length : Int)) := by
          have := rdi (l := seenV l s o i) (i := 0) (by omega)
          rw [show ((0 : Nat) : Int) = 0 from rfl] at this
          rw [this]
          simp [seenV]
        rw [hr, show s + (l.length : Int) + o = (s + 0 + o) + (l.length : Int) by omega, Int.add_emod_right]
        simp
      · rw [if_neg hc]
  | n + 1, i, k, h, hk => by
    obtain ⟨k, rfl⟩ : ∃ j, k = j + 1 := ⟨k - 1, by omega⟩
    have hi : i < l.length := by omega
    have hsl : (seenV l s o i).length = i := by simp [seenV]
    rw [hopmeshlaw11_HopVisits.l0, if_pos (by omega), w64 (by omega) (by omega), Channel_eq _ _ _ _ _ (by omega) (by omega), Option.bind_some]
    by_cases hc : (chanL v f u l (s + (i : Int)) o).2 = 0
    · obtain ⟨hok, h1, h2, h3⟩ := chan_ok hc
      rw [if_pos hc, h3]
      dsimp only
      rw [contains_eq _ _ (by omega) (by omega), Option.bind_some, decide_eq_false (not_seenV hok.2.2 hi), if_neg (by simp), if_pos (by omega), wsucc (by omega)]
      have := visits_from v f u l s o hl hs0 hs1 n (i + 1) k (by omega) (by omega)
      rwa [show seenV l s o (i + 1) = seenV l s o i ++ [rd l ((s + i + o) % (l.length : Int))] by simp [seenV, List.range_succ]] at this
    · rw [if_neg hc]
theorem HopVisits (y0_0 : Int) (y0_1 : Int) (y0_2 : Int) (y0_3 : (List Int)) (a1 : Int) (a2 : Int) (w0_0 : (Lit.int .i64 y0_0).wf = true) (w0_1 : (Lit.int .i64 y0_1).wf = true) (w0_2 : (Lit.int .i64 y0_2).wf = true) (w0_3 : (∀ y ∈ y0_3, (Lit.int .i64 y).wf = true)) (w1 : (Lit.int .i64 a1).wf = true) (w2 : (Lit.int .i64 a2).wf = true) : ∃ k, hopmeshlaw11_HopVisits.f k y0_0 y0_1 y0_2 y0_3 a1 a2 = some true := by
  refine ⟨2301, ?_⟩
  unfold hopmeshlaw11_HopVisits.f hopmeshlaw11_awake.f
  simp only [Option.bind_some, if_true, hopmeshlaw11_HopVisits.j0]
  by_cases hl : (y0_3.length : Int) > 20
  · rw [if_pos hl]
  · rw [if_neg hl]
    by_cases h1 : a1 < 0
    · rw [if_pos h1]
    · rw [if_neg h1]
      by_cases h2 : a1 > 1099511627776
      · rw [if_pos (decide_eq_true h2)]
      · rw [if_neg (by simpa using h2)]
        exact visits_from y0_0 y0_1 y0_2 y0_3 a1 a2 (by omega) (by omega) (by omega) y0_3.length 0 2300 (by omega) (by omega)
end Go.Proofs.Ytddcacomphkeiaa.Pure
