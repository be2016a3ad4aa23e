/- The plain law of HopDiffers: what the printed functions compute answers true. By this session. -/
import Derived.Test.YtddcacomphkeiaaPAx17
import Derived.Test.YtddcacomphkeiaaPAx19
import Derived.Test.YtddcacomphkeiaaPAx29
import Derived.Test.YtddcacomphkeiaaPAx6
import Derived.Test.YtddcacomphkeiaaHopA
set_option linter.unusedVariables false
set_option linter.unusedSimpArgs false
namespace Go.Proofs.Ytddcacomphkeiaa.Pure
open Go.RowKit Go.Proofs.YtddcacomphkeiaaW.PrintWords Go.Proofs.YtddcacomphkeiaaW.PrintLast Go.Proofs.YtddcacomphkeiaaW.PrintMore Go.Proofs.Ytddcacomphkeiaa.PA Go.Proofs.Ytddcacomphkeiaa.Hop
theorem chan_in {v f u : Int} {l : List Int} {s : Int} (h : (chanL v f u l s 0).2 = 0) {o : Int} (h0 : 0 ≤ o) (h1 : o < l.length) : okCh l ∧ chanL v f u l s o = (rd l ((s + o) % (l.length : Int)), 0) := by
  unfold chanL at h ⊢
  by_cases hk : okL v f u l
  · rw [if_pos hk] at h ⊢
    by_cases hs : s < f ∨ s ≥ u
    · rw [if_pos hs] at h; simp at h
    · rw [if_neg hs, if_neg (by omega)]
      exact ⟨hk.2.2.2.2.2, rfl⟩
  · rw [if_neg hk] at h; simp at h
theorem chan_out {v f u : Int} {l : List Int} {s : Int} (h : (chanL v f u l s 0).2 = 0) : (chanL v f u l s (l.length : Int)).2 = 2 := by
  unfold chanL at h ⊢
  by_cases hk : okL v f u l
  · rw [if_pos hk] at h ⊢
    by_cases hs : s < f ∨ s ≥ u
    · rw [if_pos hs] at h; simp at h
    · rw [if_neg hs, if_pos (.inr (by omega))]
  · rw [if_neg hk] at h; simp at h
/-- What has been seen in the first k rounds. -/
def seen (l : List Int) (s : Int) (k : Nat) : List Int := (List.range k).map (fun j : Nat => rd l ((s + j) % (l.length : Int)))
theorem not_seen {l : List Int} (hn : l.Nodup) {s : Int} {k : Nat} (hk : k < l.length) : rd l ((s + k) % (l.length : Int)) ∉ seen l s k := by
  intro h
  obtain ⟨j, hj, e⟩ := List.mem_map.1 h
  rw [List.mem_range] at hj
  have := chan_inj hn (by omega) (by omega) (by omega) (by omega) e
  omega
theorem differs_from (v f u : Int) (l : List Int) (s : Int) (hl : l.length ≤ 20) (h0 : (chanL v f u l s 0).2 = 0) : ∀ n i k, i + n = l.length → 2 * n + 2200 ≤ k → hopmeshlaw11_HopDiffers.l0 k s (seen l s i) (l.length : Int) (i : Int) v f u l = some true
  | 0, i, k, h, hk => by
    obtain ⟨k, rfl⟩ : ∃ j, k = j + 1 := ⟨k - 1, by omega⟩
    rw [hopmeshlaw11_HopDiffers.l0, if_neg (by omega), Channel_eq _ _ _ _ _ (by omega) (by omega), Option.bind_some, chan_out h0]
    rfl
  | n + 1, i, k, h, hk => by
    obtain ⟨k, rfl⟩ : ∃ j, k = j + 1 + 1 := ⟨k - 2, by omega⟩
    have hi : i < l.length := by omega
    obtain ⟨hok, hc⟩ := chan_in h0 (o := (i : Int)) (by omega) (by omega)
    obtain ⟨_, hc0⟩ := chan_in h0 (o := 0) (by omega) (by omega)
    have hsl : (seen l s i).length = i := by simp [seen]
    rw [hopmeshlaw11_HopDiffers.l0, if_pos (by omega), Channel_eq _ _ _ _ _ (by omega) (by omega), Option.bind_some, hc]
    dsimp only
    rw [if_pos rfl, contains_eq _ _ (by omega) (by omega), Option.bind_some, decide_eq_false (not_seen hok.2.2 hi), if_neg (by simp), contains_eq _ _ (by omega) (by omega), Option.bind_some,
      decide_eq_true (rd_mem (Int.emod_nonneg _ (by omega)) (Int.emod_lt_of_pos _ (by omega))), hopmeshlaw11_HopDiffers.j1, if_neg (by simp), if_pos (by omega)]
    unfold hop_Meet.f
    rw [Channel_eq _ _ _ _ _ (by omega) (by omega), Channel_eq _ _ _ _ _ (by omega) (by omega), hc, hc0]
    simp only [Option.bind_some, if_true]
    rw [if_neg, wsucc (by omega)]
    · have := differs_from v f u l s hl h0 n (i + 1) k (by omega) (by omega)
      rwa [show seen l s (i + 1) = seen l s i ++ [rd l ((s + i) % (l.length : Int))] by simp [seen, List.range_succ]] at this
    · by_cases hz : i = 0
      · subst hz; simp
      · have : ¬ rd l ((s + 0) % (l.length : Int)) = rd l ((s + i) % (l.length : Int)) := fun e => by
          have := chan_inj hok.2.2 (by omega) (by omega) (by omega) (by omega) e
          omega
        have hne : ¬ (i : Int) = 0 := by omega
        rw [beq_eq_false_iff_ne.2 this, beq_eq_false_iff_ne.2 hne]
        simp
theorem HopDiffers (y0_0 : Int) (y0_1 : Int) (y0_2 : Int) (y0_3 : (List Int)) (a1 : Int) (w0_0 : (Lit.int .i64 y0_0).wf = true) (w0_1 : (Lit.int .i64 y0_1).wf = true) (w0_2 : (Lit.int .i64 y0_2).wf = true) (w0_3 : (∀ y ∈ y0_3, (Lit.int .i64 y).wf = true)) (w1 : (Lit.int .i64 a1).wf = true) : ∃ k, hopmeshlaw11_HopDiffers.f k y0_0 y0_1 y0_2 y0_3 a1 = some true := by
  refine ⟨2300, ?_⟩
  unfold hopmeshlaw11_HopDiffers.f hopmeshlaw11_awake.f
  rw [Option.bind_some, if_pos rfl]
  by_cases hl : (y0_3.length : Int) > 20
  · rw [if_pos hl]
  · rw [if_neg hl, Channel_eq _ _ _ _ _ (by omega) (by omega), Option.bind_some]
    by_cases h0 : (chanL y0_0 y0_1 y0_2 y0_3 a1 0).2 = 0
    · rw [if_pos h0]
      exact differs_from y0_0 y0_1 y0_2 y0_3 a1 (by omega) h0 y0_3.length 0 2300 (by omega) (by omega)
    · rw [if_neg h0]
      by_cases h1 : (chanL y0_0 y0_1 y0_2 y0_3 a1 0).2 = 1
      · rw [if_pos h1]
      · rw [if_neg h1]
        unfold chanL at h0 h1 ⊢
        by_cases hk : okL y0_0 y0_1 y0_2 y0_3
        · rw [if_pos hk] at h0 h1 ⊢
          have hp := List.length_pos_iff.2 hk.2.2.2.2.2.1
          by_cases hs : a1 < y0_1 ∨ a1 ≥ y0_2
          · rw [if_pos hs]; rfl
          · rw [if_neg hs, if_neg (by omega)] at h0; simp at h0
        · rw [if_neg hk] at h1; simp at h1
end Go.Proofs.Ytddcacomphkeiaa.Pure
