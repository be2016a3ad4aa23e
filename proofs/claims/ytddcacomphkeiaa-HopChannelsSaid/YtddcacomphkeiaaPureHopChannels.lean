/- The plain law of HopChannels: what the printed functions compute answers true. By this session. -/
import Derived.Test.YtddcacomphkeiaaPAx17
import Derived.Test.YtddcacomphkeiaaPAx18
import Derived.Test.YtddcacomphkeiaaPAx6
import Derived.Test.YtddcacomphkeiaaHopA
set_option linter.unusedVariables false
set_option linter.unusedSimpArgs false
namespace Go.Proofs.Ytddcacomphkeiaa.Pure
open Go.RowKit Go.Proofs.YtddcacomphkeiaaW.PrintWords Go.Proofs.YtddcacomphkeiaaW.PrintLast Go.Proofs.YtddcacomphkeiaaW.PrintMore Go.Proofs.Ytddcacomphkeiaa.PA Go.Proofs.Ytddcacomphkeiaa.Hop
theorem Meet_eq (v f u : Int) {l : List Int} (s a b : Int) (hl : l.length ≤ 1000) {k : Nat} (hk : 2100 ≤ k) : hop_Meet.f k v f u l s a b = hopmeshref11_Meet.f k v f u l s a b := by
  unfold hop_Meet.f hopmeshref11_Meet.f
  simp only [Channel_eq v f u s _ hl hk, rChannel_eq v f u s _ hl hk, Option.bind_some]
  by_cases h1 : (chanL v f u l s a).2 = 0
  · rw [if_pos h1, if_pos h1]
    by_cases h2 : (chanL v f u l s b).2 = 0
    · rw [if_pos h2, if_pos h2, h2]
    · rw [if_neg h2, if_neg h2]
  · rw [if_neg h1, if_neg h1]
theorem Meet_tot (v f u : Int) {l : List Int} (s a b : Int) (hl : l.length ≤ 1000) {k : Nat} (hk : 2100 ≤ k) : ∃ r, hop_Meet.f k v f u l s a b = some r := by
  unfold hop_Meet.f
  simp only [Channel_eq v f u s _ hl hk, Option.bind_some]
  split <;> (try split) <;> exact ⟨_, rfl⟩
theorem HopChannels (y0_0 : Int) (y0_1 : Int) (y0_2 : Int) (y0_3 : (List Int)) (y1_0 : Int) (y1_1 : Int) (y1_2 : Int) (w0_0 : (Lit.int .i64 y0_0).wf = true) (w0_1 : (Lit.int .i64 y0_1).wf = true) (w0_2 : (Lit.int .i64 y0_2).wf = true) (w0_3 : (∀ y ∈ y0_3, (Lit.int .i64 y).wf = true)) (w1_0 : (Lit.int .i64 y1_0).wf = true) (w1_1 : (Lit.int .i64 y1_1).wf = true) (w1_2 : (Lit.int .i64 y1_2).wf = true) : ∃ k, hopmeshlaw11_HopChannels.f k y0_0 y0_1 y0_2 y0_3 y1_0 y1_1 y1_2 = some true := by
  refine ⟨2100, ?_⟩
  unfold hopmeshlaw11_HopChannels.f hopmeshlaw11_awake.f
  rw [Option.bind_some, if_pos rfl]
  by_cases hl : (y0_3.length : Int) > 20
  · rw [if_pos hl]
  · have hl' : y0_3.length ≤ 1000 := by omega
    have hk : 2100 ≤ 2100 := Nat.le_refl _
    obtain ⟨r, hr⟩ := Meet_tot y0_0 y0_1 y0_2 y1_0 y1_1 y1_2 hl' hk
    rw [if_neg hl, Channel_eq _ _ _ _ _ hl' hk, rChannel_eq _ _ _ _ _ hl' hk, ← Meet_eq _ _ _ _ _ _ hl' hk, hr, Check_eq _ _ _ hl' hk, rCheck_eq _ _ _ hl' hk]
    simp
end Go.Proofs.Ytddcacomphkeiaa.Pure
