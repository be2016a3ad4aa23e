-- Written by a program of this session (mkprint.py: the kit's print, changed) for this claim. Not trusted: Lean checks it.
import Derived.Test.YtddcacomphkeiaaPAx0
namespace Go.Proofs.Ytddcacomphkeiaa.PA
open Go.RowKit Go.Proofs.YtddcacomphkeiaaW.PrintWords Go.Proofs.YtddcacomphkeiaaW.PrintLast Go.Proofs.YtddcacomphkeiaaW.PrintMore
attribute [local go_sem] max2_int min2_int max_two min_two max_three min_three max_four min_four   -- for this text's walks alone
set_option linter.unusedVariables false
set_option linter.unusedSimpArgs false

/-! ### hop_Newer: function 26 -/
-- (own)
def hop_Newer.f (a0 : Int) (a1 : Int) : Option Bool := if (mn a0 a1) < 0 then (some false) else (if (mx a0 a1) ≥ 256 then (some false) else (some (decide (1 ≤ (a0 - a1) % 256 ∧ (a0 - a1) % 256 ≤ 127))))
theorem hop_Newer.calls (a0 : Int) (a1 : Int) (r : Bool) (w : World) (h : hop_Newer.f a0 a1 = some r) :
    Calls Try.prog 26 #[.int .i64 a0, .int .i64 a1] w fun e w' => e = .returned (.bool r) ∧ Drawn0 w w' := by
  unfold hop_Newer.f at h
  obtain ⟨ji3, hji3⟩ : ∃ j, mn a0 a1 = j := ⟨_, rfl⟩
  have hji3_ : (if a1 < a0 then a1 else a0) = ji3 := hji3
  obtain ⟨ji5, hji5⟩ : ∃ j, mx a0 a1 = j := ⟨_, rfl⟩
  have hji5_ : (if a0 < a1 then a1 else a0) = ji5 := hji5
  rw [hji3, hji5] at h
  by_cases h1 : ji3 < 0
  · rw [if_pos h1] at h
    obtain rfl := Option.some.inj h
    clear h
    go_enter Try.func26, Try.ntmps26
    go_wp2
    go_ret
    exact ⟨rfl, Drawn0.refl _⟩
  · rw [if_neg h1] at h
    have d1 : decide (ji3 < 0) = false := decide_eq_false h1
    clear h1
    by_cases h2 : ji5 ≥ 256
    · rw [if_pos h2] at h
      obtain rfl := Option.some.inj h
      clear h
      go_enter Try.func26, Try.ntmps26
      go_wp2
      go_ret
      exact ⟨rfl, Drawn0.refl _⟩
    · rw [if_neg h2] at h
      have d2 : decide (256 ≤ ji5) = false := decide_eq_false (by omega)
      clear h2
      obtain rfl := Option.some.inj h
      clear h
      by_cases h3 : 1 ≤ (a0 - a1) % 256
      · have d3 : decide (1 ≤ (a0 - a1) % 256) = true := decide_eq_true h3
        by_cases h4 : (a0 - a1) % 256 ≤ 127
        · have e4 : decide (1 ≤ (a0 - a1) % 256 ∧ (a0 - a1) % 256 ≤ 127) = true := decide_eq_true ⟨h3, h4⟩
          have E4 := Aside0.mk e4
          have d4 : decide ((a0 - a1) % 256 ≤ 127) = true := decide_eq_true h4
          clear e4 h3 h4
          rw [E4.out]
          go_enter Try.func26, Try.ntmps26
          go_wp2
          go_ret
          exact ⟨by simp [d4], Drawn0.refl _⟩
        · have e4 : decide (1 ≤ (a0 - a1) % 256 ∧ (a0 - a1) % 256 ≤ 127) = false := decide_eq_false (fun h => h4 h.2)
          have E4 := Aside0.mk e4
          have d4 : decide ((a0 - a1) % 256 ≤ 127) = false := decide_eq_false h4
          clear e4 h3 h4
          rw [E4.out]
          go_enter Try.func26, Try.ntmps26
          go_wp2
          go_ret
          exact ⟨by simp [d4], Drawn0.refl _⟩
      · have d3 : decide (1 ≤ (a0 - a1) % 256) = false := decide_eq_false h3
        have e4 : decide (1 ≤ (a0 - a1) % 256 ∧ (a0 - a1) % 256 ≤ 127) = false := decide_eq_false (fun h => h3 h.1)
        have E4 := Aside0.mk e4
        clear e4 h3
        rw [E4.out]
        go_enter Try.func26, Try.ntmps26
        go_wp2
        go_ret
        exact ⟨rfl, Drawn0.refl _⟩

end Go.Proofs.Ytddcacomphkeiaa.PA
