-- Written by a program of this session (mkprint.py: the kit's print, changed) for this claim. Not trusted: Lean checks it.
import Derived.Test.YtcdgpnjlaicbcaaPAx0
import Derived.Test.YtcdgpnjlaicbcaaPAx31
import Derived.Test.YtcdgpnjlaicbcaaHof
namespace Go.Proofs.Ytcdgpnjlaicbcaa.PA
open Go.RowKit Go.Proofs.YtcdgpnjlaicbcaaW.PrintWords Go.Proofs.YtcdgpnjlaicbcaaW.PrintLast Go.Proofs.YtcdgpnjlaicbcaaW.PrintMore
attribute [local go_sem] max2_int min2_int max_two min_two max_three min_three max_four min_four   -- for this text's walks alone
set_option linter.unusedVariables false
set_option linter.unusedSimpArgs false

/-! ### hopmeshlaw05_near: function 24 -/
-- (own)
-- IMPORT Derived.Test.YtcdgpnjlaicbcaaHof
open Go.Shelf
/-- A point that is not near. -/
def farPoint (x : S28) : Bool := decide (x.f0 < -20000) || (decide (x.f0 > 20000) || (decide (x.f1 < -20000) || decide (x.f1 > 20000)))
theorem far_eq (x : S28) : hopmeshlaw05_near_1.f x.f0 x.f1 = some (farPoint x) := by
  unfold hopmeshlaw05_near_1.f farPoint
  by_cases h1 : x.f0 < -20000
  · simp [h1]
  · by_cases h2 : x.f0 > 20000
    · simp [h2]
    · by_cases h3 : x.f1 < -20000
      · simp [h3]
      · simp [h1, h2, h3]
theorem own_near44 (A : Option Addr) (c : Nat) (l : List S28) (w : World) (hr : Kd.C k28 w A l.length l) :
    Calls Try.prog 44 #[.slice A l.length c, .func (.func 53) #[] #[]] w fun e w' => e = .returned (.bool (l.any farPoint)) ∧ Below w.heap.size w w' :=
  cont44 farPoint 53 #[] (enters_of Try.func53 (by kernel_rfl) rfl) A c l w (fun W' x _ => by rw [Array.append_empty]; exact (hopmeshlaw05_near_1.calls x.f0 x.f1 _ W' (far_eq x)).mono fun e w' ⟨h1, h2⟩ => ⟨h1, h2⟩) hr
def hopmeshlaw05_near.f (l0 : List (S28)) : Option (Bool) := some (!l0.any farPoint)
theorem hopmeshlaw05_near.calls (A0 : Option Addr) (c0 : Nat) (l0 : List (S28)) (r : Bool) (w : World) (hr0 : Kd.C k28 w A0 l0.length l0) (_hc0 : l0.length ≤ c0) (h : hopmeshlaw05_near.f l0 = some r) :
    Calls Try.prog 24 #[.slice A0 l0.length c0] w fun e w' => e = .returned (.bool r) ∧ Below w.heap.size w w' := by
  have HC := Aside0.mk (own_near44 A0 c0 l0 w hr0)
  clear hr0
  obtain rfl := Option.some.inj h
  clear h
  go_enter Try.func24, Try.ntmps24
  go_wp2_with (go_at_call 44; refine HC.out.mono ?_; rintro e w1 ⟨rfl, hb⟩)
  go_ret
  exact ⟨rfl, hb⟩

end Go.Proofs.Ytcdgpnjlaicbcaa.PA
