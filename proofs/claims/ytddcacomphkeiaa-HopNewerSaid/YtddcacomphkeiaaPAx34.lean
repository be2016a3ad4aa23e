-- Written by a program of this session (mkprint.py: the kit's print, changed) for this claim. Not trusted: Lean checks it.
import Derived.Test.YtddcacomphkeiaaPAx0
import Derived.Test.YtddcacomphkeiaaPAx23
import Derived.Test.YtddcacomphkeiaaHof
namespace Go.Proofs.Ytddcacomphkeiaa.PA
open Go.RowKit Go.Proofs.YtddcacomphkeiaaW.PrintWords Go.Proofs.YtddcacomphkeiaaW.PrintLast Go.Proofs.YtddcacomphkeiaaW.PrintMore
attribute [local go_sem] max2_int min2_int max_two min_two max_three min_three max_four min_four   -- for this text's walks alone
set_option linter.unusedVariables false
set_option linter.unusedSimpArgs false

/-! ### hopmeshlaw11_few: function 28 -/
-- (own)
-- IMPORT Derived.Test.YtddcacomphkeiaaHof
open Go.Shelf
/-- A list is long. -/
def longL (x : S24) : Bool := decide ((x.f3.length : Int) > 20)
theorem long_calls (A0 : Option Addr) (c0 : Nat) (l0 : List (S24)) (w : World) (hr0 : Kd.C k24 w A0 l0.length l0) :
    Calls Try.prog 33 #[.slice A0 l0.length c0, .func (.func 46) #[] #[]] w fun e w' => e = .returned (.bool (l0.any longL)) ∧ Below w.heap.size w w' :=
  cont33 longL 46 #[] (enters_of Try.func46 (by kernel_rfl) rfl) A0 c0 l0 w (fun W x A c _ hl hC _ => by
    rw [Array.append_empty]
    exact hopmeshlaw11_few_1.calls x.f0 x.f1 x.f2 A c x.f3 _ W hC hl rfl) hr0
def hopmeshlaw11_few.f (l0 : List S24) : Option Bool := some (decide ((l0.length : Int) ≤ 10) && !(l0.any longL))
theorem hopmeshlaw11_few.calls (A0 : Option Addr) (c0 : Nat) (l0 : List (S24)) (r : Bool) (w : World) (hr0 : Kd.C k24 w A0 l0.length l0) (hc0 : l0.length ≤ c0) (h : hopmeshlaw11_few.f l0 = some r) :
    Calls Try.prog 28 #[.slice A0 l0.length c0] w fun e w' => e = .returned (.bool r) ∧ Below w.heap.size w w' := by
  obtain rfl := Option.some.inj h
  have HL := Aside0.mk (long_calls A0 c0 l0 w hr0)
  clear h hr0 hc0
  by_cases c2 : (l0.length : Int) ≤ 10
  · have c2b0 : decide ((l0.length : Int) ≤ 10) = true := decide_eq_true c2
    have c2b1 : decide (l0.length ≤ 10) = true := decide_eq_true (by omega)
    rw [c2b0]
    clear c2
    go_enter Try.func28, Try.ntmps28
    go_wp2_with (go_at_call 33; refine HL.out.mono ?_; rintro e w1 ⟨rfl, hb⟩; have HB := Aside0.mk hb; clear hb)
    go_ret
    exact ⟨by simp, HB.out⟩
  · have c2b0 : decide ((l0.length : Int) ≤ 10) = false := decide_eq_false c2
    have c2b1 : decide (l0.length ≤ 10) = false := decide_eq_false (by omega)
    rw [c2b0]
    clear c2
    go_enter Try.func28, Try.ntmps28
    go_wp2
    go_ret
    exact ⟨by simp, Below.refl _ _⟩

end Go.Proofs.Ytddcacomphkeiaa.PA
