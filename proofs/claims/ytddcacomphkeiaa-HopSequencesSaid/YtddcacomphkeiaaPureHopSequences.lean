/- The plain law of HopSequences: what the printed functions compute answers true. By this session. -/
import Derived.Test.YtddcacomphkeiaaPAx25
import Derived.Test.YtddcacomphkeiaaPAx6
import Derived.Test.YtddcacomphkeiaaHopC
set_option linter.unusedVariables false
set_option linter.unusedSimpArgs false
namespace Go.Proofs.Ytddcacomphkeiaa.Pure
open Go.RowKit Go.Proofs.YtddcacomphkeiaaW.PrintWords Go.Proofs.YtddcacomphkeiaaW.PrintLast Go.Proofs.YtddcacomphkeiaaW.PrintMore Go.Proofs.Ytddcacomphkeiaa.PA Go.Proofs.Ytddcacomphkeiaa.Hop
theorem HopSequences (l0 : (List S24)) (a1 : Int) (w0 : (∀ y ∈ l0, ((Lit.int .i64 y.f0).wf = true ∧ (Lit.int .i64 y.f1).wf = true ∧ (Lit.int .i64 y.f2).wf = true ∧ (∀ z ∈ y.f3, (Lit.int .i64 z).wf = true)))) (w1 : (Lit.int .i64 a1).wf = true) : ∃ k, hopmeshlaw11_HopSequences.f k l0 a1 = some true := by
  refine ⟨5000, ?_⟩
  unfold hopmeshlaw11_HopSequences.f hopmeshlaw11_awake.f
  rw [Option.bind_some, if_pos rfl, few_eq, Option.bind_some]
  by_cases h : l0.length ≤ 10 ∧ ∀ x ∈ l0, x.f3.length ≤ 20
  · have hs : ∀ x ∈ l0, x.f3.length ≤ 1000 := fun x hx => by have := h.2 x hx; omega
    rw [if_pos (decide_eq_true h), cp_eq h.1 hs, Option.bind_some, InForce_eq a1 h.1 hs (by omega), Option.bind_some, rInForce_eq a1 h.1 hs (by omega), Option.bind_some, Option.bind_some, CheckAll_eq h.1 hs (by omega), Option.bind_some, rCheckAll_eq h.1 hs (by omega), Option.bind_some, if_pos rfl, if_pos rfl, Same_eq _ _ _ (inForce_len a1 hs) (by omega)]
    rfl
  · rw [if_neg (by simpa using h)]
end Go.Proofs.Ytddcacomphkeiaa.Pure
