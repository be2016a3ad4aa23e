/- The plain law of the reference's turn, within, Crosses, Square. By this session. -/
import Derived.Test.YtcdgpnjlaicbcaaPAx13
import Derived.Test.YtcdgpnjlaicbcaaPAx19
import Derived.Test.YtcdgpnjlaicbcaaPAx20
import Derived.Test.YtcdgpnjlaicbcaaPAx21
import Derived.Test.YtcdgpnjlaicbcaaPAx3
import Derived.Test.YtcdgpnjlaicbcaaGeo
set_option linter.unusedVariables false
set_option linter.unusedSimpArgs false
namespace Go.Proofs.Ytcdgpnjlaicbcaa.Geo
open Go.RowKit Go.Proofs.YtcdgpnjlaicbcaaW.PrintWords Go.Proofs.YtcdgpnjlaicbcaaW.PrintLast Go.Proofs.YtcdgpnjlaicbcaaW.PrintMore Go.Proofs.Ytcdgpnjlaicbcaa.PA
theorem rsq_eq (a b c d : Int) : hopmeshref05_Square.f a b c d = geometry_Square.f a b c d := rfl
theorem rturn_eq {a b c d e f : Int} (ha : nr a) (hb : nr b) (hc : nr c) (hd : nr d) (he : nr e) (hf : nr f) : hopmeshref05_turn.f a b c d e f = some (sgn (Dt a b c d e f)) := by
  obtain ⟨p1, q1⟩ := wsub hc ha
  obtain ⟨p2, q2⟩ := wsub hf hb
  obtain ⟨p3, q3⟩ := wsub hd hb
  obtain ⟨p4, q4⟩ := wsub he ha
  obtain ⟨p5, b5⟩ := wmul q1 q2
  obtain ⟨p6, b6⟩ := wmul q3 q4
  unfold hopmeshref05_turn.f sgn Dt
  rw [p1, p2, p3, p4, p5, p6, w64 (by omega) (by omega)]
  split
  · rfl
  · split <;> rfl
theorem rwithin_eq (k : Nat) (p q a b c d : Int) : hopmeshref05_within.f (k + 1) a b c d p q = some (decide (inR p q a b c d)) := by
  unfold hopmeshref05_within.f inR
  simp only [hopmeshref05_within.j0]
  by_cases h1 : mn a c ≤ p <;> by_cases h2 : p ≤ mx a c <;> by_cases h3 : mn b d ≤ q <;> by_cases h4 : q ≤ mx b d <;> simp [h1, h2, h3, h4]
theorem rcross_at {k : Nat} (hk : 6 ≤ k) {a b c d e f g h : Int} (i : Int) (ha : nr a) (hb : nr b) (hc : nr c) (hd : nr d) (he : nr e) (hf : nr f) (hg : nr g) (hh : nr h) :
    hopmeshref05_Crosses.f k a b c d e f g h i = some (decide (crsP a b c d e f g h)) := by
  obtain ⟨j, rfl⟩ : ∃ j, k = j + 6 := ⟨k - 6, by omega⟩
  unfold hopmeshref05_Crosses.f
  rw [rturn_eq ha hb hc hd he hf, rturn_eq ha hb hc hd hg hh, rturn_eq he hf hg hh ha hb, rturn_eq he hf hg hh hc hd]
  simp only [hopmeshref05_Crosses.j0, Option.bind_some, rwithin_eq, wsg, sgn_mul, sgn0]
  unfold crsP onP
  by_cases h5 : Dt a b c d e f * Dt a b c d g h < 0 <;> by_cases h6 : Dt e f g h a b * Dt e f g h c d < 0 <;>
  by_cases h1 : Dt a b c d e f = 0 <;> by_cases k1 : inR e f a b c d <;> by_cases h2 : Dt a b c d g h = 0 <;> by_cases k2 : inR g h a b c d <;>
  by_cases h3 : Dt e f g h a b = 0 <;> by_cases k3 : inR a b e f g h <;> by_cases h4 : Dt e f g h c d = 0 <;> by_cases k4 : inR c d e f g h <;> simp [h1, h2, h3, h4, k1, k2, k3, k4, h5, h6]
end Go.Proofs.Ytcdgpnjlaicbcaa.Geo
