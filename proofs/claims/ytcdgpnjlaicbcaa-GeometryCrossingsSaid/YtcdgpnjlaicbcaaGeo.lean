/- The plain law of geometry: what turn, within, on, Crosses and Square compute of near points. By this session. -/
import Derived.Test.YtcdgpnjlaicbcaaPAx3
import Derived.Test.YtcdgpnjlaicbcaaPAx4
import Derived.Test.YtcdgpnjlaicbcaaPAx47
import Derived.Test.YtcdgpnjlaicbcaaPAx5
import Derived.Test.YtcdgpnjlaicbcaaPAx6
set_option linter.unusedVariables false
set_option linter.unusedSimpArgs false
namespace Go.Proofs.Ytcdgpnjlaicbcaa.Geo
open Go.RowKit Go.Proofs.YtcdgpnjlaicbcaaW.PrintWords Go.Proofs.YtcdgpnjlaicbcaaW.PrintLast Go.Proofs.YtcdgpnjlaicbcaaW.PrintMore Go.Proofs.Ytcdgpnjlaicbcaa.PA

theorem w64 {x : Int} (h : -9223372036854775808 ≤ x) (h' : x ≤ 9223372036854775807) : wrap64 x = x := by
  unfold wrap64; omega
/-- A coordinate of a near point. -/
def nr (x : Int) : Prop := -20000 ≤ x ∧ x ≤ 20000
theorem mul_bd {x y : Int} (h1 : -40000 ≤ x) (h2 : x ≤ 40000) (h3 : -40000 ≤ y) (h4 : y ≤ 40000) : -1600000000 ≤ x * y ∧ x * y ≤ 1600000000 := by
  have a1 := Int.mul_nonneg (show 0 ≤ 40000 - x by omega) (show 0 ≤ 40000 - y by omega)
  have a2 := Int.mul_nonneg (show 0 ≤ 40000 + x by omega) (show 0 ≤ 40000 + y by omega)
  have b1 := Int.mul_nonneg (show 0 ≤ 40000 - x by omega) (show 0 ≤ 40000 + y by omega)
  have b2 := Int.mul_nonneg (show 0 ≤ 40000 + x by omega) (show 0 ≤ 40000 - y by omega)
  simp only [Int.sub_mul, Int.add_mul, Int.mul_sub, Int.mul_add] at a1 a2 b1 b2
  omega
theorem wsub {x y : Int} (h1 : nr x) (h2 : nr y) : wrap64 (x - y) = x - y ∧ -40000 ≤ x - y ∧ x - y ≤ 40000 := by
  obtain ⟨a, b⟩ := h1
  obtain ⟨c, d⟩ := h2
  refine ⟨w64 (by omega) (by omega), by omega, by omega⟩
theorem wmul {x y : Int} (h : -40000 ≤ x ∧ x ≤ 40000) (h' : -40000 ≤ y ∧ y ≤ 40000) : wrap64 (x * y) = x * y ∧ -1600000000 ≤ x * y ∧ x * y ≤ 1600000000 := by
  have := mul_bd h.1 h.2 h'.1 h'.2
  exact ⟨w64 (by omega) (by omega), this⟩
/-- Twice the area of the triangle (a, b), (c, d), (e, f), signed. -/
def Dt (a b c d e f : Int) : Int := (c - a) * (f - b) - (d - b) * (e - a)
def sgn (x : Int) : Int := if x > 0 then 1 else if x < 0 then -1 else 0
theorem sgn0 {x : Int} : sgn x = 0 ↔ x = 0 := by unfold sgn; split <;> (try split) <;> omega
theorem sgn_mul {x y : Int} : sgn x * sgn y < 0 ↔ x * y < 0 := by
  unfold sgn
  rcases Int.lt_trichotomy x 0 with h | h | h <;> rcases Int.lt_trichotomy y 0 with k | k | k
  · have := Int.mul_pos_of_neg_of_neg h k; simp [show ¬ x > 0 by omega, show ¬ y > 0 by omega, h, k]; omega
  · subst k; simp
  · have := Int.mul_neg_of_neg_of_pos h k; simp [show ¬ x > 0 by omega, h, k]; omega
  · subst h; simp
  · subst h; simp
  · subst h; simp
  · have := Int.mul_neg_of_pos_of_neg h k; simp [show ¬ y > 0 by omega, h, k]; omega
  · subst k; simp
  · have := Int.mul_pos h k; simp [h, k]; omega
theorem turn_eq {a b c d e f : Int} (ha : nr a) (hb : nr b) (hc : nr c) (hd : nr d) (he : nr e) (hf : nr f) : geometry_turn.f a b c d e f = some (sgn (Dt a b c d e f)) := by
  obtain ⟨p1, q1⟩ := wsub hc ha
  obtain ⟨p2, q2⟩ := wsub hf hb
  obtain ⟨p3, q3⟩ := wsub hd hb
  obtain ⟨p4, q4⟩ := wsub he ha
  obtain ⟨p5, _⟩ := wmul q1 q2
  obtain ⟨p6, _⟩ := wmul q3 q4
  unfold geometry_turn.f cmp_Compare_int.f cmp_isNaN_int.f sgn Dt
  rw [p1, p2, p3, p4, p5, p6]
  generalize (c - a) * (f - b) = x
  generalize (d - b) * (e - a) = y
  simp only [Option.bind_some, bne_self_eq_false, Bool.false_eq_true, if_false]
  rcases Int.lt_trichotomy x y with h | h | h
  · simp [h, show x - y < 0 by omega]; omega
  · subst h; simp
  · simp [h, show ¬ x < y by omega]
/-- Is (p, q) in the rectangle of (a, b) and (c, d)? -/
def inR (p q a b c d : Int) : Prop := mn a c ≤ p ∧ p ≤ mx a c ∧ mn b d ≤ q ∧ q ≤ mx b d
instance (p q a b c d : Int) : Decidable (inR p q a b c d) := by unfold inR; infer_instance
theorem within_eq (k : Nat) (p q a b c d : Int) : geometry_within.f (k + 1) p q a b c d = some (decide (inR p q a b c d)) := by
  unfold geometry_within.f inR
  simp only [geometry_within.j0]
  by_cases h1 : mn a c ≤ p <;> by_cases h2 : p ≤ mx a c <;> by_cases h3 : mn b d ≤ q <;> by_cases h4 : q ≤ mx b d <;> simp [h1, h2, h3, h4]
/-- Is (p, q) on the segment? -/
def onP (p q a b c d : Int) : Prop := Dt a b c d p q = 0 ∧ inR p q a b c d
instance (p q a b c d : Int) : Decidable (onP p q a b c d) := by unfold onP; infer_instance
theorem mnx (a c : Int) : mn a c ≤ a ∧ mn a c ≤ c ∧ a ≤ mx a c ∧ c ≤ mx a c ∧ (mn a c = a ∨ mn a c = c) ∧ (mx a c = a ∨ mx a c = c) := by
  unfold mn mx; split <;> split <;> omega
theorem onP_l (a b c d : Int) : onP a b a b c d := by
  have h1 := mnx a c; have h2 := mnx b d
  refine ⟨by unfold Dt; simp, h1.1, h1.2.2.1, h2.1, h2.2.2.1⟩
theorem onP_r (a b c d : Int) : onP c d a b c d := by
  have h1 := mnx a c; have h2 := mnx b d
  refine ⟨by unfold Dt; rw [Int.mul_comm]; omega, h1.2.1, h1.2.2.2.1, h2.2.1, h2.2.2.2.1⟩
theorem on_eq (k : Nat) {p q a b c d : Int} (hp : nr p) (hq : nr q) (ha : nr a) (hb : nr b) (hc : nr c) (hd : nr d) : geometry_on.f (k + 1) p q a b c d = some (decide (onP p q a b c d)) := by
  unfold geometry_on.f
  rw [turn_eq ha hb hc hd hp hq, within_eq]
  simp only [geometry_on.j0, Option.bind_some]
  by_cases h1 : p = a ∧ q = b
  · obtain ⟨rfl, rfl⟩ := h1
    simp [onP_l]
  · rw [if_neg (by simpa using h1)]
    by_cases h2 : p = c ∧ q = d
    · obtain ⟨rfl, rfl⟩ := h2
      simp [onP_r]
    · rw [if_neg (by simpa using h2)]
      unfold onP
      by_cases h3 : Dt a b c d p q = 0
      · simp [h3, sgn]
      · have h4 : ¬ sgn (Dt a b c d p q) = 0 := fun h => h3 (sgn0.1 h)
        simp [h3, h4]
/-- Does the path (a, b), (c, d) cross the wall (e, f), (g, h)? -/
def crsP (a b c d e f g h : Int) : Prop :=
  onP e f a b c d ∨ onP g h a b c d ∨ onP a b e f g h ∨ onP c d e f g h ∨ (Dt a b c d e f * Dt a b c d g h < 0 ∧ Dt e f g h a b * Dt e f g h c d < 0)
instance (a b c d e f g h : Int) : Decidable (crsP a b c d e f g h) := by unfold crsP; infer_instance
theorem wsg (x y : Int) : wrap64 (sgn x * sgn y) = sgn x * sgn y := by
  unfold sgn
  repeat' split
  all_goals exact w64 (by decide) (by decide)
theorem cross_eq (k : Nat) {a b c d e f g h : Int} (i : Int) (ha : nr a) (hb : nr b) (hc : nr c) (hd : nr d) (he : nr e) (hf : nr f) (hg : nr g) (hh : nr h) :
    geometry_Crosses.f (k + 1) a b c d e f g h i = some (decide (crsP a b c d e f g h)) := by
  unfold geometry_Crosses.f
  rw [on_eq k he hf ha hb hc hd, on_eq k hg hh ha hb hc hd, on_eq k ha hb he hf hg hh, on_eq k hc hd he hf hg hh]
  simp only [geometry_Crosses.j0, Option.bind_some, turn_eq ha hb hc hd he hf, turn_eq ha hb hc hd hg hh, turn_eq he hf hg hh ha hb, turn_eq he hf hg hh hc hd, wsg, sgn_mul]
  unfold crsP
  by_cases h1 : onP e f a b c d
  · simp [h1]
  · by_cases h2 : onP g h a b c d
    · simp [h2]
    · by_cases h3 : onP a b e f g h
      · simp [h3]
      · by_cases h4 : onP c d e f g h
        · simp [h4]
        · by_cases h5 : Dt a b c d e f * Dt a b c d g h < 0
          · simp [h1, h2, h3, h4, h5]
          · simp [h1, h2, h3, h4, h5]
theorem crsB_eq' {a b c d : Int} {x : S47} (ha : nr a) (hb : nr b) (hc : nr c) (hd : nr d) (he : nr x.f0.f0) (hf : nr x.f0.f1) (hg : nr x.f1.f0) (hh : nr x.f1.f1) : crsB a b c d x = decide (crsP a b c d x.f0.f0 x.f0.f1 x.f1.f0 x.f1.f1) :=
  Option.some.inj ((crsB_eq a b c d x).symm.trans (cross_eq 8 x.f2 ha hb hc hd he hf hg hh))
theorem cross_at {k : Nat} (hk : 1 ≤ k) {a b c d e f g h : Int} (i : Int) (ha : nr a) (hb : nr b) (hc : nr c) (hd : nr d) (he : nr e) (hf : nr f) (hg : nr g) (hh : nr h) :
    geometry_Crosses.f k a b c d e f g h i = some (decide (crsP a b c d e f g h)) := by
  obtain ⟨j, rfl⟩ : ∃ j, k = j + 1 := ⟨k - 1, by omega⟩
  exact cross_eq j i ha hb hc hd he hf hg hh
/-- The square of a distance. -/
def sq (a b c d : Int) : Int := (a - c) * (a - c) + (b - d) * (b - d)
theorem sqn (x : Int) : 0 ≤ x * x := by
  rcases Int.le_total 0 x with h | h
  · exact Int.mul_nonneg h h
  · exact Int.mul_nonneg_of_nonpos_of_nonpos h h
theorem sq_eq {a b c d : Int} (ha : nr a) (hb : nr b) (hc : nr c) (hd : nr d) : geometry_Square.f a b c d = some (sq a b c d) ∧ 0 ≤ sq a b c d ∧ sq a b c d ≤ 3200000000 := by
  obtain ⟨p1, q1⟩ := wsub ha hc
  obtain ⟨p2, q2⟩ := wsub hb hd
  obtain ⟨p3, q3⟩ := wmul q1 q1
  obtain ⟨p4, q4⟩ := wmul q2 q2
  have n1 := sqn (a - c)
  have n2 := sqn (b - d)
  unfold geometry_Square.f sq
  rw [p1, p2, p3, p4, w64 (by omega) (by omega)]
  exact ⟨rfl, by omega, by omega⟩
end Go.Proofs.Ytcdgpnjlaicbcaa.Geo
