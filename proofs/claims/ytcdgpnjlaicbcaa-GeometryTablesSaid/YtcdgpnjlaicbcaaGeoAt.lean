/- The plain law of geometry: what at and At compute of a valid site. By this session. -/
import Derived.Test.YtcdgpnjlaicbcaaPAx11
import Derived.Test.YtcdgpnjlaicbcaaPAx43
import Derived.Test.YtcdgpnjlaicbcaaPAx44
import Derived.Test.YtcdgpnjlaicbcaaPAx7
import Derived.Test.YtcdgpnjlaicbcaaGeo
set_option linter.unusedVariables false
set_option linter.unusedSimpArgs false
namespace Go.Proofs.Ytcdgpnjlaicbcaa.Geo
open Go.RowKit Go.Proofs.YtcdgpnjlaicbcaaW.PrintWords Go.Proofs.YtcdgpnjlaicbcaaW.PrintLast Go.Proofs.YtcdgpnjlaicbcaaW.PrintMore Go.Proofs.Ytcdgpnjlaicbcaa.PA
def okPt (a b : Int) : Prop := 0 ≤ a ∧ 0 ≤ b ∧ a ≤ 10000 ∧ b ≤ 10000
instance (a b : Int) : Decidable (okPt a b) := by unfold okPt; infer_instance
def okPw (p : Int) : Prop := 0 ≤ p ∧ p ≤ 68719476736
instance (p : Int) : Decidable (okPw p) := by unfold okPw; infer_instance
def okWall (x : S47) : Prop := okPt x.f0.f0 x.f0.f1 ∧ okPt x.f1.f0 x.f1.f1 ∧ 0 ≤ x.f2 ∧ x.f2 ≤ 1000
theorem okPt.nr {a b : Int} (h : okPt a b) : nr a ∧ nr b := by
  obtain ⟨h1, h2, h3, h4⟩ := h
  exact ⟨⟨by omega, by omega⟩, by omega, by omega⟩
theorem site_points {l0 : List S28} {l1 : List Int} {l2 : List S47} {x y z : Int} (h : siteOk l0 l1 l2 x y z) : (∀ q ∈ l0, okPt q.f0 q.f1) ∧ (∀ q ∈ l1, okPw q) ∧ (∀ q ∈ l2, okWall q) := by
  obtain ⟨_, _, h1, _, h2, _, h3, _⟩ := h
  rw [List.any_eq_false] at h1 h2 h3
  refine ⟨fun q hq => ?_, fun q hq => ?_, fun q hq => ?_⟩
  · have := h1 q hq
    simp only [badPoint, ptB, Bool.not_eq_true', decide_eq_false_iff_not, Classical.not_not] at this
    exact this
  · have := h2 q hq
    simp only [badPower, Bool.not_eq_true', decide_eq_false_iff_not, Classical.not_not] at this
    exact this
  · have := h3 q hq
    simp only [badWall, ptB, Bool.or_eq_true, Bool.not_eq_true', decide_eq_false_iff_not, decide_eq_true_eq, not_or, Classical.not_not] at this
    exact ⟨this.1, this.2.1, by omega, by omega⟩
theorem wall_site {l0 : List S28} {l1 : List Int} {l2 l2' : List S47} {x y z : Int} (h : siteOk l0 l1 l2 x y z) (hl : l2'.length ≤ 32) (hw : ∀ q ∈ l2', okWall q) : siteOk l0 l1 l2' x y z := by
  obtain ⟨a, b, c, d, e, _, _, g⟩ := h
  refine ⟨a, b, c, d, e, hl, ?_, g⟩
  rw [List.any_eq_false]
  intro q hq
  have := hw q hq
  simp only [badWall, ptB, Bool.or_eq_true, Bool.not_eq_true', decide_eq_false_iff_not, decide_eq_true_eq, not_or, Classical.not_not]
  exact ⟨this.1, this.2.1, by have := this.2.2; omega, by have := this.2.2; omega⟩
/-- The square of the distance, at least 100. -/
def M (a b c d : Int) : Int := if sq a b c d < 100 then 100 else sq a b c d
theorem atM_eq {a b c d : Int} (h : okPt a b) (h' : okPt c d) : atM a b c d = M a b c d ∧ 100 ≤ M a b c d := by
  have hs := sq_eq h.nr.1 h.nr.2 h'.nr.1 h'.nr.2
  have : sqB a b c d = sq a b c d := Option.some.inj hs.1
  unfold atM M mx
  rw [this]
  refine ⟨rfl, ?_⟩
  split <;> omega
/-- The power behind the distance once. -/
def fall (p m : Int) : Int := p * 100 / m
theorem fall_le {p m : Int} (h : okPw p) (hm : 100 ≤ m) : 0 ≤ fall p m ∧ fall p m ≤ p := by
  obtain ⟨h1, h2⟩ := h
  refine ⟨Int.ediv_nonneg (by omega) (by omega), Int.ediv_le_of_le_mul (by omega) ?_⟩
  have := Int.mul_le_mul_of_nonneg_left hm h1
  omega
theorem at1_eq {p m : Int} (h : okPw p) (hm : 100 ≤ m) : at1 p m = fall p m := by
  have hf := fall_le h hm
  unfold at1
  obtain ⟨h1, h2⟩ := h
  rw [w64 (x := p * 100) (by omega) (by omega), Int.tdiv_eq_ediv_of_nonneg (by omega)]
  exact w64 (by unfold fall at hf; omega) (by unfold fall at hf; omega)
theorem fall_ok {p m : Int} (h : okPw p) (hm : 100 ≤ m) : okPw (fall p m) := by
  have := fall_le h hm
  exact ⟨this.1, Int.le_trans this.2 h.2⟩
/-- The power behind the distance. -/
def dist (ex p m : Int) : Int := if ex = 4 then fall (fall p m) m else fall p m
theorem at0_eq {ex p m : Int} (h : okPw p) (hm : 100 ≤ m) : at0 ex p m = dist ex p m ∧ 0 ≤ dist ex p m ∧ dist ex p m ≤ p := by
  unfold at0 dist
  rw [at1_eq h hm, at1_eq (fall_ok h hm) hm]
  refine ⟨rfl, ?_⟩
  have h1 := fall_le h hm
  have h2 := fall_le (fall_ok h hm) hm
  split <;> omega
/-- The power behind a wall. -/
def wallF (p f : Int) : Int := p * f / 1000
theorem wallF_le {p f : Int} (h : okPw p) (h0 : 0 ≤ f) (h1 : f ≤ 1000) : 0 ≤ wallF p f ∧ wallF p f ≤ p := by
  obtain ⟨h2, h3⟩ := h
  have m := Int.mul_le_mul_of_nonneg_left h1 h2
  have n := Int.mul_nonneg h2 h0
  unfold wallF
  omega
theorem scl_ok {p f : Int} (h : okPw p) (h0 : 0 ≤ f) (h1 : f ≤ 1000) : (sclB p f).1 = wallF p f := by
  have hw := wallF_le h h0 h1
  obtain ⟨h2, h3⟩ := h
  have m := Int.mul_le_mul_of_nonneg_left h1 h2
  have n := Int.mul_nonneg h2 h0
  unfold sclB power_Scale.f power_power.f
  rw [if_pos h2]
  simp only [Option.bind_some, h3, decide_true, if_true, show ¬ f < 0 by omega, if_false, power_Scale.j0, show ¬ f > 1000 by omega, decide_false, Bool.false_eq_true, Option.getD_some]
  rw [w64 (x := p * f) (by omega) (by omega), Int.tdiv_eq_ediv_of_nonneg n]
  exact w64 (by unfold wallF at hw; omega) (by unfold wallF at hw; omega)
/-- The power behind walls. -/
def walls (p : Int) (l : List S47) : Int := l.foldl (fun p x => wallF p x.f2) p
theorem walls_eq : ∀ {l : List S47} {p : Int}, okPw p → (∀ x ∈ l, okWall x) → sclF p l = walls p l ∧ 0 ≤ walls p l ∧ walls p l ≤ p
  | [], p, h, _ => ⟨rfl, h.1, Int.le_refl _⟩
  | x :: l, p, h, hl => by
    have hx := (hl x (List.mem_cons_self ..)).2.2
    have hw := wallF_le h hx.1 hx.2
    have hp : okPw (wallF p x.f2) := ⟨hw.1, Int.le_trans hw.2 h.2⟩
    have ih := walls_eq (l := l) hp (fun y hy => hl y (List.mem_cons_of_mem _ hy))
    unfold sclF walls at *
    rw [List.foldl_cons, List.foldl_cons, scl_ok h hx.1 hx.2]
    exact ⟨ih.1, ih.2.1, Int.le_trans ih.2.2 hw.2⟩
/-- The walls that are crossed. -/
def cw (l : List S47) (a b c d : Int) : List S47 := l.filter fun x => decide (crsP a b c d x.f0.f0 x.f0.f1 x.f1.f0 x.f1.f1)
theorem cw_eq {l : List S47} {a b c d : Int} (h : okPt a b) (h' : okPt c d) (hl : ∀ x ∈ l, okWall x) : l.filter (crsB a b c d) = cw l a b c d := by
  unfold cw
  refine List.filter_congr fun x hx => ?_
  have hw := hl x hx
  exact crsB_eq' h.nr.1 h.nr.2 h'.nr.1 h'.nr.2 hw.1.nr.1 hw.1.nr.2 hw.2.1.nr.1 hw.2.1.nr.2
theorem cw_ok {l : List S47} (a b c d : Int) (hl : ∀ x ∈ l, okWall x) : ∀ x ∈ cw l a b c d, okWall x := fun x hx => hl x (List.mem_filter.1 hx).1
/-- The power at (c, d) of a sender at (a, b). -/
def atV (l : List S47) (ex a b p c d : Int) : Int := walls (dist ex p (M a b c d)) (cw l a b c d)
theorem at_eq (l0 : List S28) (l1 : List Int) {l : List S47} {ex y z a b p c d : Int} (h : okPt a b) (h' : okPt c d) (hp : okPw p) (hl : ∀ x ∈ l, okWall x) :
    geometry_at.f l0 l1 l ex y z a b p c d = some (atV l ex a b p c d) ∧ 0 ≤ atV l ex a b p c d ∧ atV l ex a b p c d ≤ p := by
  obtain ⟨hM, hm⟩ := atM_eq h h'
  obtain ⟨h0, h1, h2⟩ := at0_eq (ex := ex) hp hm
  have hd : okPw (dist ex p (M a b c d)) := ⟨h1, Int.le_trans h2 hp.2⟩
  obtain ⟨k0, k1, k2⟩ := walls_eq hd (cw_ok a b c d hl)
  unfold geometry_at.f atV
  rw [hM, cw_eq h h' hl, h0, k0]
  exact ⟨rfl, k1, Int.le_trans k2 h2⟩
theorem few (l0 : List S28) (l1 : List Int) (l : List S47) (ex y z : Int) : hopmeshref05_Few.f l0 l1 l ex y z = some (decide (l0.length ≤ 40 ∧ l1.length ≤ 40 ∧ l.length ≤ 40)) := by
  unfold hopmeshref05_Few.f
  by_cases h1 : l0.length ≤ 40
  · rw [if_pos (by omega)]
    by_cases h2 : l1.length ≤ 40
    · rw [if_pos (by omega)]
      by_cases h3 : l.length ≤ 40
      · simp [h1, h2, h3]; omega
      · simp [h3]; omega
    · rw [if_neg (by omega)]; simp [h2]
  · rw [if_neg (by omega)]; simp [h1]
end Go.Proofs.Ytcdgpnjlaicbcaa.Geo
