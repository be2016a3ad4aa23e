/- The plain law of GeometryCrossings: what the printed functions compute answers true. By this session. -/
import Derived.Test.YtcdgpnjlaicbcaaPAx0
import Derived.Test.YtcdgpnjlaicbcaaPAx11
import Derived.Test.YtcdgpnjlaicbcaaPAx38
import Derived.Test.YtcdgpnjlaicbcaaGeo
set_option linter.unusedVariables false
set_option linter.unusedSimpArgs false
namespace Go.Proofs.Ytcdgpnjlaicbcaa.Pure
open Go.RowKit Go.Proofs.YtcdgpnjlaicbcaaW.PrintWords Go.Proofs.YtcdgpnjlaicbcaaW.PrintLast Go.Proofs.YtcdgpnjlaicbcaaW.PrintMore Go.Proofs.Ytcdgpnjlaicbcaa.PA Go.Proofs.Ytcdgpnjlaicbcaa.Geo
theorem apartX {a c e g d1 d2 e1 e2 p : Int} (hid : a * d2 - c * d1 + e * e2 - g * e1 = 0) (hs : d2 - d1 + e2 - e1 = 0) (h1 : d1 * d2 < 0) (h2 : e1 * e2 < 0) (ha : a ≤ p) (hc : c ≤ p) (he : p < e) (hg : p < g) : False := by
  have hz : (a - p) * d2 - (c - p) * d1 + (e - p) * e2 - (g - p) * e1 = 0 := by grind
  rcases Int.lt_trichotomy d1 0 with k | k | k
  · rcases Int.lt_trichotomy d2 0 with l | l | l
    · have := Int.mul_pos_of_neg_of_neg k l; omega
    · subst l; simp at h1
    · have m1 : 0 ≤ (p - a) * d2 := Int.mul_nonneg (by omega) (by omega)
      have m2 : 0 ≤ (p - c) * (-d1) := Int.mul_nonneg (by omega) (by omega)
      have n1 : 0 < e1 := by
        rcases Int.lt_trichotomy e1 0 with q | q | q
        · have : e2 < 0 := by omega
          have := Int.mul_pos_of_neg_of_neg q this; omega
        · subst q; simp at h2
        · exact q
      have n2 : e2 < 0 := by
        rcases Int.lt_trichotomy e2 0 with q | q | q
        · exact q
        · subst q; simp at h2
        · have := Int.mul_pos n1 q; omega
      have m3 : 0 < (e - p) * (-e2) := Int.mul_pos (by omega) (by omega)
      have m4 : 0 < (g - p) * e1 := Int.mul_pos (by omega) (by omega)
      grind
  · subst k; simp at h1
  · rcases Int.lt_trichotomy d2 0 with l | l | l
    · have m1 : 0 ≤ (p - a) * (-d2) := Int.mul_nonneg (by omega) (by omega)
      have m2 : 0 ≤ (p - c) * d1 := Int.mul_nonneg (by omega) (by omega)
      have n1 : e1 < 0 := by
        rcases Int.lt_trichotomy e1 0 with q | q | q
        · exact q
        · subst q; simp at h2
        · have : 0 < e2 := by omega
          have := Int.mul_pos q this; omega
      have n2 : 0 < e2 := by
        rcases Int.lt_trichotomy e2 0 with q | q | q
        · have := Int.mul_pos_of_neg_of_neg n1 q; omega
        · subst q; simp at h2
        · exact q
      have m3 : 0 < (e - p) * e2 := Int.mul_pos (by omega) (by omega)
      have m4 : 0 < (g - p) * (-e1) := Int.mul_pos (by omega) (by omega)
      grind
    · subst l; simp at h1
    · have := Int.mul_pos k l; omega
theorem idX (a b c d e f g h : Int) : a * Dt e f g h c d - c * Dt e f g h a b + e * Dt a b c d g h - g * Dt a b c d e f = 0 := by unfold Dt; grind
theorem idY (a b c d e f g h : Int) : b * Dt e f g h c d - d * Dt e f g h a b + f * Dt a b c d g h - h * Dt a b c d e f = 0 := by unfold Dt; grind
theorem idS (a b c d e f g h : Int) : Dt e f g h c d - Dt e f g h a b + Dt a b c d g h - Dt a b c d e f = 0 := by unfold Dt; grind
theorem apart {a b c d e f g h : Int} (hA : mx a c < mn e g ∨ mx e g < mn a c ∨ mx b d < mn f h ∨ mx f h < mn b d) : ¬ crsP a b c d e f g h := by
  have ac := mnx a c; have eg := mnx e g; have bd := mnx b d; have fh := mnx f h
  unfold crsP onP inR
  rintro (⟨_, h1⟩ | ⟨_, h1⟩ | ⟨_, h1⟩ | ⟨_, h1⟩ | ⟨h1, h2⟩)
  · omega
  · omega
  · omega
  · omega
  · have iX := idX a b c d e f g h
    have iY := idY a b c d e f g h
    have iS := idS a b c d e f g h
    generalize Dt e f g h c d = d2 at *
    generalize Dt e f g h a b = d1 at *
    generalize Dt a b c d g h = e2 at *
    generalize Dt a b c d e f = e1 at *
    rcases hA with hA | hA | hA | hA
    · exact apartX (p := mx a c) iX iS h2 h1 (by omega) (by omega) (by omega) (by omega)
    · exact apartX (p := mx e g) (a := e) (c := g) (e := a) (g := c) (d2 := e2) (d1 := e1) (e2 := d2) (e1 := d1) (by omega) (by omega) h1 h2 (by omega) (by omega) (by omega) (by omega)
    · exact apartX (p := mx b d) iY iS h2 h1 (by omega) (by omega) (by omega) (by omega)
    · exact apartX (p := mx f h) (a := f) (c := h) (e := b) (g := d) (d2 := e2) (d1 := e1) (e2 := d2) (e1 := d1) (by omega) (by omega) h1 h2 (by omega) (by omega) (by omega) (by omega)
theorem mid (a b c d : Int) : onP (a + c) (b + d) (2 * a) (2 * b) (2 * c) (2 * d) := by
  have h1 := mnx (2 * a) (2 * c); have h2 := mnx (2 * b) (2 * d)
  refine ⟨by unfold Dt; grind, ?_⟩
  unfold inR
  omega
def bad (x : S28) : Prop := x.f0 < 0 ∨ x.f0 > 10000 ∨ x.f1 < 0 ∨ x.f1 > 10000
instance (x : S28) : Decidable (bad x) := by unfold bad; infer_instance
theorem step (k : Nat) (L : List S28) (i : Int) (h0 : 0 ≤ i) (h1 : i < (L.length : Int)) (h2 : i < 1000) (a b c d e f g h j : Int) :
    hopmeshlaw05_GeometryCrossings.l0 (k + 1) L L.length i a b c d e f g h j = if bad (rd_T28 L i) then some true else hopmeshlaw05_GeometryCrossings.l0 k L L.length (i + 1) a b c d e f g h j := by
  rw [hopmeshlaw05_GeometryCrossings.l0, if_pos h1, if_pos h0, if_pos h1]

  rw [w64 (x := i + 1) (by omega) (by omega)]
  unfold bad
  generalize rd_T28 L i = x
  by_cases q1 : x.f0 < 0
  · simp [q1]
  · by_cases q2 : x.f0 > 10000
    · simp [q1, q2]
    · by_cases q3 : x.f1 < 0
      · simp [q1, q2, q3]
      · by_cases q4 : x.f1 > 10000
        · simp [q1, q2, q3, q4]
        · simp [q1, q2, q3, q4]
theorem last (k : Nat) (L : List S28) {a b c d e f g h : Int} (j : Int) (ha : 0 ≤ a ∧ a ≤ 10000) (hb : 0 ≤ b ∧ b ≤ 10000) (hc : 0 ≤ c ∧ c ≤ 10000) (hd : 0 ≤ d ∧ d ≤ 10000) (he : 0 ≤ e ∧ e ≤ 10000) (hf : 0 ≤ f ∧ f ≤ 10000) (hg : 0 ≤ g ∧ g ≤ 10000) (hh : 0 ≤ h ∧ h ≤ 10000) :
    hopmeshlaw05_GeometryCrossings.l0 (k + 3) L L.length L.length a b c d e f g h j = some true := by
  have nn : ∀ {x : Int}, 0 ≤ x ∧ x ≤ 10000 → nr x := fun h => ⟨by omega, by omega⟩
  have n2 : ∀ {x : Int}, 0 ≤ x ∧ x ≤ 10000 → nr (2 * x) := fun h => ⟨by omega, by omega⟩
  have n3 : ∀ {x y : Int}, 0 ≤ x ∧ x ≤ 10000 → 0 ≤ y ∧ y ≤ 10000 → nr (x + y) := fun h h' => ⟨by omega, by omega⟩
  have w2 : ∀ {x : Int}, 0 ≤ x ∧ x ≤ 10000 → wrap64 (2 * x) = 2 * x := fun h => w64 (by omega) (by omega)
  have w3 : ∀ {x y : Int}, 0 ≤ x ∧ x ≤ 10000 → 0 ≤ y ∧ y ≤ 10000 → wrap64 (x + y) = x + y := fun h h' => w64 (by omega) (by omega)
  rw [hopmeshlaw05_GeometryCrossings.l0, if_neg (by omega)]
  rw [w2 ha, w2 hb, w2 hc, w2 hd, w3 ha hc, w3 hb hd]
  rw [cross_at (by omega) 0 (n2 ha) (n2 hb) (n2 hc) (n2 hd) (n3 ha hc) (n3 hb hd) (nn he) (nn hf), cross_at (by omega) 0 (n2 ha) (n2 hb) (n2 hc) (n2 hd) (nn hg) (nn hh) (n3 ha hc) (n3 hb hd),
    cross_at (by omega) 0 (nn ha) (nn hb) (nn hc) (nn hd) (nn ha) (nn hb) (nn he) (nn hf), cross_at (by omega) 0 (nn ha) (nn hb) (nn hc) (nn hd) (nn hg) (nn hh) (nn hc) (nn hd)]
  have c1 : crsP (2 * a) (2 * b) (2 * c) (2 * d) (a + c) (b + d) e f := .inl (mid a b c d)
  have c2 : crsP (2 * a) (2 * b) (2 * c) (2 * d) g h (a + c) (b + d) := .inr (.inl (mid a b c d))
  have c3 : crsP a b c d a b e f := .inl (onP_l a b c d)
  have c4 : crsP a b c d g h c d := .inr (.inl (onP_r a b c d))
  simp only [c1, c2, c3, c4, decide_true, Option.bind_some, if_true, Bool.not_true, hopmeshlaw05_GeometryCrossings.j1, Bool.false_eq_true, if_false]
  have hA := @apart a b c d e f g h
  rw [cross_at (by omega) j (nn ha) (nn hb) (nn hc) (nn hd) (nn he) (nn hf) (nn hg) (nn hh)]
  by_cases q1 : mx a c < mn e g
  · simp [q1, hA (.inl q1)]
  · by_cases q2 : mx e g < mn a c
    · simp [q1, q2, hA (.inr (.inl q2))]
    · by_cases q3 : mx b d < mn f h
      · simp [q1, q2, q3, hA (.inr (.inr (.inl q3)))]
      · by_cases q4 : mx f h < mn b d
        · simp [q1, q2, q3, q4, hA (.inr (.inr (.inr q4)))]
        · simp [q1, q2, q3, q4]
theorem GeometryCrossings (y0_0 : Int) (y0_1 : Int) (y1_0 : Int) (y1_1 : Int) (y2_0 : S28) (y2_1 : S28) (y2_2 : Int) (_w0_0 : (Lit.int .i64 y0_0).wf = true) (_w0_1 : (Lit.int .i64 y0_1).wf = true) (_w1_0 : (Lit.int .i64 y1_0).wf = true) (_w1_1 : (Lit.int .i64 y1_1).wf = true) (_w2_0 : ((Lit.int .i64 y2_0.f0).wf = true ∧ (Lit.int .i64 y2_0.f1).wf = true)) (_w2_1 : ((Lit.int .i64 y2_1.f0).wf = true ∧ (Lit.int .i64 y2_1.f1).wf = true)) (_w2_2 : (Lit.int .i64 y2_2).wf = true) : ∃ k, hopmeshlaw05_GeometryCrossings.f k y0_0 y0_1 y1_0 y1_1 y2_0.f0 y2_0.f1 y2_1.f0 y2_1.f1 y2_2 = some true := by
  refine ⟨7, ?_⟩
  unfold hopmeshlaw05_GeometryCrossings.f hopmeshlaw05_awake.f
  simp only [Option.bind_some, if_true]
  have s := fun k i h0 h1 h2 => step k [(⟨y0_0, y0_1⟩ : S28), (⟨y1_0, y1_1⟩ : S28), (⟨y2_0.f0, y2_0.f1⟩ : S28), (⟨y2_1.f0, y2_1.f1⟩ : S28)] i h0 h1 h2 y0_0 y0_1 y1_0 y1_1 y2_0.f0 y2_0.f1 y2_1.f0 y2_1.f1 y2_2
  have t := fun ha hb hc hd he hf hg hh => last 0 [(⟨y0_0, y0_1⟩ : S28), (⟨y1_0, y1_1⟩ : S28), (⟨y2_0.f0, y2_0.f1⟩ : S28), (⟨y2_1.f0, y2_1.f1⟩ : S28)] (a := y0_0) (b := y0_1) (c := y1_0) (d := y1_1) (e := y2_0.f0) (f := y2_0.f1) (g := y2_1.f0) (h := y2_1.f1) y2_2 ha hb hc hd he hf hg hh
  rw [s 6 0 (by simp) (by simp) (by simp)]
  split
  · rfl
  · rename_i b0
    rw [s 5 (0 + 1) (by simp) (by simp) (by simp)]
    split
    · rfl
    · rename_i b1
      rw [s 4 (0 + 1 + 1) (by simp) (by simp) (by simp)]
      split
      · rfl
      · rename_i b2
        rw [s 3 (0 + 1 + 1 + 1) (by simp) (by simp) (by simp)]
        split
        · rfl
        · rename_i b3
          simp only [bad, rd_T28, show ((0 : Int) + 1).toNat = 1 from rfl, show ((0 : Int) + 1 + 1).toNat = 2 from rfl, show ((0 : Int) + 1 + 1 + 1).toNat = 3 from rfl, Int.toNat_zero, List.getD_cons_zero, List.getD_cons_succ] at b0 b1 b2 b3
          exact t (by omega) (by omega) (by omega) (by omega) (by omega) (by omega) (by omega) (by omega)
end Go.Proofs.Ytcdgpnjlaicbcaa.Pure
