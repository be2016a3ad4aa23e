/- The plain law of GeometryFinds: what the printed functions compute answers true. By this session. -/
import Derived.Test.YtcdgpnjlaicbcaaPAx11
import Derived.Test.YtcdgpnjlaicbcaaPAx15
import Derived.Test.YtcdgpnjlaicbcaaPAx24
import Derived.Test.YtcdgpnjlaicbcaaPAx25
import Derived.Test.YtcdgpnjlaicbcaaPAx26
import Derived.Test.YtcdgpnjlaicbcaaPAx43
import Derived.Test.YtcdgpnjlaicbcaaPAx45
import Derived.Test.YtcdgpnjlaicbcaaGeoRefAt
import Derived.Test.YtcdgpnjlaicbcaaGeoHear
set_option linter.unusedVariables false
set_option linter.unusedSimpArgs false
namespace Go.Proofs.Ytcdgpnjlaicbcaa.Pure
open Go.RowKit Go.Proofs.YtcdgpnjlaicbcaaW.PrintWords Go.Proofs.YtcdgpnjlaicbcaaW.PrintLast Go.Proofs.YtcdgpnjlaicbcaaW.PrintMore Go.Proofs.Ytcdgpnjlaicbcaa.PA Go.Proofs.Ytcdgpnjlaicbcaa.Geo
theorem near_r {l0 : List S28} {l1 : List Int} {l2 : List S47} {ex y z u v : Int} (hs : siteOk l0 l1 l2 ex y z) (hp : okPt u v) : ∀ n i b k, i + n = l0.length → b < l0.length → n + 1 ≤ k →
    hopmeshref05_Nearest.l0 k (b : Int) (i : Int) l0 l1 l2 ex y z u v = some (((nst l0 u v n i b : Nat) : Int), 0)
  | 0, i, b, k, h, hb, hk => by
    obtain ⟨k, rfl⟩ : ∃ j, k = j + 1 := ⟨k - 1, by omega⟩
    rw [hopmeshref05_Nearest.l0, if_neg (by omega)]; rfl
  | n + 1, i, b, k, h, hb, hk => by
    obtain ⟨k, rfl⟩ : ∃ j, k = j + 1 := ⟨k - 1, by omega⟩
    have hl := (siteOk_iff.1 hs).1.2.1
    have a := node_nr hs (show i < l0.length by omega)
    have c := node_nr hs hb
    rw [hopmeshref05_Nearest.l0, if_pos (by omega), if_pos (by omega), rsq_eq, (sq_eq a.1 a.2 hp.nr.1 hp.nr.2).1, Option.bind_some, if_pos (by omega), if_pos (by omega), rsq_eq, (sq_eq c.1 c.2 hp.nr.1 hp.nr.2).1, Option.bind_some, wsucc (by omega),
      near_r hs hp n (i + 1) i k (by omega) (by omega) (by omega), near_r hs hp n (i + 1) b k (by omega) hb (by omega), nst]
    split <;> rfl
theorem Near_r (l0 : List S28) (l1 : List Int) (l2 : List S47) (ex y z u v : Int) {k : Nat} (hk : 140 ≤ k) : hopmeshref05_Nearest.f k l0 l1 l2 ex y z u v = some (nearA l0 l1 l2 ex y z u v) := by
  unfold hopmeshref05_Nearest.f nearA
  rw [rcheck hk, Option.bind_some]
  by_cases hs : siteOk l0 l1 l2 ex y z
  · rw [if_pos hs, if_pos rfl, if_pos hs, rpoint, Option.bind_some]
    by_cases hp : okPt u v
    · have hl := (siteOk_iff.1 hs).1
      rw [decide_eq_true hp, if_pos rfl, if_pos hp]
      obtain ⟨m, hm⟩ : ∃ m, l0.length = m + 1 := ⟨l0.length - 1, by omega⟩
      have e : nst l0 u v l0.length 0 0 = nst l0 u v m 1 0 := by
        rw [hm, nst, if_neg (Int.lt_irrefl _)]
      rw [e]
      exact near_r hs hp m 1 0 k (by omega) (by omega) (by omega)
    · rw [decide_eq_false hp, if_neg (by simp), if_neg hp]
  · rw [if_neg hs, if_neg (by simp), if_neg hs]
theorem hear_r {l0 : List S28} {l1 : List Int} {l2 : List S47} {ex y z j : Int} (hs : siteOk l0 l1 l2 ex y z) (h0 : 0 ≤ j) (h1 : j < l0.length) : ∀ n i acc k, i + n = l0.length → acc.length ≤ i → n + 150 ≤ k →
    hopmeshref05_Hears.l0 k j acc (i : Int) l0 l1 l2 ex y z = some (hear l0 l1 l2 ex y z j n i acc, 0)
  | 0, i, acc, k, h, ha, hk => by
    obtain ⟨k, rfl⟩ : ∃ j, k = j + 1 := ⟨k - 1, by omega⟩
    rw [hopmeshref05_Hears.l0, if_neg (by omega)]; rfl
  | n + 1, i, acc, k, h, ha, hk => by
    obtain ⟨k, rfl⟩ : ∃ j, k = j + 1 := ⟨k - 1, by omega⟩
    have hl := (siteOk_iff.1 hs).1
    rw [hopmeshref05_Hears.l0, if_pos (by omega), rbetween (by omega), Option.bind_some, if_pos hs, if_pos (show (0 : Int) ≤ (i : Int) ∧ (i : Int) < l0.length ∧ 0 ≤ j ∧ j < l0.length by omega), hopmeshref04_Decide.f, Option.bind_some, wsucc (by omega), hear]
    by_cases q : dec (btw l0 l1 l2 ex (i : Int) j) z y = true
    · have q' := q
      unfold dec at q'
      rw [if_pos q', if_pos (by omega), if_pos q]
      exact hear_r hs h0 h1 n (i + 1) _ k (by omega) (by simp; omega) (by omega)
    · have q' := q
      unfold dec at q'
      rw [if_neg q', if_neg q]
      exact hear_r hs h0 h1 n (i + 1) _ k (by omega) (by omega) (by omega)
theorem Hear_r (l0 : List S28) (l1 : List Int) (l2 : List S47) (ex y z j : Int) {k : Nat} (hk : 190 ≤ k) : hopmeshref05_Hears.f k l0 l1 l2 ex y z j = some (hearA l0 l1 l2 ex y z j) := by
  obtain ⟨k, rfl⟩ : ∃ j, k = j + 1 := ⟨k - 1, by omega⟩
  unfold hopmeshref05_Hears.f hearA
  rw [rcheck (by omega), Option.bind_some]
  simp only [hopmeshref05_Hears.j0]
  by_cases hs : siteOk l0 l1 l2 ex y z
  · have hl := (siteOk_iff.1 hs).1
    rw [if_pos hs, if_pos rfl, if_pos hs]
    by_cases h0 : j < 0
    · rw [if_pos h0, if_pos trivial, if_neg (show ¬ (0 ≤ j ∧ j < l0.length) by omega)]
    · rw [if_neg h0]
      by_cases h1 : j ≥ l0.length
      · rw [decide_eq_true h1, if_pos rfl, if_neg (show ¬ (0 ≤ j ∧ j < l0.length) by omega)]
      · rw [decide_eq_false h1, if_neg (by simp), if_pos (show 0 ≤ j ∧ j < l0.length by omega)]
        exact hear_r hs (by omega) (by omega) l0.length 0 [] k (by omega) (by simp) (by omega)
  · rw [if_neg hs, if_neg (by simp), if_neg hs]
theorem hearA_len (l0 : List S28) (l1 : List Int) (l2 : List S47) (ex y z j : Int) : (hearA l0 l1 l2 ex y z j).1.length ≤ 40 := by
  unfold hearA
  split
  · rename_i hs
    have hl := (siteOk_iff.1 hs).1
    split
    · have := hear_len l0 l1 l2 ex y z j l0.length 0 []
      simp at this ⊢
      omega
    · simp
  · simp
theorem eq_self {l : List Int} (h : l.length ≤ 40) {k : Nat} (hk : 41 ≤ k) : slices_Equal_int_int.f k l l = some true := by
  have h0 := eqL l l (by omega)
  have h1 : ∀ d, slices_Equal_int_int.f (l.length + 1 + d) l l = some (decide (l = l)) := fun d => by
    induction d with
    | zero => exact h0
    | succ d ih => exact slices_Equal_int_int.mono l l _ _ ih
  have := h1 (k - (l.length + 1))
  rw [show l.length + 1 + (k - (l.length + 1)) = k by omega] at this
  simpa using this
theorem GeometryFinds (y0_0 : (List S28)) (y0_1 : (List Int)) (y0_2 : (List S47)) (y0_3 : Int) (y0_4 : Int) (y0_5 : Int) (y1_0 : Int) (y1_1 : Int) (a2 : Int) (w0_0 : (∀ y ∈ y0_0, ((Lit.int .i64 y.f0).wf = true ∧ (Lit.int .i64 y.f1).wf = true))) (w0_1 : (∀ y ∈ y0_1, (Lit.int .i64 y).wf = true)) (w0_2 : (∀ y ∈ y0_2, (((Lit.int .i64 y.f0.f0).wf = true ∧ (Lit.int .i64 y.f0.f1).wf = true) ∧ ((Lit.int .i64 y.f1.f0).wf = true ∧ (Lit.int .i64 y.f1.f1).wf = true) ∧ (Lit.int .i64 y.f2).wf = true))) (w0_3 : (Lit.int .i64 y0_3).wf = true) (w0_4 : (Lit.int .i64 y0_4).wf = true) (w0_5 : (Lit.int .i64 y0_5).wf = true) (w1_0 : (Lit.int .i64 y1_0).wf = true) (w1_1 : (Lit.int .i64 y1_1).wf = true) (w2 : (Lit.int .i64 a2).wf = true) : ∃ k, hopmeshlaw05_GeometryFinds.f k y0_0 y0_1 y0_2 y0_3 y0_4 y0_5 y1_0 y1_1 a2 = some true := by
  refine ⟨200, ?_⟩
  unfold hopmeshlaw05_GeometryFinds.f hopmeshlaw05_awake.f
  simp only [Option.bind_some, if_true, few]
  by_cases hf : y0_0.length ≤ 40 ∧ y0_1.length ≤ 40 ∧ y0_2.length ≤ 40
  · rw [if_pos (decide_eq_true hf), Near_p _ _ _ _ _ _ _ _ (by omega), Near_r _ _ _ _ _ _ _ _ (by omega), Hear_p _ _ _ _ _ _ _ (by omega), Hear_r _ _ _ _ _ _ _ (by omega)]
    simp only [Option.bind_some, if_true, eq_self (hearA_len _ _ _ _ _ _ _) (show 41 ≤ 200 by omega)]
  · rw [if_neg (by simpa using hf)]
end Go.Proofs.Ytcdgpnjlaicbcaa.Pure
