/- The plain law of GeometryPowers: what the printed functions compute answers true. By this session. -/
import Derived.Test.YtcdgpnjlaicbcaaPAx11
import Derived.Test.YtcdgpnjlaicbcaaPAx40
import Derived.Test.YtcdgpnjlaicbcaaPAx41
import Derived.Test.YtcdgpnjlaicbcaaPAx42
import Derived.Test.YtcdgpnjlaicbcaaPAx43
import Derived.Test.YtcdgpnjlaicbcaaPAx48
import Derived.Test.YtcdgpnjlaicbcaaGeoAtA
import Derived.Test.YtcdgpnjlaicbcaaGeoTab
import Derived.Test.YtcdgpnjlaicbcaaGeoRefAt
set_option linter.unusedVariables false
set_option linter.unusedSimpArgs false
namespace Go.Proofs.Ytcdgpnjlaicbcaa.Pure
open Go.RowKit Go.Proofs.YtcdgpnjlaicbcaaW.PrintWords Go.Proofs.YtcdgpnjlaicbcaaW.PrintLast Go.Proofs.YtcdgpnjlaicbcaaW.PrintMore Go.Proofs.Ytcdgpnjlaicbcaa.PA Go.Proofs.Ytcdgpnjlaicbcaa.Geo
theorem tab1_r {l0 : List S28} {l1 : List Int} {l2 : List S47} {ex y z : Int} (hs : siteOk l0 l1 l2 ex y z) (out : List (List Int)) {i : Nat} (hi : i < l0.length) (ho : out.length ≤ 40) : ∀ m j row k, j + m = l0.length → row.length = j → 150 ≤ k →
    hopmeshref05_Table.l1 (k + m + 1) out (i : Int) row (j : Int) l0 l1 l2 ex y z = hopmeshref05_Table.l0 k (out ++ [row ++ rowF l0 l1 l2 ex (i : Int) j m]) ((i + 1 : Nat) : Int) l0 l1 l2 ex y z
  | 0, j, row, k, h, hr, hk => by
    have hl := (siteOk_iff.1 hs).1
    rw [hopmeshref05_Table.l1, if_neg (by omega), if_pos (by omega), wsucc (by omega), rowF, List.append_nil]
    try rfl
  | m + 1, j, row, k, h, hr, hk => by
    have hl := (siteOk_iff.1 hs).1
    rw [hopmeshref05_Table.l1, if_pos (by omega), rbetween (by omega), Option.bind_some, if_pos hs, if_pos (show (0 : Int) ≤ (i : Int) ∧ (i : Int) < l0.length ∧ (0 : Int) ≤ (j : Int) ∧ (j : Int) < l0.length by omega), if_pos (by omega), wsucc (by omega)]
    have := tab1_r hs out hi ho m (j + 1) (row ++ [btw l0 l1 l2 ex (i : Int) (j : Int)]) k (by omega) (by simp [hr]) hk
    rw [show k + (m + 1) = k + m + 1 by omega, this, rowF, List.append_assoc]
    try rfl
theorem tab0_r {l0 : List S28} {l1 : List Int} {l2 : List S47} {ex y z : Int} (hs : siteOk l0 l1 l2 ex y z) : ∀ m i out k, i + m = l0.length → out.length = i → m * (l0.length + 2) + 151 ≤ k →
    hopmeshref05_Table.l0 k out (i : Int) l0 l1 l2 ex y z = some (out ++ tabF l0 l1 l2 ex i m, 0)
  | 0, i, out, k, h, ho, hk => by
    obtain ⟨k, rfl⟩ : ∃ j, k = j + 1 := ⟨k - 1, by omega⟩
    rw [hopmeshref05_Table.l0, if_neg (by omega), tabF, List.append_nil]
  | m + 1, i, out, k, h, ho, hk => by
    have hl := (siteOk_iff.1 hs).1
    rw [Nat.add_mul] at hk
    obtain ⟨k, rfl⟩ : ∃ j, k = j + l0.length + 1 + 1 := ⟨k - l0.length - 2, by omega⟩
    have h1 := tab1_r hs out (i := i) (by omega) (by omega) l0.length 0 [] k (by omega) rfl (by omega)
    have h0 := tab0_r hs m (i + 1) (out ++ [rowF l0 l1 l2 ex (i : Int) 0 l0.length]) k (by omega) (by simp [ho]) (by omega)
    rw [hopmeshref05_Table.l0, if_pos (by omega)]
    refine h1.trans ?_
    rw [List.nil_append, h0, tabF, List.append_assoc]
    try rfl
theorem Table_r (l0 : List S28) (l1 : List Int) (l2 : List S47) (ex y z : Int) {k : Nat} (hk : 1500 ≤ k) : hopmeshref05_Table.f k l0 l1 l2 ex y z = some (tabA l0 l1 l2 ex y z) := by
  unfold hopmeshref05_Table.f tabA
  rw [rcheck (by omega), Option.bind_some]
  by_cases hs : siteOk l0 l1 l2 ex y z
  · have hl := (siteOk_iff.1 hs).1
    have hq := tab_k hl.2.1
    rw [if_pos hs, if_pos rfl, if_pos hs]
    exact tab0_r hs l0.length 0 [] k (by omega) rfl (by omega)
  · rw [if_neg hs, if_neg (by simp), if_neg hs]
theorem rAt {k : Nat} (hk : 200 ≤ k) (l0 : List S28) (l1 : List Int) (l : List S47) (ex y z a b p c d : Int) :
    hopmeshref05_At.f k l0 l1 l ex y z a b p c d = some (if siteOk l0 l1 l ex y z then (if okPt a b ∧ okPt c d ∧ okPw p then (atV l ex a b p c d, 0) else (0, 2)) else (0, 1)) := by
  obtain ⟨j, rfl⟩ : ∃ j, k = j + 1 := ⟨k - 1, by omega⟩
  unfold hopmeshref05_At.f
  rw [rcheck (by omega), Option.bind_some]
  simp only [rpoint, ris, Option.bind_some, hopmeshref05_At.j0]
  by_cases hs : siteOk l0 l1 l ex y z
  · have hl := (siteOk_iff.1 hs).1
    rw [if_pos hs, if_pos rfl, if_pos hs]
    by_cases h1 : okPt a b
    · rw [decide_eq_true h1, if_pos rfl]
      by_cases h2 : okPt c d
      · rw [decide_eq_true h2, if_pos rfl]
        by_cases h3 : okPw p
        · rw [decide_eq_true h3, if_neg (by simp), if_pos (⟨h1, h2, h3⟩ : okPt a b ∧ okPt c d ∧ okPw p), rat (by omega) l0 l1 ex y z h1 h2 h3 (site_points hs).2.2 (by omega)]
          try rfl
        · rw [decide_eq_false h3, if_pos (by simp), if_neg (fun h : okPt a b ∧ okPt c d ∧ okPw p => h3 h.2.2)]
      · rw [decide_eq_false h2, if_neg (by simp), if_pos trivial, if_neg (fun h : okPt a b ∧ okPt c d ∧ okPw p => h2 h.2.1)]
    · rw [decide_eq_false h1, if_neg (by simp), if_pos trivial, if_neg (fun h : okPt a b ∧ okPt c d ∧ okPw p => h1 h.1)]
  · rw [if_neg hs, if_neg (by simp), if_neg hs]
theorem GeometryPowers (y0_0 : (List S28)) (y0_1 : (List Int)) (y0_2 : (List S47)) (y0_3 : Int) (y0_4 : Int) (y0_5 : Int) (y1_0 : S28) (y1_1 : S28) (y1_2 : Int) (y1_3 : Int) (y1_4 : Int) (w0_0 : (∀ y ∈ y0_0, ((Lit.int .i64 y.f0).wf = true ∧ (Lit.int .i64 y.f1).wf = true))) (w0_1 : (∀ y ∈ y0_1, (Lit.int .i64 y).wf = true)) (w0_2 : (∀ y ∈ y0_2, (((Lit.int .i64 y.f0.f0).wf = true ∧ (Lit.int .i64 y.f0.f1).wf = true) ∧ ((Lit.int .i64 y.f1.f0).wf = true ∧ (Lit.int .i64 y.f1.f1).wf = true) ∧ (Lit.int .i64 y.f2).wf = true))) (w0_3 : (Lit.int .i64 y0_3).wf = true) (w0_4 : (Lit.int .i64 y0_4).wf = true) (w0_5 : (Lit.int .i64 y0_5).wf = true) (w1_0 : ((Lit.int .i64 y1_0.f0).wf = true ∧ (Lit.int .i64 y1_0.f1).wf = true)) (w1_1 : ((Lit.int .i64 y1_1.f0).wf = true ∧ (Lit.int .i64 y1_1.f1).wf = true)) (w1_2 : (Lit.int .i64 y1_2).wf = true) (w1_3 : (Lit.int .i64 y1_3).wf = true) (w1_4 : (Lit.int .i64 y1_4).wf = true) : ∃ k, hopmeshlaw05_GeometryPowers.f k y0_0 y0_1 y0_2 y0_3 y0_4 y0_5 y1_0.f0 y1_0.f1 y1_1.f0 y1_1.f1 y1_2 y1_3 y1_4 = some true := by
  refine ⟨2000, ?_⟩
  unfold hopmeshlaw05_GeometryPowers.f hopmeshlaw05_awake.f slices_EqualFunc_int_int_int_int__slices_Equal_int_int.f
  simp only [Option.bind_some, if_true, few]
  by_cases hf : y0_0.length ≤ 40 ∧ y0_1.length ≤ 40 ∧ y0_2.length ≤ 40
  · have hb := rbetween (k := 2000) (by omega) y0_0 y0_1 y0_2 y0_3 y0_4 y0_5 y1_3 y1_4
    rw [if_pos (decide_eq_true hf), At_eq (by omega), rAt (by omega), Between_eq, hb, Table_p _ _ _ _ _ _ (by omega), Table_r _ _ _ _ _ _ (by omega), check_eq, rcheck (by omega)]
    simp [betA]
  · rw [if_neg (by simpa using hf)]
end Go.Proofs.Ytcdgpnjlaicbcaa.Pure
