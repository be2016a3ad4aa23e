/- The plain law of geometry: what Between and Table compute. By this session. -/
import Derived.Test.YtcdgpnjlaicbcaaPAx27
import Derived.Test.YtcdgpnjlaicbcaaPAx43
import Derived.Test.YtcdgpnjlaicbcaaPAx9
import Derived.Test.YtcdgpnjlaicbcaaGeoBtw
set_option linter.unusedVariables false
set_option linter.unusedSimpArgs false
namespace Go.Proofs.Ytcdgpnjlaicbcaa.Geo
open Go.RowKit Go.Proofs.YtcdgpnjlaicbcaaW.PrintWords Go.Proofs.YtcdgpnjlaicbcaaW.PrintLast Go.Proofs.YtcdgpnjlaicbcaaW.PrintMore Go.Proofs.Ytcdgpnjlaicbcaa.PA
/-- What Between answers. -/
def betA (l0 : List S28) (l1 : List Int) (l2 : List S47) (ex y z i j : Int) : Int × Int :=
  if siteOk l0 l1 l2 ex y z then (if 0 ≤ i ∧ i < l0.length ∧ 0 ≤ j ∧ j < l0.length then (btw l0 l1 l2 ex i j, 0) else (0, 7)) else (0, 1)
theorem Between_eq (l0 : List S28) (l1 : List Int) (l2 : List S47) (ex y z i j : Int) : geometry_Between.f l0 l1 l2 ex y z i j = some (betA l0 l1 l2 ex y z i j) := by
  unfold geometry_Between.f betA
  rw [check_eq, Option.bind_some]
  have hm := mnx i j
  by_cases hs : siteOk l0 l1 l2 ex y z
  · rw [if_pos hs, if_pos rfl, if_pos hs]
    by_cases h0 : mn i j < 0
    · rw [if_pos h0, if_neg (show ¬ (0 ≤ i ∧ i < l0.length ∧ 0 ≤ j ∧ j < l0.length) by omega)]
    · rw [if_neg h0]
      by_cases h1 : mx i j ≥ l0.length
      · rw [if_pos h1, if_neg (show ¬ (0 ≤ i ∧ i < l0.length ∧ 0 ≤ j ∧ j < l0.length) by omega)]
      · rw [if_neg h1, if_pos (show 0 ≤ i ∧ i < l0.length ∧ 0 ≤ j ∧ j < l0.length by omega), between_eq hs (by omega) (by omega) (by omega) (by omega)]
        rfl
  · rw [if_neg hs, if_neg (by simp), if_neg hs]
/-- The row of the node i, from j on. -/
def rowF (l0 : List S28) (l1 : List Int) (l2 : List S47) (ex : Int) (i : Int) : Nat → Nat → List Int
  | _, 0 => []
  | j, m + 1 => btw l0 l1 l2 ex i (j : Int) :: rowF l0 l1 l2 ex i (j + 1) m
/-- The table, from i on. -/
def tabF (l0 : List S28) (l1 : List Int) (l2 : List S47) (ex : Int) : Nat → Nat → List (List Int)
  | _, 0 => []
  | i, m + 1 => rowF l0 l1 l2 ex (i : Int) 0 l0.length :: tabF l0 l1 l2 ex (i + 1) m
theorem row_len (l0 : List S28) (l1 : List Int) (l2 : List S47) (ex i : Int) : ∀ m j, (rowF l0 l1 l2 ex i j m).length = m
  | 0, j => rfl
  | m + 1, j => by simp [rowF, row_len l0 l1 l2 ex i m (j + 1)]
theorem tab_len (l0 : List S28) (l1 : List Int) (l2 : List S47) (ex : Int) : ∀ m i, (tabF l0 l1 l2 ex i m).length = m
  | 0, i => rfl
  | m + 1, i => by simp [tabF, tab_len l0 l1 l2 ex m (i + 1)]
theorem tab1_p {l0 : List S28} {l1 : List Int} {l2 : List S47} {ex y z : Int} (hs : siteOk l0 l1 l2 ex y z) (out : List (List Int)) {i : Nat} (hi : i < l0.length) (ho : out.length ≤ 40) : ∀ m j row k, j + m = l0.length → row.length = j →
    geometry_Table.l1 (k + m + 1) out (i : Int) row (l0.length : Int) (i : Int) (l0.length : Int) (j : Int) l0 l1 l2 ex y z = geometry_Table.l0 k (out ++ [row ++ rowF l0 l1 l2 ex (i : Int) j m]) (l0.length : Int) ((i + 1 : Nat) : Int) l0 l1 l2 ex y z
  | 0, j, row, k, h, hr => by
    have hl := (siteOk_iff.1 hs).1
    rw [geometry_Table.l1, if_neg (by omega), if_pos (by omega), wsucc (by omega), rowF, List.append_nil]
    try rfl
  | m + 1, j, row, k, h, hr => by
    have hl := (siteOk_iff.1 hs).1
    rw [geometry_Table.l1, if_pos (by omega), between_eq hs (by omega) (by omega) (by omega) (by omega), Option.bind_some, if_pos (by omega), wsucc (by omega)]
    have := tab1_p hs out hi ho m (j + 1) (row ++ [btw l0 l1 l2 ex (i : Int) (j : Int)]) k (by omega) (by simp [hr])
    rw [show k + (m + 1) = k + m + 1 by omega, this, rowF, List.append_assoc]
    try rfl
theorem tab0_p {l0 : List S28} {l1 : List Int} {l2 : List S47} {ex y z : Int} (hs : siteOk l0 l1 l2 ex y z) : ∀ m i out k, i + m = l0.length → out.length = i → m * (l0.length + 2) + 1 ≤ k →
    geometry_Table.l0 k out (l0.length : Int) (i : Int) l0 l1 l2 ex y z = some (out ++ tabF l0 l1 l2 ex i m, 0)
  | 0, i, out, k, h, ho, hk => by
    obtain ⟨k, rfl⟩ : ∃ j, k = j + 1 := ⟨k - 1, by omega⟩
    rw [geometry_Table.l0, if_neg (by omega), tabF, List.append_nil]
  | m + 1, i, out, k, h, ho, hk => by
    have hl := (siteOk_iff.1 hs).1
    rw [Nat.add_mul] at hk
    obtain ⟨k, rfl⟩ : ∃ j, k = j + l0.length + 1 + 1 := ⟨k - l0.length - 2, by omega⟩
    have h1 := tab1_p hs out (i := i) (by omega) (by omega) l0.length 0 [] k (by omega) rfl
    have h0 := tab0_p hs m (i + 1) (out ++ [rowF l0 l1 l2 ex (i : Int) 0 l0.length]) k (by omega) (by simp [ho]) (by omega)
    rw [geometry_Table.l0, if_pos (by omega)]
    refine h1.trans ?_
    rw [List.nil_append, h0, tabF, List.append_assoc]
    try rfl
/-- What Table answers. -/
def tabA (l0 : List S28) (l1 : List Int) (l2 : List S47) (ex y z : Int) : List (List Int) × Int :=
  if siteOk l0 l1 l2 ex y z then (tabF l0 l1 l2 ex 0 l0.length, 0) else ([], 1)
theorem tab_k {n : Nat} (h : n ≤ 32) : n * (n + 2) ≤ 1100 := Nat.le_trans (Nat.mul_le_mul h (Nat.add_le_add_right h 2)) (by decide)
theorem Table_p (l0 : List S28) (l1 : List Int) (l2 : List S47) (ex y z : Int) {k : Nat} (hk : 1500 ≤ k) : geometry_Table.f k l0 l1 l2 ex y z = some (tabA l0 l1 l2 ex y z) := by
  unfold geometry_Table.f tabA
  rw [check_eq, Option.bind_some]
  by_cases hs : siteOk l0 l1 l2 ex y z
  · have hl := (siteOk_iff.1 hs).1
    have hq := tab_k hl.2.1
    rw [if_pos hs, if_pos rfl, if_pos hs]
    exact tab0_p hs l0.length 0 [] k (by omega) rfl (by omega)
  · rw [if_neg hs, if_neg (by simp), if_neg hs]
end Go.Proofs.Ytcdgpnjlaicbcaa.Geo
