/- A sequence of lists, and the list that is in force in a slot, as plain functions; the printed functions answer as these. By this session. -/
import Derived.Test.YtddcacomphkeiaaPAx0
import Derived.Test.YtddcacomphkeiaaPAx14
import Derived.Test.YtddcacomphkeiaaPAx20
import Derived.Test.YtddcacomphkeiaaPAx25
import Derived.Test.YtddcacomphkeiaaPAx26
import Derived.Test.YtddcacomphkeiaaPAx34
import Derived.Test.YtddcacomphkeiaaPAx35
import Derived.Test.YtddcacomphkeiaaPAx36
import Derived.Test.YtddcacomphkeiaaHopA
set_option linter.unusedVariables false
set_option linter.unusedSimpArgs false
namespace Go.Proofs.Ytddcacomphkeiaa.Hop
open Go.RowKit Go.Proofs.YtddcacomphkeiaaW.PrintWords Go.Proofs.YtddcacomphkeiaaW.PrintLast Go.Proofs.YtddcacomphkeiaaW.PrintMore Go.Proofs.Ytddcacomphkeiaa.PA
theorem rdT {l : List S24} {i : Nat} (h : i < l.length) : rd_T24 l (i : Int) = l[i] := by unfold rd_T24; rw [List.getD_eq_getElem?_getD, Int.toNat_natCast, List.getElem?_eq_getElem h]; rfl
def okS (x : S24) : Prop := okL x.f0 x.f1 x.f2 x.f3
instance (x : S24) : Decidable (okS x) := by unfold okS; infer_instance
/-- What the check of a sequence finds from a place on. -/
def caFrom (l : List S24) : Nat → Nat → Int
  | 0, _ => 0
  | n + 1, i => if okS (rd_T24 l (i : Int)) then (if 0 < i ∧ (rd_T24 l (i : Int)).f1 ≠ (rd_T24 l ((i : Int) - 1)).f2 then 5 else (if 0 < i ∧ (rd_T24 l (i : Int)).f0 ≠ Int.tmod (wrap64 ((rd_T24 l ((i : Int) - 1)).f0 + 1)) 256 then 23 else caFrom l n (i + 1))) else 1
def checkAllL (l : List S24) : Int := if l.length < 1 ∨ l.length > 1024 then 1 else caFrom l l.length 0
theorem ca_from (l : List S24) (hl : l.length ≤ 10) (hs : ∀ x ∈ l, x.f3.length ≤ 1000) : ∀ n i k, i + n = l.length → 2 * n + 2200 ≤ k → hop_CheckAll.l0 k l l (l.length : Int) (i : Int) = some (caFrom l n i)
  | 0, i, k, h, hk => by
    obtain ⟨k, rfl⟩ : ∃ j, k = j + 1 := ⟨k - 1, by omega⟩
    rw [hop_CheckAll.l0, if_neg (by omega)]
    rfl
  | n + 1, i, k, h, hk => by
    obtain ⟨k, rfl⟩ : ∃ j, k = j + 1 + 1 := ⟨k - 2, by omega⟩
    have hi : i < l.length := by omega
    have hx : (rd_T24 l (i : Int)).f3.length ≤ 1000 := by rw [rdT hi]; exact hs _ (List.getElem_mem hi)
    have ih := ca_from l hl hs n (i + 1) k (by omega) (by omega)
    rw [hop_CheckAll.l0, if_pos (by omega), if_pos (by omega), if_pos (by omega), Check_eq _ _ _ hx (by omega), Option.bind_some, caFrom]
    by_cases h1 : okS (rd_T24 l (i : Int))
    · rw [if_pos h1]
      have h1' : okL (rd_T24 l (i : Int)).f0 (rd_T24 l (i : Int)).f1 (rd_T24 l (i : Int)).f2 (rd_T24 l (i : Int)).f3 := h1
      rw [if_pos h1', if_pos rfl]
      by_cases h2 : (i : Int) > 0
      · rw [if_pos h2, w64 (by omega) (by omega), if_pos (by omega), if_pos (by omega), hop_CheckAll.j2]
        by_cases h3 : (rd_T24 l (i : Int)).f1 = (rd_T24 l ((i : Int) - 1)).f2
        · rw [if_neg (by simp [h3]), if_pos h2, w64 (x := (i : Int) - 1) (by omega) (by omega), if_pos (by omega), if_pos (by omega), if_neg (show ¬ (0 < i ∧ (rd_T24 l (i : Int)).f1 ≠ (rd_T24 l ((i : Int) - 1)).f2) from fun h => h.2 h3)]
          by_cases h4 : (rd_T24 l (i : Int)).f0 = Int.tmod (wrap64 ((rd_T24 l ((i : Int) - 1)).f0 + 1)) 256
          · rw [if_pos h4, if_neg (show ¬ (0 < i ∧ (rd_T24 l (i : Int)).f0 ≠ Int.tmod (wrap64 ((rd_T24 l ((i : Int) - 1)).f0 + 1)) 256) from fun h => h.2 h4), wsucc (by omega)]
            exact ih
          · rw [if_neg h4, if_pos (show (0 < i ∧ (rd_T24 l (i : Int)).f0 ≠ Int.tmod (wrap64 ((rd_T24 l ((i : Int) - 1)).f0 + 1)) 256) from ⟨by omega, h4⟩)]
        · rw [if_pos (by simpa using h3), if_pos (show (0 < i ∧ (rd_T24 l (i : Int)).f1 ≠ (rd_T24 l ((i : Int) - 1)).f2) from ⟨by omega, h3⟩)]
      · rw [if_neg h2, hop_CheckAll.j2, if_neg (by simp), if_neg h2, if_neg (show ¬ (0 < i ∧ (rd_T24 l (i : Int)).f1 ≠ (rd_T24 l ((i : Int) - 1)).f2) from fun h => by omega), if_neg (show ¬ (0 < i ∧ (rd_T24 l (i : Int)).f0 ≠ Int.tmod (wrap64 ((rd_T24 l ((i : Int) - 1)).f0 + 1)) 256) from fun h => by omega), wsucc (by omega)]
        exact ih
    · rw [if_neg h1]
      have h1' : ¬ okL (rd_T24 l (i : Int)).f0 (rd_T24 l (i : Int)).f1 (rd_T24 l (i : Int)).f2 (rd_T24 l (i : Int)).f3 := h1
      rw [if_neg h1', if_neg (by omega)]
theorem CheckAll_eq {l : List S24} (hl : l.length ≤ 10) (hs : ∀ x ∈ l, x.f3.length ≤ 1000) {k : Nat} (hk : 3000 ≤ k) : hop_CheckAll.f k l = some (checkAllL l) := by
  obtain ⟨k, rfl⟩ : ∃ j, k = j + 1 := ⟨k - 1, by omega⟩
  unfold hop_CheckAll.f checkAllL
  rw [hop_CheckAll.j0, hop_CheckAll.j0]
  by_cases h1 : (l.length : Int) < 1
  · rw [if_pos h1, if_pos rfl, if_pos (.inl (by omega))]
  · rw [if_neg h1, if_neg (by simp; omega), if_neg (by omega)]
    exact ca_from l hl hs l.length 0 k (by omega) (by omega)
theorem rca_from (l : List S24) (hl : l.length ≤ 10) (hs : ∀ x ∈ l, x.f3.length ≤ 1000) : ∀ n i k, i + n = l.length → 2 * n + 2200 ≤ k → hopmeshref11_CheckAll.l0 k l (i : Int) = some (caFrom l n i)
  | 0, i, k, h, hk => by
    obtain ⟨k, rfl⟩ : ∃ j, k = j + 1 := ⟨k - 1, by omega⟩
    rw [hopmeshref11_CheckAll.l0, if_neg (by omega)]
    rfl
  | n + 1, i, k, h, hk => by
    obtain ⟨k, rfl⟩ : ∃ j, k = j + 1 + 1 := ⟨k - 2, by omega⟩
    have hi : i < l.length := by omega
    have hx : (rd_T24 l (i : Int)).f3.length ≤ 1000 := by rw [rdT hi]; exact hs _ (List.getElem_mem hi)
    have ih := rca_from l hl hs n (i + 1) k (by omega) (by omega)
    rw [hopmeshref11_CheckAll.l0, if_pos (by omega), if_pos (by omega), rCheck_eq _ _ _ hx (by omega), Option.bind_some, caFrom]
    by_cases h1 : okS (rd_T24 l (i : Int))
    · rw [if_pos h1]
      have h1' : okL (rd_T24 l (i : Int)).f0 (rd_T24 l (i : Int)).f1 (rd_T24 l (i : Int)).f2 (rd_T24 l (i : Int)).f3 := h1
      rw [if_pos h1', if_pos rfl]
      by_cases h2 : (i : Int) > 0
      · rw [if_pos h2, w64 (by omega) (by omega), if_pos (by omega), if_pos (by omega), hopmeshref11_CheckAll.j2]
        by_cases h3 : (rd_T24 l (i : Int)).f1 = (rd_T24 l ((i : Int) - 1)).f2
        · rw [if_neg (by simp [h3]), if_pos h2, if_pos (by omega), if_pos (by omega), w64 (x := (i : Int) - 1) (by omega) (by omega), if_pos (by omega), if_pos (by omega), if_neg (show ¬ (0 < i ∧ (rd_T24 l (i : Int)).f1 ≠ (rd_T24 l ((i : Int) - 1)).f2) from fun h => h.2 h3)]
          by_cases h4 : (rd_T24 l (i : Int)).f0 = Int.tmod (wrap64 ((rd_T24 l ((i : Int) - 1)).f0 + 1)) 256
          · rw [if_pos h4, if_neg (show ¬ (0 < i ∧ (rd_T24 l (i : Int)).f0 ≠ Int.tmod (wrap64 ((rd_T24 l ((i : Int) - 1)).f0 + 1)) 256) from fun h => h.2 h4), wsucc (by omega)]
            exact ih
          · rw [if_neg h4, if_pos (show (0 < i ∧ (rd_T24 l (i : Int)).f0 ≠ Int.tmod (wrap64 ((rd_T24 l ((i : Int) - 1)).f0 + 1)) 256) from ⟨by omega, h4⟩)]
        · rw [if_pos (by simpa using h3), if_pos (show (0 < i ∧ (rd_T24 l (i : Int)).f1 ≠ (rd_T24 l ((i : Int) - 1)).f2) from ⟨by omega, h3⟩)]
      · rw [if_neg h2, hopmeshref11_CheckAll.j2, if_neg (by simp), if_neg h2, if_neg (show ¬ (0 < i ∧ (rd_T24 l (i : Int)).f1 ≠ (rd_T24 l ((i : Int) - 1)).f2) from fun h => by omega), if_neg (show ¬ (0 < i ∧ (rd_T24 l (i : Int)).f0 ≠ Int.tmod (wrap64 ((rd_T24 l ((i : Int) - 1)).f0 + 1)) 256) from fun h => by omega), wsucc (by omega)]
        exact ih
    · rw [if_neg h1]
      have h1' : ¬ okL (rd_T24 l (i : Int)).f0 (rd_T24 l (i : Int)).f1 (rd_T24 l (i : Int)).f2 (rd_T24 l (i : Int)).f3 := h1
      rw [if_neg h1', if_neg (by omega)]
theorem rCheckAll_eq {l : List S24} (hl : l.length ≤ 10) (hs : ∀ x ∈ l, x.f3.length ≤ 1000) {k : Nat} (hk : 3000 ≤ k) : hopmeshref11_CheckAll.f k l = some (checkAllL l) := by
  obtain ⟨k, rfl⟩ : ∃ j, k = j + 1 := ⟨k - 1, by omega⟩
  unfold hopmeshref11_CheckAll.f checkAllL
  rw [hopmeshref11_CheckAll.j0, hopmeshref11_CheckAll.j0]
  by_cases h1 : (l.length : Int) < 1
  · rw [if_pos h1, if_pos rfl, if_pos (.inl (by omega))]
  · rw [if_neg h1, if_neg (by simp; omega), if_neg (by omega)]
    exact rca_from l hl hs l.length 0 k (by omega) (by omega)
/-- The list in force. -/
def inForceL (l : List S24) (slot : Int) : Int × Int × Int × List Int × Int :=
  if checkAllL l = 0 then (match l.find? (inF slot) with | none => (0, 0, 0, [], 7) | some x => (x.f0, x.f1, x.f2, x.f3, 0)) else (0, 0, 0, [], checkAllL l)
theorem InForce_eq {l : List S24} (slot : Int) (hl : l.length ≤ 10) (hs : ∀ x ∈ l, x.f3.length ≤ 1000) {k : Nat} (hk : 3000 ≤ k) : hop_InForce.f k l slot = some (inForceL l slot) := by
  unfold hop_InForce.f inForceL
  rw [CheckAll_eq hl hs hk, Option.bind_some]
  by_cases h : checkAllL l = 0
  · rw [if_pos h, if_pos h]
    cases hf : l.find? (inF slot) with
    | none => rfl
    | some x =>
      have := hs x (List.mem_of_find?_eq_some hf)
      dsimp only
      rw [if_pos (by omega)]
  · rw [if_neg h, if_neg h]
theorem rif_from (l : List S24) (slot : Int) (hl : l.length ≤ 10) : ∀ n i k, i + n = l.length → n + 1 ≤ k → hopmeshref11_InForce.l0 k l slot (i : Int) = some (match (l.drop i).find? (inF slot) with | none => (0, 0, 0, [], 7) | some x => (x.f0, x.f1, x.f2, x.f3, 0))
  | 0, i, k, h, hk => by
    obtain ⟨k, rfl⟩ : ∃ j, k = j + 1 := ⟨k - 1, by omega⟩
    rw [hopmeshref11_InForce.l0, if_neg (by omega), List.drop_of_length_le (by omega)]
    rfl
  | n + 1, i, k, h, hk => by
    obtain ⟨k, rfl⟩ : ∃ j, k = j + 1 := ⟨k - 1, by omega⟩
    have hi : i < l.length := by omega
    have ih := rif_from l slot hl n (i + 1) k (by omega) (by omega)
    rw [hopmeshref11_InForce.l0, if_pos (by omega), if_pos (by omega), rdT hi, List.drop_eq_getElem_cons hi, List.find?_cons, wsucc (by omega)]
    by_cases h1 : l[i].f1 ≤ slot
    · rw [if_pos h1]
      by_cases h2 : slot < l[i].f2
      · rw [if_pos h2, show inF slot l[i] = true by simp [inF, h1, h2]]
      · rw [if_neg h2, show inF slot l[i] = false by simp [inF]; omega]
        exact ih
    · rw [if_neg h1, show inF slot l[i] = false by simp [inF]; omega]
      exact ih
theorem rInForce_eq {l : List S24} (slot : Int) (hl : l.length ≤ 10) (hs : ∀ x ∈ l, x.f3.length ≤ 1000) {k : Nat} (hk : 3000 ≤ k) : hopmeshref11_InForce.f k l slot = some (inForceL l slot) := by
  unfold hopmeshref11_InForce.f inForceL
  rw [rCheckAll_eq hl hs hk, Option.bind_some]
  by_cases h : checkAllL l = 0
  · rw [if_pos h, if_pos h]
    exact rif_from l slot hl l.length 0 k (by omega) (by omega)
  · rw [if_neg h, if_neg h]
theorem cp_eq {l : List S24} (hl : l.length ≤ 10) (hs : ∀ x ∈ l, x.f3.length ≤ 1000) : hopmeshlaw11_cp.f l = some l := by
  unfold hopmeshlaw11_cp.f
  rw [if_pos ⟨by omega, List.all_eq_true.2 (fun x hx => decide_eq_true (by have := hs x hx; omega))⟩]
theorem few_eq (l : List S24) : hopmeshlaw11_few.f l = some (decide (l.length ≤ 10 ∧ ∀ x ∈ l, x.f3.length ≤ 20)) := by
  unfold hopmeshlaw11_few.f
  congr 1
  by_cases h : (l.length : Int) ≤ 10
  · rw [decide_eq_true h, Bool.true_and]
    by_cases h2 : l.any longL = true
    · rw [h2, decide_eq_false]
      · rfl
      · intro hh
        obtain ⟨x, hx, hl⟩ := List.any_eq_true.1 h2
        have := hh.2 x hx
        simp [longL] at hl
        omega
    · rw [show l.any longL = false by simpa using h2, decide_eq_true]
      · rfl
      · refine ⟨by omega, fun x hx => ?_⟩
        have := List.any_eq_false.1 (show l.any longL = false by simpa using h2) x hx
        simp [longL] at this
        omega
  · rw [decide_eq_false h, decide_eq_false (fun hh => by omega)]
    rfl
theorem same_from (a b c : Int) (l : List Int) (hl : l.length ≤ 1000) : ∀ n i k, i + n = l.length → n + 1 ≤ k → hopmeshref11_Same.l0 k (i : Int) a b c l a b c l = some true
  | 0, i, k, h, hk => by
    obtain ⟨k, rfl⟩ : ∃ j, k = j + 1 := ⟨k - 1, by omega⟩
    rw [hopmeshref11_Same.l0, if_neg (by omega)]
  | n + 1, i, k, h, hk => by
    obtain ⟨k, rfl⟩ : ∃ j, k = j + 1 := ⟨k - 1, by omega⟩
    rw [hopmeshref11_Same.l0, if_pos (by omega), if_pos (by omega), if_pos (by omega), if_pos rfl, wsucc (by omega)]
    exact same_from a b c l hl n (i + 1) k (by omega) (by omega)
theorem Same_eq (a b c : Int) {l : List Int} (hl : l.length ≤ 1000) {k : Nat} (hk : 1002 ≤ k) : hopmeshref11_Same.f k a b c l a b c l = some true := by
  obtain ⟨k, rfl⟩ : ∃ j, k = j + 1 := ⟨k - 1, by omega⟩
  unfold hopmeshref11_Same.f
  rw [if_pos rfl, if_pos rfl, if_pos rfl, hopmeshref11_Same.j0, if_neg (by simp)]
  exact same_from a b c l hl l.length 0 k (by omega) (by omega)
theorem inForce_len {l : List S24} (slot : Int) (hs : ∀ x ∈ l, x.f3.length ≤ 1000) : (inForceL l slot).2.2.2.1.length ≤ 1000 := by
  unfold inForceL
  split
  · cases hf : l.find? (inF slot) with
    | none => simp
    | some x => exact hs x (List.mem_of_find?_eq_some hf)
  · simp
end Go.Proofs.Ytddcacomphkeiaa.Hop
