/- The plain law of the reference's Check, at, Between; and of the program's Between. By this session. -/
import Derived.Test.YtcdgpnjlaicbcaaPAx13
import Derived.Test.YtcdgpnjlaicbcaaPAx14
import Derived.Test.YtcdgpnjlaicbcaaPAx22
import Derived.Test.YtcdgpnjlaicbcaaPAx23
import Derived.Test.YtcdgpnjlaicbcaaPAx43
import Derived.Test.YtcdgpnjlaicbcaaPAx44
import Derived.Test.YtcdgpnjlaicbcaaGeoRef
import Derived.Test.YtcdgpnjlaicbcaaGeoBtw
set_option linter.unusedVariables false
set_option linter.unusedSimpArgs false
namespace Go.Proofs.Ytcdgpnjlaicbcaa.Geo
open Go.RowKit Go.Proofs.YtcdgpnjlaicbcaaW.PrintWords Go.Proofs.YtcdgpnjlaicbcaaW.PrintLast Go.Proofs.YtcdgpnjlaicbcaaW.PrintMore Go.Proofs.Ytcdgpnjlaicbcaa.PA
theorem rpoint (a b : Int) : hopmeshref05_Point.f a b = some (decide (okPt a b)) := by
  unfold hopmeshref05_Point.f okPt
  by_cases h1 : 0 ≤ a <;> by_cases h2 : a ≤ 10000 <;> by_cases h3 : 0 ≤ b <;> by_cases h4 : b ≤ 10000 <;> simp [h1, h2, h3, h4]
theorem ris (p : Int) : hopmeshref04_Is.f p = some (decide (okPw p)) := by
  unfold hopmeshref04_Is.f okPw
  by_cases h1 : 0 ≤ p <;> by_cases h2 : p ≤ 68719476736 <;> simp [h1, h2]
theorem rright (z y : Int) : hopmeshref04_Right.f z y = some (decide (1000 ≤ z ∧ z ≤ 100000 ∧ 1 ≤ y ∧ y ≤ 68719476736)) := by
  unfold hopmeshref04_Right.f
  by_cases h1 : 1000 ≤ z <;> by_cases h2 : z ≤ 100000 <;> by_cases h3 : 1 ≤ y <;> by_cases h4 : y ≤ 68719476736 <;> simp [h1, h2, h3, h4]
theorem all_drop {α : Type} {l : List α} {p : α → Prop} {i : Nat} (h : i < l.length) : (∀ x ∈ l.drop i, p x) ↔ p l[i] ∧ ∀ x ∈ l.drop (i + 1), p x := by
  rw [List.drop_eq_getElem_cons h]
  exact List.forall_mem_cons
theorem rchk1 (l0 : List S28) (l1 : List Int) (l2 : List S47) (ex y z : Int) (hl : l2.length ≤ 40) : ∀ n i k, i + n = l2.length → 2 * n + 1 ≤ k → hopmeshref05_Check.l1 k (i : Int) l0 l1 l2 ex y z = some (if ∀ x ∈ l2.drop i, okWall x then 0 else 1)
  | 0, i, k, h, hk => by
    obtain ⟨k, rfl⟩ : ∃ j, k = j + 1 := ⟨k - 1, by omega⟩
    rw [hopmeshref05_Check.l1, if_neg (by omega), List.drop_eq_nil_of_le (by omega)]
    simp
  | n + 1, i, k, h, hk => by
    obtain ⟨k, rfl⟩ : ∃ j, k = j + 2 := ⟨k - 2, by omega⟩
    have hi : i < l2.length := by omega
    rw [hopmeshref05_Check.l1, if_pos (by omega), if_pos (by omega), rd47 hi]
    simp only [rpoint, Option.bind_some, hopmeshref05_Check.j3, wsucc (show i < 1000 by omega), rchk1 l0 l1 l2 ex y z hl n (i + 1) k (by omega) (by omega), all_drop hi]
    generalize l2[i] = x
    by_cases h1 : okPt x.f0.f0 x.f0.f1
    · by_cases h2 : okPt x.f1.f0 x.f1.f1
      · by_cases h3 : x.f2 < 0
        · have : ¬ okWall x := fun h => by have := h.2.2; omega
          simp [h1, h2, h3, this]
        · by_cases h4 : x.f2 > 1000
          · have : ¬ okWall x := fun h => by have := h.2.2; omega
            simp [h1, h2, h3, h4, this]
          · have : okWall x := ⟨h1, h2, by omega, by omega⟩
            simp [h1, h2, h3, h4, this]
      · have : ¬ okWall x := fun h => h2 h.2.1
        simp [h1, h2, this]
    · have : ¬ okWall x := fun h => h1 h.1
      simp [h1, this]
theorem rchk0 (l0 : List S28) (l1 : List Int) (l2 : List S47) (ex y z : Int) (h0 : l0.length ≤ 40) (h1 : l1.length = l0.length) (hl : l2.length ≤ 40) : ∀ n i k, i + n = l0.length → n + 90 ≤ k → hopmeshref05_Check.l0 k (l0.length : Int) (i : Int) l0 l1 l2 ex y z = some (if (∀ x ∈ l0.drop i, okPt x.f0 x.f1) ∧ (∀ x ∈ l1.drop i, okPw x) ∧ (∀ x ∈ l2, okWall x) then 0 else 1)
  | 0, i, k, h, hk => by
    obtain ⟨k, rfl⟩ : ∃ j, k = j + 1 := ⟨k - 1, by omega⟩
    have := rchk1 l0 l1 l2 ex y z hl l2.length 0 k (by omega) (by omega)
    rw [hopmeshref05_Check.l0, if_neg (by omega), List.drop_eq_nil_of_le (by omega), List.drop_eq_nil_of_le (by omega)]
    simpa using this
  | n + 1, i, k, h, hk => by
    obtain ⟨k, rfl⟩ : ∃ j, k = j + 1 := ⟨k - 1, by omega⟩
    have hi : i < l0.length := by omega
    have hi1 : i < l1.length := by omega
    rw [hopmeshref05_Check.l0, if_pos (by omega), if_pos (by omega), if_pos (by omega), rd28 hi]
    simp only [rpoint, ris, Option.bind_some, wsucc (show i < 1000 by omega), rchk0 l0 l1 l2 ex y z h0 h1 hl n (i + 1) k (by omega) (by omega), all_drop hi, all_drop hi1, rdi hi1]
    rw [if_pos (show (i : Int) < l1.length by omega)]
    generalize l0[i] = x
    generalize l1[i] = u
    by_cases q1 : okPt x.f0 x.f1
    · by_cases q2 : okPw u
      · simp [q1, q2]
      · simp [q1, q2]
    · simp [q1]
theorem rcheck {k : Nat} (hk : 140 ≤ k) (l0 : List S28) (l1 : List Int) (l2 : List S47) (ex y z : Int) : hopmeshref05_Check.f k l0 l1 l2 ex y z = some (if siteOk l0 l1 l2 ex y z then 0 else 1) := by
  obtain ⟨j, rfl⟩ : ∃ j, k = j + 1 := ⟨k - 1, by omega⟩
  unfold hopmeshref05_Check.f
  simp only [hopmeshref05_Check.j0, rright, Option.bind_some]
  by_cases h1 : (l0.length : Int) < 2
  · have hn : ¬ siteOk l0 l1 l2 ex y z := fun h => by have := (siteOk_iff.1 h).1.1; omega
    rw [if_pos h1]; simp [hn]
  · rw [if_neg h1]
    by_cases h2 : (l0.length : Int) > 32
    · have hn : ¬ siteOk l0 l1 l2 ex y z := fun h => by have := (siteOk_iff.1 h).1.2.1; omega
      rw [if_pos h2]; simp [hn]
    · rw [if_neg h2]
      by_cases h3 : (l1.length : Int) = l0.length
      · rw [if_pos h3]
        by_cases h4 : (l2.length : Int) > 32
        · have hn : ¬ siteOk l0 l1 l2 ex y z := fun h => by have := (siteOk_iff.1 h).1.2.2.2.1; omega
          rw [if_pos h4]; simp [hn]
        · rw [if_neg h4]
          have hc := rchk0 l0 l1 l2 ex y z (by omega) (by omega) (by omega) l0.length 0 j (by omega) (by omega)
          have hc' : hopmeshref05_Check.l0 j (l0.length : Int) 0 l0 l1 l2 ex y z = some (if (∀ x ∈ l0, okPt x.f0 x.f1) ∧ (∀ x ∈ l1, okPw x) ∧ (∀ x ∈ l2, okWall x) then 0 else 1) := by simpa using hc
          rw [hc']
          by_cases h6 : 1000 ≤ z ∧ z ≤ 100000 ∧ 1 ≤ y ∧ y ≤ 68719476736
          · by_cases h5 : ex = 2 ∨ ex = 4
            · have : siteOk l0 l1 l2 ex y z ↔ ((∀ x ∈ l0, okPt x.f0 x.f1) ∧ (∀ x ∈ l1, okPw x) ∧ (∀ x ∈ l2, okWall x)) := by
                rw [siteOk_iff]
                exact ⟨fun h => h.2, fun h => ⟨⟨by omega, by omega, by omega, by omega, h5, h6⟩, h⟩⟩
              simp only [this]
              rcases h5 with h5 | h5
              · simp [h5, h6]
              · simp [h5, h6]
            · rw [if_neg (fun h => h5 (.inl h)), if_neg (fun h => h5 (.inr h)), if_neg (fun h => h5 (siteOk_iff.1 h).1.2.2.2.2.1)]
              simp
          · have hn : ¬ siteOk l0 l1 l2 ex y z := fun h => h6 (siteOk_iff.1 h).1.2.2.2.2.2
            rw [if_neg hn, decide_eq_false h6]
            by_cases h5 : ex = 2
            · simp [h5]
            · by_cases h7 : ex = 4
              · simp [h7]
              · simp [h5, h7]
      · have hn : ¬ siteOk l0 l1 l2 ex y z := fun h => by have := (siteOk_iff.1 h).1.2.2.1; omega
        rw [if_neg h3]; simp [hn]
theorem cw_cons (x : S47) (l : List S47) (a b c d : Int) : cw (x :: l) a b c d = if crsP a b c d x.f0.f0 x.f0.f1 x.f1.f0 x.f1.f1 then x :: cw l a b c d else cw l a b c d := by
  unfold cw; rw [List.filter_cons]; simp
theorem rwall {p f : Int} (h : okPw p) (h0 : 0 ≤ f) (h1 : f ≤ 1000) : wrap64 (Int.tdiv (wrap64 (p * f)) 1000) = wallF p f := by
  have hw := wallF_le h h0 h1
  obtain ⟨h2, h3⟩ := h
  have m := Int.mul_le_mul_of_nonneg_left h1 h2
  have n := Int.mul_nonneg h2 h0
  rw [w64 (x := p * f) (by omega) (by omega), Int.tdiv_eq_ediv_of_nonneg n]
  exact w64 (by unfold wallF at hw; omega) (by unfold wallF at hw; omega)
theorem rat0 (l0 : List S28) (l1 : List Int) {l : List S47} (ex y z : Int) {a b c d : Int} (h : okPt a b) (h' : okPt c d) (hl : ∀ x ∈ l, okWall x) (hn : l.length ≤ 40) : ∀ n i k p, okPw p → i + n = l.length → n + 10 ≤ k →
    hopmeshref05_at.l0 k p (i : Int) l0 l1 l ex y z a b c d = some (walls p (cw (l.drop i) a b c d))
  | 0, i, k, p, hp, hi, hk => by
    obtain ⟨k, rfl⟩ : ∃ j, k = j + 1 := ⟨k - 1, by omega⟩
    rw [hopmeshref05_at.l0, if_neg (by omega), List.drop_eq_nil_of_le (by omega)]
    rfl
  | n + 1, i, k, p, hp, hi, hk => by
    obtain ⟨k, rfl⟩ : ∃ j, k = j + 1 := ⟨k - 1, by omega⟩
    have hi' : i < l.length := by omega
    have hw := hl l[i] (List.getElem_mem hi')
    have hle := wallF_le hp hw.2.2.1 hw.2.2.2
    rw [hopmeshref05_at.l0, if_pos (by omega), if_pos (by omega), rd47 hi', rcross_at (by omega) _ h.nr.1 h.nr.2 h'.nr.1 h'.nr.2 hw.1.nr.1 hw.1.nr.2 hw.2.1.nr.1 hw.2.1.nr.2, Option.bind_some, rwall hp hw.2.2.1 hw.2.2.2, wsucc (by omega),
      rat0 l0 l1 ex y z h h' hl hn n (i + 1) k p hp (by omega) (by omega), rat0 l0 l1 ex y z h h' hl hn n (i + 1) k _ ⟨hle.1, Int.le_trans hle.2 hp.2⟩ (by omega) (by omega), List.drop_eq_getElem_cons hi', cw_cons]
    by_cases q : crsP a b c d l[i].f0.f0 l[i].f0.f1 l[i].f1.f0 l[i].f1.f1
    · simp [q, walls]
    · simp [q]
theorem rat {k : Nat} (hk : 60 ≤ k) (l0 : List S28) (l1 : List Int) {l : List S47} (ex y z : Int) {a b c d p : Int} (h : okPt a b) (h' : okPt c d) (hp : okPw p) (hl : ∀ x ∈ l, okWall x) (hn : l.length ≤ 40) :
    hopmeshref05_at.f k l0 l1 l ex y z a b p c d = some (atV l ex a b p c d) := by
  obtain ⟨j, rfl⟩ : ∃ j, k = j + 1 := ⟨k - 1, by omega⟩
  obtain ⟨hM, hm⟩ := atM_eq h h'
  have hs := sq_eq h.nr.1 h.nr.2 h'.nr.1 h'.nr.2
  have hmx : mx (sq a b c d) 100 = M a b c d := rfl
  have e1 := at1_eq hp hm
  have e2 := at1_eq (fall_ok hp hm) hm
  unfold at1 at e1 e2
  unfold hopmeshref05_at.f atV dist
  simp only [rsq_eq, hs.1, Option.bind_some, hmx, hopmeshref05_at.j0]
  rw [if_neg (by omega), e1, e2]
  have r0 := fun q hq => rat0 l0 l1 ex y z h h' hl hn l.length 0 j q hq (by omega) (by omega)
  by_cases h4 : ex = 4
  · rw [if_pos h4, if_pos h4]
    simpa using r0 _ (fall_ok (fall_ok hp hm) hm)
  · rw [if_neg h4, if_neg h4]
    simpa using r0 _ (fall_ok hp hm)
theorem rbetween {k : Nat} (hk : 140 ≤ k) (l0 : List S28) (l1 : List Int) (l2 : List S47) (ex y z i j : Int) :
    hopmeshref05_Between.f k l0 l1 l2 ex y z i j = some (if siteOk l0 l1 l2 ex y z then (if 0 ≤ i ∧ i < l0.length ∧ 0 ≤ j ∧ j < l0.length then (btw l0 l1 l2 ex i j, 0) else (0, 7)) else (0, 1)) := by
  obtain ⟨m, rfl⟩ : ∃ m, k = m + 1 := ⟨k - 1, by omega⟩
  unfold hopmeshref05_Between.f
  rw [rcheck (by omega)]
  simp only [Option.bind_some, hopmeshref05_Between.j0]
  by_cases hs : siteOk l0 l1 l2 ex y z
  · rw [if_pos hs, if_pos rfl, if_pos hs]
    by_cases h0 : i < 0
    · rw [if_pos h0, if_neg (show ¬ (0 ≤ i ∧ i < l0.length ∧ 0 ≤ j ∧ j < l0.length) by omega)]; simp
    · rw [if_neg h0]
      by_cases h1 : i ≥ l0.length
      · rw [if_pos h1, if_neg (show ¬ (0 ≤ i ∧ i < l0.length ∧ 0 ≤ j ∧ j < l0.length) by omega)]; simp
      · rw [if_neg h1]
        by_cases h2 : j < 0
        · rw [if_pos h2, if_neg (show ¬ (0 ≤ i ∧ i < l0.length ∧ 0 ≤ j ∧ j < l0.length) by omega)]; simp
        · rw [if_neg h2]
          by_cases h3 : j ≥ l0.length
          · rw [decide_eq_true h3, if_pos rfl, if_neg (show ¬ (0 ≤ i ∧ i < l0.length ∧ 0 ≤ j ∧ j < l0.length) by omega)]
          · rw [decide_eq_false h3, if_neg (by simp), if_pos (show 0 ≤ i ∧ i < l0.length ∧ 0 ≤ j ∧ j < l0.length by omega)]
            obtain ⟨a, b⟩ := node_ok hs (show 0 ≤ i by omega) (show i < l0.length by omega)
            obtain ⟨c, _⟩ := node_ok hs (show 0 ≤ j by omega) (show j < l0.length by omega)
            have hl := (siteOk_iff.1 hs).1
            unfold btw
            by_cases q : i = j
            · rw [if_pos q, if_pos q]
            · rw [if_neg q, if_neg q, if_pos (by omega), if_pos (by omega), if_pos (by omega), if_pos (by omega), if_pos (by omega), rat (by omega) l0 l1 ex y z a c b (site_points hs).2.2 (by omega)]
              rfl
  · simp [hs]
end Go.Proofs.Ytcdgpnjlaicbcaa.Geo
