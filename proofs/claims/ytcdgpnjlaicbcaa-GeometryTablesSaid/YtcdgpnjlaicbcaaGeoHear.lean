/- The plain law of geometry: what Nearest and Hears compute. By this session. -/
import Derived.Test.YtcdgpnjlaicbcaaPAx0
import Derived.Test.YtcdgpnjlaicbcaaPAx12
import Derived.Test.YtcdgpnjlaicbcaaPAx16
import Derived.Test.YtcdgpnjlaicbcaaPAx17
import Derived.Test.YtcdgpnjlaicbcaaPAx18
import Derived.Test.YtcdgpnjlaicbcaaPAx43
import Derived.Test.YtcdgpnjlaicbcaaPAx7
import Derived.Test.YtcdgpnjlaicbcaaGeoBtw
set_option linter.unusedVariables false
set_option linter.unusedSimpArgs false
namespace Go.Proofs.Ytcdgpnjlaicbcaa.Geo
open Go.RowKit Go.Proofs.YtcdgpnjlaicbcaaW.PrintWords Go.Proofs.YtcdgpnjlaicbcaaW.PrintLast Go.Proofs.YtcdgpnjlaicbcaaW.PrintMore Go.Proofs.Ytcdgpnjlaicbcaa.PA
/-- The nearest one, from the i-th on, where b was the nearest before. -/
def nst (l : List S28) (u v : Int) : Nat → Nat → Nat → Nat
  | 0, _, b => b
  | n + 1, i, b => nst l u v n (i + 1) (if sq (rd_T28 l (i : Int)).f0 (rd_T28 l (i : Int)).f1 u v < sq (rd_T28 l (b : Int)).f0 (rd_T28 l (b : Int)).f1 u v then i else b)
theorem node_nr {l0 : List S28} {l1 : List Int} {l2 : List S47} {ex y z : Int} (hs : siteOk l0 l1 l2 ex y z) {i : Nat} (h1 : i < l0.length) : nr (rd_T28 l0 (i : Int)).f0 ∧ nr (rd_T28 l0 (i : Int)).f1 :=
  (node_ok hs (show (0 : Int) ≤ (i : Int) by omega) (by omega)).1.nr
theorem nst_lt {l : List S28} {u v : Int} : ∀ n i b, i + n = l.length → b < l.length → nst l u v n i b < l.length
  | 0, i, b, h, hb => hb
  | n + 1, i, b, h, hb => by
    unfold nst
    exact nst_lt n (i + 1) _ (by omega) (by split <;> omega)
theorem near_p {l0 : List S28} {l1 : List Int} {l2 : List S47} {ex y z u v : Int} (hs : siteOk l0 l1 l2 ex y z) (hp : okPt u v) : ∀ n i b k, i + n = l0.length → b < l0.length → n + 1 ≤ k →
    geometry_Nearest.l0 k (b : Int) l0 (l0.length : Int) (i : Int) l0 l1 l2 ex y z u v = some (((nst l0 u v n i b : Nat) : Int), 0)
  | 0, i, b, k, h, hb, hk => by
    obtain ⟨k, rfl⟩ : ∃ j, k = j + 1 := ⟨k - 1, by omega⟩
    rw [geometry_Nearest.l0, if_neg (by omega)]; rfl
  | n + 1, i, b, k, h, hb, hk => by
    obtain ⟨k, rfl⟩ : ∃ j, k = j + 1 := ⟨k - 1, by omega⟩
    have hl := (siteOk_iff.1 hs).1.2.1
    have a := node_nr hs (show i < l0.length by omega)
    have c := node_nr hs hb
    rw [geometry_Nearest.l0, if_pos (by omega), if_pos (by omega), if_pos (by omega), (sq_eq a.1 a.2 hp.nr.1 hp.nr.2).1, Option.bind_some, if_pos (by omega), if_pos (by omega), (sq_eq c.1 c.2 hp.nr.1 hp.nr.2).1, Option.bind_some, wsucc (by omega),
      near_p hs hp n (i + 1) i k (by omega) (by omega) (by omega), near_p hs hp n (i + 1) b k (by omega) hb (by omega), nst]
    split <;> rfl
/-- What Nearest answers. -/
def nearA (l0 : List S28) (l1 : List Int) (l2 : List S47) (ex y z u v : Int) : Int × Int :=
  if siteOk l0 l1 l2 ex y z then (if okPt u v then (((nst l0 u v l0.length 0 0 : Nat) : Int), 0) else (0, 2)) else (0, 1)
theorem Near_p (l0 : List S28) (l1 : List Int) (l2 : List S47) (ex y z u v : Int) {k : Nat} (hk : 40 ≤ k) : geometry_Nearest.f k l0 l1 l2 ex y z u v = some (nearA l0 l1 l2 ex y z u v) := by
  unfold geometry_Nearest.f nearA
  rw [check_eq, Option.bind_some]
  by_cases hs : siteOk l0 l1 l2 ex y z
  · rw [if_pos hs, if_pos rfl, if_pos hs, point_eq, Option.bind_some]
    by_cases hp : okPt u v
    · have hp' : ptB u v = true := decide_eq_true hp
      have hl := (siteOk_iff.1 hs).1
      rw [hp', if_pos rfl, if_pos hp]
      exact near_p hs hp l0.length 0 0 k (by omega) (by omega) (by omega)
    · have hp' : ptB u v = false := decide_eq_false hp
      rw [hp', if_neg (by simp), if_neg hp]
  · rw [if_neg hs, if_neg (by simp), if_neg hs]
/-- Is a power received? -/
def dec (p z y : Int) : Bool := decide (wrap64 (1000 * p) ≥ wrap64 (z * wrap64 (y + 0)))
theorem received {k : Nat} (hk : 10 ≤ k) {p z y : Int} (hp : okPw p) (h : 1000 ≤ z ∧ z ≤ 100000 ∧ 1 ≤ y ∧ y ≤ 68719476736) : power_Received.f k p z y [] = some (dec p z y, 0) := by
  obtain ⟨k, rfl⟩ : ∃ j, k = j + 10 := ⟨k - 10, by omega⟩
  obtain ⟨h1, h2, h3, h4⟩ := h
  obtain ⟨h5, h6⟩ := hp
  unfold power_Received.f power_power.f power_conditions.f
  rw [if_pos h5, if_pos h1, if_pos h2, if_pos h3]
  simp [h6, h4, power_Received.j0, power_Sum.f, power_Sum.l0, power_add_int.f, power_add_int.l0, dec]
/-- Who is heard at j, from the i-th on. -/
def hear (l0 : List S28) (l1 : List Int) (l2 : List S47) (ex y z j : Int) : Nat → Nat → List Int → List Int
  | 0, _, acc => acc
  | n + 1, i, acc => hear l0 l1 l2 ex y z j n (i + 1) (if dec (btw l0 l1 l2 ex (i : Int) j) z y = true then acc ++ [(i : Int)] else acc)
theorem hear_len (l0 : List S28) (l1 : List Int) (l2 : List S47) (ex y z j : Int) : ∀ n i acc, (hear l0 l1 l2 ex y z j n i acc).length ≤ acc.length + n
  | 0, i, acc => Nat.le_refl _
  | n + 1, i, acc => by
    unfold hear
    refine Nat.le_trans (hear_len l0 l1 l2 ex y z j n (i + 1) _) ?_
    split <;> simp <;> omega
theorem hear_p {l0 : List S28} {l1 : List Int} {l2 : List S47} {ex y z j : Int} (hs : siteOk l0 l1 l2 ex y z) (h0 : 0 ≤ j) (h1 : j < l0.length) : ∀ n i acc k, i + n = l0.length → acc.length ≤ i → n + 20 ≤ k →
    geometry_Hears.l0 k j acc (l0.length : Int) (i : Int) l0 l1 l2 ex y z = some (hear l0 l1 l2 ex y z j n i acc, 0)
  | 0, i, acc, k, h, ha, hk => by
    obtain ⟨k, rfl⟩ : ∃ j, k = j + 1 := ⟨k - 1, by omega⟩
    rw [geometry_Hears.l0, if_neg (by omega)]; rfl
  | n + 1, i, acc, k, h, ha, hk => by
    obtain ⟨k, rfl⟩ : ∃ j, k = j + 1 := ⟨k - 1, by omega⟩
    have hl := (siteOk_iff.1 hs).1
    rw [geometry_Hears.l0, if_pos (by omega), between_eq hs (by omega) (by omega) h0 h1, Option.bind_some, received (by omega) (btw_le hs (by omega) (by omega) h0 h1) hl.2.2.2.2.2, Option.bind_some, wsucc (by omega), hear]
    by_cases q : dec (btw l0 l1 l2 ex (i : Int) j) z y = true
    · rw [if_pos q, if_pos (by omega), if_pos q]
      exact hear_p hs h0 h1 n (i + 1) _ k (by omega) (by simp; omega) (by omega)
    · rw [if_neg q, if_neg q]
      exact hear_p hs h0 h1 n (i + 1) _ k (by omega) (by omega) (by omega)
/-- What Hears answers. -/
def hearA (l0 : List S28) (l1 : List Int) (l2 : List S47) (ex y z j : Int) : List Int × Int :=
  if siteOk l0 l1 l2 ex y z then (if 0 ≤ j ∧ j < l0.length then (hear l0 l1 l2 ex y z j l0.length 0 [], 0) else ([], 7)) else ([], 1)
theorem Hear_p (l0 : List S28) (l1 : List Int) (l2 : List S47) (ex y z j : Int) {k : Nat} (hk : 60 ≤ k) : geometry_Hears.f k l0 l1 l2 ex y z j = some (hearA l0 l1 l2 ex y z j) := by
  unfold geometry_Hears.f hearA
  rw [check_eq, Option.bind_some]
  by_cases hs : siteOk l0 l1 l2 ex y z
  · have hl := (siteOk_iff.1 hs).1
    rw [if_pos hs, if_pos rfl, if_pos hs]
    by_cases h0 : j < 0
    · rw [if_pos h0, if_neg (show ¬ (0 ≤ j ∧ j < l0.length) by omega)]
    · rw [if_neg h0]
      by_cases h1 : j ≥ l0.length
      · rw [if_pos h1, if_neg (show ¬ (0 ≤ j ∧ j < l0.length) by omega)]
      · rw [if_neg h1, if_pos (show 0 ≤ j ∧ j < l0.length by omega)]
        exact hear_p hs (by omega) (by omega) l0.length 0 [] k (by omega) (by simp) (by omega)
  · rw [if_neg hs, if_neg (by simp), if_neg hs]
end Go.Proofs.Ytcdgpnjlaicbcaa.Geo
