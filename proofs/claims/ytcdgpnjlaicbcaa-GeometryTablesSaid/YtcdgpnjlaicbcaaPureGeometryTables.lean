/- The plain law of GeometryTables: what the printed functions compute answers true. By this session. -/
import Derived.Test.YtcdgpnjlaicbcaaPAx0
import Derived.Test.YtcdgpnjlaicbcaaPAx11
import Derived.Test.YtcdgpnjlaicbcaaPAx28
import Derived.Test.YtcdgpnjlaicbcaaPAx29
import Derived.Test.YtcdgpnjlaicbcaaPAx3
import Derived.Test.YtcdgpnjlaicbcaaPAx31
import Derived.Test.YtcdgpnjlaicbcaaPAx43
import Derived.Test.YtcdgpnjlaicbcaaGeoAtA
import Derived.Test.YtcdgpnjlaicbcaaGeoTab
import Derived.Test.YtcdgpnjlaicbcaaGeoHear
set_option linter.unusedVariables false
set_option linter.unusedSimpArgs false
namespace Go.Proofs.Ytcdgpnjlaicbcaa.Pure
open Go.RowKit Go.Proofs.YtcdgpnjlaicbcaaW.PrintWords Go.Proofs.YtcdgpnjlaicbcaaW.PrintLast Go.Proofs.YtcdgpnjlaicbcaaW.PrintMore Go.Proofs.Ytcdgpnjlaicbcaa.PA Go.Proofs.Ytcdgpnjlaicbcaa.Geo
/-! ### slices.IsSorted, slices.Contains -/
theorem sorted_from (l : List Int) (hl : l.length ≤ 1000) (hs : l.Pairwise (· < ·)) : ∀ n k, n < l.length → n + 1 ≤ k → slices_IsSorted_int_int.l0 k l (n : Int) = some true
  | 0, k, h, hk => by
    obtain ⟨k, rfl⟩ : ∃ j, k = j + 1 := ⟨k - 1, by omega⟩
    rw [slices_IsSorted_int_int.l0, if_neg (by omega)]
  | n + 1, k, h, hk => by
    obtain ⟨k, rfl⟩ : ∃ j, k = j + 1 := ⟨k - 1, by omega⟩
    have hw : wrap64 (((n + 1 : Nat) : Int) - 1) = (n : Int) := by rw [w64 (by omega) (by omega)]; omega
    have hp := List.pairwise_iff_getElem.1 hs n (n + 1) (by omega) h (by omega)
    have hc : cmp_Less_int.f (rd l ((n + 1 : Nat) : Int)) (rd l (n : Int)) = some false := by
      rw [rdi h, rdi (by omega)]
      unfold cmp_Less_int.f cmp_isNaN_int.f
      simp
      omega
    rw [slices_IsSorted_int_int.l0, if_pos (by omega), if_pos (by omega), if_pos (by omega), hw, if_pos (by omega), if_pos (by omega), hc, Option.bind_some, if_neg (by simp)]
    exact sorted_from l hl hs n k (by omega) (by omega)
theorem sorted (l : List Int) (hl : l.length ≤ 1000) (hs : l.Pairwise (· < ·)) {k : Nat} (hk : 1001 ≤ k) : slices_IsSorted_int_int.f k l = some true := by
  unfold slices_IsSorted_int_int.f
  rcases Nat.eq_zero_or_pos l.length with h | h
  · obtain ⟨k, rfl⟩ : ∃ j, k = j + 1 := ⟨k - 1, by omega⟩
    rw [h, w64 (by omega) (by omega), slices_IsSorted_int_int.l0, if_neg (by omega)]
  · rw [w64 (by omega) (by omega), show (l.length : Int) - 1 = ((l.length - 1 : Nat) : Int) by omega]
    exact sorted_from l hl hs _ k (by omega) (by omega)
theorem index_from (l : List Int) (a : Int) (hl : l.length < 1000) : ∀ n i k, i + n = l.length → n + 1 ≤ k → (∀ j (h : j < l.length), j < i → l[j] ≠ a) → ∃ r, slices_Index_int_int.l0 k l a (l.length : Int) (i : Int) = some r ∧ (r ≥ 0 ↔ a ∈ l)
  | 0, i, k, h, hk, hn => by
    obtain ⟨k, rfl⟩ : ∃ j, k = j + 1 := ⟨k - 1, by omega⟩
    refine ⟨-1, by rw [slices_Index_int_int.l0, if_neg (by omega)], ?_⟩
    constructor
    · intro h; omega
    · intro hm
      obtain ⟨j, hj, e⟩ := List.getElem_of_mem hm
      exact absurd e (hn j hj (by omega))
  | n + 1, i, k, h, hk, hn => by
    obtain ⟨k, rfl⟩ : ∃ j, k = j + 1 := ⟨k - 1, by omega⟩
    have hi : i < l.length := by omega
    by_cases q : a = l[i]
    · refine ⟨(i : Int), by rw [slices_Index_int_int.l0, if_pos (by omega), if_pos (by omega), if_pos (by omega), rdi hi, if_pos q], ?_⟩
      exact ⟨fun _ => by rw [q]; exact List.getElem_mem hi, fun _ => by omega⟩
    · obtain ⟨r, h1, h2⟩ := index_from l a hl n (i + 1) k (by omega) (by omega) (fun j hj hlt => by
        rcases Nat.lt_or_ge j i with h' | h'
        · exact hn j hj h'
        · obtain rfl : j = i := by omega
          exact fun e => q e.symm)
      refine ⟨r, ?_, h2⟩
      rw [slices_Index_int_int.l0, if_pos (by omega), if_pos (by omega), if_pos (by omega), rdi hi, if_neg q, wsucc (by omega)]
      exact h1
theorem contains (l : List Int) (a : Int) (hl : l.length < 1000) {k : Nat} (hk : 1001 ≤ k) : slices_Contains_int_int.f k l a = some (decide (a ∈ l)) := by
  obtain ⟨r, h1, h2⟩ := index_from l a hl l.length 0 k (by omega) (by omega) (fun j _ h => absurd h (Nat.not_lt_zero _))
  unfold slices_Contains_int_int.f slices_Index_int_int.f
  have h1' : slices_Index_int_int.l0 k l a (l.length : Int) 0 = some r := h1
  rw [h1', Option.bind_some]
  congr 1
  rw [decide_eq_decide]
  exact h2
/-! ### who is heard -/
theorem hear_eq (l0 : List S28) (l1 : List Int) (l2 : List S47) (ex y z j : Int) : ∀ n i acc, hear l0 l1 l2 ex y z j n i acc = acc ++ ((List.range' i n).filter (fun i : Nat => dec (btw l0 l1 l2 ex (i : Int) j) z y)).map (fun i : Nat => (i : Int))
  | 0, i, acc => by simp [hear]
  | n + 1, i, acc => by
    rw [hear, hear_eq l0 l1 l2 ex y z j n (i + 1), List.range'_succ, List.filter_cons]
    by_cases q : dec (btw l0 l1 l2 ex (i : Int) j) z y = true
    · rw [if_pos q, if_pos q, List.map_cons, List.append_assoc]; rfl
    · rw [if_neg q, if_neg q]
theorem hear_mem (l0 : List S28) (l1 : List Int) (l2 : List S47) (ex y z j : Int) (a : Nat) (ha : a < l0.length) : ((a : Int) ∈ hear l0 l1 l2 ex y z j l0.length 0 []) ↔ dec (btw l0 l1 l2 ex (a : Int) j) z y = true := by
  rw [hear_eq, List.nil_append, List.mem_map]
  constructor
  · rintro ⟨b, hb, e⟩
    obtain rfl : b = a := by omega
    exact (List.mem_filter.1 hb).2
  · intro h
    exact ⟨a, List.mem_filter.2 ⟨by simp [List.mem_range']; omega, h⟩, rfl⟩
theorem hear_sorted (l0 : List S28) (l1 : List Int) (l2 : List S47) (ex y z j : Int) : (hear l0 l1 l2 ex y z j l0.length 0 []).Pairwise (· < ·) := by
  rw [hear_eq, List.nil_append, List.pairwise_map]
  refine List.Pairwise.imp (fun h => Int.ofNat_lt.2 h) (List.Pairwise.filter _ ?_)
  exact List.pairwise_lt_range' (step := 1) (by omega)
/-! ### the nearest node -/
def sqa (l : List S28) (u v : Int) (i : Nat) : Int := sq (rd_T28 l (i : Int)).f0 (rd_T28 l (i : Int)).f1 u v
theorem nst_min (l : List S28) (u v : Int) : ∀ n i b, b < i ∨ b = 0 → (∀ j, j < i → sqa l u v b ≤ sqa l u v j) → (∀ j, j < b → sqa l u v b < sqa l u v j) →
    (∀ j, j < i + n → sqa l u v (nst l u v n i b) ≤ sqa l u v j) ∧ (∀ j, j < nst l u v n i b → sqa l u v (nst l u v n i b) < sqa l u v j)
  | 0, i, b, hb, h1, h2 => ⟨h1, h2⟩
  | n + 1, i, b, hb, h1, h2 => by
    unfold nst
    have hq : (sq (rd_T28 l (i : Int)).f0 (rd_T28 l (i : Int)).f1 u v < sq (rd_T28 l (b : Int)).f0 (rd_T28 l (b : Int)).f1 u v) ↔ sqa l u v i < sqa l u v b := Iff.rfl
    by_cases q : sqa l u v i < sqa l u v b
    · rw [if_pos (hq.2 q)]
      have := nst_min l u v n (i + 1) i (by omega) (fun j hj => by
        rcases Nat.lt_or_ge j i with h | h
        · have := h1 j h; omega
        · obtain rfl : j = i := by omega
          omega) (fun j hj => by have := h1 j hj; omega)
      rw [show i + (n + 1) = i + 1 + n by omega]
      exact this
    · rw [if_neg (fun h => q (hq.1 h))]
      have := nst_min l u v n (i + 1) b (by omega) (fun j hj => by
        rcases Nat.lt_or_ge j i with h | h
        · exact h1 j h
        · obtain rfl : j = i := by omega
          omega) h2
      rw [show i + (n + 1) = i + 1 + n by omega]
      exact this
theorem sq_zero {a b c d : Int} (h : sq a b c d ≤ 0) : a = c ∧ b = d := by
  unfold sq at h
  have h1 := sqn (a - c)
  have h2 := sqn (b - d)
  have e1 : (a - c) * (a - c) = 0 := by omega
  have e2 : (b - d) * (b - d) = 0 := by omega
  have f1 := Int.mul_eq_zero.1 e1
  have f2 := Int.mul_eq_zero.1 e2
  omega
theorem sq_self (a b : Int) : sq a b a b = 0 := by unfold sq; simp
theorem sq_nonneg (a b c d : Int) : 0 ≤ sq a b c d := by
  have h1 := sqn (a - c)
  have h2 := sqn (b - d)
  unfold sq; omega
theorem nst_self (l : List S28) {b : Nat} (hb : b < l.length) : nst l (rd_T28 l (b : Int)).f0 (rd_T28 l (b : Int)).f1 l.length 0 0 ≤ b ∧
    (rd_T28 l ((nst l (rd_T28 l (b : Int)).f0 (rd_T28 l (b : Int)).f1 l.length 0 0 : Nat) : Int)).f0 = (rd_T28 l (b : Int)).f0 ∧ (rd_T28 l ((nst l (rd_T28 l (b : Int)).f0 (rd_T28 l (b : Int)).f1 l.length 0 0 : Nat) : Int)).f1 = (rd_T28 l (b : Int)).f1 := by
  obtain ⟨h1, h2⟩ := nst_min l (rd_T28 l (b : Int)).f0 (rd_T28 l (b : Int)).f1 l.length 0 0 (.inr rfl) (fun j h => absurd h (Nat.not_lt_zero _)) (fun j h => absurd h (Nat.not_lt_zero _))
  generalize nst l (rd_T28 l (b : Int)).f0 (rd_T28 l (b : Int)).f1 l.length 0 0 = r at *
  have hz : sqa l (rd_T28 l (b : Int)).f0 (rd_T28 l (b : Int)).f1 b = 0 := sq_self _ _
  have k1 := h1 b (by omega)
  refine ⟨?_, sq_zero (by rw [hz] at k1; exact k1)⟩
  rcases Nat.lt_or_ge b r with h | h
  · have := h2 b h
    have := sq_nonneg (rd_T28 l (r : Int)).f0 (rd_T28 l (r : Int)).f1 (rd_T28 l (b : Int)).f0 (rd_T28 l (b : Int)).f1
    unfold sqa at *
    omega
  · exact h
/-! ### the table -/
theorem row_at (l0 : List S28) (l1 : List Int) (l2 : List S47) (ex i : Int) : ∀ m j b, b < m → (rowF l0 l1 l2 ex i j m)[b]? = some (btw l0 l1 l2 ex i ((j + b : Nat) : Int))
  | 0, j, b, h => absurd h (Nat.not_lt_zero _)
  | m + 1, j, 0, h => by simp [rowF]
  | m + 1, j, b + 1, h => by
    rw [rowF, List.getElem?_cons_succ, row_at l0 l1 l2 ex i m (j + 1) b (by omega)]
    rw [show j + 1 + b = j + (b + 1) by omega]
theorem tab_at (l0 : List S28) (l1 : List Int) (l2 : List S47) (ex : Int) : ∀ m i a, a < m → (tabF l0 l1 l2 ex i m)[a]? = some (rowF l0 l1 l2 ex ((i + a : Nat) : Int) 0 l0.length)
  | 0, i, a, h => absurd h (Nat.not_lt_zero _)
  | m + 1, i, 0, h => by simp [tabF]
  | m + 1, i, a + 1, h => by
    rw [tabF, List.getElem?_cons_succ, tab_at l0 l1 l2 ex m (i + 1) a (by omega)]
    rw [show i + 1 + a = i + (a + 1) by omega]
theorem rdL {l0 : List S28} {l1 : List Int} {l2 : List S47} {ex : Int} {a : Nat} (ha : a < l0.length) : rd_L3 (tabF l0 l1 l2 ex 0 l0.length) (a : Int) = rowF l0 l1 l2 ex (a : Int) 0 l0.length := by
  unfold rd_L3
  rw [List.getD_eq_getElem?_getD, Int.toNat_natCast, tab_at l0 l1 l2 ex l0.length 0 a ha, Nat.zero_add]; rfl
theorem rdR {l0 : List S28} {l1 : List Int} {l2 : List S47} {ex i : Int} {b : Nat} (hb : b < l0.length) : rd (rowF l0 l1 l2 ex i 0 l0.length) (b : Int) = btw l0 l1 l2 ex i (b : Int) := by
  unfold rd
  rw [List.getD_eq_getElem?_getD, Int.toNat_natCast, row_at l0 l1 l2 ex i l0.length 0 b hb, Nat.zero_add]; rfl
theorem dec_eq {p z y : Int} (h : 1000 ≤ z ∧ z ≤ 100000 ∧ 1 ≤ y ∧ y ≤ 68719476736) : decide (wrap64 (1000 * p) ≥ wrap64 (z * y)) = dec p z y := by
  unfold dec
  rw [w64 (x := y + 0) (by omega) (by omega), Int.add_zero]
theorem dec_self {z y : Int} (h : 1000 ≤ z ∧ z ≤ 100000 ∧ 1 ≤ y ∧ y ≤ 68719476736) : dec 0 z y = false := by
  obtain ⟨h1, h2, h3, h4⟩ := h
  have m1 : 1000 * 1 ≤ z * y := Int.mul_le_mul h1 h3 (by omega) (by omega)
  have m2 : z * y ≤ 100000 * 68719476736 := Int.mul_le_mul h2 h4 (by omega) (by omega)
  unfold dec
  rw [w64 (x := y + 0) (by omega) (by omega), Int.add_zero, w64 (x := 1000 * 0) (by omega) (by omega), w64 (x := z * y) (by omega) (by omega)]
  exact decide_eq_false (by omega)
/-! ### the loops -/
theorem inner {l0 : List S28} {l1 : List Int} {l2 : List S47} {ex y z : Int} (hs : siteOk l0 l1 l2 ex y z) {b : Nat} (hb : b < l0.length) : ∀ n a k, a + n = l0.length → n + 1600 ≤ k →
    ∃ k', k ≤ k' + n + 1 ∧ hopmeshlaw05_GeometryTables.l1 k (tabF l0 l1 l2 ex 0 l0.length) (b : Int) (hear l0 l1 l2 ex y z (b : Int) l0.length 0 []) (l0.length : Int) (b : Int) (l0.length : Int) (a : Int) l0 l1 l2 ex y z
      = hopmeshlaw05_GeometryTables.l0 k' (tabF l0 l1 l2 ex 0 l0.length) (l0.length : Int) ((b + 1 : Nat) : Int) l0 l1 l2 ex y z
  | 0, a, k, h, hk => by
    obtain ⟨k, rfl⟩ : ∃ j, k = j + 1 := ⟨k - 1, by omega⟩
    have hl := (siteOk_iff.1 hs).1
    obtain ⟨n1, n2, n3⟩ := nst_self l0 hb
    have hp := (node_ok hs (show (0 : Int) ≤ (b : Int) by omega) (by omega)).1
    refine ⟨k, by omega, ?_⟩
    rw [hopmeshlaw05_GeometryTables.l1, if_neg (by omega), if_pos (by omega), if_pos (by omega), Near_p _ _ _ _ _ _ _ _ (by omega), Option.bind_some, nearA, if_pos hs, if_pos hp]
    dsimp only
    rw [if_pos rfl, if_neg (by omega), if_neg (by omega), if_pos (by omega), if_pos (by omega), n2, n3, wsucc (by omega)]
    simp
  | n + 1, a, k, h, hk => by
    obtain ⟨k, rfl⟩ : ∃ j, k = j + 1 := ⟨k - 1, by omega⟩
    have hl := (siteOk_iff.1 hs).1
    have ha : a < l0.length := by omega
    obtain ⟨pa, wa⟩ := node_ok hs (show (0 : Int) ≤ (a : Int) by omega) (by omega)
    obtain ⟨pb, wb⟩ := node_ok hs (show (0 : Int) ≤ (b : Int) by omega) (by omega)
    have hlen : (hear l0 l1 l2 ex y z (b : Int) l0.length 0 []).length < 1000 := by
      have := hear_len l0 l1 l2 ex y z (b : Int) l0.length 0 []
      simp at this; omega
    obtain ⟨k', hk', ih⟩ := inner hs hb n (a + 1) k (by omega) (by omega)
    refine ⟨k', by omega, ?_⟩
    have hm := hear_mem l0 l1 l2 ex y z (b : Int) a ha
    rw [hopmeshlaw05_GeometryTables.l1, if_pos (by omega), Between_eq, Option.bind_some, betA, if_pos hs, if_pos (show (0 : Int) ≤ (a : Int) ∧ (a : Int) < l0.length ∧ (0 : Int) ≤ (b : Int) ∧ (b : Int) < l0.length by omega)]
    rw [if_pos (by omega), if_pos (by omega), if_pos (by omega), if_pos (by omega), if_pos (by omega), At_eq (by omega), Option.bind_some, if_pos hs, if_pos (And.intro pa (And.intro pb wa))]
    dsimp only
    rw [if_pos rfl, if_pos rfl, tab_len, if_pos (by omega), rdL ha, row_len, if_pos rfl, if_pos (by omega), rdR hb, if_pos rfl, wsucc (by omega), contains _ _ hlen (by omega), Option.bind_some, dec_eq hl.2.2.2.2.2]
    have hne : (decide ((a : Int) ∈ hear l0 l1 l2 ex y z (b : Int) l0.length 0 []) != dec (btw l0 l1 l2 ex (a : Int) (b : Int)) z y) = false := by
      by_cases q : dec (btw l0 l1 l2 ex (a : Int) (b : Int)) z y = true
      · rw [q, decide_eq_true (hm.2 q)]; rfl
      · rw [decide_eq_false (fun h => q (hm.1 h))]
        simp at q
        rw [q]; rfl
    rw [hne]
    by_cases e : (a : Int) = (b : Int)
    · have e0 : btw l0 l1 l2 ex (a : Int) (b : Int) = 0 := by unfold btw; rw [if_pos e]
      rw [if_pos e, if_pos e0, if_neg (by simp)]
      exact ih
    · have e0 : btw l0 l1 l2 ex (a : Int) (b : Int) = atV l2 ex (rd_T28 l0 (a : Int)).f0 (rd_T28 l0 (a : Int)).f1 (rd l1 (a : Int)) (rd_T28 l0 (b : Int)).f0 (rd_T28 l0 (b : Int)).f1 := by unfold btw; rw [if_neg e]
      rw [if_neg e, if_pos e0, if_neg (by simp)]
      exact ih
theorem outer {l0 : List S28} {l1 : List Int} {l2 : List S47} {ex y z : Int} (hs : siteOk l0 l1 l2 ex y z) : ∀ n b k, b + n = l0.length → n * (l0.length + 4) + 1700 ≤ k →
    hopmeshlaw05_GeometryTables.l0 k (tabF l0 l1 l2 ex 0 l0.length) (l0.length : Int) (b : Int) l0 l1 l2 ex y z = some true
  | 0, b, k, h, hk => by
    obtain ⟨k, rfl⟩ : ∃ j, k = j + 1 := ⟨k - 1, by omega⟩
    rw [hopmeshlaw05_GeometryTables.l0, if_neg (by omega)]
  | n + 1, b, k, h, hk => by
    rw [Nat.add_mul] at hk
    obtain ⟨k, rfl⟩ : ∃ j, k = j + 2 := ⟨k - 2, by omega⟩
    have hl := (siteOk_iff.1 hs).1
    have hb : b < l0.length := by omega
    have hlen : (hear l0 l1 l2 ex y z (b : Int) l0.length 0 []).length < 1000 := by
      have := hear_len l0 l1 l2 ex y z (b : Int) l0.length 0 []
      simp at this; omega
    have hno : ¬ (b : Int) ∈ hear l0 l1 l2 ex y z (b : Int) l0.length 0 [] := by
      rw [hear_mem _ _ _ _ _ _ _ b hb]
      unfold btw
      rw [if_pos rfl, dec_self hl.2.2.2.2.2]
      simp
    obtain ⟨k', hk', hi⟩ := inner hs hb l0.length 0 k (by omega) (by omega)
    have ho := outer hs n (b + 1) k' (by omega) (by omega)
    rw [hopmeshlaw05_GeometryTables.l0, if_pos (by omega), Hear_p _ _ _ _ _ _ _ (by omega), Option.bind_some, hearA, if_pos hs, if_pos (show (0 : Int) ≤ (b : Int) ∧ (b : Int) < l0.length by omega)]
    dsimp only
    rw [if_pos rfl, sorted _ (by omega) (hear_sorted ..) (by omega), Option.bind_some, if_pos rfl, contains _ _ hlen (by omega), Option.bind_some, decide_eq_false hno, hopmeshlaw05_GeometryTables.j2, if_neg (by simp)]
    exact hi.trans ho
theorem GeometryTables (y0_0 : (List S28)) (y0_1 : (List Int)) (y0_2 : (List S47)) (y0_3 : Int) (y0_4 : Int) (y0_5 : Int) (w0_0 : (∀ y ∈ y0_0, ((Lit.int .i64 y.f0).wf = true ∧ (Lit.int .i64 y.f1).wf = true))) (w0_1 : (∀ y ∈ y0_1, (Lit.int .i64 y).wf = true)) (w0_2 : (∀ y ∈ y0_2, (((Lit.int .i64 y.f0.f0).wf = true ∧ (Lit.int .i64 y.f0.f1).wf = true) ∧ ((Lit.int .i64 y.f1.f0).wf = true ∧ (Lit.int .i64 y.f1.f1).wf = true) ∧ (Lit.int .i64 y.f2).wf = true))) (w0_3 : (Lit.int .i64 y0_3).wf = true) (w0_4 : (Lit.int .i64 y0_4).wf = true) (w0_5 : (Lit.int .i64 y0_5).wf = true) : ∃ k, hopmeshlaw05_GeometryTables.f k y0_0 y0_1 y0_2 y0_3 y0_4 y0_5 = some true := by
  refine ⟨4000, ?_⟩
  unfold hopmeshlaw05_GeometryTables.f hopmeshlaw05_awake.f
  simp only [Option.bind_some, if_true, few]
  by_cases hf : y0_0.length ≤ 40 ∧ y0_1.length ≤ 40 ∧ y0_2.length ≤ 40
  · rw [if_pos (decide_eq_true hf), Table_p _ _ _ _ _ _ (by omega), Option.bind_some, tabA]
    by_cases hs : siteOk y0_0 y0_1 y0_2 y0_3 y0_4 y0_5
    · have hl := (siteOk_iff.1 hs).1
      have hle : ((y0_1.length : Int) != (y0_0.length : Int)) = false := by rw [hl.2.2.1]; simp
      rw [if_pos hs]
      dsimp only
      rw [if_pos rfl, tab_len, if_pos rfl, hle, show (4000 : Nat) = 3999 + 1 from rfl, hopmeshlaw05_GeometryTables.j0, if_neg (by simp)]
      refine outer hs y0_0.length 0 3999 (by omega) ?_
      have := Nat.mul_le_mul hl.2.1 (Nat.add_le_add_right hl.2.1 4)
      omega
    · rw [if_neg hs]
      dsimp only
      rw [if_neg (by omega), if_pos rfl, if_pos (by simp), check_eq, Option.bind_some, if_neg hs]
      rfl
  · rw [if_neg (by simpa using hf)]
end Go.Proofs.Ytcdgpnjlaicbcaa.Pure
