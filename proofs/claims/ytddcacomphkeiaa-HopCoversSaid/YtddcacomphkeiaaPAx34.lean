-- Written by a program of this session (mkprint.py: the kit's print, changed) for this claim. Not trusted: Lean checks it.
import Derived.Test.YtddcacomphkeiaaPAx0
import Derived.Test.YtddcacomphkeiaaPAx14
import Derived.Test.YtddcacomphkeiaaHof
namespace Go.Proofs.Ytddcacomphkeiaa.PA
open Go.RowKit Go.Proofs.YtddcacomphkeiaaW.PrintWords Go.Proofs.YtddcacomphkeiaaW.PrintLast Go.Proofs.YtddcacomphkeiaaW.PrintMore
attribute [local go_sem] max2_int min2_int max_two min_two max_three min_three max_four min_four   -- for this text's walks alone
set_option linter.unusedVariables false
set_option linter.unusedSimpArgs false

/-! ### slices_ContainsFunc_api_HopList_api_HopList__hopmeshlaw11_HopCovers_1: function 33 -/
-- (own)
-- IMPORT Derived.Test.YtddcacomphkeiaaHof
open Go.Shelf
/-- Two lists are one. -/
def sameX (a b d : Int) (cs : List Int) (y : S24) : Bool := decide (a = y.f0) && (decide (b = y.f1) && (decide (d = y.f2) && decide (cs = y.f3)))
theorem sameF_from (a b c a' b' c' : Int) (x y : List Int) (hl : x.length = y.length) (hm : x.length ≤ 9223372036854775807) : ∀ n i, i + n = x.length → (∀ j, j < i → x[j]? = y[j]?) → hopmeshref11_Same.l0 (n + 1) (i : Int) a b c x a' b' c' y = some (decide (x = y))
  | 0, i, h, he => by
    have : x = y := List.ext_getElem? (fun j => by
      rcases Nat.lt_or_ge j i with q | q
      · exact he j q
      · rw [List.getElem?_eq_none (by omega), List.getElem?_eq_none (by omega)])
    rw [hopmeshref11_Same.l0, if_neg (by omega)]
    simp [this]
  | n + 1, i, h, he => by
    rw [hopmeshref11_Same.l0, if_pos (by omega), if_pos (by omega), if_pos (by omega)]
    have ha : rd x (i : Int) = x[i]'(by omega) := by unfold rd; rw [List.getD_eq_getElem?_getD, Int.toNat_natCast, List.getElem?_eq_getElem (by omega)]; rfl
    have hb : rd y (i : Int) = y[i]'(by omega) := by unfold rd; rw [List.getD_eq_getElem?_getD, Int.toNat_natCast, List.getElem?_eq_getElem (by omega)]; rfl
    by_cases q : rd x (i : Int) = rd y (i : Int)
    · rw [if_pos q, show wrap64 ((i : Int) + 1) = ((i + 1 : Nat) : Int) by unfold wrap64; omega]
      refine sameF_from a b c a' b' c' x y hl hm n (i + 1) (by omega) (fun j hj => ?_)
      rcases Nat.lt_or_ge j i with q' | q'
      · exact he j q'
      · obtain rfl : j = i := by omega
        rw [List.getElem?_eq_getElem (by omega), List.getElem?_eq_getElem (by omega), ← ha, ← hb, q]
    · rw [if_neg q]
      have : x ≠ y := fun e => by subst e; exact q rfl
      simp [this]
theorem sameF_eq (a b c : Int) (x : List Int) (y : S24) (hm : x.length ≤ 9223372036854775807) : hopmeshref11_Same.f (x.length + 2) a b c x y.f0 y.f1 y.f2 y.f3 = some (sameX a b c x y) := by
  have hj : ∀ bb, hopmeshref11_Same.j0 (x.length + 2) bb a b c x y.f0 y.f1 y.f2 y.f3 = if bb = true then some false else hopmeshref11_Same.l0 (x.length + 1) 0 a b c x y.f0 y.f1 y.f2 y.f3 := fun bb => by
    rw [hopmeshref11_Same.j0]
  unfold hopmeshref11_Same.f sameX
  simp only [hj]
  by_cases h0 : a = y.f0
  · rw [if_pos h0]
    by_cases h1 : b = y.f1
    · rw [if_pos h1]
      by_cases h2 : c = y.f2
      · rw [if_pos h2]
        by_cases h3 : x.length = y.f3.length
        · rw [if_neg (by simp [h3]), show (0 : Int) = ((0 : Nat) : Int) from rfl, sameF_from a b c y.f0 y.f1 y.f2 x y.f3 h3 hm x.length 0 (by omega) (fun j hj => absurd hj (Nat.not_lt_zero _))]
          simp [h0, h1, h2]
        · have : x ≠ y.f3 := fun e => h3 (by rw [e])
          rw [if_pos (by simp; omega)]
          simp [this]
      · rw [if_neg h2, if_pos trivial]; simp [h2]
    · rw [if_neg h1, if_pos trivial]; simp [h1]
  · rw [if_neg h0, if_pos trivial]; simp [h0]
set_option maxHeartbeats 2000000 in
theorem same34 (g : Nat) (a b d : Int) (A3 : Option Addr) (c3 : Nat) (cs : List Int) (x : S24) (A : Option Addr) (c : Nat) (W : World) (hg : W.heap[g]? = some (.cells #[.int .i64 a, .int .i64 b, .int .i64 d, .slice A3 cs.length c3] 24 (0, 0))) (hr3 : Kd.C (Kd.int .i64) W A3 cs.length cs) (hc3 : cs.length ≤ c3) (hr : Kd.C (Kd.int .i64) W A x.f3.length x.f3) (hc : x.f3.length ≤ c) :
    Calls Try.prog 34 #[.agg #[.int .i64 x.f0, .int .i64 x.f1, .int .i64 x.f2, .slice A x.f3.length c], .pointer (some ⟨g, 0, none⟩)] W fun e w' => e = .returned (.bool (sameX a b d cs x)) ∧ Below W.heap.size W w' := by
  have HS := Aside0.mk (fun W' (hb : Below W.heap.size W W') => hopmeshref11_Same.calls (cs.length + 2) a b d A3 c3 cs x.f0 x.f1 x.f2 A c x.f3 _ W' (Kd.C_below hr3 hb) hc3 (Kd.C_below hr hb) hc (sameF_eq a b d cs x hr3.2.1))
  generalize sameX a b d cs x = r at HS
  obtain ⟨x0, x1, x2, l⟩ := x
  dsimp only at HS ⊢
  have hu24 := Try.underlying24
  have c0 := (blk_cell hg 0).trans rfl
  have c1 := (blk_cell hg 1).trans rfl
  have c2 := (blk_cell hg 2).trans rfl
  have c3' := (blk_cell hg 3).trans rfl
  have hlt := blk_lt hg
  have hne : ¬ g = W.heap.size := by omega
  have hlt1 : g < W.heap.size + 1 := by omega
  have HB := Aside0.mk ((Below.refl W.heap.size W).alloc (Nat.le_refl _) (.cells #[.int .i64 x0, .int .i64 x1, .int .i64 x2, .slice A l.length c] 24))
  clear hg hr3 hc3 hr hc
  go_enter Try.func34, Try.ntmps34
  go_wp2_with (go_at_call 20; refine (HS.out _ HB.out).mono ?_; rintro e w1 ⟨rfl, hb⟩; have HB1 := Aside0.mk (below_step HB.out hb); clear hb)
  go_ret
  exact ⟨rfl, HB1.out⟩
def slices_ContainsFunc_api_HopList_api_HopList__hopmeshlaw11_HopCovers_1.f (l0 : List S24) (a b d : Int) (cs : List Int) : Option Bool := some (l0.any (sameX a b d cs))
theorem slices_ContainsFunc_api_HopList_api_HopList__hopmeshlaw11_HopCovers_1.calls (A0 : Option Addr) (c0 : Nat) (l0 : List (S24)) (g : Nat) (a b d : Int) (A3 : Option Addr) (c3 : Nat) (cs : List Int) (r : Bool) (w : World) (hr0 : Kd.C k24 w A0 l0.length l0) (_hc0 : l0.length ≤ c0) (hr3 : Kd.C (Kd.int .i64) w A3 cs.length cs) (hc3 : cs.length ≤ c3) (hg : w.heap[g]? = some (.cells #[.int .i64 a, .int .i64 b, .int .i64 d, .slice A3 cs.length c3] 24 (0, 0))) (h : slices_ContainsFunc_api_HopList_api_HopList__hopmeshlaw11_HopCovers_1.f l0 a b d cs = some r) :
    Calls Try.prog 33 #[.slice A0 l0.length c0, .func (.func 34) #[] #[.pointer (some ⟨g, 0, none⟩)]] w fun e w' => e = .returned (.bool r) ∧ Below w.heap.size w w' := by
  obtain rfl := Option.some.inj h
  exact cont33 (sameX a b d cs) 34 #[.pointer (some ⟨g, 0, none⟩)] (enters_of Try.func34 (by kernel_rfl) rfl) A0 c0 l0 w (fun W x A c _ hl hC hb => same34 g a b d A3 c3 cs x A c W (blk_below hg hb) (Kd.C_below hr3 hb) hc3 hC hl) hr0

end Go.Proofs.Ytddcacomphkeiaa.PA
