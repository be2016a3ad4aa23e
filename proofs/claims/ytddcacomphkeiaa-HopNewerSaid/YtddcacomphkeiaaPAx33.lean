-- Written by a program of this session (mkprint.py: the kit's print, changed) for this claim. Not trusted: Lean checks it.
import Derived.Test.YtddcacomphkeiaaPAx0
import Derived.Test.YtddcacomphkeiaaPAx20
namespace Go.Proofs.Ytddcacomphkeiaa.PA
open Go.RowKit Go.Proofs.YtddcacomphkeiaaW.PrintWords Go.Proofs.YtddcacomphkeiaaW.PrintLast Go.Proofs.YtddcacomphkeiaaW.PrintMore
attribute [local go_sem] max2_int min2_int max_two min_two max_three min_three max_four min_four   -- for this text's walks alone
set_option linter.unusedVariables false
set_option linter.unusedSimpArgs false

/-! ### hop_CheckAll__pair: function 27 -/
-- (own)
def hop_CheckAll__pair.f (k : Nat) (a0_0 a0_1 a0_2 : Int) (l0_3 : List Int) (a1_0 a1_1 a1_2 : Int) (l1_3 : List Int) : Option Int := hop_CheckAll.f k [(⟨a0_0, a0_1, a0_2, l0_3⟩ : S24), (⟨a1_0, a1_1, a1_2, l1_3⟩ : S24)]
theorem hop_CheckAll__pair.mono : ∀ a0 a1 a2 a3 a4 a5 a6 a7 k, LeO (hop_CheckAll__pair.f k a0 a1 a2 a3 a4 a5 a6 a7) (hop_CheckAll__pair.f (k + 1) a0 a1 a2 a3 a4 a5 a6 a7) := fun _ _ _ _ _ _ _ _ _ => hop_CheckAll.mono _ _
theorem hop_CheckAll__pair.calls0 (k : Nat) (a0_0 a0_1 a0_2 : Int) (A0_3 : Option Addr) (c0_3 : Nat) (l0_3 : List Int) (a1_0 a1_1 a1_2 : Int) (A1_3 : Option Addr) (c1_3 : Nat) (l1_3 : List Int) (r : Int) (w : World) (hr0 : Kd.C (Kd.int .i64) w A0_3 l0_3.length l0_3) (hc0 : l0_3.length ≤ c0_3) (hr1 : Kd.C (Kd.int .i64) w A1_3 l1_3.length l1_3) (hc1 : l1_3.length ≤ c1_3) (h : hop_CheckAll__pair.f k a0_0 a0_1 a0_2 l0_3 a1_0 a1_1 a1_2 l1_3 = some r) :
    Calls Try.prog 27 #[.slice (some ⟨w.heap.size, 0, none⟩) 2 2] (w.alloc (.cells #[.int .i64 a0_0, .int .i64 a0_1, .int .i64 a0_2, .slice A0_3 l0_3.length c0_3, .int .i64 a1_0, .int .i64 a1_1, .int .i64 a1_2, .slice A1_3 l1_3.length c1_3] 24)) fun e w' => e = .returned (.int .i64 r) ∧ Below w.heap.size w w' := by
  have hb := (Below.refl w.heap.size w).alloc (Nat.le_refl _) (.cells #[.int .i64 a0_0, .int .i64 a0_1, .int .i64 a0_2, .slice A0_3 l0_3.length c0_3, .int .i64 a1_0, .int .i64 a1_1, .int .i64 a1_2, .slice A1_3 l1_3.length c1_3] 24)
  have hB := blk_new w (.cells #[.int .i64 a0_0, .int .i64 a0_1, .int .i64 a0_2, .slice A0_3 l0_3.length c0_3, .int .i64 a1_0, .int .i64 a1_1, .int .i64 a1_2, .slice A1_3 l1_3.length c1_3] 24)
  generalize hW : w.alloc (.cells #[.int .i64 a0_0, .int .i64 a0_1, .int .i64 a0_2, .slice A0_3 l0_3.length c0_3, .int .i64 a1_0, .int .i64 a1_1, .int .i64 a1_2, .slice A1_3 l1_3.length c1_3] 24) = W at hb hB ⊢
  have hK : Kd.C k24 W (some ⟨w.heap.size, 0, none⟩) 2 [(⟨a0_0, a0_1, a0_2, l0_3⟩ : S24), (⟨a1_0, a1_1, a1_2, l1_3⟩ : S24)] := by
    refine ⟨rfl, by omega, fun _ => ⟨_, rfl, fun j p hj => ?_⟩⟩
    match j, hj with
    | 0, hj =>
      obtain rfl := Option.some.inj hj
      refine ⟨_, rfl, k24_mk W ⟨a0_0, a0_1, a0_2, l0_3⟩ hc0 (Kd.C_below hr0 hb), fun i u hu => ?_⟩
      show W.cell? _ = _
      rw [add_plain, show 0 * k24.sz + i = i from by omega, blk_cell hB]
      match i, hu with
      | 0, hu => exact hu
      | 1, hu => exact hu
      | 2, hu => exact hu
      | 3, hu => exact hu
      | i + 4, hu => cases hu
    | 1, hj =>
      obtain rfl := Option.some.inj hj
      refine ⟨_, rfl, k24_mk W ⟨a1_0, a1_1, a1_2, l1_3⟩ hc1 (Kd.C_below hr1 hb), fun i u hu => ?_⟩
      show W.cell? _ = _
      rw [add_plain, show 1 * k24.sz + i = i + 4 from by show 1 * 4 + i = i + 4; omega, blk_cell hB]
      match i, hu with
      | 0, hu => exact hu
      | 1, hu => exact hu
      | 2, hu => exact hu
      | 3, hu => exact hu
      | i + 4, hu => cases hu
    | j + 2, hj => cases hj
  exact (hop_CheckAll.calls k (some ⟨w.heap.size, 0, none⟩) 2 [(⟨a0_0, a0_1, a0_2, l0_3⟩ : S24), (⟨a1_0, a1_1, a1_2, l1_3⟩ : S24)] r W hK (Nat.le_refl _) h).mono fun e w' ⟨h1, h2⟩ => ⟨h1, below_step hb h2⟩
theorem hop_CheckAll__pair.calls (k : Nat) (a0_0 a0_1 a0_2 : Int) (A0_3 : Option Addr) (c0_3 : Nat) (l0_3 : List Int) (a1_0 a1_1 a1_2 : Int) (A1_3 : Option Addr) (c1_3 : Nat) (l1_3 : List Int) (r : Int) (w : World) {B : Nat} (hr0 : Kd.C (Kd.int .i64) w A0_3 l0_3.length l0_3) (hc0 : l0_3.length ≤ c0_3) (hr1 : Kd.C (Kd.int .i64) w A1_3 l1_3.length l1_3) (hc1 : l1_3.length ≤ c1_3) (h : hop_CheckAll__pair.f k a0_0 a0_1 a0_2 l0_3 a1_0 a1_1 a1_2 l1_3 = some r) (hB : B = w.heap.size := by simp) :
    Calls Try.prog 27 #[.slice (some ⟨B, 0, none⟩) 2 2] (w.alloc (.cells #[.int .i64 a0_0, .int .i64 a0_1, .int .i64 a0_2, .slice A0_3 l0_3.length c0_3, .int .i64 a1_0, .int .i64 a1_1, .int .i64 a1_2, .slice A1_3 l1_3.length c1_3] 24)) fun e w' => e = .returned (.int .i64 r) ∧ Below w.heap.size w w' := by
  subst hB
  exact hop_CheckAll__pair.calls0 k a0_0 a0_1 a0_2 A0_3 c0_3 l0_3 a1_0 a1_1 a1_2 A1_3 c1_3 l1_3 r w hr0 hc0 hr1 hc1 h

end Go.Proofs.Ytddcacomphkeiaa.PA
