-- Written by a program of this session (mkprint.py: the kit's print, changed) for this claim. Not trusted: Lean checks it.
import Derived.Test.YtddcacomphkeiaaPAx0
import Derived.Test.YtddcacomphkeiaaPAx9
namespace Go.Proofs.Ytddcacomphkeiaa.PA
open Go.RowKit Go.Proofs.YtddcacomphkeiaaW.PrintWords Go.Proofs.YtddcacomphkeiaaW.PrintLast Go.Proofs.YtddcacomphkeiaaW.PrintMore
attribute [local go_sem] max2_int min2_int max_two min_two max_three min_three max_four min_four   -- for this text's walks alone
set_option linter.unusedVariables false
set_option linter.unusedSimpArgs false

/-! ### hopmeshref11_Without: function 16 -/
mutual
def hopmeshref11_Without.j0 : Nat → List Int → List Int → Int → Bool → Option (List Int × Int)
  | 0, _, _, _, _ => none
  | k + 1, x0, x1, x2, x22 => if x22 = true then (some (([] : List Int), 1)) else (hopmeshref11_Without.l0 k x0 x1 x2 0)
def hopmeshref11_Without.l0 : Nat → List Int → List Int → Int → Int → Option (List Int × Int)
  | 0, _, _, _, _ => none
  | k + 1, x0, x1, x2, x8 => if x8 < (x1.length : Int) then (if 0 ≤ x8 then ((hopmeshref11_channel.f (rd x1 x8)).bind fun t171 => (if t171 = true then (hopmeshref11_Without.l0 k x0 x1 x2 (wrap64 (x8 + 1))) else (some (([] : List Int), 1)))) else (none)) else (if x2 < 1 then (hopmeshref11_Without.j2 k x0 x1 x2 true) else (hopmeshref11_Without.j2 k x0 x1 x2 (decide (x2 > (x0.length : Int)))))
def hopmeshref11_Without.j2 : Nat → List Int → List Int → Int → Bool → Option (List Int × Int)
  | 0, _, _, _, _ => none
  | k + 1, x0, x1, x2, x42 => if x42 = true then (some (([] : List Int), 2)) else (hopmeshref11_Without.l1 k x0 x1 x2 0 (([] : List Int)) 0)
def hopmeshref11_Without.l1 : Nat → List Int → List Int → Int → Int → List Int → Int → Option (List Int × Int)
  | 0, _, _, _, _, _, _ => none
  | k + 1, x0, x1, x2, x9, x10, x11 => if x11 < (x0.length : Int) then (if 0 ≤ x11 then ((hopmeshref11_Has.f k x1 (rd x0 x11)).bind fun t176 => (if t176 = true then (hopmeshref11_Without.l1 k x0 x1 x2 x9 x10 (wrap64 (x11 + 1))) else (hopmeshref11_Without.l1 k x0 x1 x2 (wrap64 (x9 + 1)) x10 (wrap64 (x11 + 1))))) else (none)) else (hopmeshref11_Without.l2 k x0 x1 x2 x9 x10 0)
def hopmeshref11_Without.l2 : Nat → List Int → List Int → Int → Int → List Int → Int → Option (List Int × Int)
  | 0, _, _, _, _, _, _ => none
  | k + 1, x0, x1, x2, x9, x10, x12 => if x12 < (x1.length : Int) then (hopmeshref11_Without.j5 k x0 x1 x2 x9 x10 x12 (decide (x9 < x2))) else (hopmeshref11_Without.j5 k x0 x1 x2 x9 x10 x12 false)
def hopmeshref11_Without.j5 : Nat → List Int → List Int → Int → Int → List Int → Int → Bool → Option (List Int × Int)
  | 0, _, _, _, _, _, _, _ => none
  | k + 1, x0, x1, x2, x9, x10, x12, x67 => if x67 = true then (if 0 ≤ x12 then (if x12 < (x1.length : Int) then ((hopmeshref11_Has.f k x0 (rd x1 x12)).bind fun t178 => (if t178 = true then ((hopmeshref11_Has.f k x10 (rd x1 x12)).bind fun t180 => (if t180 = true then (hopmeshref11_Without.l2 k x0 x1 x2 x9 x10 (wrap64 (x12 + 1))) else (if x10.length < 17592186044416 then (hopmeshref11_Without.l2 k x0 x1 x2 (wrap64 (x9 + 1)) (x10 ++ [rd x1 x12]) (wrap64 (x12 + 1))) else (none)))) else (hopmeshref11_Without.l2 k x0 x1 x2 x9 x10 (wrap64 (x12 + 1))))) else (none)) else (none)) else (hopmeshref11_Without.l3 k x0 x1 x10 (([] : List Int)) 0)
def hopmeshref11_Without.l3 : Nat → List Int → List Int → List Int → List Int → Int → Option (List Int × Int)
  | 0, _, _, _, _, _ => none
  | k + 1, x0, x1, x10, x13, x14 => if x14 < (x0.length : Int) then (if 0 ≤ x14 then ((hopmeshref11_Has.f k x1 (rd x0 x14)).bind fun t189 => (if t189 = true then ((hopmeshref11_Has.f k x10 (rd x0 x14)).bind fun t191 => (if t191 = true then (if x13.length < 17592186044416 then (hopmeshref11_Without.l3 k x0 x1 x10 (x13 ++ [rd x0 x14]) (wrap64 (x14 + 1))) else (none)) else (hopmeshref11_Without.l3 k x0 x1 x10 x13 (wrap64 (x14 + 1))))) else (if x13.length < 17592186044416 then (hopmeshref11_Without.l3 k x0 x1 x10 (x13 ++ [rd x0 x14]) (wrap64 (x14 + 1))) else (none)))) else (none)) else (some (x13, 0))
end
def hopmeshref11_Without.f (k : Nat) (l0 : List Int) (l1 : List Int) (a2 : Int) : Option (List Int × Int) := (hopmeshref11_different.f k l0).bind fun t169 => (if t169 = true then (hopmeshref11_Without.j0 k l0 l1 a2 (decide ((l1.length : Int) > 64))) else (hopmeshref11_Without.j0 k l0 l1 a2 true))
theorem hopmeshref11_Without.mono_l : ∀ k, (∀ y0 y1 y2 y3, LeO (hopmeshref11_Without.j0 k y0 y1 y2 y3) (hopmeshref11_Without.j0 (k + 1) y0 y1 y2 y3)) ∧ (∀ y0 y1 y2 y3, LeO (hopmeshref11_Without.l0 k y0 y1 y2 y3) (hopmeshref11_Without.l0 (k + 1) y0 y1 y2 y3)) ∧ (∀ y0 y1 y2 y3, LeO (hopmeshref11_Without.j2 k y0 y1 y2 y3) (hopmeshref11_Without.j2 (k + 1) y0 y1 y2 y3)) ∧ (∀ y0 y1 y2 y3 y4 y5, LeO (hopmeshref11_Without.l1 k y0 y1 y2 y3 y4 y5) (hopmeshref11_Without.l1 (k + 1) y0 y1 y2 y3 y4 y5)) ∧ (∀ y0 y1 y2 y3 y4 y5, LeO (hopmeshref11_Without.l2 k y0 y1 y2 y3 y4 y5) (hopmeshref11_Without.l2 (k + 1) y0 y1 y2 y3 y4 y5)) ∧ (∀ y0 y1 y2 y3 y4 y5 y6, LeO (hopmeshref11_Without.j5 k y0 y1 y2 y3 y4 y5 y6) (hopmeshref11_Without.j5 (k + 1) y0 y1 y2 y3 y4 y5 y6)) ∧ (∀ y0 y1 y2 y3 y4, LeO (hopmeshref11_Without.l3 k y0 y1 y2 y3 y4) (hopmeshref11_Without.l3 (k + 1) y0 y1 y2 y3 y4))
  | 0 => ⟨fun _ _ _ _ r h => by simp [hopmeshref11_Without.j0] at h, fun _ _ _ _ r h => by simp [hopmeshref11_Without.l0] at h, fun _ _ _ _ r h => by simp [hopmeshref11_Without.j2] at h, fun _ _ _ _ _ _ r h => by simp [hopmeshref11_Without.l1] at h, fun _ _ _ _ _ _ r h => by simp [hopmeshref11_Without.l2] at h, fun _ _ _ _ _ _ _ r h => by simp [hopmeshref11_Without.j5] at h, fun _ _ _ _ _ r h => by simp [hopmeshref11_Without.l3] at h⟩
  | k + 1 => by
    obtain ⟨ih0, ih1, ih2, ih3, ih4, ih5, ih6⟩ := hopmeshref11_Without.mono_l k
    refine ⟨?_, ?_, ?_, ?_, ?_, ?_, ?_⟩
    · intro y0 y1 y2 y3
      unfold hopmeshref11_Without.j0
      repeat' first
      | (with_reducible exact ih0 _ _ _ _)
      | (with_reducible exact ih1 _ _ _ _)
      | (with_reducible exact ih2 _ _ _ _)
      | (with_reducible exact ih3 _ _ _ _ _ _)
      | (with_reducible exact ih4 _ _ _ _ _ _)
      | (with_reducible exact ih5 _ _ _ _ _ _ _)
      | (with_reducible exact ih6 _ _ _ _ _)
      | (with_reducible exact hopmeshref11_Has.mono _ _ _)
      | (with_reducible exact hopmeshref11_different.mono _ _)
      | (with_reducible exact LeO.refl _)
      | (with_reducible exact LeO.none _)
      | (with_reducible refine LeO.ite ?_ ?_)
      | (with_reducible refine LeO.bind ?_ (fun _ => ?_))
      | exact ih0 _ _ _ _
      | exact ih1 _ _ _ _
      | exact ih2 _ _ _ _
      | exact ih3 _ _ _ _ _ _
      | exact ih4 _ _ _ _ _ _
      | exact ih5 _ _ _ _ _ _ _
      | exact ih6 _ _ _ _ _
      | exact hopmeshref11_Has.mono _ _ _
      | exact hopmeshref11_different.mono _ _
      | exact LeO.none _
      | refine LeO.ite ?_ ?_
      | refine LeO.bind ?_ (fun _ => ?_)
    · intro y0 y1 y2 y3
      unfold hopmeshref11_Without.l0
      repeat' first
      | (with_reducible exact ih0 _ _ _ _)
      | (with_reducible exact ih1 _ _ _ _)
      | (with_reducible exact ih2 _ _ _ _)
      | (with_reducible exact ih3 _ _ _ _ _ _)
      | (with_reducible exact ih4 _ _ _ _ _ _)
      | (with_reducible exact ih5 _ _ _ _ _ _ _)
      | (with_reducible exact ih6 _ _ _ _ _)
      | (with_reducible exact hopmeshref11_Has.mono _ _ _)
      | (with_reducible exact hopmeshref11_different.mono _ _)
      | (with_reducible exact LeO.refl _)
      | (with_reducible exact LeO.none _)
      | (with_reducible refine LeO.ite ?_ ?_)
      | (with_reducible refine LeO.bind ?_ (fun _ => ?_))
      | exact ih0 _ _ _ _
      | exact ih1 _ _ _ _
      | exact ih2 _ _ _ _
      | exact ih3 _ _ _ _ _ _
      | exact ih4 _ _ _ _ _ _
      | exact ih5 _ _ _ _ _ _ _
      | exact ih6 _ _ _ _ _
      | exact hopmeshref11_Has.mono _ _ _
      | exact hopmeshref11_different.mono _ _
      | exact LeO.none _
      | refine LeO.ite ?_ ?_
      | refine LeO.bind ?_ (fun _ => ?_)
    · intro y0 y1 y2 y3
      unfold hopmeshref11_Without.j2
      repeat' first
      | (with_reducible exact ih0 _ _ _ _)
      | (with_reducible exact ih1 _ _ _ _)
      | (with_reducible exact ih2 _ _ _ _)
      | (with_reducible exact ih3 _ _ _ _ _ _)
      | (with_reducible exact ih4 _ _ _ _ _ _)
      | (with_reducible exact ih5 _ _ _ _ _ _ _)
      | (with_reducible exact ih6 _ _ _ _ _)
      | (with_reducible exact hopmeshref11_Has.mono _ _ _)
      | (with_reducible exact hopmeshref11_different.mono _ _)
      | (with_reducible exact LeO.refl _)
      | (with_reducible exact LeO.none _)
      | (with_reducible refine LeO.ite ?_ ?_)
      | (with_reducible refine LeO.bind ?_ (fun _ => ?_))
      | exact ih0 _ _ _ _
      | exact ih1 _ _ _ _
      | exact ih2 _ _ _ _
      | exact ih3 _ _ _ _ _ _
      | exact ih4 _ _ _ _ _ _
      | exact ih5 _ _ _ _ _ _ _
      | exact ih6 _ _ _ _ _
      | exact hopmeshref11_Has.mono _ _ _
      | exact hopmeshref11_different.mono _ _
      | exact LeO.none _
      | refine LeO.ite ?_ ?_
      | refine LeO.bind ?_ (fun _ => ?_)
    · intro y0 y1 y2 y3 y4 y5
      unfold hopmeshref11_Without.l1
      repeat' first
      | (with_reducible exact ih0 _ _ _ _)
      | (with_reducible exact ih1 _ _ _ _)
      | (with_reducible exact ih2 _ _ _ _)
      | (with_reducible exact ih3 _ _ _ _ _ _)
      | (with_reducible exact ih4 _ _ _ _ _ _)
      | (with_reducible exact ih5 _ _ _ _ _ _ _)
      | (with_reducible exact ih6 _ _ _ _ _)
      | (with_reducible exact hopmeshref11_Has.mono _ _ _)
      | (with_reducible exact hopmeshref11_different.mono _ _)
      | (with_reducible exact LeO.refl _)
      | (with_reducible exact LeO.none _)
      | (with_reducible refine LeO.ite ?_ ?_)
      | (with_reducible refine LeO.bind ?_ (fun _ => ?_))
      | exact ih0 _ _ _ _
      | exact ih1 _ _ _ _
      | exact ih2 _ _ _ _
      | exact ih3 _ _ _ _ _ _
      | exact ih4 _ _ _ _ _ _
      | exact ih5 _ _ _ _ _ _ _
      | exact ih6 _ _ _ _ _
      | exact hopmeshref11_Has.mono _ _ _
      | exact hopmeshref11_different.mono _ _
      | exact LeO.none _
      | refine LeO.ite ?_ ?_
      | refine LeO.bind ?_ (fun _ => ?_)
    · intro y0 y1 y2 y3 y4 y5
      unfold hopmeshref11_Without.l2
      repeat' first
      | (with_reducible exact ih0 _ _ _ _)
      | (with_reducible exact ih1 _ _ _ _)
      | (with_reducible exact ih2 _ _ _ _)
      | (with_reducible exact ih3 _ _ _ _ _ _)
      | (with_reducible exact ih4 _ _ _ _ _ _)
      | (with_reducible exact ih5 _ _ _ _ _ _ _)
      | (with_reducible exact ih6 _ _ _ _ _)
      | (with_reducible exact hopmeshref11_Has.mono _ _ _)
      | (with_reducible exact hopmeshref11_different.mono _ _)
      | (with_reducible exact LeO.refl _)
      | (with_reducible exact LeO.none _)
      | (with_reducible refine LeO.ite ?_ ?_)
      | (with_reducible refine LeO.bind ?_ (fun _ => ?_))
      | exact ih0 _ _ _ _
      | exact ih1 _ _ _ _
      | exact ih2 _ _ _ _
      | exact ih3 _ _ _ _ _ _
      | exact ih4 _ _ _ _ _ _
      | exact ih5 _ _ _ _ _ _ _
      | exact ih6 _ _ _ _ _
      | exact hopmeshref11_Has.mono _ _ _
      | exact hopmeshref11_different.mono _ _
      | exact LeO.none _
      | refine LeO.ite ?_ ?_
      | refine LeO.bind ?_ (fun _ => ?_)
    · intro y0 y1 y2 y3 y4 y5 y6
      unfold hopmeshref11_Without.j5
      repeat' first
      | (with_reducible exact ih0 _ _ _ _)
      | (with_reducible exact ih1 _ _ _ _)
      | (with_reducible exact ih2 _ _ _ _)
      | (with_reducible exact ih3 _ _ _ _ _ _)
      | (with_reducible exact ih4 _ _ _ _ _ _)
      | (with_reducible exact ih5 _ _ _ _ _ _ _)
      | (with_reducible exact ih6 _ _ _ _ _)
      | (with_reducible exact hopmeshref11_Has.mono _ _ _)
      | (with_reducible exact hopmeshref11_different.mono _ _)
      | (with_reducible exact LeO.refl _)
      | (with_reducible exact LeO.none _)
      | (with_reducible refine LeO.ite ?_ ?_)
      | (with_reducible refine LeO.bind ?_ (fun _ => ?_))
      | exact ih0 _ _ _ _
      | exact ih1 _ _ _ _
      | exact ih2 _ _ _ _
      | exact ih3 _ _ _ _ _ _
      | exact ih4 _ _ _ _ _ _
      | exact ih5 _ _ _ _ _ _ _
      | exact ih6 _ _ _ _ _
      | exact hopmeshref11_Has.mono _ _ _
      | exact hopmeshref11_different.mono _ _
      | exact LeO.none _
      | refine LeO.ite ?_ ?_
      | refine LeO.bind ?_ (fun _ => ?_)
    · intro y0 y1 y2 y3 y4
      unfold hopmeshref11_Without.l3
      repeat' first
      | (with_reducible exact ih0 _ _ _ _)
      | (with_reducible exact ih1 _ _ _ _)
      | (with_reducible exact ih2 _ _ _ _)
      | (with_reducible exact ih3 _ _ _ _ _ _)
      | (with_reducible exact ih4 _ _ _ _ _ _)
      | (with_reducible exact ih5 _ _ _ _ _ _ _)
      | (with_reducible exact ih6 _ _ _ _ _)
      | (with_reducible exact hopmeshref11_Has.mono _ _ _)
      | (with_reducible exact hopmeshref11_different.mono _ _)
      | (with_reducible exact LeO.refl _)
      | (with_reducible exact LeO.none _)
      | (with_reducible refine LeO.ite ?_ ?_)
      | (with_reducible refine LeO.bind ?_ (fun _ => ?_))
      | exact ih0 _ _ _ _
      | exact ih1 _ _ _ _
      | exact ih2 _ _ _ _
      | exact ih3 _ _ _ _ _ _
      | exact ih4 _ _ _ _ _ _
      | exact ih5 _ _ _ _ _ _ _
      | exact ih6 _ _ _ _ _
      | exact hopmeshref11_Has.mono _ _ _
      | exact hopmeshref11_different.mono _ _
      | exact LeO.none _
      | refine LeO.ite ?_ ?_
      | refine LeO.bind ?_ (fun _ => ?_)
theorem hopmeshref11_Without.mono : ∀ a0 a1 a2 k, LeO (hopmeshref11_Without.f k a0 a1 a2) (hopmeshref11_Without.f (k + 1) a0 a1 a2) := by
  intro a0 a1 a2 k
  obtain ⟨ih0, ih1, ih2, ih3, ih4, ih5, ih6⟩ := hopmeshref11_Without.mono_l k
  unfold hopmeshref11_Without.f
  repeat' first
      | (with_reducible exact ih0 _ _ _ _)
      | (with_reducible exact ih1 _ _ _ _)
      | (with_reducible exact ih2 _ _ _ _)
      | (with_reducible exact ih3 _ _ _ _ _ _)
      | (with_reducible exact ih4 _ _ _ _ _ _)
      | (with_reducible exact ih5 _ _ _ _ _ _ _)
      | (with_reducible exact ih6 _ _ _ _ _)
      | (with_reducible exact hopmeshref11_Has.mono _ _ _)
      | (with_reducible exact hopmeshref11_different.mono _ _)
      | (with_reducible exact LeO.refl _)
      | (with_reducible exact LeO.none _)
      | (with_reducible refine LeO.ite ?_ ?_)
      | (with_reducible refine LeO.bind ?_ (fun _ => ?_))
      | exact ih0 _ _ _ _
      | exact ih1 _ _ _ _
      | exact ih2 _ _ _ _
      | exact ih3 _ _ _ _ _ _
      | exact ih4 _ _ _ _ _ _
      | exact ih5 _ _ _ _ _ _ _
      | exact ih6 _ _ _ _ _
      | exact hopmeshref11_Has.mono _ _ _
      | exact hopmeshref11_different.mono _ _
      | exact LeO.none _
      | refine LeO.ite ?_ ?_
      | refine LeO.bind ?_ (fun _ => ?_)
set_option maxHeartbeats 8000000 in
set_option maxRecDepth 100000 in
theorem hopmeshref11_Without.calls (k : Nat) (A0 : Option Addr) (c0 : Nat) (l0 : List Int) (A1 : Option Addr) (c1 : Nat) (l1 : List Int) (a2 : Int) (r1 : List Int) (r2 : Int) (w : World) (hr0 : Kd.C (Kd.int .i64) w A0 l0.length l0) (hc0 : l0.length ≤ c0) (hr1 : Kd.C (Kd.int .i64) w A1 l1.length l1) (hc1 : l1.length ≤ c1) (h : hopmeshref11_Without.f k l0 l1 a2 = some (r1, r2)) :
    Calls Try.prog 16 #[.slice A0 l0.length c0, .slice A1 l1.length c1, .int .i64 a2] w fun e w' => ∃ v0_ : Value, e = .returned (.tuple #[v0_, .int .i64 r2]) ∧ Kd.R (Kd.int .i64) 3 w' w.heap.size (fun _ => True) v0_ r1 ∧ Below w.heap.size w w' := by
  have HR0 := Aside0.mk hr0
  have HC0 := Aside0.mk hc0
  clear hr0 hc0
  have HR1 := Aside0.mk hr1
  have HC1 := Aside0.mk hc1
  clear hr1 hc1
  have HB := Aside0.mk (Below.refl w.heap.size w)
  have H : ((hopmeshref11_different.f k l0).bind fun t169 => (if t169 = true then (hopmeshref11_Without.j0 k l0 l1 a2 (decide ((l1.length : Int) > 64))) else (hopmeshref11_Without.j0 k l0 l1 a2 true))) = some (r1, r2) := h
  clear h
  have HC4 := Aside0.mk H
  clear H
  go_enter Try.func16, Try.ntmps16
  go_upto_region 1 with (fail)
  go_cut [22] (fun v22 wc => ∃ (kq : Nat) (x22_3 : Bool), v22 = .bool x22_3 ∧ Aside0 (hopmeshref11_Without.j0 kq l0 l1 a2 x22_3 = some (r1, r2)) ∧ Aside0 (kq ≤ k) ∧ Aside0 (Below w.heap.size w wc))
  case first =>
    have H := HC4.out
    clear HC4
    replace H := Option.bind_eq_some_iff.mp H
    obtain ⟨t169, A50, H⟩ := H
    replace H : (if t169 = true then (hopmeshref11_Without.j0 k l0 l1 a2 (decide ((l1.length : Int) > 64))) else (hopmeshref11_Without.j0 k l0 l1 a2 true)) = some (r1, r2) := H
    have A5 := Aside0.mk A50
    clear A50
    by_cases c6 : t169 = true
    · subst c6
      have H1 : (hopmeshref11_Without.j0 k l0 l1 a2 (decide ((l1.length : Int) > 64))) = some (r1, r2) := by rw [if_pos rfl] at H; exact H
      clear H
      have H := H1
      clear H1
      have H' := Aside0.mk H
      clear H
      go_wp2_with (first | ((with_reducible refine gate_callee (f := 43) rfl ?_); refine goesL_ (some 16) rfl rfl Try.func43 (by kernel_rfl) rfl #[.slice A0 l0.length c0] rfl (by (try simp only [List.map_toArray, List.map_cons, List.map_nil]); first | done | rfl | (simp only [List.length_drop, List.length_take]; rfl)) ?_; (with_reducible refine (hopmeshref11_different.calls k _ _ l0 true _ ?side1 ?side2 A5.out).mono ?_); (case side1 => repeat (first | exact (Kd.C_below HR0.out HB.out) | (with_reducible refine Kd.C_alloc ?_ _) | (with_reducible refine Kd.C_drewN ?_ _) | (with_reducible refine Kd.C_drew ?_))); (case side2 => exact HC0.out); rintro e w' ⟨rfl, ⟨nd, rfl⟩⟩; refine ⟨_, rfl, ?_⟩))
      go_meet
      case rel => exact ⟨_, (decide ((l1.length : Int) > 64)), (by first | rfl | (simp; done) | (simp [*]; done)), H', ⟨by first | omega | exact Nat.le_refl _⟩, ⟨by repeat (first | (with_reducible first | exact HB.out | apply below_alloc | apply pw_below_drewN | apply below_drew1) | exact HB.out)⟩⟩
    · replace c6 := Bool.eq_false_iff.mpr c6
      subst c6
      have H1 : (hopmeshref11_Without.j0 k l0 l1 a2 true) = some (r1, r2) := by rw [if_neg (show ¬ (false = true) by decide)] at H; exact H
      clear H
      have H := H1
      clear H1
      have H' := Aside0.mk H
      clear H
      go_wp2_with (first | ((with_reducible refine gate_callee (f := 43) rfl ?_); refine goesL_ (some 16) rfl rfl Try.func43 (by kernel_rfl) rfl #[.slice A0 l0.length c0] rfl (by (try simp only [List.map_toArray, List.map_cons, List.map_nil]); first | done | rfl | (simp only [List.length_drop, List.length_take]; rfl)) ?_; (with_reducible refine (hopmeshref11_different.calls k _ _ l0 false _ ?side1 ?side2 A5.out).mono ?_); (case side1 => repeat (first | exact (Kd.C_below HR0.out HB.out) | (with_reducible refine Kd.C_alloc ?_ _) | (with_reducible refine Kd.C_drewN ?_ _) | (with_reducible refine Kd.C_drew ?_))); (case side2 => exact HC0.out); rintro e w' ⟨rfl, ⟨nd, rfl⟩⟩; refine ⟨_, rfl, ?_⟩))
      go_meet
      case rel => exact ⟨_, (true), (by first | rfl | (simp; done) | (simp [*]; done)), H', ⟨by first | omega | exact Nat.le_refl _⟩, ⟨by repeat (first | (with_reducible first | exact HB.out | apply below_alloc | apply pw_below_drewN | apply below_drew1) | exact HB.out)⟩⟩
  case rest =>
    clear HC4
    try clear c1
    try clear p2
    try clear c4
    try clear c6
    obtain ⟨kq, x22_3, rfl, HA, HJ3, HB⟩ := hcut
    cases kq with
    | zero => exact absurd HA.out (by simp [hopmeshref11_Without.j0])
    | succ kj3 =>
      have H := HA.out
      clear HA
      simp only [hopmeshref11_Without.j0] at H
      by_cases c7 : x22_3 = true
      · subst c7
        have H1 : (some (([] : List Int), 1)) = some (r1, r2) := by rw [if_pos rfl] at H; exact H
        clear H
        have H := H1
        clear H1
        simp only [Option.some.injEq, Prod.mk.injEq] at H
        obtain ⟨rfl, rfl⟩ := H
        go_wp2
        go_ret2
        exact ⟨_, by first | rfl | (simp [errW_none, errW_some] <;> rfl) | (simp [*, errW_none, errW_some] <;> rfl), by first | exact Kd.R_nil _ _ _ _ _ | exact Kd.N_nil _ _ _ _ _ | exact Kd.V_nil _ _ _ _ _ | exact Kd.Q_nil _ _ _ _ _ | exact Kd.S_nil _ _ _ _ _, by repeat (first | (with_reducible first | exact HB.out | apply below_alloc | apply pw_below_drewN | apply below_drew1) | exact HB.out)⟩
      · replace c7 := Bool.eq_false_iff.mpr c7
        subst c7
        have H1 : (hopmeshref11_Without.l0 kj3 l0 l1 a2 0) = some (r1, r2) := by rw [if_neg (show ¬ (false = true) by decide)] at H; exact H
        clear H
        have H := H1
        clear H1
        have H' := Aside0.mk H
        clear H
        go_wp2
        go_loopg [8] kj3 (fun kq v8 w' => ∃ (x8_2 : Int), v8 = .int .i64 x8_2 ∧ Aside0 (hopmeshref11_Without.l0 kq l0 l1 a2 x8_2 = some (r1, r2)) ∧ Aside0 (kq ≤ kj3) ∧ Aside0 (Below w.heap.size w w'))
        case atStart => exact ⟨(0), (by first | rfl | (simp; done) | (simp [*]; done)), H', ⟨Nat.le_refl _⟩, ⟨by repeat (first | (with_reducible first | exact HB.out | apply below_alloc | apply pw_below_drewN | apply below_drew1) | exact HB.out)⟩⟩
        case round =>
          clear H'
          try clear c1
          try clear p2
          try clear c4
          try clear c6
          try clear c7
          try clear p2
          obtain ⟨x8_2, rfl, HA, HK2, HB⟩ := hrel
          cases gk with
          | zero => exact absurd HA.out (by simp [hopmeshref11_Without.l0])
          | succ k2 =>
            have H := HA.out
            clear HA
            simp only [hopmeshref11_Without.l0] at H
            by_cases c8 : x8_2 < (l1.length : Int)
            · rw [if_pos c8] at H
              have c8b0 : decide (x8_2 < (l1.length : Int)) = true := decide_eq_true c8
              clear c8
              by_cases c9 : 0 ≤ x8_2
              · rw [if_pos c9] at H
                have c9b0 : decide (0 ≤ x8_2) = true := decide_eq_true c9
                clear c9
                replace H := Option.bind_eq_some_iff.mp H
                obtain ⟨t171, A100, H⟩ := H
                replace H : (if t171 = true then (hopmeshref11_Without.l0 k2 l0 l1 a2 (wrap64 (x8_2 + 1))) else (some (([] : List Int), 1))) = some (r1, r2) := H
                have A10 := Aside0.mk A100
                clear A100
                by_cases c11 : t171 = true
                · subst c11
                  have H1 : (hopmeshref11_Without.l0 k2 l0 l1 a2 (wrap64 (x8_2 + 1))) = some (r1, r2) := by rw [if_pos rfl] at H; exact H
                  clear H
                  have H := H1
                  clear H1
                  have H' := Aside0.mk H
                  clear H
                  have p170 : 0 ≤ (x8_2 : Int) := of_decide_eq_true (by first | (with_reducible assumption) | assumption)
                  have q170 : x8_2 < (l1.length : Int) := of_decide_eq_true (by first | (with_reducible assumption) | assumption)
                  obtain ⟨ad170, e170, hx170_0⟩ := Kd.at_int HR1.out x8_2 p170 q170
                  cases e170
                  replace hx170_0 := (HB.out.cell (World.block_lt_of_cell? w _ hx170_0)).trans hx170_0
                  replace p170 := eq_true p170
                  replace q170 := eq_true q170
                  go_wp2_with (first | ((with_reducible refine gate_callee (f := 44) rfl ?_); refine goesL_ (some 33) rfl rfl Try.func44 (by kernel_rfl) rfl #[.int .i64 (rd l1 x8_2)] rfl (by (try simp only [List.map_toArray, List.map_cons, List.map_nil]); first | done | rfl | (simp only [List.length_drop, List.length_take]; rfl)) ?_; (with_reducible refine (hopmeshref11_channel.calls (rd l1 x8_2) true _ A10.out).mono ?_); rintro e w' ⟨rfl, ⟨nd, rfl⟩⟩; refine ⟨_, rfl, ?_⟩))
                  go_roundg k2
                  case measure => have := HJ3.out; have := HK2.out; omega
                  case rel => exact ⟨(wrap64 (x8_2 + 1)), (by first | rfl | (simp; done) | (simp [*]; done)), H', ⟨by have := HJ3.out; have := HK2.out; omega⟩, ⟨by repeat (first | (with_reducible first | exact HB.out | apply below_alloc | apply pw_below_drewN | apply below_drew1) | exact HB.out)⟩⟩
                · replace c11 := Bool.eq_false_iff.mpr c11
                  subst c11
                  have H1 : (some (([] : List Int), 1)) = some (r1, r2) := by rw [if_neg (show ¬ (false = true) by decide)] at H; exact H
                  clear H
                  have H := H1
                  clear H1
                  simp only [Option.some.injEq, Prod.mk.injEq] at H
                  obtain ⟨rfl, rfl⟩ := H
                  have p170 : 0 ≤ (x8_2 : Int) := of_decide_eq_true (by first | (with_reducible assumption) | assumption)
                  have q170 : x8_2 < (l1.length : Int) := of_decide_eq_true (by first | (with_reducible assumption) | assumption)
                  obtain ⟨ad170, e170, hx170_0⟩ := Kd.at_int HR1.out x8_2 p170 q170
                  cases e170
                  replace hx170_0 := (HB.out.cell (World.block_lt_of_cell? w _ hx170_0)).trans hx170_0
                  replace p170 := eq_true p170
                  replace q170 := eq_true q170
                  go_wp2_with (first | ((with_reducible refine gate_callee (f := 44) rfl ?_); refine goesL_ (some 33) rfl rfl Try.func44 (by kernel_rfl) rfl #[.int .i64 (rd l1 x8_2)] rfl (by (try simp only [List.map_toArray, List.map_cons, List.map_nil]); first | done | rfl | (simp only [List.length_drop, List.length_take]; rfl)) ?_; (with_reducible refine (hopmeshref11_channel.calls (rd l1 x8_2) false _ A10.out).mono ?_); rintro e w' ⟨rfl, ⟨nd, rfl⟩⟩; refine ⟨_, rfl, ?_⟩))
                  go_ret2
                  exact ⟨_, by first | rfl | (simp [errW_none, errW_some] <;> rfl) | (simp [*, errW_none, errW_some] <;> rfl), by first | exact Kd.R_nil _ _ _ _ _ | exact Kd.N_nil _ _ _ _ _ | exact Kd.V_nil _ _ _ _ _ | exact Kd.Q_nil _ _ _ _ _ | exact Kd.S_nil _ _ _ _ _, by repeat (first | (with_reducible first | exact HB.out | apply below_alloc | apply pw_below_drewN | apply below_drew1) | exact HB.out)⟩
              · rw [if_neg c9] at H
                exact absurd H (by simp)
            · rw [if_neg c8] at H
              have c8b0 : decide (x8_2 < (l1.length : Int)) = false := decide_eq_false c8
              clear c8
              have HC12 := Aside0.mk H
              clear H
              go_upto_region 8 with (fail)
              go_cut [42] (fun v42 wc => ∃ (kq : Nat) (x42_11 : Bool), v42 = .bool x42_11 ∧ Aside0 (hopmeshref11_Without.j2 kq l0 l1 a2 x42_11 = some (r1, r2)) ∧ Aside0 (kq ≤ k2) ∧ Aside0 (Below w.heap.size w wc))
              case first =>
                have H := HC12.out
                clear HC12
                by_cases c13 : a2 < 1
                · rw [if_pos c13] at H
                  have c13b0 : decide (a2 < 1) = true := decide_eq_true c13
                  clear c13
                  (first | rw [c13b0] | (simp only [i64_w, i32_w]; rw [c13b0]) | skip)
                  have H' := Aside0.mk H
                  clear H
                  go_wp2
                  go_meet
                  case rel => exact ⟨_, (true), (by first | rfl | (simp; done) | (simp [*]; done)), H', ⟨by have := HJ3.out; have := HK2.out; first | omega | exact Nat.le_refl _⟩, ⟨by repeat (first | (with_reducible first | exact HB.out | apply below_alloc | apply pw_below_drewN | apply below_drew1) | exact HB.out)⟩⟩
                · rw [if_neg c13] at H
                  have c13b0 : decide (a2 < 1) = false := decide_eq_false c13
                  clear c13
                  (first | rw [c13b0] | (simp only [i64_w, i32_w]; rw [c13b0]) | skip)
                  have H' := Aside0.mk H
                  clear H
                  go_wp2
                  go_meet
                  case rel => exact ⟨_, (decide (a2 > (l0.length : Int))), (by first | rfl | (simp; done) | (simp [*]; done)), H', ⟨by have := HJ3.out; have := HK2.out; first | omega | exact Nat.le_refl _⟩, ⟨by repeat (first | (with_reducible first | exact HB.out | apply below_alloc | apply pw_below_drewN | apply below_drew1) | exact HB.out)⟩⟩
              case rest =>
                clear HC12
                try clear c1
                try clear p1
                try clear q1
                try clear hx1
                try clear p2
                try clear c4
                try clear c6
                try clear p6
                try clear c7
                try clear c8
                try clear c8b0
                try clear c9
                try clear c9b0
                try clear c11
                try clear c13
                try clear c13b0
                try clear hx170_0
                try clear p170
                try clear p2
                try clear q170
                obtain ⟨kq, x42_11, rfl, HA, HJ11, HB⟩ := hcut
                cases kq with
                | zero => exact absurd HA.out (by simp [hopmeshref11_Without.j2])
                | succ kj11 =>
                  have H := HA.out
                  clear HA
                  simp only [hopmeshref11_Without.j2] at H
                  by_cases c14 : x42_11 = true
                  · subst c14
                    have H1 : (some (([] : List Int), 2)) = some (r1, r2) := by rw [if_pos rfl] at H; exact H
                    clear H
                    have H := H1
                    clear H1
                    simp only [Option.some.injEq, Prod.mk.injEq] at H
                    obtain ⟨rfl, rfl⟩ := H
                    go_wp2
                    go_ret2
                    exact ⟨_, by first | rfl | (simp [errW_none, errW_some] <;> rfl) | (simp [*, errW_none, errW_some] <;> rfl), by first | exact Kd.R_nil _ _ _ _ _ | exact Kd.N_nil _ _ _ _ _ | exact Kd.V_nil _ _ _ _ _ | exact Kd.Q_nil _ _ _ _ _ | exact Kd.S_nil _ _ _ _ _, by repeat (first | (with_reducible first | exact HB.out | apply below_alloc | apply pw_below_drewN | apply below_drew1) | exact HB.out)⟩
                  · replace c14 := Bool.eq_false_iff.mpr c14
                    subst c14
                    have H1 : (hopmeshref11_Without.l1 kj11 l0 l1 a2 0 (([] : List Int)) 0) = some (r1, r2) := by rw [if_neg (show ¬ (false = true) by decide)] at H; exact H
                    clear H
                    have H := H1
                    clear H1
                    obtain ⟨y172, hy172⟩ : ∃ y_ : List Int, y_ = (([] : List Int)) := ⟨_, rfl⟩
                    replace H : (hopmeshref11_Without.l1 kj11 l0 l1 a2 0 y172 0) = some (r1, r2) := by first | (rw [hy172]; with_reducible exact H) | (have H2_ := (Option.bind_some _ _).symm.trans H; rw [hy172]; with_reducible exact H2_) | (have H2_ := (Option.bind_some _ _).symm.trans H; with_reducible exact H2_) | with_reducible exact H | (rw [hy172]; exact H) | exact H
                    have Ny172 := Aside0.mk hy172
                    clear hy172
                    have H' := Aside0.mk H
                    clear H
                    go_wp2_with (first | ((with_reducible refine gate_dst (N := 43) rfl ?_); (try (refine gate_guard (by rfl) ?_; dsimp only)); refine Kd.R_lit (Kd.int .i64) _ 3 ?hg (N := 43) ?hd (xs := ([] : List Int)) (inner := []) (ok := fun _ => True) (okp := fun _ => True) ?hr ?hp (fun _ hk => hk) trivial (Below.refl _ _) (Nat.le_refl _) (by simp) ?_; (case hd => rfl); (case hg => rfl); (case hr => first | (go_simp; done) | (go_simp; rfl)); (case hp => exact (Reps.none _ _)); intro v173 w15 ho16 hb hg_ hnew_; clear hg_ hnew_; (first | rw [← Ny172.out] at ho16 | (simp only [Int.reduceToNat] at ho16; rw [← Ny172.out] at ho16)); have n0_ := Aside0.mk (Kd.R_lower ho16 (below_size (by repeat (first | (with_reducible first | exact HB.out | apply below_alloc | apply pw_below_drewN | apply below_drew1) | exact HB.out)))); have n1_ := Aside0.mk (below_step (by repeat (first | (with_reducible first | exact HB.out | apply below_alloc | apply pw_below_drewN | apply below_drew1) | exact HB.out)) hb); clear HB; have HO174 := n0_; have HB := n1_; clear n0_ n1_; clear hb ho16))
                    go_loopg [9, 11] kj11 (fun kq v9 v11 w' => ∃ (x9_4 : Int) (x11_4 : Int), v9 = .int .i64 x9_4 ∧ v11 = .int .i64 x11_4 ∧ Aside0 (hopmeshref11_Without.l1 kq l0 l1 a2 x9_4 y172 x11_4 = some (r1, r2)) ∧ Aside0 (kq ≤ kj11) ∧ Aside0 (Kd.R (Kd.int .i64) 3 w' w.heap.size (fun _ => True) v173 y172) ∧ Aside0 (Below w.heap.size w w'))
                    case atStart => exact ⟨(0), (0), (by first | rfl | (simp; done) | (simp [*]; done)), (by first | rfl | (simp; done) | (simp [*]; done)), H', ⟨Nat.le_refl _⟩, ⟨by (with_reducible repeat (first | apply Kd.R_alloc | apply Kd.R_drewN | apply Kd.R_drew)); exact HO174.out⟩, ⟨by repeat (first | (with_reducible first | exact HB.out | apply below_alloc | apply pw_below_drewN | apply below_drew1) | exact HB.out)⟩⟩
                    case round =>
                      clear H'
                      try clear c1
                      try clear p1
                      try clear q1
                      try clear hx1
                      try clear p2
                      try clear c4
                      try clear c6
                      try clear p6
                      try clear c7
                      try clear c8
                      try clear c8b0
                      try clear c9
                      try clear c9b0
                      try clear c11
                      try clear c13
                      try clear c13b0
                      try clear c14
                      try clear c16
                      try clear hx170_0
                      try clear p1
                      try clear p170
                      try clear p2
                      try clear p6
                      try clear q1
                      try clear q170
                      obtain ⟨x9_4, x11_4, rfl, rfl, HA, HK4, HO_10, HB⟩ := hrel
                      cases gk with
                      | zero => exact absurd HA.out (by simp [hopmeshref11_Without.l1])
                      | succ k4 =>
                        have H := HA.out
                        clear HA
                        simp only [hopmeshref11_Without.l1] at H
                        by_cases c17 : x11_4 < (l0.length : Int)
                        · rw [if_pos c17] at H
                          have c17b0 : decide (x11_4 < (l0.length : Int)) = true := decide_eq_true c17
                          clear c17
                          by_cases c18 : 0 ≤ x11_4
                          · rw [if_pos c18] at H
                            have c18b0 : decide (0 ≤ x11_4) = true := decide_eq_true c18
                            clear c18
                            replace H := Option.bind_eq_some_iff.mp H
                            obtain ⟨t176, A190, H⟩ := H
                            replace H : (if t176 = true then (hopmeshref11_Without.l1 k4 l0 l1 a2 x9_4 y172 (wrap64 (x11_4 + 1))) else (hopmeshref11_Without.l1 k4 l0 l1 a2 (wrap64 (x9_4 + 1)) y172 (wrap64 (x11_4 + 1)))) = some (r1, r2) := H
                            have A19 := Aside0.mk A190
                            clear A190
                            by_cases c20 : t176 = true
                            · subst c20
                              have H1 : (hopmeshref11_Without.l1 k4 l0 l1 a2 x9_4 y172 (wrap64 (x11_4 + 1))) = some (r1, r2) := by rw [if_pos rfl] at H; exact H
                              clear H
                              have H := H1
                              clear H1
                              have H' := Aside0.mk H
                              clear H
                              have p175 : 0 ≤ (x11_4 : Int) := of_decide_eq_true (by first | (with_reducible assumption) | assumption)
                              have q175 : x11_4 < (l0.length : Int) := of_decide_eq_true (by first | (with_reducible assumption) | assumption)
                              obtain ⟨ad175, e175, hx175_0⟩ := Kd.at_int HR0.out x11_4 p175 q175
                              cases e175
                              replace hx175_0 := (HB.out.cell (World.block_lt_of_cell? w _ hx175_0)).trans hx175_0
                              replace p175 := eq_true p175
                              replace q175 := eq_true q175
                              go_wp2_with (first | ((with_reducible refine gate_callee (f := 45) rfl ?_); refine goesL_ (some 55) rfl rfl Try.func45 (by kernel_rfl) rfl #[.slice A1 l1.length c1, .int .i64 (rd l0 x11_4)] rfl (by (try simp only [List.map_toArray, List.map_cons, List.map_nil]); first | done | rfl | (simp only [List.length_drop, List.length_take]; rfl)) ?_; (with_reducible refine (hopmeshref11_Has.calls k4 _ _ l1 (rd l0 x11_4) true _ ?side1 ?side2 A19.out).mono ?_); (case side1 => repeat (first | exact (Kd.C_below HR1.out HB.out) | (with_reducible refine Kd.C_alloc ?_ _) | (with_reducible refine Kd.C_drewN ?_ _) | (with_reducible refine Kd.C_drew ?_))); (case side2 => exact HC1.out); rintro e w' ⟨rfl, ⟨nd, rfl⟩⟩; refine ⟨_, rfl, ?_⟩))
                              go_roundg k4
                              case measure => have := HJ3.out; have := HK2.out; have := HJ11.out; have := HK4.out; omega
                              case rel => exact ⟨(x9_4), (wrap64 (x11_4 + 1)), (by first | rfl | (simp; done) | (simp [*]; done)), (by first | rfl | (simp; done) | (simp [*]; done)), H', ⟨by have := HJ3.out; have := HK2.out; have := HJ11.out; have := HK4.out; omega⟩, ⟨by (with_reducible repeat (first | apply Kd.R_alloc | apply Kd.R_drewN | apply Kd.R_drew)); exact HO_10.out⟩, ⟨by repeat (first | (with_reducible first | exact HB.out | apply below_alloc | apply pw_below_drewN | apply below_drew1) | exact HB.out)⟩⟩
                            · replace c20 := Bool.eq_false_iff.mpr c20
                              subst c20
                              have H1 : (hopmeshref11_Without.l1 k4 l0 l1 a2 (wrap64 (x9_4 + 1)) y172 (wrap64 (x11_4 + 1))) = some (r1, r2) := by rw [if_neg (show ¬ (false = true) by decide)] at H; exact H
                              clear H
                              have H := H1
                              clear H1
                              have H' := Aside0.mk H
                              clear H
                              have p175 : 0 ≤ (x11_4 : Int) := of_decide_eq_true (by first | (with_reducible assumption) | assumption)
                              have q175 : x11_4 < (l0.length : Int) := of_decide_eq_true (by first | (with_reducible assumption) | assumption)
                              obtain ⟨ad175, e175, hx175_0⟩ := Kd.at_int HR0.out x11_4 p175 q175
                              cases e175
                              replace hx175_0 := (HB.out.cell (World.block_lt_of_cell? w _ hx175_0)).trans hx175_0
                              replace p175 := eq_true p175
                              replace q175 := eq_true q175
                              go_wp2_with (first | ((with_reducible refine gate_callee (f := 45) rfl ?_); refine goesL_ (some 55) rfl rfl Try.func45 (by kernel_rfl) rfl #[.slice A1 l1.length c1, .int .i64 (rd l0 x11_4)] rfl (by (try simp only [List.map_toArray, List.map_cons, List.map_nil]); first | done | rfl | (simp only [List.length_drop, List.length_take]; rfl)) ?_; (with_reducible refine (hopmeshref11_Has.calls k4 _ _ l1 (rd l0 x11_4) false _ ?side1 ?side2 A19.out).mono ?_); (case side1 => repeat (first | exact (Kd.C_below HR1.out HB.out) | (with_reducible refine Kd.C_alloc ?_ _) | (with_reducible refine Kd.C_drewN ?_ _) | (with_reducible refine Kd.C_drew ?_))); (case side2 => exact HC1.out); rintro e w' ⟨rfl, ⟨nd, rfl⟩⟩; refine ⟨_, rfl, ?_⟩))
                              go_roundg k4
                              case measure => have := HJ3.out; have := HK2.out; have := HJ11.out; have := HK4.out; omega
                              case rel => exact ⟨(wrap64 (x9_4 + 1)), (wrap64 (x11_4 + 1)), (by first | rfl | (simp; done) | (simp [*]; done)), (by first | rfl | (simp; done) | (simp [*]; done)), H', ⟨by have := HJ3.out; have := HK2.out; have := HJ11.out; have := HK4.out; omega⟩, ⟨by (with_reducible repeat (first | apply Kd.R_alloc | apply Kd.R_drewN | apply Kd.R_drew)); exact HO_10.out⟩, ⟨by repeat (first | (with_reducible first | exact HB.out | apply below_alloc | apply pw_below_drewN | apply below_drew1) | exact HB.out)⟩⟩
                          · rw [if_neg c18] at H
                            exact absurd H (by simp)
                        · rw [if_neg c17] at H
                          have c17b0 : decide (x11_4 < (l0.length : Int)) = false := decide_eq_false c17
                          clear c17
                          have H' := Aside0.mk H
                          clear H
                          go_wp2
                          go_loopg [9, 10, 12] k4 (fun kq v9 v10 v12 w' => ∃ (x9_5 : Int) (x10_5 : List Int) (x12_5 : Int), v9 = .int .i64 x9_5 ∧ v12 = .int .i64 x12_5 ∧ Aside0 (hopmeshref11_Without.l2 kq l0 l1 a2 x9_5 x10_5 x12_5 = some (r1, r2)) ∧ Aside0 (kq ≤ k4) ∧ Aside0 (Kd.R (Kd.int .i64) 3 w' w.heap.size (fun _ => True) v10 x10_5) ∧ Aside0 (Below w.heap.size w w'))
                          case atStart => exact ⟨(x9_4), (y172), (0), (by first | rfl | (simp; done) | (simp [*]; done)), (by first | rfl | (simp; done) | (simp [*]; done)), H', ⟨Nat.le_refl _⟩, ⟨by (with_reducible repeat (first | apply Kd.R_alloc | apply Kd.R_drewN | apply Kd.R_drew)); exact HO_10.out⟩, ⟨by repeat (first | (with_reducible first | exact HB.out | apply below_alloc | apply pw_below_drewN | apply below_drew1) | exact HB.out)⟩⟩
                          case round =>
                            clear H'
                            try clear c1
                            try clear p1
                            try clear q1
                            try clear hx1
                            try clear c2
                            try clear p2
                            try clear c4
                            try clear c6
                            try clear p6
                            try clear c7
                            try clear c8
                            try clear c8b0
                            try clear c9
                            try clear c9b0
                            try clear c11
                            try clear c13
                            try clear c13b0
                            try clear c14
                            try clear c16
                            try clear c17
                            try clear c17b0
                            try clear p17
                            try clear q17
                            try clear hx17
                            try clear c18
                            try clear c18b0
                            try clear c20
                            try clear hx170_0
                            try clear hx175_0
                            try clear p1
                            try clear p170
                            try clear p175
                            try clear p2
                            try clear p6
                            try clear q1
                            try clear q170
                            try clear q175
                            obtain ⟨x9_5, x10_5, x12_5, rfl, rfl, HA, HK5, HO_10, HB⟩ := hrel
                            cases gk with
                            | zero => exact absurd HA.out (by simp [hopmeshref11_Without.l2])
                            | succ k5 =>
                              have H := HA.out
                              clear HA
                              simp only [hopmeshref11_Without.l2] at H
                              have HC21 := Aside0.mk H
                              clear H
                              go_upto_region 18 with (fail)
                              go_cut [67] (fun v67 wc => ∃ (kq : Nat) (x67_20 : Bool), v67 = .bool x67_20 ∧ Aside0 (hopmeshref11_Without.j5 kq l0 l1 a2 x9_5 x10_5 x12_5 x67_20 = some (r1, r2)) ∧ Aside0 (kq ≤ k5) ∧ Aside0 (Kd.R (Kd.int .i64) 3 wc w.heap.size (fun _ => True) u10 x10_5) ∧ Aside0 (Below w.heap.size w wc))
                              case first =>
                                have H := HC21.out
                                clear HC21
                                by_cases c22 : x12_5 < (l1.length : Int)
                                · rw [if_pos c22] at H
                                  have c22b0 : decide (x12_5 < (l1.length : Int)) = true := decide_eq_true c22
                                  clear c22
                                  (first | rw [c22b0] | (simp only [i64_w, i32_w]; rw [c22b0]) | skip)
                                  have H' := Aside0.mk H
                                  clear H
                                  go_wp2
                                  go_meet
                                  case rel => exact ⟨_, (decide (x9_5 < a2)), (by first | rfl | (simp; done) | (simp [*]; done)), H', ⟨by have := HJ3.out; have := HK2.out; have := HJ11.out; have := HK4.out; have := HK5.out; first | omega | exact Nat.le_refl _⟩, ⟨by (with_reducible repeat (first | apply Kd.R_alloc | apply Kd.R_drewN | apply Kd.R_drew)); exact HO_10.out⟩, ⟨by repeat (first | (with_reducible first | exact HB.out | apply below_alloc | apply pw_below_drewN | apply below_drew1) | exact HB.out)⟩⟩
                                · rw [if_neg c22] at H
                                  have c22b0 : decide (x12_5 < (l1.length : Int)) = false := decide_eq_false c22
                                  clear c22
                                  (first | rw [c22b0] | (simp only [i64_w, i32_w]; rw [c22b0]) | skip)
                                  have H' := Aside0.mk H
                                  clear H
                                  go_wp2
                                  go_meet
                                  case rel => exact ⟨_, (false), (by first | rfl | (simp; done) | (simp [*]; done)), H', ⟨by have := HJ3.out; have := HK2.out; have := HJ11.out; have := HK4.out; have := HK5.out; first | omega | exact Nat.le_refl _⟩, ⟨by (with_reducible repeat (first | apply Kd.R_alloc | apply Kd.R_drewN | apply Kd.R_drew)); exact HO_10.out⟩, ⟨by repeat (first | (with_reducible first | exact HB.out | apply below_alloc | apply pw_below_drewN | apply below_drew1) | exact HB.out)⟩⟩
                              case rest =>
                                clear HC21
                                try clear c1
                                try clear p1
                                try clear q1
                                try clear hx1
                                try clear c2
                                try clear p2
                                try clear c4
                                try clear c6
                                try clear p6
                                try clear c7
                                try clear c8
                                try clear c8b0
                                try clear c9
                                try clear c9b0
                                try clear c11
                                try clear c13
                                try clear c13b0
                                try clear c14
                                try clear c16
                                try clear c17
                                try clear c17b0
                                try clear p17
                                try clear q17
                                try clear hx17
                                try clear c18
                                try clear c18b0
                                try clear c20
                                try clear c22
                                try clear c22b0
                                try clear hx170_0
                                try clear hx175_0
                                try clear p1
                                try clear p17
                                try clear p170
                                try clear p175
                                try clear p2
                                try clear p6
                                try clear q1
                                try clear q17
                                try clear q170
                                try clear q175
                                obtain ⟨kq, x67_20, rfl, HA, HJ20, HO_10, HB⟩ := hcut
                                cases kq with
                                | zero => exact absurd HA.out (by simp [hopmeshref11_Without.j5])
                                | succ kj20 =>
                                  have H := HA.out
                                  clear HA
                                  simp only [hopmeshref11_Without.j5] at H
                                  by_cases c23 : x67_20 = true
                                  · subst c23
                                    have H1 : (if 0 ≤ x12_5 then (if x12_5 < (l1.length : Int) then ((hopmeshref11_Has.f kj20 l0 (rd l1 x12_5)).bind fun t178 => (if t178 = true then ((hopmeshref11_Has.f kj20 x10_5 (rd l1 x12_5)).bind fun t180 => (if t180 = true then (hopmeshref11_Without.l2 kj20 l0 l1 a2 x9_5 x10_5 (wrap64 (x12_5 + 1))) else (if x10_5.length < 17592186044416 then (hopmeshref11_Without.l2 kj20 l0 l1 a2 (wrap64 (x9_5 + 1)) (x10_5 ++ [rd l1 x12_5]) (wrap64 (x12_5 + 1))) else (none)))) else (hopmeshref11_Without.l2 kj20 l0 l1 a2 x9_5 x10_5 (wrap64 (x12_5 + 1))))) else (none)) else (none)) = some (r1, r2) := by rw [if_pos rfl] at H; exact H
                                    clear H
                                    have H := H1
                                    clear H1
                                    by_cases c24 : 0 ≤ x12_5
                                    · rw [if_pos c24] at H
                                      have c24b0 : decide (0 ≤ x12_5) = true := decide_eq_true c24
                                      clear c24
                                      by_cases c25 : x12_5 < (l1.length : Int)
                                      · rw [if_pos c25] at H
                                        have c25b0 : decide (x12_5 < (l1.length : Int)) = true := decide_eq_true c25
                                        clear c25
                                        replace H := Option.bind_eq_some_iff.mp H
                                        obtain ⟨t178, A260, H⟩ := H
                                        replace H : (if t178 = true then ((hopmeshref11_Has.f kj20 x10_5 (rd l1 x12_5)).bind fun t180 => (if t180 = true then (hopmeshref11_Without.l2 kj20 l0 l1 a2 x9_5 x10_5 (wrap64 (x12_5 + 1))) else (if x10_5.length < 17592186044416 then (hopmeshref11_Without.l2 kj20 l0 l1 a2 (wrap64 (x9_5 + 1)) (x10_5 ++ [rd l1 x12_5]) (wrap64 (x12_5 + 1))) else (none)))) else (hopmeshref11_Without.l2 kj20 l0 l1 a2 x9_5 x10_5 (wrap64 (x12_5 + 1)))) = some (r1, r2) := H
                                        have A26 := Aside0.mk A260
                                        clear A260
                                        by_cases c27 : t178 = true
                                        · subst c27
                                          have H1 : ((hopmeshref11_Has.f kj20 x10_5 (rd l1 x12_5)).bind fun t180 => (if t180 = true then (hopmeshref11_Without.l2 kj20 l0 l1 a2 x9_5 x10_5 (wrap64 (x12_5 + 1))) else (if x10_5.length < 17592186044416 then (hopmeshref11_Without.l2 kj20 l0 l1 a2 (wrap64 (x9_5 + 1)) (x10_5 ++ [rd l1 x12_5]) (wrap64 (x12_5 + 1))) else (none)))) = some (r1, r2) := by rw [if_pos rfl] at H; exact H
                                          clear H
                                          have H := H1
                                          clear H1
                                          replace H := Option.bind_eq_some_iff.mp H
                                          obtain ⟨t180, A280, H⟩ := H
                                          replace H : (if t180 = true then (hopmeshref11_Without.l2 kj20 l0 l1 a2 x9_5 x10_5 (wrap64 (x12_5 + 1))) else (if x10_5.length < 17592186044416 then (hopmeshref11_Without.l2 kj20 l0 l1 a2 (wrap64 (x9_5 + 1)) (x10_5 ++ [rd l1 x12_5]) (wrap64 (x12_5 + 1))) else (none))) = some (r1, r2) := H
                                          have A28 := Aside0.mk A280
                                          clear A280
                                          by_cases c29 : t180 = true
                                          · subst c29
                                            have H1 : (hopmeshref11_Without.l2 kj20 l0 l1 a2 x9_5 x10_5 (wrap64 (x12_5 + 1))) = some (r1, r2) := by rw [if_pos rfl] at H; exact H
                                            clear H
                                            have H := H1
                                            clear H1
                                            have H' := Aside0.mk H
                                            clear H
                                            have p177 : 0 ≤ (x12_5 : Int) := of_decide_eq_true (by first | (with_reducible assumption) | assumption)
                                            have q177 : x12_5 < (l1.length : Int) := of_decide_eq_true (by first | (with_reducible assumption) | assumption)
                                            obtain ⟨ad177, e177, hx177_0⟩ := Kd.at_int HR1.out x12_5 p177 q177
                                            cases e177
                                            replace hx177_0 := (HB.out.cell (World.block_lt_of_cell? w _ hx177_0)).trans hx177_0
                                            replace p177 := eq_true p177
                                            replace q177 := eq_true q177
                                            go_wp2_with (first | ((with_reducible refine gate_callee (f := 45) rfl ?_); refine goesL_ (some 75) rfl rfl Try.func45 (by kernel_rfl) rfl #[.slice A0 l0.length c0, .int .i64 (rd l1 x12_5)] rfl (by (try simp only [List.map_toArray, List.map_cons, List.map_nil]); first | done | rfl | (simp only [List.length_drop, List.length_take]; rfl)) ?_; (with_reducible refine (hopmeshref11_Has.calls kj20 _ _ l0 (rd l1 x12_5) true _ ?side1 ?side2 A26.out).mono ?_); (case side1 => repeat (first | exact (Kd.C_below HR0.out HB.out) | (with_reducible refine Kd.C_alloc ?_ _) | (with_reducible refine Kd.C_drewN ?_ _) | (with_reducible refine Kd.C_drew ?_))); (case side2 => exact HC0.out); rintro e w' ⟨rfl, ⟨nd, rfl⟩⟩; refine ⟨_, rfl, ?_⟩; have p179 : 0 ≤ (x12_5 : Int) := of_decide_eq_true (by first | (with_reducible assumption) | assumption); have q179 : x12_5 < (l1.length : Int) := of_decide_eq_true (by first | (with_reducible assumption) | assumption); obtain ⟨ad179, e179, hx179_0⟩ := Kd.at_int HR1.out x12_5 p179 q179; obtain rfl : ad177 = ad179 := (by injection e179); replace hx179_0 := (HB.out.cell (World.block_lt_of_cell? w _ hx179_0)).trans hx179_0; replace p179 := eq_true p179; replace q179 := eq_true q179; obtain ⟨Ao30, co30, eo30⟩ := Kd.R_slice HO_10.out; subst eo30) | (go_at_call 45; (with_reducible refine (hopmeshref11_Has.calls kj20 _ _ x10_5 (rd l1 x12_5) true _ ?side1 ?side2 A28.out).mono ?_); (case side1 => repeat (first | exact (Kd.R_reads' HO_10.out).2.2 | (with_reducible refine Kd.C_alloc ?_ _) | (with_reducible refine Kd.C_drewN ?_ _) | (with_reducible refine Kd.C_drew ?_))); (case side2 => exact (Kd.R_reads' HO_10.out).2.1); rintro e w' ⟨rfl, ⟨nd, rfl⟩⟩))
                                            go_roundg kj20
                                            case measure => have := HJ3.out; have := HK2.out; have := HJ11.out; have := HK4.out; have := HK5.out; have := HJ20.out; omega
                                            case rel => exact ⟨(x9_5), (x10_5), (wrap64 (x12_5 + 1)), (by first | rfl | (simp; done) | (simp [*]; done)), (by first | rfl | (simp; done) | (simp [*]; done)), H', ⟨by have := HJ3.out; have := HK2.out; have := HJ11.out; have := HK4.out; have := HK5.out; have := HJ20.out; omega⟩, ⟨by (with_reducible repeat (first | apply Kd.R_alloc | apply Kd.R_drewN | apply Kd.R_drew)); exact HO_10.out⟩, ⟨by repeat (first | (with_reducible first | exact HB.out | apply below_alloc | apply pw_below_drewN | apply below_drew1) | exact HB.out)⟩⟩
                                          · replace c29 := Bool.eq_false_iff.mpr c29
                                            subst c29
                                            have H1 : (if x10_5.length < 17592186044416 then (hopmeshref11_Without.l2 kj20 l0 l1 a2 (wrap64 (x9_5 + 1)) (x10_5 ++ [rd l1 x12_5]) (wrap64 (x12_5 + 1))) else (none)) = some (r1, r2) := by rw [if_neg (show ¬ (false = true) by decide)] at H; exact H
                                            clear H
                                            have H := H1
                                            clear H1
                                            by_cases c31 : x10_5.length < 17592186044416
                                            · rw [if_pos c31] at H
                                              have LMc31 := Aside0.mk c31
                                              clear c31
                                              obtain ⟨y182, hy182⟩ : ∃ y_ : List Int, y_ = (x10_5 ++ [rd l1 x12_5]) := ⟨_, rfl⟩
                                              replace H : (hopmeshref11_Without.l2 kj20 l0 l1 a2 (wrap64 (x9_5 + 1)) y182 (wrap64 (x12_5 + 1))) = some (r1, r2) := by first | (rw [hy182]; with_reducible exact H) | (have H2_ := (Option.bind_some _ _).symm.trans H; rw [hy182]; with_reducible exact H2_) | (have H2_ := (Option.bind_some _ _).symm.trans H; with_reducible exact H2_) | with_reducible exact H | (rw [hy182]; exact H) | exact H
                                              have Ny182 := Aside0.mk hy182
                                              clear hy182
                                              have H' := Aside0.mk H
                                              clear H
                                              have p177 : 0 ≤ (x12_5 : Int) := of_decide_eq_true (by first | (with_reducible assumption) | assumption)
                                              have q177 : x12_5 < (l1.length : Int) := of_decide_eq_true (by first | (with_reducible assumption) | assumption)
                                              obtain ⟨ad177, e177, hx177_0⟩ := Kd.at_int HR1.out x12_5 p177 q177
                                              cases e177
                                              replace hx177_0 := (HB.out.cell (World.block_lt_of_cell? w _ hx177_0)).trans hx177_0
                                              replace p177 := eq_true p177
                                              replace q177 := eq_true q177
                                              go_wp2_with (first | ((with_reducible refine gate_callee (f := 45) rfl ?_); refine goesL_ (some 75) rfl rfl Try.func45 (by kernel_rfl) rfl #[.slice A0 l0.length c0, .int .i64 (rd l1 x12_5)] rfl (by (try simp only [List.map_toArray, List.map_cons, List.map_nil]); first | done | rfl | (simp only [List.length_drop, List.length_take]; rfl)) ?_; (with_reducible refine (hopmeshref11_Has.calls kj20 _ _ l0 (rd l1 x12_5) true _ ?side1 ?side2 A26.out).mono ?_); (case side1 => repeat (first | exact (Kd.C_below HR0.out HB.out) | (with_reducible refine Kd.C_alloc ?_ _) | (with_reducible refine Kd.C_drewN ?_ _) | (with_reducible refine Kd.C_drew ?_))); (case side2 => exact HC0.out); rintro e w' ⟨rfl, ⟨nd, rfl⟩⟩; refine ⟨_, rfl, ?_⟩; have p179 : 0 ≤ (x12_5 : Int) := of_decide_eq_true (by first | (with_reducible assumption) | assumption); have q179 : x12_5 < (l1.length : Int) := of_decide_eq_true (by first | (with_reducible assumption) | assumption); obtain ⟨ad179, e179, hx179_0⟩ := Kd.at_int HR1.out x12_5 p179 q179; obtain rfl : ad177 = ad179 := (by injection e179); replace hx179_0 := (HB.out.cell (World.block_lt_of_cell? w _ hx179_0)).trans hx179_0; replace p179 := eq_true p179; replace q179 := eq_true q179; obtain ⟨Ao32, co32, eo32⟩ := Kd.R_slice HO_10.out; subst eo32) | (go_at_call 45; (with_reducible refine (hopmeshref11_Has.calls kj20 _ _ x10_5 (rd l1 x12_5) false _ ?side1 ?side2 A28.out).mono ?_); (case side1 => repeat (first | exact (Kd.R_reads' HO_10.out).2.2 | (with_reducible refine Kd.C_alloc ?_ _) | (with_reducible refine Kd.C_drewN ?_ _) | (with_reducible refine Kd.C_drew ?_))); (case side2 => exact (Kd.R_reads' HO_10.out).2.1); rintro e w' ⟨rfl, ⟨nd, rfl⟩⟩; have p181 : 0 ≤ (x12_5 : Int) := of_decide_eq_true (by first | (with_reducible assumption) | assumption); have q181 : x12_5 < (l1.length : Int) := of_decide_eq_true (by first | (with_reducible assumption) | assumption); obtain ⟨ad181, e181, hx181_0⟩ := Kd.at_int HR1.out x12_5 p181 q181; obtain rfl : ad177 = ad181 := (by injection e181); replace hx181_0 := (HB.out.cell (World.block_lt_of_cell? w _ hx181_0)).trans hx181_0; replace p181 := eq_true p181; replace q181 := eq_true q181) | ((with_reducible refine gate_builtin (b := .append) (xs := #[.tmp 85, .tmp 90]) rfl ?_); (try (refine gate_guard (by rfl) ?_; dsimp only)); at_builtin; refine Kd.R_append (Kd.int .i64) (w0 := w) w.heap.size rfl (.tmp 85) (.tmp 90) 22 3 (.int .i64 0) 8 rfl Try.underlying22 info3 rfl (by decide) (by omega) (.slice Ao32 x10_5.length co32) x10_5 (rd l1 x12_5) [.int .i64 (rd l1 x12_5)] (fun _ => True) (fun _ => False) rfl rfl ?aP (fun _ hk => hk.elim) ?aF ?aO ?aB ?aS ?aL ?_; (case aP => exact rfl); (case aB => exact (by repeat (first | (with_reducible first | exact HB.out | apply below_alloc | apply pw_below_drewN | apply below_drew1) | exact HB.out))); (case aF => exact (fun _ _ => trivial)); (case aO => exact (by (with_reducible repeat (first | apply Kd.R_alloc | apply Kd.R_drewN | apply Kd.R_drew)); exact HO_10.out)); (case aS => exact (below_size (by repeat (first | (with_reducible first | exact HB.out | apply below_alloc | apply pw_below_drewN | apply below_drew1) | exact HB.out)))); (case aL => have := LMc31.out; omega); intro v183 w33 ho hb hg hat; rw [← Ny182.out] at ho; have n0_ := Aside0.mk (hb); have n1_ := Aside0.mk (ho); clear HB; clear HO_10; have HB := n0_; have HO184 := n1_; clear n0_ n1_; clear ho hb hg hat))
                                              go_roundg kj20
                                              case measure => have := HJ3.out; have := HK2.out; have := HJ11.out; have := HK4.out; have := HK5.out; have := HJ20.out; omega
                                              case rel => exact ⟨(wrap64 (x9_5 + 1)), (y182), (wrap64 (x12_5 + 1)), (by first | rfl | (simp; done) | (simp [*]; done)), (by first | rfl | (simp; done) | (simp [*]; done)), H', ⟨by have := HJ3.out; have := HK2.out; have := HJ11.out; have := HK4.out; have := HK5.out; have := HJ20.out; omega⟩, ⟨by (with_reducible repeat (first | apply Kd.R_alloc | apply Kd.R_drewN | apply Kd.R_drew)); exact HO184.out⟩, ⟨by repeat (first | (with_reducible first | exact HB.out | apply below_alloc | apply pw_below_drewN | apply below_drew1) | exact HB.out)⟩⟩
                                            · rw [if_neg c31] at H
                                              exact absurd H (by simp)
                                        · replace c27 := Bool.eq_false_iff.mpr c27
                                          subst c27
                                          have H1 : (hopmeshref11_Without.l2 kj20 l0 l1 a2 x9_5 x10_5 (wrap64 (x12_5 + 1))) = some (r1, r2) := by rw [if_neg (show ¬ (false = true) by decide)] at H; exact H
                                          clear H
                                          have H := H1
                                          clear H1
                                          have H' := Aside0.mk H
                                          clear H
                                          have p177 : 0 ≤ (x12_5 : Int) := of_decide_eq_true (by first | (with_reducible assumption) | assumption)
                                          have q177 : x12_5 < (l1.length : Int) := of_decide_eq_true (by first | (with_reducible assumption) | assumption)
                                          obtain ⟨ad177, e177, hx177_0⟩ := Kd.at_int HR1.out x12_5 p177 q177
                                          cases e177
                                          replace hx177_0 := (HB.out.cell (World.block_lt_of_cell? w _ hx177_0)).trans hx177_0
                                          replace p177 := eq_true p177
                                          replace q177 := eq_true q177
                                          go_wp2_with (first | ((with_reducible refine gate_callee (f := 45) rfl ?_); refine goesL_ (some 75) rfl rfl Try.func45 (by kernel_rfl) rfl #[.slice A0 l0.length c0, .int .i64 (rd l1 x12_5)] rfl (by (try simp only [List.map_toArray, List.map_cons, List.map_nil]); first | done | rfl | (simp only [List.length_drop, List.length_take]; rfl)) ?_; (with_reducible refine (hopmeshref11_Has.calls kj20 _ _ l0 (rd l1 x12_5) false _ ?side1 ?side2 A26.out).mono ?_); (case side1 => repeat (first | exact (Kd.C_below HR0.out HB.out) | (with_reducible refine Kd.C_alloc ?_ _) | (with_reducible refine Kd.C_drewN ?_ _) | (with_reducible refine Kd.C_drew ?_))); (case side2 => exact HC0.out); rintro e w' ⟨rfl, ⟨nd, rfl⟩⟩; refine ⟨_, rfl, ?_⟩))
                                          go_roundg kj20
                                          case measure => have := HJ3.out; have := HK2.out; have := HJ11.out; have := HK4.out; have := HK5.out; have := HJ20.out; omega
                                          case rel => exact ⟨(x9_5), (x10_5), (wrap64 (x12_5 + 1)), (by first | rfl | (simp; done) | (simp [*]; done)), (by first | rfl | (simp; done) | (simp [*]; done)), H', ⟨by have := HJ3.out; have := HK2.out; have := HJ11.out; have := HK4.out; have := HK5.out; have := HJ20.out; omega⟩, ⟨by (with_reducible repeat (first | apply Kd.R_alloc | apply Kd.R_drewN | apply Kd.R_drew)); exact HO_10.out⟩, ⟨by repeat (first | (with_reducible first | exact HB.out | apply below_alloc | apply pw_below_drewN | apply below_drew1) | exact HB.out)⟩⟩
                                      · rw [if_neg c25] at H
                                        exact absurd H (by simp)
                                    · rw [if_neg c24] at H
                                      exact absurd H (by simp)
                                  · replace c23 := Bool.eq_false_iff.mpr c23
                                    subst c23
                                    have H1 : (hopmeshref11_Without.l3 kj20 l0 l1 x10_5 (([] : List Int)) 0) = some (r1, r2) := by rw [if_neg (show ¬ (false = true) by decide)] at H; exact H
                                    clear H
                                    have H := H1
                                    clear H1
                                    obtain ⟨y185, hy185⟩ : ∃ y_ : List Int, y_ = (([] : List Int)) := ⟨_, rfl⟩
                                    replace H : (hopmeshref11_Without.l3 kj20 l0 l1 x10_5 y185 0) = some (r1, r2) := by first | (rw [hy185]; with_reducible exact H) | (have H2_ := (Option.bind_some _ _).symm.trans H; rw [hy185]; with_reducible exact H2_) | (have H2_ := (Option.bind_some _ _).symm.trans H; with_reducible exact H2_) | with_reducible exact H | (rw [hy185]; exact H) | exact H
                                    have Ny185 := Aside0.mk hy185
                                    clear hy185
                                    have H' := Aside0.mk H
                                    clear H
                                    go_wp2_with (first | ((with_reducible refine gate_dst (N := 94) rfl ?_); (try (refine gate_guard (by rfl) ?_; dsimp only)); refine Kd.R_lit (Kd.int .i64) _ 3 ?hg (N := 94) ?hd (xs := ([] : List Int)) (inner := []) (ok := fun _ => True) (okp := fun _ => True) ?hr ?hp (fun _ hk => hk) trivial (Below.refl _ _) (Nat.le_refl _) (by simp) ?_; (case hd => rfl); (case hg => rfl); (case hr => first | (go_simp; done) | (go_simp; rfl)); (case hp => exact (Reps.none _ _)); intro v186 w34 ho35 hb hg_ hnew_; clear hg_ hnew_; (first | rw [← Ny185.out] at ho35 | (simp only [Int.reduceToNat] at ho35; rw [← Ny185.out] at ho35)); have n0_ := Aside0.mk (Kd.R_elder' (by (with_reducible repeat (first | apply Kd.R_alloc | apply Kd.R_drewN | apply Kd.R_drew)); exact HO_10.out) (Kd.R_base ho35) hb); have n1_ := Aside0.mk (Kd.R_lower (Kd.R_new' ho35 (Kd.R_lt (by (with_reducible repeat (first | apply Kd.R_alloc | apply Kd.R_drewN | apply Kd.R_drew)); exact HO_10.out))) (below_size (by repeat (first | (with_reducible first | exact HB.out | apply below_alloc | apply pw_below_drewN | apply below_drew1) | exact HB.out)))); have n2_ := Aside0.mk (below_step (by repeat (first | (with_reducible first | exact HB.out | apply below_alloc | apply pw_below_drewN | apply below_drew1) | exact HB.out)) hb); clear HO_10; clear HB; have HO_10 := n0_; have HO187 := n1_; have HB := n2_; clear n0_ n1_ n2_; clear hb ho35))
                                    go_loopg [13, 14] kj20 (fun kq v13 v14 w' => ∃ (x13_7 : List Int) (x14_7 : Int), v14 = .int .i64 x14_7 ∧ Aside0 (hopmeshref11_Without.l3 kq l0 l1 x10_5 x13_7 x14_7 = some (r1, r2)) ∧ Aside0 (kq ≤ kj20) ∧ Aside0 (Kd.R (Kd.int .i64) 3 w' w.heap.size (fun k_ => some k_ ≠ (v13 : Value).ownBlock) u10 x10_5) ∧ Aside0 (Kd.R (Kd.int .i64) 3 w' w.heap.size (fun k_ => some k_ ≠ (u10 : Value).ownBlock) v13 x13_7) ∧ Aside0 (Below w.heap.size w w'))
                                    case atStart => exact ⟨(y185), (0), (by first | rfl | (simp; done) | (simp [*]; done)), H', ⟨Nat.le_refl _⟩, ⟨by (with_reducible repeat (first | apply Kd.R_alloc | apply Kd.R_drewN | apply Kd.R_drew)); exact Kd.R_mono HO_10.out (fun _ hk => hk.2)⟩, ⟨by (with_reducible repeat (first | apply Kd.R_alloc | apply Kd.R_drewN | apply Kd.R_drew)); exact Kd.R_mono HO187.out (fun _ hk => hk.2)⟩, ⟨by repeat (first | (with_reducible first | exact HB.out | apply below_alloc | apply pw_below_drewN | apply below_drew1) | exact HB.out)⟩⟩
                                    case round =>
                                      clear H'
                                      try clear c1
                                      try clear p1
                                      try clear q1
                                      try clear hx1
                                      try clear c2
                                      try clear p2
                                      try clear c3
                                      try clear c4
                                      try clear c6
                                      try clear p6
                                      try clear c7
                                      try clear c8
                                      try clear c8b0
                                      try clear c9
                                      try clear c9b0
                                      try clear c11
                                      try clear c13
                                      try clear c13b0
                                      try clear c14
                                      try clear c16
                                      try clear c17
                                      try clear c17b0
                                      try clear p17
                                      try clear q17
                                      try clear hx17
                                      try clear c18
                                      try clear c18b0
                                      try clear p18
                                      try clear q18
                                      try clear hx18
                                      try clear c20
                                      try clear c22
                                      try clear c22b0
                                      try clear c23
                                      try clear c24
                                      try clear c24b0
                                      try clear c25
                                      try clear c25b0
                                      try clear c27
                                      try clear c29
                                      try clear c31
                                      try clear hx170_0
                                      try clear hx175_0
                                      try clear hx177_0
                                      try clear hx179_0
                                      try clear hx181_0
                                      try clear p1
                                      try clear p17
                                      try clear p170
                                      try clear p175
                                      try clear p177
                                      try clear p179
                                      try clear p181
                                      try clear p2
                                      try clear p6
                                      try clear q1
                                      try clear q17
                                      try clear q170
                                      try clear q175
                                      try clear q177
                                      try clear q179
                                      try clear q181
                                      obtain ⟨x13_7, x14_7, rfl, HA, HK7, HO_10, HO_13, HB⟩ := hrel
                                      cases gk with
                                      | zero => exact absurd HA.out (by simp [hopmeshref11_Without.l3])
                                      | succ k7 =>
                                        have H := HA.out
                                        clear HA
                                        simp only [hopmeshref11_Without.l3] at H
                                        by_cases c36 : x14_7 < (l0.length : Int)
                                        · rw [if_pos c36] at H
                                          have c36b0 : decide (x14_7 < (l0.length : Int)) = true := decide_eq_true c36
                                          clear c36
                                          by_cases c37 : 0 ≤ x14_7
                                          · rw [if_pos c37] at H
                                            have c37b0 : decide (0 ≤ x14_7) = true := decide_eq_true c37
                                            clear c37
                                            replace H := Option.bind_eq_some_iff.mp H
                                            obtain ⟨t189, A380, H⟩ := H
                                            replace H : (if t189 = true then ((hopmeshref11_Has.f k7 x10_5 (rd l0 x14_7)).bind fun t191 => (if t191 = true then (if x13_7.length < 17592186044416 then (hopmeshref11_Without.l3 k7 l0 l1 x10_5 (x13_7 ++ [rd l0 x14_7]) (wrap64 (x14_7 + 1))) else (none)) else (hopmeshref11_Without.l3 k7 l0 l1 x10_5 x13_7 (wrap64 (x14_7 + 1))))) else (if x13_7.length < 17592186044416 then (hopmeshref11_Without.l3 k7 l0 l1 x10_5 (x13_7 ++ [rd l0 x14_7]) (wrap64 (x14_7 + 1))) else (none))) = some (r1, r2) := H
                                            have A38 := Aside0.mk A380
                                            clear A380
                                            by_cases c39 : t189 = true
                                            · subst c39
                                              have H1 : ((hopmeshref11_Has.f k7 x10_5 (rd l0 x14_7)).bind fun t191 => (if t191 = true then (if x13_7.length < 17592186044416 then (hopmeshref11_Without.l3 k7 l0 l1 x10_5 (x13_7 ++ [rd l0 x14_7]) (wrap64 (x14_7 + 1))) else (none)) else (hopmeshref11_Without.l3 k7 l0 l1 x10_5 x13_7 (wrap64 (x14_7 + 1))))) = some (r1, r2) := by rw [if_pos rfl] at H; exact H
                                              clear H
                                              have H := H1
                                              clear H1
                                              replace H := Option.bind_eq_some_iff.mp H
                                              obtain ⟨t191, A400, H⟩ := H
                                              replace H : (if t191 = true then (if x13_7.length < 17592186044416 then (hopmeshref11_Without.l3 k7 l0 l1 x10_5 (x13_7 ++ [rd l0 x14_7]) (wrap64 (x14_7 + 1))) else (none)) else (hopmeshref11_Without.l3 k7 l0 l1 x10_5 x13_7 (wrap64 (x14_7 + 1)))) = some (r1, r2) := H
                                              have A40 := Aside0.mk A400
                                              clear A400
                                              by_cases c41 : t191 = true
                                              · subst c41
                                                have H1 : (if x13_7.length < 17592186044416 then (hopmeshref11_Without.l3 k7 l0 l1 x10_5 (x13_7 ++ [rd l0 x14_7]) (wrap64 (x14_7 + 1))) else (none)) = some (r1, r2) := by rw [if_pos rfl] at H; exact H
                                                clear H
                                                have H := H1
                                                clear H1
                                                by_cases c42 : x13_7.length < 17592186044416
                                                · rw [if_pos c42] at H
                                                  have LMc42 := Aside0.mk c42
                                                  clear c42
                                                  obtain ⟨y193, hy193⟩ : ∃ y_ : List Int, y_ = (x13_7 ++ [rd l0 x14_7]) := ⟨_, rfl⟩
                                                  replace H : (hopmeshref11_Without.l3 k7 l0 l1 x10_5 y193 (wrap64 (x14_7 + 1))) = some (r1, r2) := by first | (rw [hy193]; with_reducible exact H) | (have H2_ := (Option.bind_some _ _).symm.trans H; rw [hy193]; with_reducible exact H2_) | (have H2_ := (Option.bind_some _ _).symm.trans H; with_reducible exact H2_) | with_reducible exact H | (rw [hy193]; exact H) | exact H
                                                  have Ny193 := Aside0.mk hy193
                                                  clear hy193
                                                  have H' := Aside0.mk H
                                                  clear H
                                                  have p188 : 0 ≤ (x14_7 : Int) := of_decide_eq_true (by first | (with_reducible assumption) | assumption)
                                                  have q188 : x14_7 < (l0.length : Int) := of_decide_eq_true (by first | (with_reducible assumption) | assumption)
                                                  obtain ⟨ad188, e188, hx188_0⟩ := Kd.at_int HR0.out x14_7 p188 q188
                                                  cases e188
                                                  replace hx188_0 := (HB.out.cell (World.block_lt_of_cell? w _ hx188_0)).trans hx188_0
                                                  replace p188 := eq_true p188
                                                  replace q188 := eq_true q188
                                                  go_wp2_with (first | ((with_reducible refine gate_callee (f := 45) rfl ?_); refine goesL_ (some 106) rfl rfl Try.func45 (by kernel_rfl) rfl #[.slice A1 l1.length c1, .int .i64 (rd l0 x14_7)] rfl (by (try simp only [List.map_toArray, List.map_cons, List.map_nil]); first | done | rfl | (simp only [List.length_drop, List.length_take]; rfl)) ?_; (with_reducible refine (hopmeshref11_Has.calls k7 _ _ l1 (rd l0 x14_7) true _ ?side1 ?side2 A38.out).mono ?_); (case side1 => repeat (first | exact (Kd.C_below HR1.out HB.out) | (with_reducible refine Kd.C_alloc ?_ _) | (with_reducible refine Kd.C_drewN ?_ _) | (with_reducible refine Kd.C_drew ?_))); (case side2 => exact HC1.out); rintro e w' ⟨rfl, ⟨nd, rfl⟩⟩; refine ⟨_, rfl, ?_⟩; have p190 : 0 ≤ (x14_7 : Int) := of_decide_eq_true (by first | (with_reducible assumption) | assumption); have q190 : x14_7 < (l0.length : Int) := of_decide_eq_true (by first | (with_reducible assumption) | assumption); obtain ⟨ad190, e190, hx190_0⟩ := Kd.at_int HR0.out x14_7 p190 q190; obtain rfl : ad188 = ad190 := (by injection e190); replace hx190_0 := (HB.out.cell (World.block_lt_of_cell? w _ hx190_0)).trans hx190_0; replace p190 := eq_true p190; replace q190 := eq_true q190; obtain ⟨Ao43, co43, eo43⟩ := Kd.R_slice HO_10.out; subst eo43) | (go_at_call 45; (with_reducible refine (hopmeshref11_Has.calls k7 _ _ x10_5 (rd l0 x14_7) true _ ?side1 ?side2 A40.out).mono ?_); (case side1 => repeat (first | exact (Kd.R_reads' HO_10.out).2.2 | (with_reducible refine Kd.C_alloc ?_ _) | (with_reducible refine Kd.C_drewN ?_ _) | (with_reducible refine Kd.C_drew ?_))); (case side2 => exact (Kd.R_reads' HO_10.out).2.1); rintro e w' ⟨rfl, ⟨nd, rfl⟩⟩; have p192 : 0 ≤ (x14_7 : Int) := of_decide_eq_true (by first | (with_reducible assumption) | assumption); have q192 : x14_7 < (l0.length : Int) := of_decide_eq_true (by first | (with_reducible assumption) | assumption); obtain ⟨ad192, e192, hx192_0⟩ := Kd.at_int HR0.out x14_7 p192 q192; obtain rfl : ad188 = ad192 := (by injection e192); replace hx192_0 := (HB.out.cell (World.block_lt_of_cell? w _ hx192_0)).trans hx192_0; replace p192 := eq_true p192; replace q192 := eq_true q192) | ((with_reducible refine gate_builtin (b := .append) (xs := #[.tmp 116, .tmp 121]) rfl ?_); (try (refine gate_guard (by rfl) ?_; dsimp only)); at_builtin; refine Kd.R_append (Kd.int .i64) (w0 := w) w.heap.size rfl (.tmp 116) (.tmp 121) 22 3 (.int .i64 0) 8 rfl Try.underlying22 info3 rfl (by decide) (by omega) u13 x13_7 (rd l0 x14_7) [.int .i64 (rd l0 x14_7)] (fun k_ => some k_ ≠ (.slice Ao43 x10_5.length co43 : Value).ownBlock) (fun _ => False) rfl rfl ?aP (fun _ hk => hk.elim) ?aF ?aO ?aB ?aS ?aL ?_; (case aP => exact rfl); (case aB => exact (by repeat (first | (with_reducible first | exact HB.out | apply below_alloc | apply pw_below_drewN | apply below_drew1) | exact HB.out))); (case aF => exact (fun k_ hk => Kd.fresh' (Kd.R_lt (by (with_reducible repeat (first | apply Kd.R_alloc | apply Kd.R_drewN | apply Kd.R_drew)); exact HO_10.out)) k_ hk)); (case aO => exact (by (with_reducible repeat (first | apply Kd.R_alloc | apply Kd.R_drewN | apply Kd.R_drew)); exact HO_13.out)); (case aS => exact (below_size (by repeat (first | (with_reducible first | exact HB.out | apply below_alloc | apply pw_below_drewN | apply below_drew1) | exact HB.out)))); (case aL => have := LMc42.out; omega); intro v194 w44 ho hb hg hat; rw [← Ny193.out] at ho; have n0_ := Aside0.mk (Kd.R_after (ok := (fun _ => True)) (by (with_reducible repeat (first | apply Kd.R_alloc | apply Kd.R_drewN | apply Kd.R_drew)); exact Kd.R_mono HO_10.out (fun _ hk => ⟨trivial, hk⟩)) hg hat); have n1_ := Aside0.mk (hb); have n2_ := Aside0.mk (ho); clear HO_10; clear HB; clear HO_13; have HO_10 := n0_; have HB := n1_; have HO195 := n2_; clear n0_ n1_ n2_; clear ho hb hg hat))
                                                  go_roundg k7
                                                  case measure => have := HJ3.out; have := HK2.out; have := HJ11.out; have := HK4.out; have := HK5.out; have := HJ20.out; have := HK7.out; omega
                                                  case rel => exact ⟨(y193), (wrap64 (x14_7 + 1)), (by first | rfl | (simp; done) | (simp [*]; done)), H', ⟨by have := HJ3.out; have := HK2.out; have := HJ11.out; have := HK4.out; have := HK5.out; have := HJ20.out; have := HK7.out; omega⟩, ⟨by (with_reducible repeat (first | apply Kd.R_alloc | apply Kd.R_drewN | apply Kd.R_drew)); exact Kd.R_mono HO_10.out (fun _ hk => hk.2)⟩, ⟨by (with_reducible repeat (first | apply Kd.R_alloc | apply Kd.R_drewN | apply Kd.R_drew)); exact HO195.out⟩, ⟨by repeat (first | (with_reducible first | exact HB.out | apply below_alloc | apply pw_below_drewN | apply below_drew1) | exact HB.out)⟩⟩
                                                · rw [if_neg c42] at H
                                                  exact absurd H (by simp)
                                              · replace c41 := Bool.eq_false_iff.mpr c41
                                                subst c41
                                                have H1 : (hopmeshref11_Without.l3 k7 l0 l1 x10_5 x13_7 (wrap64 (x14_7 + 1))) = some (r1, r2) := by rw [if_neg (show ¬ (false = true) by decide)] at H; exact H
                                                clear H
                                                have H := H1
                                                clear H1
                                                have H' := Aside0.mk H
                                                clear H
                                                have p188 : 0 ≤ (x14_7 : Int) := of_decide_eq_true (by first | (with_reducible assumption) | assumption)
                                                have q188 : x14_7 < (l0.length : Int) := of_decide_eq_true (by first | (with_reducible assumption) | assumption)
                                                obtain ⟨ad188, e188, hx188_0⟩ := Kd.at_int HR0.out x14_7 p188 q188
                                                cases e188
                                                replace hx188_0 := (HB.out.cell (World.block_lt_of_cell? w _ hx188_0)).trans hx188_0
                                                replace p188 := eq_true p188
                                                replace q188 := eq_true q188
                                                go_wp2_with (first | ((with_reducible refine gate_callee (f := 45) rfl ?_); refine goesL_ (some 106) rfl rfl Try.func45 (by kernel_rfl) rfl #[.slice A1 l1.length c1, .int .i64 (rd l0 x14_7)] rfl (by (try simp only [List.map_toArray, List.map_cons, List.map_nil]); first | done | rfl | (simp only [List.length_drop, List.length_take]; rfl)) ?_; (with_reducible refine (hopmeshref11_Has.calls k7 _ _ l1 (rd l0 x14_7) true _ ?side1 ?side2 A38.out).mono ?_); (case side1 => repeat (first | exact (Kd.C_below HR1.out HB.out) | (with_reducible refine Kd.C_alloc ?_ _) | (with_reducible refine Kd.C_drewN ?_ _) | (with_reducible refine Kd.C_drew ?_))); (case side2 => exact HC1.out); rintro e w' ⟨rfl, ⟨nd, rfl⟩⟩; refine ⟨_, rfl, ?_⟩; have p190 : 0 ≤ (x14_7 : Int) := of_decide_eq_true (by first | (with_reducible assumption) | assumption); have q190 : x14_7 < (l0.length : Int) := of_decide_eq_true (by first | (with_reducible assumption) | assumption); obtain ⟨ad190, e190, hx190_0⟩ := Kd.at_int HR0.out x14_7 p190 q190; obtain rfl : ad188 = ad190 := (by injection e190); replace hx190_0 := (HB.out.cell (World.block_lt_of_cell? w _ hx190_0)).trans hx190_0; replace p190 := eq_true p190; replace q190 := eq_true q190; obtain ⟨Ao45, co45, eo45⟩ := Kd.R_slice HO_10.out; subst eo45) | (go_at_call 45; (with_reducible refine (hopmeshref11_Has.calls k7 _ _ x10_5 (rd l0 x14_7) false _ ?side1 ?side2 A40.out).mono ?_); (case side1 => repeat (first | exact (Kd.R_reads' HO_10.out).2.2 | (with_reducible refine Kd.C_alloc ?_ _) | (with_reducible refine Kd.C_drewN ?_ _) | (with_reducible refine Kd.C_drew ?_))); (case side2 => exact (Kd.R_reads' HO_10.out).2.1); rintro e w' ⟨rfl, ⟨nd, rfl⟩⟩))
                                                go_roundg k7
                                                case measure => have := HJ3.out; have := HK2.out; have := HJ11.out; have := HK4.out; have := HK5.out; have := HJ20.out; have := HK7.out; omega
                                                case rel => exact ⟨(x13_7), (wrap64 (x14_7 + 1)), (by first | rfl | (simp; done) | (simp [*]; done)), H', ⟨by have := HJ3.out; have := HK2.out; have := HJ11.out; have := HK4.out; have := HK5.out; have := HJ20.out; have := HK7.out; omega⟩, ⟨by (with_reducible repeat (first | apply Kd.R_alloc | apply Kd.R_drewN | apply Kd.R_drew)); exact HO_10.out⟩, ⟨by (with_reducible repeat (first | apply Kd.R_alloc | apply Kd.R_drewN | apply Kd.R_drew)); exact HO_13.out⟩, ⟨by repeat (first | (with_reducible first | exact HB.out | apply below_alloc | apply pw_below_drewN | apply below_drew1) | exact HB.out)⟩⟩
                                            · replace c39 := Bool.eq_false_iff.mpr c39
                                              subst c39
                                              have H1 : (if x13_7.length < 17592186044416 then (hopmeshref11_Without.l3 k7 l0 l1 x10_5 (x13_7 ++ [rd l0 x14_7]) (wrap64 (x14_7 + 1))) else (none)) = some (r1, r2) := by rw [if_neg (show ¬ (false = true) by decide)] at H; exact H
                                              clear H
                                              have H := H1
                                              clear H1
                                              by_cases c46 : x13_7.length < 17592186044416
                                              · rw [if_pos c46] at H
                                                have LMc46 := Aside0.mk c46
                                                clear c46
                                                obtain ⟨y197, hy197⟩ : ∃ y_ : List Int, y_ = (x13_7 ++ [rd l0 x14_7]) := ⟨_, rfl⟩
                                                replace H : (hopmeshref11_Without.l3 k7 l0 l1 x10_5 y197 (wrap64 (x14_7 + 1))) = some (r1, r2) := by first | (rw [hy197]; with_reducible exact H) | (have H2_ := (Option.bind_some _ _).symm.trans H; rw [hy197]; with_reducible exact H2_) | (have H2_ := (Option.bind_some _ _).symm.trans H; with_reducible exact H2_) | with_reducible exact H | (rw [hy197]; exact H) | exact H
                                                have Ny197 := Aside0.mk hy197
                                                clear hy197
                                                have H' := Aside0.mk H
                                                clear H
                                                have p188 : 0 ≤ (x14_7 : Int) := of_decide_eq_true (by first | (with_reducible assumption) | assumption)
                                                have q188 : x14_7 < (l0.length : Int) := of_decide_eq_true (by first | (with_reducible assumption) | assumption)
                                                obtain ⟨ad188, e188, hx188_0⟩ := Kd.at_int HR0.out x14_7 p188 q188
                                                cases e188
                                                replace hx188_0 := (HB.out.cell (World.block_lt_of_cell? w _ hx188_0)).trans hx188_0
                                                replace p188 := eq_true p188
                                                replace q188 := eq_true q188
                                                go_wp2_with (first | ((with_reducible refine gate_callee (f := 45) rfl ?_); refine goesL_ (some 106) rfl rfl Try.func45 (by kernel_rfl) rfl #[.slice A1 l1.length c1, .int .i64 (rd l0 x14_7)] rfl (by (try simp only [List.map_toArray, List.map_cons, List.map_nil]); first | done | rfl | (simp only [List.length_drop, List.length_take]; rfl)) ?_; (with_reducible refine (hopmeshref11_Has.calls k7 _ _ l1 (rd l0 x14_7) false _ ?side1 ?side2 A38.out).mono ?_); (case side1 => repeat (first | exact (Kd.C_below HR1.out HB.out) | (with_reducible refine Kd.C_alloc ?_ _) | (with_reducible refine Kd.C_drewN ?_ _) | (with_reducible refine Kd.C_drew ?_))); (case side2 => exact HC1.out); rintro e w' ⟨rfl, ⟨nd, rfl⟩⟩; refine ⟨_, rfl, ?_⟩; have p196 : 0 ≤ (x14_7 : Int) := of_decide_eq_true (by first | (with_reducible assumption) | assumption); have q196 : x14_7 < (l0.length : Int) := of_decide_eq_true (by first | (with_reducible assumption) | assumption); obtain ⟨ad196, e196, hx196_0⟩ := Kd.at_int HR0.out x14_7 p196 q196; obtain rfl : ad188 = ad196 := (by injection e196); replace hx196_0 := (HB.out.cell (World.block_lt_of_cell? w _ hx196_0)).trans hx196_0; replace p196 := eq_true p196; replace q196 := eq_true q196) | ((with_reducible refine gate_builtin (b := .append) (xs := #[.tmp 116, .tmp 121]) rfl ?_); (try (refine gate_guard (by rfl) ?_; dsimp only)); at_builtin; refine Kd.R_append (Kd.int .i64) (w0 := w) w.heap.size rfl (.tmp 116) (.tmp 121) 22 3 (.int .i64 0) 8 rfl Try.underlying22 info3 rfl (by decide) (by omega) u13 x13_7 (rd l0 x14_7) [.int .i64 (rd l0 x14_7)] (fun k_ => some k_ ≠ (u10 : Value).ownBlock) (fun _ => False) rfl rfl ?aP (fun _ hk => hk.elim) ?aF ?aO ?aB ?aS ?aL ?_; (case aP => exact rfl); (case aB => exact (by repeat (first | (with_reducible first | exact HB.out | apply below_alloc | apply pw_below_drewN | apply below_drew1) | exact HB.out))); (case aF => exact (fun k_ hk => Kd.fresh' (Kd.R_lt (by (with_reducible repeat (first | apply Kd.R_alloc | apply Kd.R_drewN | apply Kd.R_drew)); exact HO_10.out)) k_ hk)); (case aO => exact (by (with_reducible repeat (first | apply Kd.R_alloc | apply Kd.R_drewN | apply Kd.R_drew)); exact HO_13.out)); (case aS => exact (below_size (by repeat (first | (with_reducible first | exact HB.out | apply below_alloc | apply pw_below_drewN | apply below_drew1) | exact HB.out)))); (case aL => have := LMc46.out; omega); intro v198 w47 ho hb hg hat; rw [← Ny197.out] at ho; have n0_ := Aside0.mk (Kd.R_after (ok := (fun _ => True)) (by (with_reducible repeat (first | apply Kd.R_alloc | apply Kd.R_drewN | apply Kd.R_drew)); exact Kd.R_mono HO_10.out (fun _ hk => ⟨trivial, hk⟩)) hg hat); have n1_ := Aside0.mk (hb); have n2_ := Aside0.mk (ho); clear HO_10; clear HB; clear HO_13; have HO_10 := n0_; have HB := n1_; have HO199 := n2_; clear n0_ n1_ n2_; clear ho hb hg hat))
                                                go_roundg k7
                                                case measure => have := HJ3.out; have := HK2.out; have := HJ11.out; have := HK4.out; have := HK5.out; have := HJ20.out; have := HK7.out; omega
                                                case rel => exact ⟨(y197), (wrap64 (x14_7 + 1)), (by first | rfl | (simp; done) | (simp [*]; done)), H', ⟨by have := HJ3.out; have := HK2.out; have := HJ11.out; have := HK4.out; have := HK5.out; have := HJ20.out; have := HK7.out; omega⟩, ⟨by (with_reducible repeat (first | apply Kd.R_alloc | apply Kd.R_drewN | apply Kd.R_drew)); exact Kd.R_mono HO_10.out (fun _ hk => hk.2)⟩, ⟨by (with_reducible repeat (first | apply Kd.R_alloc | apply Kd.R_drewN | apply Kd.R_drew)); exact HO199.out⟩, ⟨by repeat (first | (with_reducible first | exact HB.out | apply below_alloc | apply pw_below_drewN | apply below_drew1) | exact HB.out)⟩⟩
                                              · rw [if_neg c46] at H
                                                exact absurd H (by simp)
                                          · rw [if_neg c37] at H
                                            exact absurd H (by simp)
                                        · rw [if_neg c36] at H
                                          have c36b0 : decide (x14_7 < (l0.length : Int)) = false := decide_eq_false c36
                                          clear c36
                                          simp only [Option.some.injEq, Prod.mk.injEq] at H
                                          obtain ⟨rfl, rfl⟩ := H
                                          go_wp2
                                          go_ret2
                                          exact ⟨_, by first | rfl | (simp [errW_none, errW_some] <;> rfl) | (simp [*, errW_none, errW_some] <;> rfl), by (with_reducible repeat (first | apply Kd.R_alloc | apply Kd.R_drewN | apply Kd.R_drew)); exact Kd.R_mono HO_13.out (fun _ hk => trivial), by repeat (first | (with_reducible first | exact HB.out | apply below_alloc | apply pw_below_drewN | apply below_drew1) | exact HB.out)⟩

end Go.Proofs.Ytddcacomphkeiaa.PA
