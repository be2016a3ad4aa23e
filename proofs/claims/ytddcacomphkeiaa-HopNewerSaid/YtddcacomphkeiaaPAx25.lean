-- Written by a program of this session (mkprint.py: the kit's print, changed) for this claim. Not trusted: Lean checks it.
import Derived.Test.YtddcacomphkeiaaPAx0
import Derived.Test.YtddcacomphkeiaaPAx12
namespace Go.Proofs.Ytddcacomphkeiaa.PA
open Go.RowKit Go.Proofs.YtddcacomphkeiaaW.PrintWords Go.Proofs.YtddcacomphkeiaaW.PrintLast Go.Proofs.YtddcacomphkeiaaW.PrintMore
attribute [local go_sem] max2_int min2_int max_two min_two max_three min_three max_four min_four   -- for this text's walks alone
set_option linter.unusedVariables false
set_option linter.unusedSimpArgs false

/-! ### hopmeshref11_CheckAll: function 32 -/
mutual
def hopmeshref11_CheckAll.j0 : Nat → List (S24) → Bool → Option (Int)
  | 0, _, _ => none
  | k + 1, x0, x11 => if x11 = true then (some 1) else (hopmeshref11_CheckAll.l0 k x0 0)
def hopmeshref11_CheckAll.l0 : Nat → List (S24) → Int → Option (Int)
  | 0, _, _ => none
  | k + 1, x0, x3 => if x3 < (x0.length : Int) then (if 0 ≤ x3 then ((hopmeshref11_Check.f k ((rd_T24 x0 x3).f0) ((rd_T24 x0 x3).f1) ((rd_T24 x0 x3).f2) ((rd_T24 x0 x3).f3)).bind fun t339 => (if t339 = 0 then (if x3 > 0 then (if 0 ≤ (wrap64 (x3 - 1)) then (if (wrap64 (x3 - 1)) < (x0.length : Int) then (hopmeshref11_CheckAll.j2 k x0 x3 (((rd_T24 x0 x3).f1) != ((rd_T24 x0 (wrap64 (x3 - 1))).f2))) else (none)) else (none)) else (hopmeshref11_CheckAll.j2 k x0 x3 false)) else (some 1))) else (none)) else (some 0)
def hopmeshref11_CheckAll.j2 : Nat → List (S24) → Int → Bool → Option (Int)
  | 0, _, _, _ => none
  | k + 1, x0, x3, x39 => if x39 = true then (some 5) else (if x3 > 0 then (if 0 ≤ x3 then (if x3 < (x0.length : Int) then (if 0 ≤ (wrap64 (x3 - 1)) then (if (wrap64 (x3 - 1)) < (x0.length : Int) then (if ((rd_T24 x0 x3).f0) = (Int.tmod (wrap64 (((rd_T24 x0 (wrap64 (x3 - 1))).f0) + 1)) 256) then (hopmeshref11_CheckAll.l0 k x0 (wrap64 (x3 + 1))) else (some 23)) else (none)) else (none)) else (none)) else (none)) else (hopmeshref11_CheckAll.l0 k x0 (wrap64 (x3 + 1))))
end
def hopmeshref11_CheckAll.f (k : Nat) (l0 : List (S24)) : Option (Int) := if (l0.length : Int) < 1 then (hopmeshref11_CheckAll.j0 k l0 true) else (hopmeshref11_CheckAll.j0 k l0 (decide ((l0.length : Int) > 1024)))
theorem hopmeshref11_CheckAll.mono_l : ∀ k, (∀ y0 y1, LeO (hopmeshref11_CheckAll.j0 k y0 y1) (hopmeshref11_CheckAll.j0 (k + 1) y0 y1)) ∧ (∀ y0 y1, LeO (hopmeshref11_CheckAll.l0 k y0 y1) (hopmeshref11_CheckAll.l0 (k + 1) y0 y1)) ∧ (∀ y0 y1 y2, LeO (hopmeshref11_CheckAll.j2 k y0 y1 y2) (hopmeshref11_CheckAll.j2 (k + 1) y0 y1 y2))
  | 0 => ⟨fun _ _ r h => by simp [hopmeshref11_CheckAll.j0] at h, fun _ _ r h => by simp [hopmeshref11_CheckAll.l0] at h, fun _ _ _ r h => by simp [hopmeshref11_CheckAll.j2] at h⟩
  | k + 1 => by
    obtain ⟨ih0, ih1, ih2⟩ := hopmeshref11_CheckAll.mono_l k
    refine ⟨?_, ?_, ?_⟩
    · intro y0 y1
      unfold hopmeshref11_CheckAll.j0
      repeat' first
      | (with_reducible exact ih0 _ _)
      | (with_reducible exact ih1 _ _)
      | (with_reducible exact ih2 _ _ _)
      | (with_reducible exact hopmeshref11_Check.mono _ _ _ _ _)
      | (with_reducible exact LeO.refl _)
      | (with_reducible exact LeO.none _)
      | (with_reducible refine LeO.ite ?_ ?_)
      | (with_reducible refine LeO.bind ?_ (fun _ => ?_))
      | exact ih0 _ _
      | exact ih1 _ _
      | exact ih2 _ _ _
      | exact hopmeshref11_Check.mono _ _ _ _ _
      | exact LeO.none _
      | refine LeO.ite ?_ ?_
      | refine LeO.bind ?_ (fun _ => ?_)
    · intro y0 y1
      unfold hopmeshref11_CheckAll.l0
      repeat' first
      | (with_reducible exact ih0 _ _)
      | (with_reducible exact ih1 _ _)
      | (with_reducible exact ih2 _ _ _)
      | (with_reducible exact hopmeshref11_Check.mono _ _ _ _ _)
      | (with_reducible exact LeO.refl _)
      | (with_reducible exact LeO.none _)
      | (with_reducible refine LeO.ite ?_ ?_)
      | (with_reducible refine LeO.bind ?_ (fun _ => ?_))
      | exact ih0 _ _
      | exact ih1 _ _
      | exact ih2 _ _ _
      | exact hopmeshref11_Check.mono _ _ _ _ _
      | exact LeO.none _
      | refine LeO.ite ?_ ?_
      | refine LeO.bind ?_ (fun _ => ?_)
    · intro y0 y1 y2
      unfold hopmeshref11_CheckAll.j2
      repeat' first
      | (with_reducible exact ih0 _ _)
      | (with_reducible exact ih1 _ _)
      | (with_reducible exact ih2 _ _ _)
      | (with_reducible exact hopmeshref11_Check.mono _ _ _ _ _)
      | (with_reducible exact LeO.refl _)
      | (with_reducible exact LeO.none _)
      | (with_reducible refine LeO.ite ?_ ?_)
      | (with_reducible refine LeO.bind ?_ (fun _ => ?_))
      | exact ih0 _ _
      | exact ih1 _ _
      | exact ih2 _ _ _
      | exact hopmeshref11_Check.mono _ _ _ _ _
      | exact LeO.none _
      | refine LeO.ite ?_ ?_
      | refine LeO.bind ?_ (fun _ => ?_)
theorem hopmeshref11_CheckAll.mono : ∀ a0 k, LeO (hopmeshref11_CheckAll.f k a0) (hopmeshref11_CheckAll.f (k + 1) a0) := by
  intro a0 k
  obtain ⟨ih0, ih1, ih2⟩ := hopmeshref11_CheckAll.mono_l k
  unfold hopmeshref11_CheckAll.f
  repeat' first
      | (with_reducible exact ih0 _ _)
      | (with_reducible exact ih1 _ _)
      | (with_reducible exact ih2 _ _ _)
      | (with_reducible exact hopmeshref11_Check.mono _ _ _ _ _)
      | (with_reducible exact LeO.refl _)
      | (with_reducible exact LeO.none _)
      | (with_reducible refine LeO.ite ?_ ?_)
      | (with_reducible refine LeO.bind ?_ (fun _ => ?_))
      | exact ih0 _ _
      | exact ih1 _ _
      | exact ih2 _ _ _
      | exact hopmeshref11_Check.mono _ _ _ _ _
      | exact LeO.none _
      | refine LeO.ite ?_ ?_
      | refine LeO.bind ?_ (fun _ => ?_)
set_option maxHeartbeats 8000000 in
set_option maxRecDepth 100000 in
theorem hopmeshref11_CheckAll.calls (k : Nat) (A0 : Option Addr) (c0 : Nat) (l0 : List (S24)) (r : Int) (w : World) (hr0 : Kd.C k24 w A0 l0.length l0) (hc0 : l0.length ≤ c0) (h : hopmeshref11_CheckAll.f k l0 = some r) :
    Calls Try.prog 32 #[.slice A0 l0.length c0] w fun e w' => e = .returned (.int .i64 r) ∧ Below w.heap.size w w' := by
  have hu24 := Try.underlying24
  have HR0 := Aside0.mk hr0
  have HC0 := Aside0.mk hc0
  clear hr0 hc0
  have HB := Aside0.mk (Below.refl w.heap.size w)
  have H : (if (l0.length : Int) < 1 then (hopmeshref11_CheckAll.j0 k l0 true) else (hopmeshref11_CheckAll.j0 k l0 (decide ((l0.length : Int) > 1024)))) = some r := h
  clear h
  have HC2 := Aside0.mk H
  clear H
  go_enter Try.func32, Try.ntmps32
  go_upto_region 1 with (fail)
  repeat (go_quiet (fail); go_upto_region 1 with (fail))
  go_cut [11] (fun v11 wc => ∃ (kq : Nat) (x11_1 : Bool), v11 = .bool x11_1 ∧ Aside0 (hopmeshref11_CheckAll.j0 kq l0 x11_1 = some r) ∧ Aside0 (kq ≤ k) ∧ Aside0 (Below w.heap.size w wc))
  case first =>
    have H := HC2.out
    clear HC2
    by_cases c3 : (l0.length : Int) < 1
    · rw [if_pos c3] at H
      have c3b0 : decide ((l0.length : Int) < 1) = true := decide_eq_true c3
      have c3b1 : decide (l0.length < 1) = true := decide_eq_true (by omega)
      clear c3
      (first | rw [c3b0] | (simp only [i64_w, i32_w]; rw [c3b0]) | skip)
      have H' := Aside0.mk H
      clear H
      go_wp2
      repeat (go_quiet (fail); try go_wp2)
      go_meet
      case rel => exact ⟨_, (true), (by first | rfl | (simp; done) | (simp [*]; done)), H', ⟨by first | omega | exact Nat.le_refl _⟩, ⟨by repeat (first | (with_reducible first | exact HB.out | apply below_alloc | apply pw_below_drewN | apply below_drew1) | exact HB.out)⟩⟩
    · rw [if_neg c3] at H
      have c3b0 : decide ((l0.length : Int) < 1) = false := decide_eq_false c3
      have c3b1 : decide (l0.length < 1) = false := decide_eq_false (by omega)
      clear c3
      (first | rw [c3b0] | (simp only [i64_w, i32_w]; rw [c3b0]) | skip)
      have H' := Aside0.mk H
      clear H
      go_wp2
      repeat (go_quiet (fail); try go_wp2)
      go_meet
      case rel => exact ⟨_, (decide ((l0.length : Int) > 1024)), (by first | rfl | (simp; done) | (simp [*]; done)), H', ⟨by first | omega | exact Nat.le_refl _⟩, ⟨by repeat (first | (with_reducible first | exact HB.out | apply below_alloc | apply pw_below_drewN | apply below_drew1) | exact HB.out)⟩⟩
  case rest =>
    clear HC2
    try clear p2
    try clear c3
    try clear c3b0
    try clear c3b1
    obtain ⟨kq, x11_1, rfl, HA, HJ1, HB⟩ := hcut
    cases kq with
    | zero => exact absurd HA.out (by simp [hopmeshref11_CheckAll.j0])
    | succ kj1 =>
      have H := HA.out
      clear HA
      simp only [hopmeshref11_CheckAll.j0] at H
      by_cases c4 : x11_1 = true
      · subst c4
        have H1 : (some 1) = some r := by rw [if_pos rfl] at H; exact H
        clear H
        have H := H1
        clear H1
        obtain rfl := Option.some.inj H
        go_wp2
        repeat (go_quiet (fail); try go_wp2)
        go_ret
        exact ⟨by first | rfl | (simp [errW_none, errW_some] <;> rfl) | (simp [*, errW_none, errW_some] <;> rfl), by repeat (first | (with_reducible first | exact HB.out | apply below_alloc | apply pw_below_drewN | apply below_drew1) | exact HB.out)⟩
      · replace c4 := Bool.eq_false_iff.mpr c4
        subst c4
        have H1 : (hopmeshref11_CheckAll.l0 kj1 l0 0) = some r := by rw [if_neg (show ¬ (false = true) by decide)] at H; exact H
        clear H
        have H := H1
        clear H1
        have H' := Aside0.mk H
        clear H
        go_wp2
        repeat (go_quiet (fail); try go_wp2)
        go_loopg [3] kj1 (fun kq v3 w' => ∃ (x3_2 : Int), v3 = .int .i64 x3_2 ∧ Aside0 (hopmeshref11_CheckAll.l0 kq l0 x3_2 = some r) ∧ Aside0 (kq ≤ kj1) ∧ Aside0 (Below w.heap.size w w'))
        case atStart => exact ⟨(0), (by first | rfl | (simp; done) | (simp [*]; done)), H', ⟨Nat.le_refl _⟩, ⟨by repeat (first | (with_reducible first | exact HB.out | apply below_alloc | apply pw_below_drewN | apply below_drew1) | exact HB.out)⟩⟩
        case round =>
          clear H'
          try clear p2
          try clear c3
          try clear c3b0
          try clear c3b1
          try clear c4
          try clear p2
          obtain ⟨x3_2, rfl, HA, HK2, HB⟩ := hrel
          cases gk with
          | zero => exact absurd HA.out (by simp [hopmeshref11_CheckAll.l0])
          | succ k2 =>
            have H := HA.out
            clear HA
            simp only [hopmeshref11_CheckAll.l0] at H
            by_cases c5 : x3_2 < (l0.length : Int)
            · rw [if_pos c5] at H
              have c5b0 : decide (x3_2 < (l0.length : Int)) = true := decide_eq_true c5
              clear c5
              by_cases c6 : 0 ≤ x3_2
              · rw [if_pos c6] at H
                have c6b0 : decide (0 ≤ x3_2) = true := decide_eq_true c6
                clear c6
                replace H := Option.bind_eq_some_iff.mp H
                obtain ⟨t339, A70, H⟩ := H
                replace H : (if t339 = 0 then (if x3_2 > 0 then (if 0 ≤ (wrap64 (x3_2 - 1)) then (if (wrap64 (x3_2 - 1)) < (l0.length : Int) then (hopmeshref11_CheckAll.j2 k2 l0 x3_2 (((rd_T24 l0 x3_2).f1) != ((rd_T24 l0 (wrap64 (x3_2 - 1))).f2))) else (none)) else (none)) else (hopmeshref11_CheckAll.j2 k2 l0 x3_2 false)) else (some 1)) = some r := H
                have A7 := Aside0.mk A70
                clear A70
                by_cases c8 : t339 = 0
                · rw [if_pos c8] at H
                  have c8b0 : (t339 == 0) = true := beq_iff_eq.mpr c8
                  have c8b1 : (t339 != 0) = false := bne_eq_false_iff_eq.mpr c8
                  clear c8
                  have HC9 := Aside0.mk H
                  clear H
                  have p338 : 0 ≤ (x3_2 : Int) := of_decide_eq_true (by first | (with_reducible assumption) | assumption)
                  have q338 : x3_2 < (l0.length : Int) := of_decide_eq_true (by first | (with_reducible assumption) | assumption)
                  obtain ⟨ad338, A338_3, c338_3, e338, hx338_0, hx338_1, hx338_2, hx338_3, hl338_3, hi338_3⟩ := at_T24 HR0.out x3_2 p338 q338
                  cases e338
                  replace hx338_0 := (HB.out.cell (World.block_lt_of_cell? w _ hx338_0)).trans hx338_0
                  replace hx338_1 := (HB.out.cell (World.block_lt_of_cell? w _ hx338_1)).trans hx338_1
                  replace hx338_2 := (HB.out.cell (World.block_lt_of_cell? w _ hx338_2)).trans hx338_2
                  replace hx338_3 := (HB.out.cell (World.block_lt_of_cell? w _ hx338_3)).trans hx338_3
                  have HR338_3 := Aside0.mk hi338_3
                  have HC338_3 := Aside0.mk hl338_3
                  clear hi338_3 hl338_3
                  replace p338 := eq_true p338
                  replace q338 := eq_true q338
                  go_upto_region 8 with (first | (go_at_call 25; (with_reducible refine (hopmeshref11_Check.calls k2 ((rd_T24 l0 x3_2).f0) ((rd_T24 l0 x3_2).f1) ((rd_T24 l0 x3_2).f2) _ _ ((rd_T24 l0 x3_2).f3) t339 _ ?side1 ?side2 A7.out).mono ?_); (case side1 => repeat (first | exact (Kd.C_below HR338_3.out HB.out) | (with_reducible refine Kd.C_alloc ?_ _) | (with_reducible refine Kd.C_drewN ?_ _) | (with_reducible refine Kd.C_drew ?_))); (case side2 => exact HC338_3.out); rintro e w10 ⟨rfl, hb⟩; have n0_ := Aside0.mk (below_step (by repeat (first | (with_reducible first | exact HB.out | apply below_alloc | apply pw_below_drewN | apply below_drew1) | exact HB.out)) hb); clear HB; have HB := n0_; clear n0_; (try clear hb); (try clear hb2); (try clear hk); (try clear hi)))
                  repeat (go_quiet (first | (go_at_call 25; (with_reducible refine (hopmeshref11_Check.calls k2 ((rd_T24 l0 x3_2).f0) ((rd_T24 l0 x3_2).f1) ((rd_T24 l0 x3_2).f2) _ _ ((rd_T24 l0 x3_2).f3) t339 _ ?side1 ?side2 A7.out).mono ?_); (case side1 => repeat (first | exact (Kd.C_below HR338_3.out HB.out) | (with_reducible refine Kd.C_alloc ?_ _) | (with_reducible refine Kd.C_drewN ?_ _) | (with_reducible refine Kd.C_drew ?_))); (case side2 => exact HC338_3.out); rintro e w10 ⟨rfl, hb⟩; have n0_ := Aside0.mk (below_step (by repeat (first | (with_reducible first | exact HB.out | apply below_alloc | apply pw_below_drewN | apply below_drew1) | exact HB.out)) hb); clear HB; have HB := n0_; clear n0_; (try clear hb); (try clear hb2); (try clear hk); (try clear hi))); go_upto_region 8 with (first | (go_at_call 25; (with_reducible refine (hopmeshref11_Check.calls k2 ((rd_T24 l0 x3_2).f0) ((rd_T24 l0 x3_2).f1) ((rd_T24 l0 x3_2).f2) _ _ ((rd_T24 l0 x3_2).f3) t339 _ ?side1 ?side2 A7.out).mono ?_); (case side1 => repeat (first | exact (Kd.C_below HR338_3.out HB.out) | (with_reducible refine Kd.C_alloc ?_ _) | (with_reducible refine Kd.C_drewN ?_ _) | (with_reducible refine Kd.C_drew ?_))); (case side2 => exact HC338_3.out); rintro e w10 ⟨rfl, hb⟩; have n0_ := Aside0.mk (below_step (by repeat (first | (with_reducible first | exact HB.out | apply below_alloc | apply pw_below_drewN | apply below_drew1) | exact HB.out)) hb); clear HB; have HB := n0_; clear n0_; (try clear hb); (try clear hb2); (try clear hk); (try clear hi))))
                  (try simp only [Act.put, List.setIfInBounds_toArray, List.set_cons_zero, List.set_cons_succ])
                  go_cut [39] (fun v39 wc => ∃ (kq : Nat) (x39_8 : Bool), v39 = .bool x39_8 ∧ Aside0 (hopmeshref11_CheckAll.j2 kq l0 x3_2 x39_8 = some r) ∧ Aside0 (kq ≤ k2) ∧ Aside0 (Below w.heap.size w wc))
                  case first =>
                    have H := HC9.out
                    clear HC9
                    by_cases c11 : x3_2 > 0
                    · rw [if_pos c11] at H
                      have c11b0 : decide (0 < x3_2) = true := decide_eq_true c11
                      clear c11
                      (first | rw [c11b0] | (simp only [i64_w, i32_w]; rw [c11b0]) | skip)
                      obtain ⟨ji12, hji12⟩ : ∃ j_ : Int, (wrap64 (x3_2 - 1)) = j_ := ⟨_, rfl⟩
                      replace H : (if 0 ≤ (ji12) then (if (ji12) < (l0.length : Int) then (hopmeshref11_CheckAll.j2 k2 l0 x3_2 (((rd_T24 l0 x3_2).f1) != ((rd_T24 l0 (ji12)).f2))) else (none)) else (none)) = some r := by first | (rw [hji12] at H; exact H) | (simp only [hji12] at H ⊢; exact H)
                      have hji12w : (IntKind.i64.wrap (x3_2 - 1)) = ji12 := (i64_w _).trans hji12
                      by_cases c13 : 0 ≤ (ji12)
                      · rw [if_pos c13] at H
                        have c13b0 : decide (0 ≤ (ji12)) = true := decide_eq_true c13
                        clear c13
                        by_cases c14 : (ji12) < (l0.length : Int)
                        · rw [if_pos c14] at H
                          have c14b0 : decide ((ji12) < (l0.length : Int)) = true := decide_eq_true c14
                          clear c14
                          have H' := Aside0.mk H
                          clear H
                          have p340 : 0 ≤ (x3_2 : Int) := of_decide_eq_true (by first | (with_reducible assumption) | assumption)
                          have q340 : x3_2 < (l0.length : Int) := of_decide_eq_true (by first | (with_reducible assumption) | assumption)
                          obtain ⟨ad340, A340_3, c340_3, e340, hx340_0, hx340_1, hx340_2, hx340_3, hl340_3, hi340_3⟩ := at_T24 HR0.out x3_2 p340 q340
                          obtain rfl : ad338 = ad340 := (by injection e340)
                          replace hx340_0 := (HB.out.cell (World.block_lt_of_cell? w _ hx340_0)).trans hx340_0
                          replace hx340_1 := (HB.out.cell (World.block_lt_of_cell? w _ hx340_1)).trans hx340_1
                          replace hx340_2 := (HB.out.cell (World.block_lt_of_cell? w _ hx340_2)).trans hx340_2
                          replace hx340_3 := (HB.out.cell (World.block_lt_of_cell? w _ hx340_3)).trans hx340_3
                          have HR340_3 := Aside0.mk hi340_3
                          have HC340_3 := Aside0.mk hl340_3
                          clear hi340_3 hl340_3
                          replace p340 := eq_true p340
                          replace q340 := eq_true q340
                          have p341 : 0 ≤ ((ji12) : Int) := of_decide_eq_true (by first | (with_reducible assumption) | assumption)
                          have q341 : (ji12) < (l0.length : Int) := of_decide_eq_true (by first | (with_reducible assumption) | assumption)
                          obtain ⟨ad341, A341_3, c341_3, e341, hx341_0, hx341_1, hx341_2, hx341_3, hl341_3, hi341_3⟩ := at_T24 HR0.out (ji12) p341 q341
                          obtain rfl : ad338 = ad341 := (by injection e341)
                          replace hx341_0 := (HB.out.cell (World.block_lt_of_cell? w _ hx341_0)).trans hx341_0
                          replace hx341_1 := (HB.out.cell (World.block_lt_of_cell? w _ hx341_1)).trans hx341_1
                          replace hx341_2 := (HB.out.cell (World.block_lt_of_cell? w _ hx341_2)).trans hx341_2
                          replace hx341_3 := (HB.out.cell (World.block_lt_of_cell? w _ hx341_3)).trans hx341_3
                          have HR341_3 := Aside0.mk hi341_3
                          have HC341_3 := Aside0.mk hl341_3
                          clear hi341_3 hl341_3
                          replace p341 := eq_true p341
                          replace q341 := eq_true q341
                          go_wp2
                          repeat (go_quiet (fail); try go_wp2)
                          go_meet
                          case rel => exact ⟨_, ((((rd_T24 l0 x3_2).f1) != ((rd_T24 l0 (ji12)).f2))), (by first | rfl | (simp; done) | (simp only [← hji12] <;> (first | rfl | simp)) | (simp [*]; done)), H', ⟨by have := HJ1.out; have := HK2.out; first | omega | exact Nat.le_refl _⟩, ⟨by repeat (first | (with_reducible first | exact HB.out | apply below_alloc | apply pw_below_drewN | apply below_drew1) | exact HB.out)⟩⟩
                        · rw [if_neg c14] at H
                          exact absurd H (by simp)
                      · rw [if_neg c13] at H
                        exact absurd H (by simp)
                    · rw [if_neg c11] at H
                      have c11b0 : decide (0 < x3_2) = false := decide_eq_false c11
                      clear c11
                      (first | rw [c11b0] | (simp only [i64_w, i32_w]; rw [c11b0]) | skip)
                      have H' := Aside0.mk H
                      clear H
                      go_wp2
                      repeat (go_quiet (fail); try go_wp2)
                      go_meet
                      case rel => exact ⟨_, (false), (by first | rfl | (simp; done) | (simp [*]; done)), H', ⟨by have := HJ1.out; have := HK2.out; first | omega | exact Nat.le_refl _⟩, ⟨by repeat (first | (with_reducible first | exact HB.out | apply below_alloc | apply pw_below_drewN | apply below_drew1) | exact HB.out)⟩⟩
                  case rest =>
                    clear HC9
                    try clear c1
                    try clear p2
                    try clear c3
                    try clear c3b0
                    try clear c3b1
                    try clear p3
                    try clear q3
                    try clear hx3
                    try clear c4
                    try clear c5
                    try clear c5b0
                    try clear c6
                    try clear c6b0
                    try clear p6
                    try clear c8
                    try clear c8b0
                    try clear c8b1
                    try clear c11
                    try clear c11b0
                    try clear c13
                    try clear c13b0
                    try clear c14
                    try clear c14b0
                    try clear hx338_0
                    try clear hx338_1
                    try clear hx338_2
                    try clear hx338_3
                    try clear hx340_0
                    try clear hx340_1
                    try clear hx340_2
                    try clear hx340_3
                    try clear hx341_0
                    try clear hx341_1
                    try clear hx341_2
                    try clear hx341_3
                    try clear p2
                    try clear p338
                    try clear p340
                    try clear p341
                    try clear q338
                    try clear q340
                    try clear q341
                    obtain ⟨kq, x39_8, rfl, HA, HJ8, HB⟩ := hcut
                    cases kq with
                    | zero => exact absurd HA.out (by simp [hopmeshref11_CheckAll.j2])
                    | succ kj8 =>
                      have H := HA.out
                      clear HA
                      simp only [hopmeshref11_CheckAll.j2] at H
                      by_cases c15 : x39_8 = true
                      · subst c15
                        have H1 : (some 5) = some r := by rw [if_pos rfl] at H; exact H
                        clear H
                        have H := H1
                        clear H1
                        obtain rfl := Option.some.inj H
                        go_wp2
                        repeat (go_quiet (fail); try go_wp2)
                        go_ret
                        exact ⟨by first | rfl | (simp [errW_none, errW_some] <;> rfl) | (simp [*, errW_none, errW_some] <;> rfl), by repeat (first | (with_reducible first | exact HB.out | apply below_alloc | apply pw_below_drewN | apply below_drew1) | exact HB.out)⟩
                      · replace c15 := Bool.eq_false_iff.mpr c15
                        subst c15
                        have H1 : (if x3_2 > 0 then (if 0 ≤ x3_2 then (if x3_2 < (l0.length : Int) then (if 0 ≤ (wrap64 (x3_2 - 1)) then (if (wrap64 (x3_2 - 1)) < (l0.length : Int) then (if ((rd_T24 l0 x3_2).f0) = (Int.tmod (wrap64 (((rd_T24 l0 (wrap64 (x3_2 - 1))).f0) + 1)) 256) then (hopmeshref11_CheckAll.l0 kj8 l0 (wrap64 (x3_2 + 1))) else (some 23)) else (none)) else (none)) else (none)) else (none)) else (hopmeshref11_CheckAll.l0 kj8 l0 (wrap64 (x3_2 + 1)))) = some r := by rw [if_neg (show ¬ (false = true) by decide)] at H; exact H
                        clear H
                        have H := H1
                        clear H1
                        by_cases c16 : x3_2 > 0
                        · rw [if_pos c16] at H
                          have c16b0 : decide (0 < x3_2) = true := decide_eq_true c16
                          clear c16
                          by_cases c17 : 0 ≤ x3_2
                          · rw [if_pos c17] at H
                            have c17b0 : decide (0 ≤ x3_2) = true := decide_eq_true c17
                            clear c17
                            by_cases c18 : x3_2 < (l0.length : Int)
                            · rw [if_pos c18] at H
                              have c18b0 : decide (x3_2 < (l0.length : Int)) = true := decide_eq_true c18
                              clear c18
                              obtain ⟨ji19, hji19⟩ : ∃ j_ : Int, (wrap64 (x3_2 - 1)) = j_ := ⟨_, rfl⟩
                              replace H : (if 0 ≤ (ji19) then (if (ji19) < (l0.length : Int) then (if ((rd_T24 l0 x3_2).f0) = (Int.tmod (wrap64 (((rd_T24 l0 (ji19)).f0) + 1)) 256) then (hopmeshref11_CheckAll.l0 kj8 l0 (wrap64 (x3_2 + 1))) else (some 23)) else (none)) else (none)) = some r := by first | (rw [hji19] at H; exact H) | (simp only [hji19] at H ⊢; exact H)
                              have hji19w : (IntKind.i64.wrap (x3_2 - 1)) = ji19 := (i64_w _).trans hji19
                              by_cases c20 : 0 ≤ (ji19)
                              · rw [if_pos c20] at H
                                have c20b0 : decide (0 ≤ (ji19)) = true := decide_eq_true c20
                                clear c20
                                by_cases c21 : (ji19) < (l0.length : Int)
                                · rw [if_pos c21] at H
                                  have c21b0 : decide ((ji19) < (l0.length : Int)) = true := decide_eq_true c21
                                  clear c21
                                  by_cases c22 : ((rd_T24 l0 x3_2).f0) = (Int.tmod (wrap64 (((rd_T24 l0 (ji19)).f0) + 1)) 256)
                                  · rw [if_pos c22] at H
                                    have c22b0 : (((rd_T24 l0 x3_2).f0) == (Int.tmod (wrap64 (((rd_T24 l0 (ji19)).f0) + 1)) 256)) = true := beq_iff_eq.mpr c22
                                    have c22b1 : (((rd_T24 l0 x3_2).f0) != (Int.tmod (wrap64 (((rd_T24 l0 (ji19)).f0) + 1)) 256)) = false := bne_eq_false_iff_eq.mpr c22
                                    clear c22
                                    have H' := Aside0.mk H
                                    clear H
                                    have p342 : 0 ≤ (x3_2 : Int) := of_decide_eq_true (by first | (with_reducible assumption) | assumption)
                                    have q342 : x3_2 < (l0.length : Int) := of_decide_eq_true (by first | (with_reducible assumption) | assumption)
                                    obtain ⟨ad342, A342_3, c342_3, e342, hx342_0, hx342_1, hx342_2, hx342_3, hl342_3, hi342_3⟩ := at_T24 HR0.out x3_2 p342 q342
                                    obtain rfl : ad338 = ad342 := (by injection e342)
                                    replace hx342_0 := (HB.out.cell (World.block_lt_of_cell? w _ hx342_0)).trans hx342_0
                                    replace hx342_1 := (HB.out.cell (World.block_lt_of_cell? w _ hx342_1)).trans hx342_1
                                    replace hx342_2 := (HB.out.cell (World.block_lt_of_cell? w _ hx342_2)).trans hx342_2
                                    replace hx342_3 := (HB.out.cell (World.block_lt_of_cell? w _ hx342_3)).trans hx342_3
                                    have HR342_3 := Aside0.mk hi342_3
                                    have HC342_3 := Aside0.mk hl342_3
                                    clear hi342_3 hl342_3
                                    replace p342 := eq_true p342
                                    replace q342 := eq_true q342
                                    have p343 : 0 ≤ ((ji19) : Int) := of_decide_eq_true (by first | (with_reducible assumption) | assumption)
                                    have q343 : (ji19) < (l0.length : Int) := of_decide_eq_true (by first | (with_reducible assumption) | assumption)
                                    obtain ⟨ad343, A343_3, c343_3, e343, hx343_0, hx343_1, hx343_2, hx343_3, hl343_3, hi343_3⟩ := at_T24 HR0.out (ji19) p343 q343
                                    obtain rfl : ad338 = ad343 := (by injection e343)
                                    replace hx343_0 := (HB.out.cell (World.block_lt_of_cell? w _ hx343_0)).trans hx343_0
                                    replace hx343_1 := (HB.out.cell (World.block_lt_of_cell? w _ hx343_1)).trans hx343_1
                                    replace hx343_2 := (HB.out.cell (World.block_lt_of_cell? w _ hx343_2)).trans hx343_2
                                    replace hx343_3 := (HB.out.cell (World.block_lt_of_cell? w _ hx343_3)).trans hx343_3
                                    have HR343_3 := Aside0.mk hi343_3
                                    have HC343_3 := Aside0.mk hl343_3
                                    clear hi343_3 hl343_3
                                    replace p343 := eq_true p343
                                    replace q343 := eq_true q343
                                    go_wp2
                                    repeat (go_quiet (fail); try go_wp2)
                                    go_roundg kj8
                                    case measure => have := HJ1.out; have := HK2.out; have := HJ8.out; omega
                                    case rel => exact ⟨(wrap64 (x3_2 + 1)), (by first | rfl | (simp; done) | (simp [*]; done)), H', ⟨by have := HJ1.out; have := HK2.out; have := HJ8.out; omega⟩, ⟨by repeat (first | (with_reducible first | exact HB.out | apply below_alloc | apply pw_below_drewN | apply below_drew1) | exact HB.out)⟩⟩
                                  · rw [if_neg c22] at H
                                    have c22b0 : (((rd_T24 l0 x3_2).f0) == (Int.tmod (wrap64 (((rd_T24 l0 (ji19)).f0) + 1)) 256)) = false := beq_eq_false_iff_ne.mpr c22
                                    have c22b1 : (((rd_T24 l0 x3_2).f0) != (Int.tmod (wrap64 (((rd_T24 l0 (ji19)).f0) + 1)) 256)) = true := bne_iff_ne.mpr c22
                                    obtain rfl := Option.some.inj H
                                    have p342 : 0 ≤ (x3_2 : Int) := of_decide_eq_true (by first | (with_reducible assumption) | assumption)
                                    have q342 : x3_2 < (l0.length : Int) := of_decide_eq_true (by first | (with_reducible assumption) | assumption)
                                    obtain ⟨ad342, A342_3, c342_3, e342, hx342_0, hx342_1, hx342_2, hx342_3, hl342_3, hi342_3⟩ := at_T24 HR0.out x3_2 p342 q342
                                    obtain rfl : ad338 = ad342 := (by injection e342)
                                    replace hx342_0 := (HB.out.cell (World.block_lt_of_cell? w _ hx342_0)).trans hx342_0
                                    replace hx342_1 := (HB.out.cell (World.block_lt_of_cell? w _ hx342_1)).trans hx342_1
                                    replace hx342_2 := (HB.out.cell (World.block_lt_of_cell? w _ hx342_2)).trans hx342_2
                                    replace hx342_3 := (HB.out.cell (World.block_lt_of_cell? w _ hx342_3)).trans hx342_3
                                    have HR342_3 := Aside0.mk hi342_3
                                    have HC342_3 := Aside0.mk hl342_3
                                    clear hi342_3 hl342_3
                                    replace p342 := eq_true p342
                                    replace q342 := eq_true q342
                                    have p343 : 0 ≤ ((ji19) : Int) := of_decide_eq_true (by first | (with_reducible assumption) | assumption)
                                    have q343 : (ji19) < (l0.length : Int) := of_decide_eq_true (by first | (with_reducible assumption) | assumption)
                                    obtain ⟨ad343, A343_3, c343_3, e343, hx343_0, hx343_1, hx343_2, hx343_3, hl343_3, hi343_3⟩ := at_T24 HR0.out (ji19) p343 q343
                                    obtain rfl : ad338 = ad343 := (by injection e343)
                                    replace hx343_0 := (HB.out.cell (World.block_lt_of_cell? w _ hx343_0)).trans hx343_0
                                    replace hx343_1 := (HB.out.cell (World.block_lt_of_cell? w _ hx343_1)).trans hx343_1
                                    replace hx343_2 := (HB.out.cell (World.block_lt_of_cell? w _ hx343_2)).trans hx343_2
                                    replace hx343_3 := (HB.out.cell (World.block_lt_of_cell? w _ hx343_3)).trans hx343_3
                                    have HR343_3 := Aside0.mk hi343_3
                                    have HC343_3 := Aside0.mk hl343_3
                                    clear hi343_3 hl343_3
                                    replace p343 := eq_true p343
                                    replace q343 := eq_true q343
                                    go_wp2
                                    repeat (go_quiet (fail); try go_wp2)
                                    go_ret
                                    exact ⟨by first | rfl | (simp [errW_none, errW_some] <;> rfl) | (simp only [← hji19]; first | rfl | (simp [errW_none, errW_some] <;> rfl)) | (simp [*, errW_none, errW_some] <;> rfl), by repeat (first | (with_reducible first | exact HB.out | apply below_alloc | apply pw_below_drewN | apply below_drew1) | exact HB.out)⟩
                                · rw [if_neg c21] at H
                                  exact absurd H (by simp)
                              · rw [if_neg c20] at H
                                exact absurd H (by simp)
                            · rw [if_neg c18] at H
                              exact absurd H (by simp)
                          · rw [if_neg c17] at H
                            exact absurd H (by simp)
                        · rw [if_neg c16] at H
                          have c16b0 : decide (0 < x3_2) = false := decide_eq_false c16
                          clear c16
                          have H' := Aside0.mk H
                          clear H
                          go_wp2
                          repeat (go_quiet (fail); try go_wp2)
                          go_roundg kj8
                          case measure => have := HJ1.out; have := HK2.out; have := HJ8.out; omega
                          case rel => exact ⟨(wrap64 (x3_2 + 1)), (by first | rfl | (simp; done) | (simp [*]; done)), H', ⟨by have := HJ1.out; have := HK2.out; have := HJ8.out; omega⟩, ⟨by repeat (first | (with_reducible first | exact HB.out | apply below_alloc | apply pw_below_drewN | apply below_drew1) | exact HB.out)⟩⟩
                · rw [if_neg c8] at H
                  have c8b0 : (t339 == 0) = false := beq_eq_false_iff_ne.mpr c8
                  have c8b1 : (t339 != 0) = true := bne_iff_ne.mpr c8
                  obtain rfl := Option.some.inj H
                  have p338 : 0 ≤ (x3_2 : Int) := of_decide_eq_true (by first | (with_reducible assumption) | assumption)
                  have q338 : x3_2 < (l0.length : Int) := of_decide_eq_true (by first | (with_reducible assumption) | assumption)
                  obtain ⟨ad338, A338_3, c338_3, e338, hx338_0, hx338_1, hx338_2, hx338_3, hl338_3, hi338_3⟩ := at_T24 HR0.out x3_2 p338 q338
                  cases e338
                  replace hx338_0 := (HB.out.cell (World.block_lt_of_cell? w _ hx338_0)).trans hx338_0
                  replace hx338_1 := (HB.out.cell (World.block_lt_of_cell? w _ hx338_1)).trans hx338_1
                  replace hx338_2 := (HB.out.cell (World.block_lt_of_cell? w _ hx338_2)).trans hx338_2
                  replace hx338_3 := (HB.out.cell (World.block_lt_of_cell? w _ hx338_3)).trans hx338_3
                  have HR338_3 := Aside0.mk hi338_3
                  have HC338_3 := Aside0.mk hl338_3
                  clear hi338_3 hl338_3
                  replace p338 := eq_true p338
                  replace q338 := eq_true q338
                  go_wp2_with (first | (go_at_call 25; (with_reducible refine (hopmeshref11_Check.calls k2 ((rd_T24 l0 x3_2).f0) ((rd_T24 l0 x3_2).f1) ((rd_T24 l0 x3_2).f2) _ _ ((rd_T24 l0 x3_2).f3) t339 _ ?side1 ?side2 A7.out).mono ?_); (case side1 => repeat (first | exact (Kd.C_below HR338_3.out HB.out) | (with_reducible refine Kd.C_alloc ?_ _) | (with_reducible refine Kd.C_drewN ?_ _) | (with_reducible refine Kd.C_drew ?_))); (case side2 => exact HC338_3.out); rintro e w23 ⟨rfl, hb⟩; have n0_ := Aside0.mk (below_step (by repeat (first | (with_reducible first | exact HB.out | apply below_alloc | apply pw_below_drewN | apply below_drew1) | exact HB.out)) hb); clear HB; have HB := n0_; clear n0_; (try clear hb); (try clear hb2); (try clear hk); (try clear hi)))
                  repeat (go_quiet (first | (go_at_call 25; (with_reducible refine (hopmeshref11_Check.calls k2 ((rd_T24 l0 x3_2).f0) ((rd_T24 l0 x3_2).f1) ((rd_T24 l0 x3_2).f2) _ _ ((rd_T24 l0 x3_2).f3) t339 _ ?side1 ?side2 A7.out).mono ?_); (case side1 => repeat (first | exact (Kd.C_below HR338_3.out HB.out) | (with_reducible refine Kd.C_alloc ?_ _) | (with_reducible refine Kd.C_drewN ?_ _) | (with_reducible refine Kd.C_drew ?_))); (case side2 => exact HC338_3.out); rintro e w23 ⟨rfl, hb⟩; have n0_ := Aside0.mk (below_step (by repeat (first | (with_reducible first | exact HB.out | apply below_alloc | apply pw_below_drewN | apply below_drew1) | exact HB.out)) hb); clear HB; have HB := n0_; clear n0_; (try clear hb); (try clear hb2); (try clear hk); (try clear hi))); try go_wp2_with (first | (go_at_call 25; (with_reducible refine (hopmeshref11_Check.calls k2 ((rd_T24 l0 x3_2).f0) ((rd_T24 l0 x3_2).f1) ((rd_T24 l0 x3_2).f2) _ _ ((rd_T24 l0 x3_2).f3) t339 _ ?side1 ?side2 A7.out).mono ?_); (case side1 => repeat (first | exact (Kd.C_below HR338_3.out HB.out) | (with_reducible refine Kd.C_alloc ?_ _) | (with_reducible refine Kd.C_drewN ?_ _) | (with_reducible refine Kd.C_drew ?_))); (case side2 => exact HC338_3.out); rintro e w23 ⟨rfl, hb⟩; have n0_ := Aside0.mk (below_step (by repeat (first | (with_reducible first | exact HB.out | apply below_alloc | apply pw_below_drewN | apply below_drew1) | exact HB.out)) hb); clear HB; have HB := n0_; clear n0_; (try clear hb); (try clear hb2); (try clear hk); (try clear hi))))
                  go_ret
                  exact ⟨by first | rfl | (simp [errW_none, errW_some] <;> rfl) | (simp [*, errW_none, errW_some] <;> rfl), by repeat (first | (with_reducible first | exact HB.out | apply below_alloc | apply pw_below_drewN | apply below_drew1) | exact HB.out)⟩
              · rw [if_neg c6] at H
                exact absurd H (by simp)
            · rw [if_neg c5] at H
              have c5b0 : decide (x3_2 < (l0.length : Int)) = false := decide_eq_false c5
              clear c5
              obtain rfl := Option.some.inj H
              go_wp2
              repeat (go_quiet (fail); try go_wp2)
              go_ret
              exact ⟨by first | rfl | (simp [errW_none, errW_some] <;> rfl) | (simp [*, errW_none, errW_some] <;> rfl), by repeat (first | (with_reducible first | exact HB.out | apply below_alloc | apply pw_below_drewN | apply below_drew1) | exact HB.out)⟩

end Go.Proofs.Ytddcacomphkeiaa.PA
