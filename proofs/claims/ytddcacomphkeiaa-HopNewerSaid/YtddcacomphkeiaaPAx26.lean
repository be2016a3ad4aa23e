-- Written by a program of this session (mkprint.py: the kit's print, changed) for this claim. Not trusted: Lean checks it.
import Derived.Test.YtddcacomphkeiaaPAx0
import Derived.Test.YtddcacomphkeiaaPAx25
namespace Go.Proofs.Ytddcacomphkeiaa.PA
open Go.RowKit Go.Proofs.YtddcacomphkeiaaW.PrintWords Go.Proofs.YtddcacomphkeiaaW.PrintLast Go.Proofs.YtddcacomphkeiaaW.PrintMore
attribute [local go_sem] max2_int min2_int max_two min_two max_three min_three max_four min_four   -- for this text's walks alone
set_option linter.unusedVariables false
set_option linter.unusedSimpArgs false

/-! ### hopmeshref11_InForce: function 31 -/
def hopmeshref11_InForce.l0 : Nat → List (S24) → Int → Int → Option (Int × Int × Int × List Int × Int)
  | 0, _, _, _ => none
  | k + 1, x0, x1, x7 => if x7 < (x0.length : Int) then (if 0 ≤ x7 then (if ((rd_T24 x0 x7).f1) ≤ x1 then (if x1 < ((rd_T24 x0 x7).f2) then (some ((rd_T24 x0 x7).f0, (rd_T24 x0 x7).f1, (rd_T24 x0 x7).f2, (rd_T24 x0 x7).f3, 0)) else (hopmeshref11_InForce.l0 k x0 x1 (wrap64 (x7 + 1)))) else (hopmeshref11_InForce.l0 k x0 x1 (wrap64 (x7 + 1)))) else (none)) else (some (0, 0, 0, ([] : List Int), 7))
def hopmeshref11_InForce.f (k : Nat) (l0 : List (S24)) (a1 : Int) : Option (Int × Int × Int × List Int × Int) := (hopmeshref11_CheckAll.f k l0).bind fun t345 => (if t345 = 0 then (hopmeshref11_InForce.l0 k l0 a1 0) else (some (0, 0, 0, ([] : List Int), t345)))
theorem hopmeshref11_InForce.mono_l : ∀ k, (∀ y0 y1 y2, LeO (hopmeshref11_InForce.l0 k y0 y1 y2) (hopmeshref11_InForce.l0 (k + 1) y0 y1 y2))
  | 0 => fun _ _ _ r h => by simp [hopmeshref11_InForce.l0] at h
  | k + 1 => by
    have ih0 := hopmeshref11_InForce.mono_l k
    · intro y0 y1 y2
      unfold hopmeshref11_InForce.l0
      repeat' first
      | (with_reducible exact ih0 _ _ _)
      | (with_reducible exact hopmeshref11_CheckAll.mono _ _)
      | (with_reducible exact LeO.refl _)
      | (with_reducible exact LeO.none _)
      | (with_reducible refine LeO.ite ?_ ?_)
      | (with_reducible refine LeO.bind ?_ (fun _ => ?_))
      | exact ih0 _ _ _
      | exact hopmeshref11_CheckAll.mono _ _
      | exact LeO.none _
      | refine LeO.ite ?_ ?_
      | refine LeO.bind ?_ (fun _ => ?_)
theorem hopmeshref11_InForce.mono : ∀ a0 a1 k, LeO (hopmeshref11_InForce.f k a0 a1) (hopmeshref11_InForce.f (k + 1) a0 a1) := by
  intro a0 a1 k
  have ih0 := hopmeshref11_InForce.mono_l k
  unfold hopmeshref11_InForce.f
  repeat' first
      | (with_reducible exact ih0 _ _ _)
      | (with_reducible exact hopmeshref11_CheckAll.mono _ _)
      | (with_reducible exact LeO.refl _)
      | (with_reducible exact LeO.none _)
      | (with_reducible refine LeO.ite ?_ ?_)
      | (with_reducible refine LeO.bind ?_ (fun _ => ?_))
      | exact ih0 _ _ _
      | exact hopmeshref11_CheckAll.mono _ _
      | exact LeO.none _
      | refine LeO.ite ?_ ?_
      | refine LeO.bind ?_ (fun _ => ?_)
set_option maxHeartbeats 8000000 in
set_option maxRecDepth 100000 in
theorem hopmeshref11_InForce.calls (k : Nat) (P0_ : Nat → Prop) (A0 : Option Addr) (c0 : Nat) (l0 : List (S24)) (a1 : Int) (r1 : Int) (r2 : Int) (r3 : Int) (r4 : List Int) (r5 : Int) (w : World) (hs0 : Kd.V k24 24 w w.heap.size (fun k_ => P0_ k_) (.slice A0 l0.length c0) l0) (h : hopmeshref11_InForce.f k l0 a1 = some (r1, r2, r3, r4, r5)) :
    Calls Try.prog 31 #[.slice A0 l0.length c0, .int .i64 a1] w fun e w' => ∃ v3_ : Value, e = .returned (.tuple #[.agg #[.int .i64 r1, .int .i64 r2, .int .i64 r3, v3_], .int .i64 r5]) ∧ Kd.V (Kd.int .i64) 3 w' w.heap.size (fun k_ => (P0_ k_ ∨ w.heap.size ≤ k_)) v3_ r4 ∧ Below w.heap.size w w' := by
  have hu24 := Try.underlying24
  have HO0 := Aside0.mk (show Kd.V k24 24 w w.heap.size (fun k_ => (P0_ k_ ∨ w.heap.size ≤ k_)) (.slice A0 l0.length c0) l0 from Kd.V_mono hs0 (fun k_ hk => .inl hk))
  have HB := Aside0.mk (Below.refl w.heap.size w)
  have H : ((hopmeshref11_CheckAll.f k l0).bind fun t345 => (if t345 = 0 then (hopmeshref11_InForce.l0 k l0 a1 0) else (some (0, 0, 0, ([] : List Int), t345)))) = some (r1, r2, r3, r4, r5) := h
  clear h
  replace H := Option.bind_eq_some_iff.mp H
  obtain ⟨t345, A30, H⟩ := H
  replace H : (if t345 = 0 then (hopmeshref11_InForce.l0 k l0 a1 0) else (some (0, 0, 0, ([] : List Int), t345))) = some (r1, r2, r3, r4, r5) := H
  have A3 := Aside0.mk A30
  clear A30
  by_cases c4 : t345 = 0
  · rw [if_pos c4] at H
    have c4b0 : (t345 == 0) = true := beq_iff_eq.mpr c4
    have c4b1 : (t345 != 0) = false := bne_eq_false_iff_eq.mpr c4
    clear c4
    have H' := Aside0.mk H
    clear H
    go_enter Try.func31, Try.ntmps31
    go_wp2_with (first | ((with_reducible refine gate_dst (N := 4) rfl ?_); refine box_event ?hg (N := 4) ?hd (cs := #[.int .i64 0, .int .i64 0, .int .i64 0, .slice none 0 0]) (t := 24) ?hr ?_; (case hd => rfl); (case hg => rfl); (case hr => first | (go_simp; done) | (go_simp; rfl)); intro gb344 hg w5 hbox hb; have n0_ := Aside0.mk (Kd.V_below (Kd.V_elderB (by (with_reducible repeat (first | apply Kd.V_alloc | apply Kd.V_drewN | apply Kd.V_drew)); exact HO0.out) gb344 (Nat.le_of_eq hg.symm)) hb); have n1_ := Aside0.mk (below_step (by repeat (first | (with_reducible first | exact HB.out | apply below_alloc | apply pw_below_drewN | apply below_drew1) | exact HB.out)) hb); have n2_ := Aside0.mk (hbox); have n3_ := Aside0.mk ((by rw [hg]; exact (below_size (by repeat (first | (with_reducible first | exact HB.out | apply below_alloc | apply pw_below_drewN | apply below_drew1) | exact HB.out))) : w.heap.size ≤ gb344)); have n4_ := Aside0.mk ((by rw [hg]; exact (below_size (by repeat (first | (with_reducible first | exact HB.out | apply below_alloc | apply pw_below_drewN | apply below_drew1) | exact HB.out))) : w.heap.size ≤ gb344)); clear HO0; clear HB; have HO0 := n0_; have HB := n1_; have BK344 := n2_; have GW344 := n3_; have GE344 := n4_; clear n0_ n1_ n2_ n3_ n4_; clear hb hbox hg) | ((with_reducible refine gate_callee (f := 32) rfl ?_); refine goesL_ (some 9) rfl rfl Try.func32 (by kernel_rfl) rfl #[.slice A0 l0.length c0] rfl (by (try simp only [List.map_toArray, List.map_cons, List.map_nil]); first | done | rfl | (simp only [List.length_drop, List.length_take]; rfl)) ?_; (with_reducible refine (hopmeshref11_CheckAll.calls k _ _ l0 t345 _ ?side1 ?side2 A3.out).mono ?_); (case side1 => repeat (first | exact (Kd.V_reads' HO0.out).2.2 | (with_reducible refine Kd.C_alloc ?_ _) | (with_reducible refine Kd.C_drewN ?_ _) | (with_reducible refine Kd.C_drew ?_))); (case side2 => exact (Kd.V_reads' HO0.out).2.1); rintro e w6 ⟨rfl, hb⟩; refine ⟨_, rfl, ?_⟩; have n0_ := Aside0.mk (Kd.V_below (by (with_reducible repeat (first | apply Kd.V_alloc | apply Kd.V_drewN | apply Kd.V_drew)); exact HO0.out) hb); have n1_ := Aside0.mk (blk_below (g := gb344) (o := .cells #[.int .i64 0, .int .i64 0, .int .i64 0, .slice none 0 0] 24 (0, 0)) (by (with_reducible repeat (first | refine blk_drewN ?_ _ | refine blk_drew ?_ | refine blk_alloc ?_ _)); exact BK344.out) hb); have n2_ := Aside0.mk (below_step (by repeat (first | (with_reducible first | exact HB.out | apply below_alloc | apply pw_below_drewN | apply below_drew1 | refine below_set ?_ GE344.out) | exact HB.out)) hb); clear HO0; clear BK344; clear HB; have HO0 := n0_; have BK344 := n1_; have HB := n2_; clear n0_ n1_ n2_; (try clear hb); (try clear hb2); (try clear hk); (try clear hi)))
    go_loopg [7] k (fun kq v7 w' => ∃ (x7_1 : Int) (x345000_1 : Int) (x345001_1 : Int) (x345002_1 : Int), v7 = .int .i64 x7_1 ∧ Aside0 (hopmeshref11_InForce.l0 kq l0 a1 x7_1 = some (r1, r2, r3, r4, r5)) ∧ Aside0 (kq ≤ k) ∧ Aside0 (Kd.V k24 24 w' w.heap.size (fun k_ => (P0_ k_ ∨ w.heap.size ≤ k_) ∧ k_ ≠ gb344) (.slice A0 l0.length c0) l0) ∧ Aside0 (w'.heap[gb344]? = some (.cells #[.int .i64 x345000_1, .int .i64 x345001_1, .int .i64 x345002_1, (.slice none 0 0)] 24 (0, 0))) ∧ Aside0 (Below w.heap.size w w'))
    case atStart => exact ⟨(0), (0), (0), (0), (by first | rfl | (simp; done) | (simp [*]; done)), H', ⟨Nat.le_refl _⟩, ⟨by (with_reducible repeat (first | apply Kd.V_alloc | apply Kd.V_drewN | apply Kd.V_drew)); exact HO0.out⟩, ⟨by (with_reducible repeat (first | refine blk_drewN ?_ _ | refine blk_drew ?_ | refine blk_alloc ?_ _)); exact BK344.out⟩, ⟨by repeat (first | (with_reducible first | exact HB.out | apply below_alloc | apply pw_below_drewN | apply below_drew1 | refine below_set ?_ GE344.out) | exact HB.out)⟩⟩
    case round =>
      clear H'
      try clear p2
      try clear c3
      try clear c4
      try clear c4b0
      try clear c4b1
      obtain ⟨x7_1, x345000_1, x345001_1, x345002_1, rfl, HA, HK1, HO_0, BK344, HB⟩ := hrel
      cases gk with
      | zero => exact absurd HA.out (by simp [hopmeshref11_InForce.l0])
      | succ k1 =>
        have H := HA.out
        clear HA
        simp only [hopmeshref11_InForce.l0] at H
        by_cases c7 : x7_1 < (l0.length : Int)
        · rw [if_pos c7] at H
          have c7b0 : decide (x7_1 < (l0.length : Int)) = true := decide_eq_true c7
          clear c7
          by_cases c8 : 0 ≤ x7_1
          · rw [if_pos c8] at H
            have c8b0 : decide (0 ≤ x7_1) = true := decide_eq_true c8
            clear c8
            by_cases c9 : ((rd_T24 l0 x7_1).f1) ≤ a1
            · rw [if_pos c9] at H
              have c9b0 : decide (((rd_T24 l0 x7_1).f1) ≤ a1) = true := decide_eq_true c9
              clear c9
              by_cases c10 : a1 < ((rd_T24 l0 x7_1).f2)
              · rw [if_pos c10] at H
                have c10b0 : decide (a1 < ((rd_T24 l0 x7_1).f2)) = true := decide_eq_true c10
                clear c10
                simp only [Option.some.injEq, Prod.mk.injEq] at H
                obtain ⟨rfl, rfl, rfl, rfl, rfl⟩ := H
                have p346 : 0 ≤ (x7_1 : Int) := of_decide_eq_true (by first | (with_reducible assumption) | assumption)
                have q346 : x7_1 < (l0.length : Int) := of_decide_eq_true (by first | (with_reducible assumption) | assumption)
                obtain ⟨ad346, A346_3, c346_3, e346, hx346_0, hx346_1, hx346_2, hx346_3, hl346_3, hi346_3⟩ := at_T24 (Kd.V_reads' HO_0.out).2.2 x7_1 p346 q346
                cases e346
                obtain ⟨ce346, hce346, hMe346, hcc346⟩ := Kd.V_get HO_0.out z24 x7_1 p346 (by first | exact q346 | exact of_decide_eq_true (by first | (with_reducible assumption) | assumption) | (have e_ := (Kd.V_reads' HO_0.out).1; omega))
                obtain ⟨ua346_3, uc346_3, rfl, ul346_3, ge346_3⟩ := k24_openF hMe346
                have hv346_3 := hcc346 3 _ rfl
                rw [add_field _ _ 3 (by omega)] at hv346_3
                replace hv346_3 := Option.some.inj (hv346_3.symm.trans hx346_3)
                injection hv346_3 with hva_ hvn_ hvc_
                rw [hva_] at ge346_3
                rw [hvc_] at ul346_3
                have HL346_3 := Aside0.mk (show Kd.V (Kd.int .i64) 3 _ w.heap.size _ _ ((rd_T24 l0 x7_1).f3) from Kd.V_mk ul346_3 ge346_3)
                clear hva_ hvn_ hvc_ ge346_3 ul346_3
                clear hcc346 hce346
                have HR346_3 := Aside0.mk hi346_3
                have HC346_3 := Aside0.mk hl346_3
                clear hi346_3 hl346_3
                replace p346 := eq_true p346
                replace q346 := eq_true q346
                have p347 : 0 ≤ (x7_1 : Int) := of_decide_eq_true (by first | (with_reducible assumption) | assumption)
                have q347 : x7_1 < (l0.length : Int) := of_decide_eq_true (by first | (with_reducible assumption) | assumption)
                obtain ⟨ad347, A347_3, c347_3, e347, hx347_0, hx347_1, hx347_2, hx347_3, hl347_3, hi347_3⟩ := at_T24 (Kd.V_reads' HO_0.out).2.2 x7_1 p347 q347
                obtain rfl : ad346 = ad347 := (by injection e347)
                obtain ⟨ce347, hce347, hMe347, hcc347⟩ := Kd.V_get HO_0.out z24 x7_1 p347 (by first | exact q347 | exact of_decide_eq_true (by first | (with_reducible assumption) | assumption) | (have e_ := (Kd.V_reads' HO_0.out).1; omega))
                obtain ⟨ua347_3, uc347_3, rfl, ul347_3, ge347_3⟩ := k24_openF hMe347
                have hv347_3 := hcc347 3 _ rfl
                rw [add_field _ _ 3 (by omega)] at hv347_3
                replace hv347_3 := Option.some.inj (hv347_3.symm.trans hx347_3)
                injection hv347_3 with hva_ hvn_ hvc_
                rw [hva_] at ge347_3
                rw [hvc_] at ul347_3
                have HL347_3 := Aside0.mk (show Kd.V (Kd.int .i64) 3 _ w.heap.size _ _ ((rd_T24 l0 x7_1).f3) from Kd.V_mk ul347_3 ge347_3)
                clear hva_ hvn_ hvc_ ge347_3 ul347_3
                clear hcc347 hce347
                have HR347_3 := Aside0.mk hi347_3
                have HC347_3 := Aside0.mk hl347_3
                clear hi347_3 hl347_3
                replace p347 := eq_true p347
                replace q347 := eq_true q347
                have ea_ := Option.some.inj (hx346_3.symm.trans hx347_3)
                injection ea_ with ea_ en_ ec_
                subst ea_
                subst ec_
                clear en_
                have p348 : 0 ≤ (x7_1 : Int) := of_decide_eq_true (by first | (with_reducible assumption) | assumption)
                have q348 : x7_1 < (l0.length : Int) := of_decide_eq_true (by first | (with_reducible assumption) | assumption)
                obtain ⟨ad348, A348_3, c348_3, e348, hx348_0, hx348_1, hx348_2, hx348_3, hl348_3, hi348_3⟩ := at_T24 (Kd.V_reads' HO_0.out).2.2 x7_1 p348 q348
                obtain rfl : ad346 = ad348 := (by injection e348)
                obtain ⟨ce348, hce348, hMe348, hcc348⟩ := Kd.V_get HO_0.out z24 x7_1 p348 (by first | exact q348 | exact of_decide_eq_true (by first | (with_reducible assumption) | assumption) | (have e_ := (Kd.V_reads' HO_0.out).1; omega))
                obtain ⟨ua348_3, uc348_3, rfl, ul348_3, ge348_3⟩ := k24_openF hMe348
                have hv348_3 := hcc348 3 _ rfl
                rw [add_field _ _ 3 (by omega)] at hv348_3
                replace hv348_3 := Option.some.inj (hv348_3.symm.trans hx348_3)
                injection hv348_3 with hva_ hvn_ hvc_
                rw [hva_] at ge348_3
                rw [hvc_] at ul348_3
                have HL348_3 := Aside0.mk (show Kd.V (Kd.int .i64) 3 _ w.heap.size _ _ ((rd_T24 l0 x7_1).f3) from Kd.V_mk ul348_3 ge348_3)
                clear hva_ hvn_ hvc_ ge348_3 ul348_3
                clear hcc348 hce348
                have HR348_3 := Aside0.mk hi348_3
                have HC348_3 := Aside0.mk hl348_3
                clear hi348_3 hl348_3
                replace p348 := eq_true p348
                replace q348 := eq_true q348
                have ea_ := Option.some.inj (hx346_3.symm.trans hx348_3)
                injection ea_ with ea_ en_ ec_
                subst ea_
                subst ec_
                clear en_
                have hcz11_0 : wr.cell? ⟨gb344, 0, none⟩ = some (.int .i64 x345000_1) := (blk_cell BK344.out 0).trans rfl
                have hcz11_1 : wr.cell? ⟨gb344, 1, none⟩ = some (.int .i64 x345001_1) := (blk_cell BK344.out 1).trans rfl
                have hcz11_2 : wr.cell? ⟨gb344, 2, none⟩ = some (.int .i64 x345002_1) := (blk_cell BK344.out 2).trans rfl
                have hcz11_3 : wr.cell? ⟨gb344, 3, none⟩ = some (.slice none 0 0) := (blk_cell BK344.out 3).trans rfl
                have hfz11_0 := blk_frozen BK344.out 0
                have hfz11_1 := blk_frozen BK344.out 1
                have hfz11_2 := blk_frozen BK344.out 2
                have hfz11_3 := blk_frozen BK344.out 3
                go_wp2
                refine bodyPost_ret (results_ct rfl _ _ gb344 24 #[.int .i64 ((rd_T24 l0 x7_1).f0), .int .i64 ((rd_T24 l0 x7_1).f1), .int .i64 ((rd_T24 l0 x7_1).f2), .slice A346_3 ((rd_T24 l0 x7_1).f3).length c346_3] (0, 0) _ rfl (by (with_reducible repeat (first | refine blk_drewN ?_ _ | refine blk_drew ?_ | refine blk_alloc ?_ _)); refine blk_put (cs := #[.int .i64 ((rd_T24 l0 x7_1).f0), .int .i64 ((rd_T24 l0 x7_1).f1), .int .i64 ((rd_T24 l0 x7_1).f2), .slice none 0 0]) ?_ 3 _ rfl; (with_reducible repeat (first | refine blk_drewN ?_ _ | refine blk_drew ?_ | refine blk_alloc ?_ _)); refine blk_put (cs := #[.int .i64 ((rd_T24 l0 x7_1).f0), .int .i64 ((rd_T24 l0 x7_1).f1), .int .i64 x345002_1, .slice none 0 0]) ?_ 2 _ rfl; (with_reducible repeat (first | refine blk_drewN ?_ _ | refine blk_drew ?_ | refine blk_alloc ?_ _)); refine blk_put (cs := #[.int .i64 ((rd_T24 l0 x7_1).f0), .int .i64 x345001_1, .int .i64 x345002_1, .slice none 0 0]) ?_ 1 _ rfl; (with_reducible repeat (first | refine blk_drewN ?_ _ | refine blk_drew ?_ | refine blk_alloc ?_ _)); refine blk_put (cs := #[.int .i64 x345000_1, .int .i64 x345001_1, .int .i64 x345002_1, .slice none 0 0]) ?_ 0 _ rfl; (with_reducible repeat (first | refine blk_drewN ?_ _ | refine blk_drew ?_ | refine blk_alloc ?_ _)); exact BK344.out) Try.underlying24 rfl (by kernel_rfl)) rfl ?_
                exact ⟨_, by first | rfl | (simp [errW_none, errW_some] <;> rfl) | (simp [*, errW_none, errW_some] <;> rfl), by (with_reducible repeat (first | apply Kd.V_alloc | apply Kd.V_drewN | apply Kd.V_drew)); exact Kd.V_mono (Kd.V_far (p := ⟨gb344, 3, none⟩) (Kd.V_far (p := ⟨gb344, 2, none⟩) (Kd.V_far (p := ⟨gb344, 1, none⟩) (Kd.V_far (p := ⟨gb344, 0, none⟩) (Kd.V_mono HL348_3.out (fun k_ hk => (⟨hk, hk.2⟩ : _ ∧ k_ ≠ gb344))) (fun _ hk => hk.2) (.int .i64 ((rd_T24 l0 x7_1).f0))) (fun _ hk => hk.2) (.int .i64 ((rd_T24 l0 x7_1).f1))) (fun _ hk => hk.2) (.int .i64 ((rd_T24 l0 x7_1).f2))) (fun _ hk => hk.2) (.slice A346_3 ((rd_T24 l0 x7_1).f3).length c346_3)) (fun _ hk => hk.1.1), by repeat (first | (with_reducible first | exact HB.out | apply below_alloc | apply pw_below_drewN | apply below_drew1 | refine below_set ?_ GE344.out) | exact HB.out)⟩
              · rw [if_neg c10] at H
                have c10b0 : decide (a1 < ((rd_T24 l0 x7_1).f2)) = false := decide_eq_false c10
                clear c10
                have H' := Aside0.mk H
                clear H
                have p346 : 0 ≤ (x7_1 : Int) := of_decide_eq_true (by first | (with_reducible assumption) | assumption)
                have q346 : x7_1 < (l0.length : Int) := of_decide_eq_true (by first | (with_reducible assumption) | assumption)
                obtain ⟨ad346, A346_3, c346_3, e346, hx346_0, hx346_1, hx346_2, hx346_3, hl346_3, hi346_3⟩ := at_T24 (Kd.V_reads' HO_0.out).2.2 x7_1 p346 q346
                cases e346
                obtain ⟨ce346, hce346, hMe346, hcc346⟩ := Kd.V_get HO_0.out z24 x7_1 p346 (by first | exact q346 | exact of_decide_eq_true (by first | (with_reducible assumption) | assumption) | (have e_ := (Kd.V_reads' HO_0.out).1; omega))
                obtain ⟨ua346_3, uc346_3, rfl, ul346_3, ge346_3⟩ := k24_openF hMe346
                have hv346_3 := hcc346 3 _ rfl
                rw [add_field _ _ 3 (by omega)] at hv346_3
                replace hv346_3 := Option.some.inj (hv346_3.symm.trans hx346_3)
                injection hv346_3 with hva_ hvn_ hvc_
                rw [hva_] at ge346_3
                rw [hvc_] at ul346_3
                have HL346_3 := Aside0.mk (show Kd.V (Kd.int .i64) 3 _ w.heap.size _ _ ((rd_T24 l0 x7_1).f3) from Kd.V_mk ul346_3 ge346_3)
                clear hva_ hvn_ hvc_ ge346_3 ul346_3
                clear hcc346 hce346
                have HR346_3 := Aside0.mk hi346_3
                have HC346_3 := Aside0.mk hl346_3
                clear hi346_3 hl346_3
                replace p346 := eq_true p346
                replace q346 := eq_true q346
                have p347 : 0 ≤ (x7_1 : Int) := of_decide_eq_true (by first | (with_reducible assumption) | assumption)
                have q347 : x7_1 < (l0.length : Int) := of_decide_eq_true (by first | (with_reducible assumption) | assumption)
                obtain ⟨ad347, A347_3, c347_3, e347, hx347_0, hx347_1, hx347_2, hx347_3, hl347_3, hi347_3⟩ := at_T24 (Kd.V_reads' HO_0.out).2.2 x7_1 p347 q347
                obtain rfl : ad346 = ad347 := (by injection e347)
                obtain ⟨ce347, hce347, hMe347, hcc347⟩ := Kd.V_get HO_0.out z24 x7_1 p347 (by first | exact q347 | exact of_decide_eq_true (by first | (with_reducible assumption) | assumption) | (have e_ := (Kd.V_reads' HO_0.out).1; omega))
                obtain ⟨ua347_3, uc347_3, rfl, ul347_3, ge347_3⟩ := k24_openF hMe347
                have hv347_3 := hcc347 3 _ rfl
                rw [add_field _ _ 3 (by omega)] at hv347_3
                replace hv347_3 := Option.some.inj (hv347_3.symm.trans hx347_3)
                injection hv347_3 with hva_ hvn_ hvc_
                rw [hva_] at ge347_3
                rw [hvc_] at ul347_3
                have HL347_3 := Aside0.mk (show Kd.V (Kd.int .i64) 3 _ w.heap.size _ _ ((rd_T24 l0 x7_1).f3) from Kd.V_mk ul347_3 ge347_3)
                clear hva_ hvn_ hvc_ ge347_3 ul347_3
                clear hcc347 hce347
                have HR347_3 := Aside0.mk hi347_3
                have HC347_3 := Aside0.mk hl347_3
                clear hi347_3 hl347_3
                replace p347 := eq_true p347
                replace q347 := eq_true q347
                have ea_ := Option.some.inj (hx346_3.symm.trans hx347_3)
                injection ea_ with ea_ en_ ec_
                subst ea_
                subst ec_
                clear en_
                go_wp2
                go_roundg k1
                case measure => have := HK1.out; omega
                case rel => exact ⟨(wrap64 (x7_1 + 1)), (x345000_1), (x345001_1), (x345002_1), (by first | rfl | (simp; done) | (simp [*]; done)), H', ⟨by have := HK1.out; omega⟩, ⟨by (with_reducible repeat (first | apply Kd.V_alloc | apply Kd.V_drewN | apply Kd.V_drew)); exact HO_0.out⟩, ⟨by (with_reducible repeat (first | refine blk_drewN ?_ _ | refine blk_drew ?_ | refine blk_alloc ?_ _)); exact BK344.out⟩, ⟨by repeat (first | (with_reducible first | exact HB.out | apply below_alloc | apply pw_below_drewN | apply below_drew1 | refine below_set ?_ GE344.out) | exact HB.out)⟩⟩
            · rw [if_neg c9] at H
              have c9b0 : decide (((rd_T24 l0 x7_1).f1) ≤ a1) = false := decide_eq_false c9
              clear c9
              have H' := Aside0.mk H
              clear H
              have p346 : 0 ≤ (x7_1 : Int) := of_decide_eq_true (by first | (with_reducible assumption) | assumption)
              have q346 : x7_1 < (l0.length : Int) := of_decide_eq_true (by first | (with_reducible assumption) | assumption)
              obtain ⟨ad346, A346_3, c346_3, e346, hx346_0, hx346_1, hx346_2, hx346_3, hl346_3, hi346_3⟩ := at_T24 (Kd.V_reads' HO_0.out).2.2 x7_1 p346 q346
              cases e346
              obtain ⟨ce346, hce346, hMe346, hcc346⟩ := Kd.V_get HO_0.out z24 x7_1 p346 (by first | exact q346 | exact of_decide_eq_true (by first | (with_reducible assumption) | assumption) | (have e_ := (Kd.V_reads' HO_0.out).1; omega))
              obtain ⟨ua346_3, uc346_3, rfl, ul346_3, ge346_3⟩ := k24_openF hMe346
              have hv346_3 := hcc346 3 _ rfl
              rw [add_field _ _ 3 (by omega)] at hv346_3
              replace hv346_3 := Option.some.inj (hv346_3.symm.trans hx346_3)
              injection hv346_3 with hva_ hvn_ hvc_
              rw [hva_] at ge346_3
              rw [hvc_] at ul346_3
              have HL346_3 := Aside0.mk (show Kd.V (Kd.int .i64) 3 _ w.heap.size _ _ ((rd_T24 l0 x7_1).f3) from Kd.V_mk ul346_3 ge346_3)
              clear hva_ hvn_ hvc_ ge346_3 ul346_3
              clear hcc346 hce346
              have HR346_3 := Aside0.mk hi346_3
              have HC346_3 := Aside0.mk hl346_3
              clear hi346_3 hl346_3
              replace p346 := eq_true p346
              replace q346 := eq_true q346
              go_wp2
              go_roundg k1
              case measure => have := HK1.out; omega
              case rel => exact ⟨(wrap64 (x7_1 + 1)), (x345000_1), (x345001_1), (x345002_1), (by first | rfl | (simp; done) | (simp [*]; done)), H', ⟨by have := HK1.out; omega⟩, ⟨by (with_reducible repeat (first | apply Kd.V_alloc | apply Kd.V_drewN | apply Kd.V_drew)); exact HO_0.out⟩, ⟨by (with_reducible repeat (first | refine blk_drewN ?_ _ | refine blk_drew ?_ | refine blk_alloc ?_ _)); exact BK344.out⟩, ⟨by repeat (first | (with_reducible first | exact HB.out | apply below_alloc | apply pw_below_drewN | apply below_drew1 | refine below_set ?_ GE344.out) | exact HB.out)⟩⟩
          · rw [if_neg c8] at H
            exact absurd H (by simp)
        · rw [if_neg c7] at H
          have c7b0 : decide (x7_1 < (l0.length : Int)) = false := decide_eq_false c7
          clear c7
          simp only [Option.some.injEq, Prod.mk.injEq] at H
          obtain ⟨rfl, rfl, rfl, rfl, rfl⟩ := H
          have hcz12_0 : wr.cell? ⟨gb344, 0, none⟩ = some (.int .i64 x345000_1) := (blk_cell BK344.out 0).trans rfl
          have hcz12_1 : wr.cell? ⟨gb344, 1, none⟩ = some (.int .i64 x345001_1) := (blk_cell BK344.out 1).trans rfl
          have hcz12_2 : wr.cell? ⟨gb344, 2, none⟩ = some (.int .i64 x345002_1) := (blk_cell BK344.out 2).trans rfl
          have hcz12_3 : wr.cell? ⟨gb344, 3, none⟩ = some (.slice none 0 0) := (blk_cell BK344.out 3).trans rfl
          have hfz12_0 := blk_frozen BK344.out 0
          have hfz12_1 := blk_frozen BK344.out 1
          have hfz12_2 := blk_frozen BK344.out 2
          have hfz12_3 := blk_frozen BK344.out 3
          go_wp2
          refine bodyPost_ret (results_ct rfl _ _ gb344 24 #[.int .i64 0, .int .i64 0, .int .i64 0, .slice none 0 0] (0, 0) _ rfl (by (with_reducible repeat (first | refine blk_drewN ?_ _ | refine blk_drew ?_ | refine blk_alloc ?_ _)); refine blk_put (cs := #[.int .i64 0, .int .i64 0, .int .i64 0, .slice none 0 0]) ?_ 3 _ rfl; (with_reducible repeat (first | refine blk_drewN ?_ _ | refine blk_drew ?_ | refine blk_alloc ?_ _)); refine blk_put (cs := #[.int .i64 0, .int .i64 0, .int .i64 x345002_1, .slice none 0 0]) ?_ 2 _ rfl; (with_reducible repeat (first | refine blk_drewN ?_ _ | refine blk_drew ?_ | refine blk_alloc ?_ _)); refine blk_put (cs := #[.int .i64 0, .int .i64 x345001_1, .int .i64 x345002_1, .slice none 0 0]) ?_ 1 _ rfl; (with_reducible repeat (first | refine blk_drewN ?_ _ | refine blk_drew ?_ | refine blk_alloc ?_ _)); refine blk_put (cs := #[.int .i64 x345000_1, .int .i64 x345001_1, .int .i64 x345002_1, .slice none 0 0]) ?_ 0 _ rfl; (with_reducible repeat (first | refine blk_drewN ?_ _ | refine blk_drew ?_ | refine blk_alloc ?_ _)); exact BK344.out) Try.underlying24 rfl (by kernel_rfl)) rfl ?_
          exact ⟨_, by first | rfl | (simp [errW_none, errW_some] <;> rfl) | (simp [*, errW_none, errW_some] <;> rfl), Kd.V_nil _ _ _ _ _, by repeat (first | (with_reducible first | exact HB.out | apply below_alloc | apply pw_below_drewN | apply below_drew1 | refine below_set ?_ GE344.out) | exact HB.out)⟩
  · rw [if_neg c4] at H
    have c4b0 : (t345 == 0) = false := beq_eq_false_iff_ne.mpr c4
    have c4b1 : (t345 != 0) = true := bne_iff_ne.mpr c4
    simp only [Option.some.injEq, Prod.mk.injEq] at H
    obtain ⟨rfl, rfl, rfl, rfl, rfl⟩ := H
    go_enter Try.func31, Try.ntmps31
    go_wp2_with (first | ((with_reducible refine gate_dst (N := 4) rfl ?_); refine box_event ?hg (N := 4) ?hd (cs := #[.int .i64 0, .int .i64 0, .int .i64 0, .slice none 0 0]) (t := 24) ?hr ?_; (case hd => rfl); (case hg => rfl); (case hr => first | (go_simp; done) | (go_simp; rfl)); intro gb344 hg w13 hbox hb; have n0_ := Aside0.mk (Kd.V_below (Kd.V_elderB (by (with_reducible repeat (first | apply Kd.V_alloc | apply Kd.V_drewN | apply Kd.V_drew)); exact HO0.out) gb344 (Nat.le_of_eq hg.symm)) hb); have n1_ := Aside0.mk (below_step (by repeat (first | (with_reducible first | exact HB.out | apply below_alloc | apply pw_below_drewN | apply below_drew1) | exact HB.out)) hb); have n2_ := Aside0.mk (hbox); have n3_ := Aside0.mk ((by rw [hg]; exact (below_size (by repeat (first | (with_reducible first | exact HB.out | apply below_alloc | apply pw_below_drewN | apply below_drew1) | exact HB.out))) : w.heap.size ≤ gb344)); have n4_ := Aside0.mk ((by rw [hg]; exact (below_size (by repeat (first | (with_reducible first | exact HB.out | apply below_alloc | apply pw_below_drewN | apply below_drew1) | exact HB.out))) : w.heap.size ≤ gb344)); clear HO0; clear HB; have HO0 := n0_; have HB := n1_; have BK344 := n2_; have GW344 := n3_; have GE344 := n4_; clear n0_ n1_ n2_ n3_ n4_; clear hb hbox hg) | ((with_reducible refine gate_callee (f := 32) rfl ?_); refine goesL_ (some 9) rfl rfl Try.func32 (by kernel_rfl) rfl #[.slice A0 l0.length c0] rfl (by (try simp only [List.map_toArray, List.map_cons, List.map_nil]); first | done | rfl | (simp only [List.length_drop, List.length_take]; rfl)) ?_; (with_reducible refine (hopmeshref11_CheckAll.calls k _ _ l0 t345 _ ?side1 ?side2 A3.out).mono ?_); (case side1 => repeat (first | exact (Kd.V_reads' HO0.out).2.2 | (with_reducible refine Kd.C_alloc ?_ _) | (with_reducible refine Kd.C_drewN ?_ _) | (with_reducible refine Kd.C_drew ?_))); (case side2 => exact (Kd.V_reads' HO0.out).2.1); rintro e w14 ⟨rfl, hb⟩; refine ⟨_, rfl, ?_⟩; have n0_ := Aside0.mk (Kd.V_below (by (with_reducible repeat (first | apply Kd.V_alloc | apply Kd.V_drewN | apply Kd.V_drew)); exact HO0.out) hb); have n1_ := Aside0.mk (blk_below (g := gb344) (o := .cells #[.int .i64 0, .int .i64 0, .int .i64 0, .slice none 0 0] 24 (0, 0)) (by (with_reducible repeat (first | refine blk_drewN ?_ _ | refine blk_drew ?_ | refine blk_alloc ?_ _)); exact BK344.out) hb); have n2_ := Aside0.mk (below_step (by repeat (first | (with_reducible first | exact HB.out | apply below_alloc | apply pw_below_drewN | apply below_drew1 | refine below_set ?_ GE344.out) | exact HB.out)) hb); clear HO0; clear BK344; clear HB; have HO0 := n0_; have BK344 := n1_; have HB := n2_; clear n0_ n1_ n2_; (try clear hb); (try clear hb2); (try clear hk); (try clear hi); have hcz15_0 : w14.cell? ⟨gb344, 0, none⟩ = some (.int .i64 0) := (blk_cell BK344.out 0).trans rfl; have hcz15_1 : w14.cell? ⟨gb344, 1, none⟩ = some (.int .i64 0) := (blk_cell BK344.out 1).trans rfl; have hcz15_2 : w14.cell? ⟨gb344, 2, none⟩ = some (.int .i64 0) := (blk_cell BK344.out 2).trans rfl; have hcz15_3 : w14.cell? ⟨gb344, 3, none⟩ = some (.slice none 0 0) := (blk_cell BK344.out 3).trans rfl; have hfz15_0 := blk_frozen BK344.out 0; have hfz15_1 := blk_frozen BK344.out 1; have hfz15_2 := blk_frozen BK344.out 2; have hfz15_3 := blk_frozen BK344.out 3))
    refine bodyPost_ret (results_ct rfl _ _ gb344 24 #[.int .i64 0, .int .i64 0, .int .i64 0, .slice none 0 0] (0, 0) _ rfl (by (with_reducible repeat (first | refine blk_drewN ?_ _ | refine blk_drew ?_ | refine blk_alloc ?_ _)); refine blk_put (cs := #[.int .i64 0, .int .i64 0, .int .i64 0, .slice none 0 0]) ?_ 3 _ rfl; (with_reducible repeat (first | refine blk_drewN ?_ _ | refine blk_drew ?_ | refine blk_alloc ?_ _)); refine blk_put (cs := #[.int .i64 0, .int .i64 0, .int .i64 0, .slice none 0 0]) ?_ 2 _ rfl; (with_reducible repeat (first | refine blk_drewN ?_ _ | refine blk_drew ?_ | refine blk_alloc ?_ _)); refine blk_put (cs := #[.int .i64 0, .int .i64 0, .int .i64 0, .slice none 0 0]) ?_ 1 _ rfl; (with_reducible repeat (first | refine blk_drewN ?_ _ | refine blk_drew ?_ | refine blk_alloc ?_ _)); refine blk_put (cs := #[.int .i64 0, .int .i64 0, .int .i64 0, .slice none 0 0]) ?_ 0 _ rfl; (with_reducible repeat (first | refine blk_drewN ?_ _ | refine blk_drew ?_ | refine blk_alloc ?_ _)); exact BK344.out) Try.underlying24 rfl (by kernel_rfl)) rfl ?_
    exact ⟨_, by first | rfl | (simp [errW_none, errW_some] <;> rfl) | (simp [*, errW_none, errW_some] <;> rfl), Kd.V_nil _ _ _ _ _, by repeat (first | (with_reducible first | exact HB.out | apply below_alloc | apply pw_below_drewN | apply below_drew1 | refine below_set ?_ GE344.out) | exact HB.out)⟩

end Go.Proofs.Ytddcacomphkeiaa.PA
