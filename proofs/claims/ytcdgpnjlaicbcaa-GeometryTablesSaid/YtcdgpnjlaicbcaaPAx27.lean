-- Written by a program of this session (mkprint.py: the kit's print, changed) for this claim. Not trusted: Lean checks it.
import Derived.Test.YtcdgpnjlaicbcaaPAx0
import Derived.Test.YtcdgpnjlaicbcaaPAx8
import Derived.Test.YtcdgpnjlaicbcaaPAx43
namespace Go.Proofs.Ytcdgpnjlaicbcaa.PA
open Go.RowKit Go.Proofs.YtcdgpnjlaicbcaaW.PrintWords Go.Proofs.YtcdgpnjlaicbcaaW.PrintLast Go.Proofs.YtcdgpnjlaicbcaaW.PrintMore
attribute [local go_sem] max2_int min2_int max_two min_two max_three min_three max_four min_four   -- for this text's walks alone
-- thin
set_option linter.unusedVariables false
set_option linter.unusedSimpArgs false

/-! ### geometry_Table: function 18 -/
mutual
def geometry_Table.l0 : Nat → List (List Int) → Int → Int → List (S28) → List Int → List (S47) → Int → Int → Int → Option ((List (List Int)) × Int)
 | 0, _, _, _, _, _, _, _, _, _ => none
 | k + 1, x5, x16, x17, x281000, x281001, x281002, x281003, x281004, x281005 => if x17 < x16 then (geometry_Table.l1 k x5 x17 ([] : List Int) x16 x17 (x281000.length : Int) 0 x281000 x281001 x281002 x281003 x281004 x281005) else (some (x5, 0))
def geometry_Table.l1 : Nat → List (List Int) → Int → List Int → Int → Int → Int → Int → List (S28) → List Int → List (S47) → Int → Int → Int → Option ((List (List Int)) × Int)
 | 0, _, _, _, _, _, _, _, _, _, _, _, _, _ => none
 | k + 1, x5, x6, x7, x16, x17, x22, x23, x281000, x281001, x281002, x281003, x281004, x281005 => if x23 < x22 then ((geometry_between.f x281000 x281001 x281002 x281003 x281004 x281005 x6 x23).bind fun t282 => (if x7.length < 17592186044416 then (geometry_Table.l1 k x5 x6 (x7 ++ [t282]) x16 x17 x22 (wrap64 (x23 + 1)) x281000 x281001 x281002 x281003 x281004 x281005) else (none))) else (if x5.length < 5864062014805 then (geometry_Table.l0 k (x5 ++ [x7]) x16 (wrap64 (x17 + 1)) x281000 x281001 x281002 x281003 x281004 x281005) else (none))
end
def geometry_Table.f (k : Nat) (l0_0 : List (S28)) (l0_1 : List Int) (l0_2 : List (S47)) (a0_3 : Int) (a0_4 : Int) (a0_5 : Int) : Option ((List (List Int)) × Int) := (geometry_Check.f l0_0 l0_1 l0_2 a0_3 a0_4 a0_5).bind fun t281 => (if t281 = 0 then (geometry_Table.l0 k ([] : List (List Int)) (l0_0.length : Int) 0 l0_0 l0_1 l0_2 a0_3 a0_4 a0_5) else (some (([] : List (List Int)), t281)))
theorem geometry_Table.mono_l : ∀ k, (∀ y0 y1 y2 y3 y4 y5 y6 y7 y8, LeO (geometry_Table.l0 k y0 y1 y2 y3 y4 y5 y6 y7 y8) (geometry_Table.l0 (k + 1) y0 y1 y2 y3 y4 y5 y6 y7 y8)) ∧ (∀ y0 y1 y2 y3 y4 y5 y6 y7 y8 y9 y10 y11 y12, LeO (geometry_Table.l1 k y0 y1 y2 y3 y4 y5 y6 y7 y8 y9 y10 y11 y12) (geometry_Table.l1 (k + 1) y0 y1 y2 y3 y4 y5 y6 y7 y8 y9 y10 y11 y12))
 | 0 => ⟨fun _ _ _ _ _ _ _ _ _ r h => by simp [geometry_Table.l0] at h, fun _ _ _ _ _ _ _ _ _ _ _ _ _ r h => by simp [geometry_Table.l1] at h⟩
 | k + 1 => by
  obtain ⟨ih0, ih1⟩ := geometry_Table.mono_l k
  refine ⟨?_, ?_⟩
  ·intro y0 y1 y2 y3 y4 y5 y6 y7 y8
   unfold geometry_Table.l0
   repeat' first
   | (with_reducible exact ih0 _ _ _ _ _ _ _ _ _)
   | (with_reducible exact ih1 _ _ _ _ _ _ _ _ _ _ _ _ _)
   | (with_reducible exact LeO.refl _)
   | (with_reducible exact LeO.none _)
   | (with_reducible refine LeO.ite ?_ ?_)
   | (with_reducible refine LeO.bind ?_ (fun _ => ?_))
   | exact ih0 _ _ _ _ _ _ _ _ _
   | exact ih1 _ _ _ _ _ _ _ _ _ _ _ _ _
   | exact LeO.none _
   | refine LeO.ite ?_ ?_
   | refine LeO.bind ?_ (fun _ => ?_)
  intro y0 y1 y2 y3 y4 y5 y6 y7 y8 y9 y10 y11 y12
  unfold geometry_Table.l1
  repeat' first
  | (with_reducible exact ih0 _ _ _ _ _ _ _ _ _)
  | (with_reducible exact ih1 _ _ _ _ _ _ _ _ _ _ _ _ _)
  | (with_reducible exact LeO.refl _)
  | (with_reducible exact LeO.none _)
  | (with_reducible refine LeO.ite ?_ ?_)
  | (with_reducible refine LeO.bind ?_ (fun _ => ?_))
  | exact ih0 _ _ _ _ _ _ _ _ _
  | exact ih1 _ _ _ _ _ _ _ _ _ _ _ _ _
  | exact LeO.none _
  | refine LeO.ite ?_ ?_
  | refine LeO.bind ?_ (fun _ => ?_)
theorem geometry_Table.mono : ∀ a0 a1 a2 a3 a4 a5 k, LeO (geometry_Table.f k a0 a1 a2 a3 a4 a5) (geometry_Table.f (k + 1) a0 a1 a2 a3 a4 a5) := by
 intro a0 a1 a2 a3 a4 a5 k
 obtain ⟨ih0, ih1⟩ := geometry_Table.mono_l k
 unfold geometry_Table.f
 repeat' first
  | (with_reducible exact ih0 _ _ _ _ _ _ _ _ _)
  | (with_reducible exact ih1 _ _ _ _ _ _ _ _ _ _ _ _ _)
  | (with_reducible exact LeO.refl _)
  | (with_reducible exact LeO.none _)
  | (with_reducible refine LeO.ite ?_ ?_)
  | (with_reducible refine LeO.bind ?_ (fun _ => ?_))
  | exact ih0 _ _ _ _ _ _ _ _ _
  | exact ih1 _ _ _ _ _ _ _ _ _ _ _ _ _
  | exact LeO.none _
  | refine LeO.ite ?_ ?_
  | refine LeO.bind ?_ (fun _ => ?_)
set_option maxHeartbeats 8000000 in
set_option maxRecDepth 100000 in
theorem geometry_Table.calls (k : Nat) (A0_0 : Option Addr) (c0_0 : Nat) (l0_0 : List (S28)) (A0_1 : Option Addr) (c0_1 : Nat) (l0_1 : List Int) (A0_2 : Option Addr) (c0_2 : Nat) (l0_2 : List (S47)) (a0_3 : Int) (a0_4 : Int) (a0_5 : Int) (r1 : List (List Int)) (r2 : Int) (w : World) (hr0_0 : Kd.C k28 w A0_0 l0_0.length l0_0) (hc0_0 : l0_0.length ≤ c0_0) (hr0_1 : Kd.C (Kd.int .i64) w A0_1 l0_1.length l0_1) (hc0_1 : l0_1.length ≤ c0_1) (hr0_2 : Kd.C k47 w A0_2 l0_2.length l0_2) (hc0_2 : l0_2.length ≤ c0_2) (h : geometry_Table.f k l0_0 l0_1 l0_2 a0_3 a0_4 a0_5 = some (r1, r2)) :
 Calls Try.prog 18 #[.agg #[.slice A0_0 l0_0.length c0_0, .slice A0_1 l0_1.length c0_1, .slice A0_2 l0_2.length c0_2, .int .i64 a0_3, .int .i64 a0_4, .int .i64 a0_5]] w fun e w' => ∃ v0_ : Value, e = .returned (.tuple #[v0_, .int .i64 r2]) ∧ Kd.S (Kd.slice 3 (Kd.int .i64)) 23 w' w.heap.size (fun _ => True) v0_ r1 ∧ Below w.heap.size w w' := by
 have hu26 := Try.underlying26
 have HR0_0 := Aside0.mk hr0_0
 have HC0_0 := Aside0.mk hc0_0
 clear hr0_0 hc0_0
 have HR0_1 := Aside0.mk hr0_1
 have HC0_1 := Aside0.mk hc0_1
 clear hr0_1 hc0_1
 have HR0_2 := Aside0.mk hr0_2
 have HC0_2 := Aside0.mk hc0_2
 clear hr0_2 hc0_2
 have HB := Aside0.mk (Below.refl w.heap.size w)
 have H : ((geometry_Check.f l0_0 l0_1 l0_2 a0_3 a0_4 a0_5).bind fun t281 => (if t281 = 0 then (geometry_Table.l0 k ([] : List (List Int)) (l0_0.length : Int) 0 l0_0 l0_1 l0_2 a0_3 a0_4 a0_5) else (some (([] : List (List Int)), t281)))) = some (r1, r2) := h
 clear h
 replace H := Option.bind_eq_some_iff.mp H
 obtain ⟨t281, A20, H⟩ := H
 replace H : (if t281 = 0 then (geometry_Table.l0 k ([] : List (List Int)) (l0_0.length : Int) 0 l0_0 l0_1 l0_2 a0_3 a0_4 a0_5) else (some (([] : List (List Int)), t281))) = some (r1, r2) := H
 have A2 := Aside0.mk A20
 clear A20
 by_cases c3 : t281 = 0
 rotate_left
 ·rw [if_neg c3] at H
  have c3b0 : (t281 == 0) = false := beq_eq_false_iff_ne.mpr c3
  have c3b1 : (t281 != 0) = true := bne_iff_ne.mpr c3
  simp only [Option.some.injEq, Prod.mk.injEq] at H
  obtain ⟨rfl, rfl⟩ := H
  go_enter Try.func18, Try.ntmps18
  go_wp2_with (first | ((with_reducible refine gate_dst (N := 1) rfl ?_); refine box_event ?hg (N := 1) ?hd (cs := #[.slice A0_0 l0_0.length c0_0, .slice A0_1 l0_1.length c0_1, .slice A0_2 l0_2.length c0_2, .int .i64 a0_3, .int .i64 a0_4, .int .i64 a0_5]) (t := 26) ?hr ?_; (case hd => rfl); (case hg => rfl); (case hr => first | (go_simp; done) | (go_simp; rfl)); intro gb280 hg w19 hbox hb; have n0_ := Aside0.mk (below_step (by repeat (first | (with_reducible first | exact HB.out | apply blA | apply blN | apply blD) | exact HB.out)) hb); have n1_ := Aside0.mk (hbox); have n2_ := Aside0.mk ((by rw [hg]; exact (below_size (by repeat (first | (with_reducible first | exact HB.out | apply blA | apply blN | apply blD) | exact HB.out))) : w.heap.size ≤ gb280)); have n3_ := Aside0.mk ((by rw [hg]; exact (below_size (by repeat (first | (with_reducible first | exact HB.out | apply blA | apply blN | apply blD) | exact HB.out))) : w.heap.size ≤ gb280)); clear HB; have HB := n0_; have BK280 := n1_; have GW280 := n2_; have GE280 := n3_; clear n0_ n1_ n2_ n3_; clear hb hbox hg; have hcz20_0 : w19.cell? ⟨gb280, 0, none⟩ = some (.slice A0_0 l0_0.length c0_0) := (bkC BK280.out 0).trans rfl; have hcz20_1 : w19.cell? ⟨gb280, 1, none⟩ = some (.slice A0_1 l0_1.length c0_1) := (bkC BK280.out 1).trans rfl; have hcz20_2 : w19.cell? ⟨gb280, 2, none⟩ = some (.slice A0_2 l0_2.length c0_2) := (bkC BK280.out 2).trans rfl; have hcz20_3 : w19.cell? ⟨gb280, 3, none⟩ = some (.int .i64 a0_3) := (bkC BK280.out 3).trans rfl; have hcz20_4 : w19.cell? ⟨gb280, 4, none⟩ = some (.int .i64 a0_4) := (bkC BK280.out 4).trans rfl; have hcz20_5 : w19.cell? ⟨gb280, 5, none⟩ = some (.int .i64 a0_5) := (bkC BK280.out 5).trans rfl; have hfz20_0 := bkF BK280.out 0; have hfz20_1 := bkF BK280.out 1; have hfz20_2 := bkF BK280.out 2; have hfz20_3 := bkF BK280.out 3; have hfz20_4 := bkF BK280.out 4; have hfz20_5 := bkF BK280.out 5) | ((with_reducible refine gate_callee (f := 19) rfl ?_); refine goesL_ (some 10) rfl rfl Try.func19 (by kernel_rfl) rfl #[.agg #[.slice A0_0 l0_0.length c0_0, .slice A0_1 l0_1.length c0_1, .slice A0_2 l0_2.length c0_2, .int .i64 a0_3, .int .i64 a0_4, .int .i64 a0_5]] rfl (by (try simp only [List.map_toArray, List.map_cons, List.map_nil]); first | done | rfl | (simp only [List.length_drop, List.length_take]; rfl)) ?_; (with_reducible refine (geometry_Check.calls _ _ l0_0 _ _ l0_1 _ _ l0_2 a0_3 a0_4 a0_5 t281 _ ?side1 ?side2 ?side3 ?side4 ?side5 ?side6 A2.out).mono ?_); (case side1 => repeat (first | exact (Kd.C_below HR0_0.out HB.out) | (with_reducible refine Kd.C_alloc ?_ _) | (with_reducible refine Kd.C_drewN ?_ _) | (with_reducible refine Kd.C_drew ?_))); (case side2 => exact HC0_0.out); (case side3 => repeat (first | exact (Kd.C_below HR0_1.out HB.out) | (with_reducible refine Kd.C_alloc ?_ _) | (with_reducible refine Kd.C_drewN ?_ _) | (with_reducible refine Kd.C_drew ?_))); (case side4 => exact HC0_1.out); (case side5 => repeat (first | exact (Kd.C_below HR0_2.out HB.out) | (with_reducible refine Kd.C_alloc ?_ _) | (with_reducible refine Kd.C_drewN ?_ _) | (with_reducible refine Kd.C_drew ?_))); (case side6 => exact HC0_2.out); rintro e w21 ⟨rfl, hb⟩; refine ⟨_, rfl, ?_⟩; have n0_ := Aside0.mk (bkB (g := gb280) (o := .cells #[.slice A0_0 l0_0.length c0_0, .slice A0_1 l0_1.length c0_1, .slice A0_2 l0_2.length c0_2, .int .i64 a0_3, .int .i64 a0_4, .int .i64 a0_5] 26 (0, 0)) (by (with_reducible repeat (first | refine bkN ?_ _ | refine bkD ?_ | refine bkA ?_ _)); exact BK280.out) hb); have n1_ := Aside0.mk (below_step (by repeat (first | (with_reducible first | exact HB.out | apply blA | apply blN | apply blD | refine blS ?_ GE280.out) | exact HB.out)) hb); clear BK280; clear HB; have BK280 := n0_; have HB := n1_; clear n0_ n1_; (try clear hb); (try clear hb2); (try clear hk); (try clear hi)))
  go_ret2
  exact ⟨_, by first | rfl | (simp [errW_none, errW_some] <;> rfl) | (simp [*, errW_none, errW_some] <;> rfl), by first | exact Kd.S_nil _ _ _ _ _ | exact Kd.N_nil _ _ _ _ _ | exact Kd.V_nil _ _ _ _ _ | exact Kd.Q_nil _ _ _ _ _ | exact Kd.R_nil _ _ _ _ _, by repeat (first | (with_reducible first | exact HB.out | apply blA | apply blN | apply blD | refine blS ?_ GE280.out) | exact HB.out)⟩

 rw [if_pos c3] at H
 have c3b0 : (t281 == 0) = true := beq_iff_eq.mpr c3
 have c3b1 : (t281 != 0) = false := bne_eq_false_iff_eq.mpr c3
 clear c3
 have H' := Aside0.mk H
 clear H
 go_enter Try.func18, Try.ntmps18
 go_wp2_with (first | ((with_reducible refine gate_dst (N := 1) rfl ?_); refine box_event ?hg (N := 1) ?hd (cs := #[.slice A0_0 l0_0.length c0_0, .slice A0_1 l0_1.length c0_1, .slice A0_2 l0_2.length c0_2, .int .i64 a0_3, .int .i64 a0_4, .int .i64 a0_5]) (t := 26) ?hr ?_; (case hd => rfl); (case hg => rfl); (case hr => first | (go_simp; done) | (go_simp; rfl)); intro gb280 hg w4 hbox hb; have n0_ := Aside0.mk (below_step (by repeat (first | (with_reducible first | exact HB.out | apply blA | apply blN | apply blD) | exact HB.out)) hb); have n1_ := Aside0.mk (hbox); have n2_ := Aside0.mk ((by rw [hg]; exact (below_size (by repeat (first | (with_reducible first | exact HB.out | apply blA | apply blN | apply blD) | exact HB.out))) : w.heap.size ≤ gb280)); have n3_ := Aside0.mk ((by rw [hg]; exact (below_size (by repeat (first | (with_reducible first | exact HB.out | apply blA | apply blN | apply blD) | exact HB.out))) : w.heap.size ≤ gb280)); clear HB; have HB := n0_; have BK280 := n1_; have GW280 := n2_; have GE280 := n3_; clear n0_ n1_ n2_ n3_; clear hb hbox hg; have hcz5_0 : w4.cell? ⟨gb280, 0, none⟩ = some (.slice A0_0 l0_0.length c0_0) := (bkC BK280.out 0).trans rfl; have hcz5_1 : w4.cell? ⟨gb280, 1, none⟩ = some (.slice A0_1 l0_1.length c0_1) := (bkC BK280.out 1).trans rfl; have hcz5_2 : w4.cell? ⟨gb280, 2, none⟩ = some (.slice A0_2 l0_2.length c0_2) := (bkC BK280.out 2).trans rfl; have hcz5_3 : w4.cell? ⟨gb280, 3, none⟩ = some (.int .i64 a0_3) := (bkC BK280.out 3).trans rfl; have hcz5_4 : w4.cell? ⟨gb280, 4, none⟩ = some (.int .i64 a0_4) := (bkC BK280.out 4).trans rfl; have hcz5_5 : w4.cell? ⟨gb280, 5, none⟩ = some (.int .i64 a0_5) := (bkC BK280.out 5).trans rfl; have hfz5_0 := bkF BK280.out 0; have hfz5_1 := bkF BK280.out 1; have hfz5_2 := bkF BK280.out 2; have hfz5_3 := bkF BK280.out 3; have hfz5_4 := bkF BK280.out 4; have hfz5_5 := bkF BK280.out 5) | ((with_reducible refine gate_callee (f := 19) rfl ?_); refine goesL_ (some 10) rfl rfl Try.func19 (by kernel_rfl) rfl #[.agg #[.slice A0_0 l0_0.length c0_0, .slice A0_1 l0_1.length c0_1, .slice A0_2 l0_2.length c0_2, .int .i64 a0_3, .int .i64 a0_4, .int .i64 a0_5]] rfl (by (try simp only [List.map_toArray, List.map_cons, List.map_nil]); first | done | rfl | (simp only [List.length_drop, List.length_take]; rfl)) ?_; (with_reducible refine (geometry_Check.calls _ _ l0_0 _ _ l0_1 _ _ l0_2 a0_3 a0_4 a0_5 t281 _ ?side1 ?side2 ?side3 ?side4 ?side5 ?side6 A2.out).mono ?_); (case side1 => repeat (first | exact (Kd.C_below HR0_0.out HB.out) | (with_reducible refine Kd.C_alloc ?_ _) | (with_reducible refine Kd.C_drewN ?_ _) | (with_reducible refine Kd.C_drew ?_))); (case side2 => exact HC0_0.out); (case side3 => repeat (first | exact (Kd.C_below HR0_1.out HB.out) | (with_reducible refine Kd.C_alloc ?_ _) | (with_reducible refine Kd.C_drewN ?_ _) | (with_reducible refine Kd.C_drew ?_))); (case side4 => exact HC0_1.out); (case side5 => repeat (first | exact (Kd.C_below HR0_2.out HB.out) | (with_reducible refine Kd.C_alloc ?_ _) | (with_reducible refine Kd.C_drewN ?_ _) | (with_reducible refine Kd.C_drew ?_))); (case side6 => exact HC0_2.out); rintro e w6 ⟨rfl, hb⟩; refine ⟨_, rfl, ?_⟩; have n0_ := Aside0.mk (bkB (g := gb280) (o := .cells #[.slice A0_0 l0_0.length c0_0, .slice A0_1 l0_1.length c0_1, .slice A0_2 l0_2.length c0_2, .int .i64 a0_3, .int .i64 a0_4, .int .i64 a0_5] 26 (0, 0)) (by (with_reducible repeat (first | refine bkN ?_ _ | refine bkD ?_ | refine bkA ?_ _)); exact BK280.out) hb); have n1_ := Aside0.mk (below_step (by repeat (first | (with_reducible first | exact HB.out | apply blA | apply blN | apply blD | refine blS ?_ GE280.out) | exact HB.out)) hb); clear BK280; clear HB; have BK280 := n0_; have HB := n1_; clear n0_ n1_; (try clear hb); (try clear hb2); (try clear hk); (try clear hi); have hcz7_0 : w6.cell? ⟨gb280, 0, none⟩ = some (.slice A0_0 l0_0.length c0_0) := (bkC BK280.out 0).trans rfl; have hcz7_1 : w6.cell? ⟨gb280, 1, none⟩ = some (.slice A0_1 l0_1.length c0_1) := (bkC BK280.out 1).trans rfl; have hcz7_2 : w6.cell? ⟨gb280, 2, none⟩ = some (.slice A0_2 l0_2.length c0_2) := (bkC BK280.out 2).trans rfl; have hcz7_3 : w6.cell? ⟨gb280, 3, none⟩ = some (.int .i64 a0_3) := (bkC BK280.out 3).trans rfl; have hcz7_4 : w6.cell? ⟨gb280, 4, none⟩ = some (.int .i64 a0_4) := (bkC BK280.out 4).trans rfl; have hcz7_5 : w6.cell? ⟨gb280, 5, none⟩ = some (.int .i64 a0_5) := (bkC BK280.out 5).trans rfl; have hfz7_0 := bkF BK280.out 0; have hfz7_1 := bkF BK280.out 1; have hfz7_2 := bkF BK280.out 2; have hfz7_3 := bkF BK280.out 3; have hfz7_4 := bkF BK280.out 4; have hfz7_5 := bkF BK280.out 5))
 go_loopg [5, 17] k (fun kq v5 v17 w' => ∃ (x5_1 : List (List Int)) (x17_1 : Int), v17 = .int .i64 x17_1 ∧ Aside0 (geometry_Table.l0 kq x5_1 (l0_0.length : Int) x17_1 l0_0 l0_1 l0_2 a0_3 a0_4 a0_5 = some (r1, r2)) ∧ Aside0 (kq ≤ k) ∧ Aside0 (Kd.S (Kd.slice 3 (Kd.int .i64)) 23 w' w.heap.size (fun _ => True) v5 x5_1) ∧ Aside0 (w'.heap[gb280]? = some (.cells #[(.slice A0_0 l0_0.length c0_0), (.slice A0_1 l0_1.length c0_1), (.slice A0_2 l0_2.length c0_2), .int .i64 a0_3, .int .i64 a0_4, .int .i64 a0_5] 26 (0, 0))) ∧ Aside0 (Below w.heap.size w w'))
 case atStart => exact ⟨(([] : List (List Int))), (0), (by first | rfl | (simp; done) | (simp [*]; done)), H', ⟨Nat.le_refl _⟩, ⟨by first | exact Kd.S_nil _ _ _ _ _ | exact Kd.N_nil _ _ _ _ _ | exact Kd.V_nil _ _ _ _ _ | exact Kd.Q_nil _ _ _ _ _ | exact Kd.R_nil _ _ _ _ _⟩, ⟨by (with_reducible repeat (first | refine bkN ?_ _ | refine bkD ?_ | refine bkA ?_ _)); exact BK280.out⟩, ⟨by repeat (first | (with_reducible first | exact HB.out | apply blA | apply blN | apply blD | refine blS ?_ GE280.out) | exact HB.out)⟩⟩
 case round =>
  clear H'
  try clear c1
  try clear p2
  try clear c3
  try clear c3b0
  try clear c3b1
  try clear hcz5_0
  try clear hcz5_1
  try clear hcz5_2
  try clear hcz5_3
  try clear hcz5_4
  try clear hcz5_5
  try clear hcz7_0
  try clear hcz7_1
  try clear hcz7_2
  try clear hcz7_3
  try clear hcz7_4
  try clear hcz7_5
  try clear hfz5_0
  try clear hfz5_1
  try clear hfz5_2
  try clear hfz5_3
  try clear hfz5_4
  try clear hfz5_5
  try clear hfz7_0
  try clear hfz7_1
  try clear hfz7_2
  try clear hfz7_3
  try clear hfz7_4
  try clear hfz7_5
  obtain ⟨x5_1, x17_1, rfl, HA, HK1, HO_5, BK280, HB⟩ := hrel
  cases gk with
  | zero => exact absurd HA.out (by simp [geometry_Table.l0])
  | succ k1 =>
   have H := HA.out
   clear HA
   simp only [geometry_Table.l0] at H
   by_cases c8 : x17_1 < (l0_0.length : Int)
   rotate_left
   ·rw [if_neg c8] at H
    have c8b0 : decide (x17_1 < (l0_0.length : Int)) = false := decide_eq_false c8
    clear c8
    simp only [Option.some.injEq, Prod.mk.injEq] at H
    obtain ⟨rfl, rfl⟩ := H
    go_wp2
    go_ret2
    exact ⟨_, by first | rfl | (simp [errW_none, errW_some] <;> rfl) | (simp [*, errW_none, errW_some] <;> rfl), by (with_reducible repeat (first | apply Kd.S_alloc | apply Kd.S_drewN | apply Kd.S_drew)); exact HO_5.out, by repeat (first | (with_reducible first | exact HB.out | apply blA | apply blN | apply blD | refine blS ?_ GE280.out) | exact HB.out)⟩
   rw [if_pos c8] at H
   have c8b0 : decide (x17_1 < (l0_0.length : Int)) = true := decide_eq_true c8
   clear c8
   have H' := Aside0.mk H
   clear H
   have hcz9_0 : wr.cell? ⟨gb280, 0, none⟩ = some (.slice A0_0 l0_0.length c0_0) := (bkC BK280.out 0).trans rfl
   have hcz9_1 : wr.cell? ⟨gb280, 1, none⟩ = some (.slice A0_1 l0_1.length c0_1) := (bkC BK280.out 1).trans rfl
   have hcz9_2 : wr.cell? ⟨gb280, 2, none⟩ = some (.slice A0_2 l0_2.length c0_2) := (bkC BK280.out 2).trans rfl
   have hcz9_3 : wr.cell? ⟨gb280, 3, none⟩ = some (.int .i64 a0_3) := (bkC BK280.out 3).trans rfl
   have hcz9_4 : wr.cell? ⟨gb280, 4, none⟩ = some (.int .i64 a0_4) := (bkC BK280.out 4).trans rfl
   have hcz9_5 : wr.cell? ⟨gb280, 5, none⟩ = some (.int .i64 a0_5) := (bkC BK280.out 5).trans rfl
   have hfz9_0 := bkF BK280.out 0
   have hfz9_1 := bkF BK280.out 1
   have hfz9_2 := bkF BK280.out 2
   have hfz9_3 := bkF BK280.out 3
   have hfz9_4 := bkF BK280.out 4
   have hfz9_5 := bkF BK280.out 5
   go_wp2
   go_loopg [7, 23] k1 (fun kq v7 v23 w' => ∃ (x7_2 : List Int) (x23_2 : Int), v23 = .int .i64 x23_2 ∧ Aside0 (geometry_Table.l1 kq x5_1 x17_1 x7_2 (l0_0.length : Int) x17_1 (l0_0.length : Int) x23_2 l0_0 l0_1 l0_2 a0_3 a0_4 a0_5 = some (r1, r2)) ∧ Aside0 (kq ≤ k1) ∧ Aside0 (Kd.S (Kd.slice 3 (Kd.int .i64)) 23 w' w.heap.size (fun k_ => some k_ ≠ (v7 : Value).ownBlock) u5 x5_1) ∧ Aside0 (Kd.R (Kd.int .i64) 3 w' w.heap.size (fun _ => True) v7 x7_2) ∧ Aside0 (w'.heap[gb280]? = some (.cells #[(.slice A0_0 l0_0.length c0_0), (.slice A0_1 l0_1.length c0_1), (.slice A0_2 l0_2.length c0_2), .int .i64 a0_3, .int .i64 a0_4, .int .i64 a0_5] 26 (0, 0))) ∧ Aside0 (Below w.heap.size w w'))
   case atStart => exact ⟨(([] : List Int)), (0), (by first | rfl | (simp; done) | (simp [*]; done)), H', ⟨Nat.le_refl _⟩, ⟨by (with_reducible repeat (first | apply Kd.S_alloc | apply Kd.S_drewN | apply Kd.S_drew)); exact Kd.S_mono HO_5.out (fun _ hk => (by simp [Value.ownBlock]))⟩, ⟨by first | exact Kd.R_nil _ _ _ _ _ | exact Kd.N_nil _ _ _ _ _ | exact Kd.V_nil _ _ _ _ _ | exact Kd.Q_nil _ _ _ _ _ | exact Kd.S_nil _ _ _ _ _⟩, ⟨by (with_reducible repeat (first | refine bkN ?_ _ | refine bkD ?_ | refine bkA ?_ _)); exact BK280.out⟩, ⟨by repeat (first | (with_reducible first | exact HB.out | apply blA | apply blN | apply blD | refine blS ?_ GE280.out) | exact HB.out)⟩⟩
   case round =>
    clear H'
    try clear c1
    try clear p2
    try clear c3
    try clear c3b0
    try clear c3b1
    try clear c8
    try clear c8b0
    try clear hcz5_0
    try clear hcz5_1
    try clear hcz5_2
    try clear hcz5_3
    try clear hcz5_4
    try clear hcz5_5
    try clear hcz7_0
    try clear hcz7_1
    try clear hcz7_2
    try clear hcz7_3
    try clear hcz7_4
    try clear hcz7_5
    try clear hcz9_0
    try clear hcz9_1
    try clear hcz9_2
    try clear hcz9_3
    try clear hcz9_4
    try clear hcz9_5
    try clear hfz5_0
    try clear hfz5_1
    try clear hfz5_2
    try clear hfz5_3
    try clear hfz5_4
    try clear hfz5_5
    try clear hfz7_0
    try clear hfz7_1
    try clear hfz7_2
    try clear hfz7_3
    try clear hfz7_4
    try clear hfz7_5
    try clear hfz9_0
    try clear hfz9_1
    try clear hfz9_2
    try clear hfz9_3
    try clear hfz9_4
    try clear hfz9_5
    try clear p2
    obtain ⟨x7_2, x23_2, rfl, HA, HK2, HO_5, HO_7, BK280, HB⟩ := hrel
    cases gk with
    | zero => exact absurd HA.out (by simp [geometry_Table.l1])
    | succ k2 =>
     have H := HA.out
     clear HA
     simp only [geometry_Table.l1] at H
     by_cases c10 : x23_2 < (l0_0.length : Int)
     rotate_left
     ·rw [if_neg c10] at H
      have c10b0 : decide (x23_2 < (l0_0.length : Int)) = false := decide_eq_false c10
      clear c10
      by_cases c16 : x5_1.length < 5864062014805
      rotate_left
      ·rw [if_neg c16] at H
       exact absurd H (by simp)
      rw [if_pos c16] at H
      have LMc16 := Aside0.mk c16
      clear c16
      obtain ⟨y286, hy286⟩ : ∃ y_ : List (List Int), y_ = (x5_1 ++ [x7_2]) := ⟨_, rfl⟩
      replace H : (geometry_Table.l0 k2 y286 (l0_0.length : Int) (wrap64 (x17_1 + 1)) l0_0 l0_1 l0_2 a0_3 a0_4 a0_5) = some (r1, r2) := by first | (rw [hy286]; with_reducible exact H) | (have H2_ := (Option.bind_some _ _).symm.trans H; rw [hy286]; with_reducible exact H2_) | (have H2_ := (Option.bind_some _ _).symm.trans H; with_reducible exact H2_) | with_reducible exact H | (rw [hy286]; exact H) | exact H
      have Ny286 := Aside0.mk hy286
      clear hy286
      have H' := Aside0.mk H
      clear H
      obtain ⟨Ao18, co18, eo18⟩ := Kd.R_slice HO_7.out
      subst eo18
      go_wp2_with (first | ((with_reducible refine gate_builtin (b := .append) (xs := #[.tmp 34, .tmp 36]) rfl ?_); at_builtin; refine Kd.S_append (Kd.slice 3 (Kd.int .i64)) (w0 := w) w.heap.size rfl (.tmp 34) (.tmp 36) 38 23 (.slice none 0 0) 24 rfl Try.underlying38 info23 rfl (by decide) (by omega) u5 x5_1 x7_2 [.slice Ao18 x7_2.length co18] (fun _ => True) (fun k_ => some k_ = (.slice Ao18 x7_2.length co18 : Value).ownBlock) rfl rfl ?aP (fun k_ hk_ => ((Kd.R_mono (ok' := fun k_ => ((fun _ => True)) k_ ∧ some k_ ≠ (u5 : Value).ownBlock) (Kd.R_apart' (HO_7.out) (Kd.S_typed HO_5.out) (by decide)) (fun k_ hk => ⟨trivial, hk.2⟩))).1 k_ hk_.symm) ?aF ?aO ?aB ?aS ?aL ?_; (case aP => exact Kd.M_row (Kd.R_mono (Kd.R_tight rfl (Kd.R_mono (ok' := fun k_ => ((fun _ => True)) k_ ∧ some k_ ≠ (u5 : Value).ownBlock) (Kd.R_apart' (HO_7.out) (Kd.S_typed HO_5.out) (by decide)) (fun k_ hk => ⟨trivial, hk.2⟩))) (fun _ h_ => h_))); (case aB => exact (by repeat (first | (with_reducible first | exact HB.out | apply blA | apply blN | apply blD | refine blS ?_ GE280.out) | exact HB.out))); (case aF => exact (fun _ _ => trivial)); (case aO => exact (by (with_reducible repeat (first | apply Kd.S_alloc | apply Kd.S_drewN | apply Kd.S_drew)); exact Kd.S_mono HO_5.out (fun k_ hk => ⟨trivial, fun e_ => hk e_⟩))); (case aS => exact (below_size (by repeat (first | (with_reducible first | exact HB.out | apply blA | apply blN | apply blD | refine blS ?_ GE280.out) | exact HB.out)))); (case aL => have := LMc16.out; omega); intro v287 w17 ho hb hg hat; rw [← Ny286.out] at ho; have n0_ := Aside0.mk (blk_grown (g := gb280) (o := .cells #[.slice A0_0 l0_0.length c0_0, .slice A0_1 l0_1.length c0_1, .slice A0_2 l0_2.length c0_2, .int .i64 a0_3, .int .i64 a0_4, .int .i64 a0_5] 26 (0, 0)) (by (with_reducible repeat (first | refine bkN ?_ _ | refine bkD ?_ | refine bkA ?_ _)); exact BK280.out) hg (Kd.S_ne HO_5.out BK280.out (by decide))); have n1_ := Aside0.mk (hb); have n2_ := Aside0.mk (ho); clear BK280; clear HB; clear HO_5; clear HO_7; have BK280 := n0_; have HB := n1_; have HO288 := n2_; clear n0_ n1_ n2_; clear ho hb hg hat))
      go_roundg k2
      case measure => have := HK1.out; have := HK2.out; omega
      case rel => exact ⟨(y286), (wrap64 (x17_1 + 1)), (by first | rfl | (simp; done) | (simp [*]; done)), H', ⟨by have := HK1.out; have := HK2.out; omega⟩, ⟨by (with_reducible repeat (first | apply Kd.S_alloc | apply Kd.S_drewN | apply Kd.S_drew)); exact HO288.out⟩, ⟨by (with_reducible repeat (first | refine bkN ?_ _ | refine bkD ?_ | refine bkA ?_ _)); exact BK280.out⟩, ⟨by repeat (first | (with_reducible first | exact HB.out | apply blA | apply blN | apply blD | refine blS ?_ GE280.out) | exact HB.out)⟩⟩
     rw [if_pos c10] at H
     have c10b0 : decide (x23_2 < (l0_0.length : Int)) = true := decide_eq_true c10
     clear c10
     replace H := Option.bind_eq_some_iff.mp H
     obtain ⟨t282, A110, H⟩ := H
     replace H : (if x7_2.length < 17592186044416 then (geometry_Table.l1 k2 x5_1 x17_1 (x7_2 ++ [t282]) (l0_0.length : Int) x17_1 (l0_0.length : Int) (wrap64 (x23_2 + 1)) l0_0 l0_1 l0_2 a0_3 a0_4 a0_5) else (none)) = some (r1, r2) := H
     have A11 := Aside0.mk A110
     clear A110
     by_cases c12 : x7_2.length < 17592186044416
     rotate_left
     ·rw [if_neg c12] at H
      exact absurd H (by simp)
     rw [if_pos c12] at H
     have LMc12 := Aside0.mk c12
     clear c12
     obtain ⟨y283, hy283⟩ : ∃ y_ : List Int, y_ = (x7_2 ++ [t282]) := ⟨_, rfl⟩
     replace H : (geometry_Table.l1 k2 x5_1 x17_1 y283 (l0_0.length : Int) x17_1 (l0_0.length : Int) (wrap64 (x23_2 + 1)) l0_0 l0_1 l0_2 a0_3 a0_4 a0_5) = some (r1, r2) := by first | (rw [hy283]; with_reducible exact H) | (have H2_ := (Option.bind_some _ _).symm.trans H; rw [hy283]; with_reducible exact H2_) | (have H2_ := (Option.bind_some _ _).symm.trans H; with_reducible exact H2_) | with_reducible exact H | (rw [hy283]; exact H) | exact H
     have Ny283 := Aside0.mk hy283
     clear hy283
     have H' := Aside0.mk H
     clear H
     have hcz13_0 : wr.cell? ⟨gb280, 0, none⟩ = some (.slice A0_0 l0_0.length c0_0) := (bkC BK280.out 0).trans rfl
     have hcz13_1 : wr.cell? ⟨gb280, 1, none⟩ = some (.slice A0_1 l0_1.length c0_1) := (bkC BK280.out 1).trans rfl
     have hcz13_2 : wr.cell? ⟨gb280, 2, none⟩ = some (.slice A0_2 l0_2.length c0_2) := (bkC BK280.out 2).trans rfl
     have hcz13_3 : wr.cell? ⟨gb280, 3, none⟩ = some (.int .i64 a0_3) := (bkC BK280.out 3).trans rfl
     have hcz13_4 : wr.cell? ⟨gb280, 4, none⟩ = some (.int .i64 a0_4) := (bkC BK280.out 4).trans rfl
     have hcz13_5 : wr.cell? ⟨gb280, 5, none⟩ = some (.int .i64 a0_5) := (bkC BK280.out 5).trans rfl
     have hfz13_0 := bkF BK280.out 0
     have hfz13_1 := bkF BK280.out 1
     have hfz13_2 := bkF BK280.out 2
     have hfz13_3 := bkF BK280.out 3
     have hfz13_4 := bkF BK280.out 4
     have hfz13_5 := bkF BK280.out 5
     go_wp2_with (first | ((with_reducible refine gate_callee (f := 41) rfl ?_); refine goesL_ (some 30) rfl rfl Try.func41 (by kernel_rfl) rfl #[.agg #[.slice A0_0 l0_0.length c0_0, .slice A0_1 l0_1.length c0_1, .slice A0_2 l0_2.length c0_2, .int .i64 a0_3, .int .i64 a0_4, .int .i64 a0_5], .int .i64 x17_1, .int .i64 x23_2] rfl (by (try simp only [List.map_toArray, List.map_cons, List.map_nil]); first | done | rfl | (simp only [List.length_drop, List.length_take]; rfl)) ?_; (with_reducible refine (geometry_between.calls _ _ l0_0 _ _ l0_1 _ _ l0_2 a0_3 a0_4 a0_5 x17_1 x23_2 t282 _ ?side1 ?side2 ?side3 ?side4 ?side5 ?side6 A11.out).mono ?_); (case side1 => repeat (first | exact (Kd.C_below HR0_0.out HB.out) | (with_reducible refine Kd.C_alloc ?_ _) | (with_reducible refine Kd.C_drewN ?_ _) | (with_reducible refine Kd.C_drew ?_))); (case side2 => exact HC0_0.out); (case side3 => repeat (first | exact (Kd.C_below HR0_1.out HB.out) | (with_reducible refine Kd.C_alloc ?_ _) | (with_reducible refine Kd.C_drewN ?_ _) | (with_reducible refine Kd.C_drew ?_))); (case side4 => exact HC0_1.out); (case side5 => repeat (first | exact (Kd.C_below HR0_2.out HB.out) | (with_reducible refine Kd.C_alloc ?_ _) | (with_reducible refine Kd.C_drewN ?_ _) | (with_reducible refine Kd.C_drew ?_))); (case side6 => exact HC0_2.out); rintro e w14 ⟨rfl, hb⟩; refine ⟨_, rfl, ?_⟩; have n0_ := Aside0.mk (Kd.S_below (by (with_reducible repeat (first | apply Kd.S_alloc | apply Kd.S_drewN | apply Kd.S_drew)); exact HO_5.out) hb); have n1_ := Aside0.mk (Kd.R_below (by (with_reducible repeat (first | apply Kd.R_alloc | apply Kd.R_drewN | apply Kd.R_drew)); exact HO_7.out) hb); have n2_ := Aside0.mk (bkB (g := gb280) (o := .cells #[.slice A0_0 l0_0.length c0_0, .slice A0_1 l0_1.length c0_1, .slice A0_2 l0_2.length c0_2, .int .i64 a0_3, .int .i64 a0_4, .int .i64 a0_5] 26 (0, 0)) (by (with_reducible repeat (first | refine bkN ?_ _ | refine bkD ?_ | refine bkA ?_ _)); exact BK280.out) hb); have n3_ := Aside0.mk (below_step (by repeat (first | (with_reducible first | exact HB.out | apply blA | apply blN | apply blD | refine blS ?_ GE280.out) | exact HB.out)) hb); clear HO_5; clear HO_7; clear BK280; clear HB; have HO_5 := n0_; have HO_7 := n1_; have BK280 := n2_; have HB := n3_; clear n0_ n1_ n2_ n3_; (try clear hb); (try clear hb2); (try clear hk); (try clear hi)) | ((with_reducible refine gate_builtin (b := .append) (xs := #[.tmp 26, .tmp 31]) rfl ?_); at_builtin; refine Kd.R_append (Kd.int .i64) (w0 := w) w.heap.size rfl (.tmp 26) (.tmp 31) 23 3 (.int .i64 0) 8 rfl Try.underlying23 info3 rfl (by decide) (by omega) u7 x7_2 t282 [.int .i64 t282] (fun _ => True) (fun _ => False) rfl rfl ?aP (fun _ hk => hk.elim) ?aF ?aO ?aB ?aS ?aL ?_; (case aP => exact rfl); (case aB => exact (by repeat (first | (with_reducible first | exact HB.out | apply blA | apply blN | apply blD | refine blS ?_ GE280.out) | exact HB.out))); (case aF => exact (fun _ _ => trivial)); (case aO => exact (by (with_reducible repeat (first | apply Kd.R_alloc | apply Kd.R_drewN | apply Kd.R_drew)); exact HO_7.out)); (case aS => exact (below_size (by repeat (first | (with_reducible first | exact HB.out | apply blA | apply blN | apply blD | refine blS ?_ GE280.out) | exact HB.out)))); (case aL => have := LMc12.out; omega); intro v284 w15 ho hb hg hat; rw [← Ny283.out] at ho; have n0_ := Aside0.mk (Kd.S_after (ok := (fun _ => True)) (by (with_reducible repeat (first | apply Kd.S_alloc | apply Kd.S_drewN | apply Kd.S_drew)); exact Kd.S_mono HO_5.out (fun _ hk => ⟨trivial, hk⟩)) hg hat); have n1_ := Aside0.mk (blk_grown (g := gb280) (o := .cells #[.slice A0_0 l0_0.length c0_0, .slice A0_1 l0_1.length c0_1, .slice A0_2 l0_2.length c0_2, .int .i64 a0_3, .int .i64 a0_4, .int .i64 a0_5] 26 (0, 0)) (by (with_reducible repeat (first | refine bkN ?_ _ | refine bkD ?_ | refine bkA ?_ _)); exact BK280.out) hg (Kd.R_ne HO_7.out BK280.out (by decide))); have n2_ := Aside0.mk (hb); have n3_ := Aside0.mk (ho); clear HO_5; clear BK280; clear HB; clear HO_7; have HO_5 := n0_; have BK280 := n1_; have HB := n2_; have HO285 := n3_; clear n0_ n1_ n2_ n3_; clear ho hb hg hat))
     go_roundg k2
     case measure => have := HK1.out; have := HK2.out; omega
     case rel => exact ⟨(y283), (wrap64 (x23_2 + 1)), (by first | rfl | (simp; done) | (simp [*]; done)), H', ⟨by have := HK1.out; have := HK2.out; omega⟩, ⟨by (with_reducible repeat (first | apply Kd.S_alloc | apply Kd.S_drewN | apply Kd.S_drew)); exact Kd.S_mono HO_5.out (fun _ hk => hk.2)⟩, ⟨by (with_reducible repeat (first | apply Kd.R_alloc | apply Kd.R_drewN | apply Kd.R_drew)); exact HO285.out⟩, ⟨by (with_reducible repeat (first | refine bkN ?_ _ | refine bkD ?_ | refine bkA ?_ _)); exact BK280.out⟩, ⟨by repeat (first | (with_reducible first | exact HB.out | apply blA | apply blN | apply blD | refine blS ?_ GE280.out) | exact HB.out)⟩⟩
end Go.Proofs.Ytcdgpnjlaicbcaa.PA
