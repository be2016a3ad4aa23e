-- Written by a program of this session (mkprint.py: the kit's print, changed) for this claim. Not trusted: Lean checks it.
import Derived.Test.YtcdgpnjlaicbcaaPAx0
import Derived.Test.YtcdgpnjlaicbcaaPAx2
import Derived.Test.YtcdgpnjlaicbcaaHof
import Derived.Laws.EntriesVeiled
namespace Go.Proofs.Ytcdgpnjlaicbcaa.PA
open Go.RowKit Go.Proofs.YtcdgpnjlaicbcaaW.PrintWords Go.Proofs.YtcdgpnjlaicbcaaW.PrintLast Go.Proofs.YtcdgpnjlaicbcaaW.PrintMore
attribute [local go_sem] max2_int min2_int max_two min_two max_three min_three max_four min_four   -- for this text's walks alone
set_option linter.unusedVariables false
set_option linter.unusedSimpArgs false

/-! ### geometry_Check: function 19 -/
-- (own)
-- IMPORT Derived.Test.YtcdgpnjlaicbcaaHof
-- IMPORT Derived.Laws.EntriesVeiled
open Go.Shelf
theorem own_bcell {W w1 : World} (hb : Below W.heap.size W w1) : (∀ b o, b < W.heap.size → w1.cell? ⟨b, o, none⟩ = W.cell? ⟨b, o, none⟩) ∧ (∀ b o, b < W.heap.size → w1.frozen? ⟨b, o, none⟩ = W.frozen? ⟨b, o, none⟩) :=
  ⟨fun b o h => hb.cell (p := ⟨b, o, none⟩) h, fun b o h => hb.frozen (p := ⟨b, o, none⟩) h⟩
/-- Coordinates of a point. -/
def ptB (a b : Int) : Bool := decide (0 ≤ a ∧ 0 ≤ b ∧ a ≤ 10000 ∧ b ≤ 10000)
theorem point_eq (a b : Int) : geometry_point.f a b = some (ptB a b) := by
  unfold geometry_point.f ptB mn mx
  by_cases h : (if b < a then b else a) ≥ 0
  · rw [if_pos h]
    congr 1
    rw [decide_eq_decide]
    omega
  · rw [if_neg h]
    congr 1
    symm
    rw [decide_eq_false_iff_not]
    omega
theorem bad_eq (a b : Int) : geometry_Check_1.f a b = some (!ptB a b) := by
  unfold geometry_Check_1.f
  rw [point_eq]
  rfl
theorem bad_calls (a b : Int) (W : World) : Calls Try.prog 43 #[.agg #[.int .i64 a, .int .i64 b]] W fun e w' => e = .returned (.bool (!ptB a b)) ∧ Below W.heap.size W w' :=
  geometry_Check_1.calls a b _ W (bad_eq a b)
/-- What is no wall. -/
def badWall (x : S47) : Bool := !(ptB x.f0.f0 x.f0.f1) || (!(ptB x.f1.f0 x.f1.f1) || (decide (x.f2 < 0) || decide (x.f2 > 1000)))
set_option maxHeartbeats 2000000 in
theorem own_chk3 (gb : Nat) (x : S47) (W : World) (hgb : W.cell? ⟨gb, 0, none⟩ = some (.func (.func 43) #[] #[])) (hlt : gb < W.heap.size) :
    Calls Try.prog 49 #[.agg #[.int .i64 x.f0.f0, .int .i64 x.f0.f1, .int .i64 x.f1.f0, .int .i64 x.f1.f1, .int .i64 x.f2], .pointer (some ⟨gb, 0, none⟩)] W fun e w' => e = .returned (.bool (badWall x)) ∧ Below W.heap.size W w' := by
  obtain ⟨⟨a, b⟩, ⟨c, d⟩, f⟩ := x
  have hu47 := Try.underlying47
  have hu28 := Try.underlying28
  have hlt1 : gb < W.heap.size + 1 := by omega
  have hne : ¬ (gb = W.heap.size) := by omega
  have c1 := fun W => bad_calls a b W
  have c2 := fun W => bad_calls c d W
  simp only [badWall]
  cases h1 : ptB a b with
  | false =>
    rw [h1] at c1
    have C1 := Aside0.mk c1
    clear c1 c2 h1
    go_enter Try.func49, Try.ntmps49
    go_wp2_with (go_at_call 43; refine (C1.out _).mono ?_; rintro e w1 ⟨rfl, hb1⟩)
    go_ret
    exact ⟨by simp, below_step ((Below.refl _ _).alloc (Nat.le_refl _) _) hb1⟩
  | true =>
    rw [h1] at c1
    have C1 := Aside0.mk c1
    clear c1 h1
    cases h2 : ptB c d with
    | false =>
      rw [h2] at c2
      have C2 := Aside0.mk c2
      clear c2 h2
      go_enter Try.func49, Try.ntmps49
      go_wp2_with fail
      refine (C1.out _).mono ?_
      rintro e w1 ⟨rfl, hb1⟩
      obtain ⟨hc1, hf1⟩ := own_bcell hb1
      go_wp2_with fail
      refine (C2.out _).mono ?_
      rintro e w2 ⟨rfl, hb2⟩
      go_wp2
      go_ret
      exact ⟨by simp, below_step (below_step ((Below.refl _ _).alloc (Nat.le_refl _) _) hb1) hb2⟩
    | true =>
      rw [h2] at c2
      have C2 := Aside0.mk c2
      clear c2 h2
      go_enter Try.func49, Try.ntmps49
      go_wp2_with fail
      refine (C1.out _).mono ?_
      rintro e w1 ⟨rfl, hb1⟩
      obtain ⟨hc1, hf1⟩ := own_bcell hb1
      go_wp2_with fail
      refine (C2.out _).mono ?_
      rintro e w2 ⟨rfl, hb2⟩
      obtain ⟨hc2, hf2⟩ := own_bcell hb2
      have hz : W.heap.size < w1.heap.size := by have := hb1.size; simp at this; omega
      have HF := Aside0.mk (below_step (below_step ((Below.refl W.heap.size W).alloc (Nat.le_refl _) (.cells #[.int .i64 a, .int .i64 b, .int .i64 c, .int .i64 d, .int .i64 f] 47)) hb1) hb2)
      clear hb1 hb2
      go_wp2
      all_goals
        go_ret
        exact ⟨by simp [*], HF.out⟩
def badPoint (x : S28) : Bool := !ptB x.f0 x.f1
def badPower (n : Int) : Bool := !decide (0 ≤ n ∧ n ≤ 68719476736)
theorem badPower_eq (n : Int) : geometry_Check_2.f n = some (badPower n) := by
  unfold geometry_Check_2.f geometry_isPower.f badPower
  by_cases h : n ≥ 0
  · rw [if_pos h]
    simp [h]
  · rw [if_neg h]
    simp [h]
theorem own_c44 (w : World) (A : Option Addr) (c : Nat) (l : List S28) (hr : Kd.C k28 w A l.length l) (W : World) (hW : Below w.heap.size w W) :
    Calls Try.prog 44 #[.slice A l.length c, .func (.func 43) #[] #[]] W fun e w' => e = .returned (.bool (l.any badPoint)) ∧ Below W.heap.size W w' :=
  cont44 badPoint 43 #[] (enters_of Try.func43 (by kernel_rfl) rfl) A c l W (fun W' x _ => by rw [Array.append_empty]; exact bad_calls x.f0 x.f1 W') (Kd.C_below hr hW)
theorem own_c45 (w : World) (A : Option Addr) (c : Nat) (l : List Int) (hr : Kd.C (Kd.int .i64) w A l.length l) (W : World) (hW : Below w.heap.size w W) :
    Calls Try.prog 45 #[.slice A l.length c, .func (.func 46) #[] #[]] W fun e w' => e = .returned (.bool (l.any badPower)) ∧ Below W.heap.size W w' :=
  cont45 badPower 46 #[] (enters_of Try.func46 (by kernel_rfl) rfl) A c l W (fun W' x _ => by rw [Array.append_empty]; exact (geometry_Check_2.calls x _ W' (badPower_eq x)).mono fun e w' ⟨h1, h2⟩ => ⟨h1, h2.below⟩) (Kd.C_below hr hW)
theorem own_c48 (w : World) (A : Option Addr) (c : Nat) (l : List S47) (hr : Kd.C k47 w A l.length l) (W : World) (hW : Below w.heap.size w W) (gb : Nat) (hgb : W.cell? ⟨gb, 0, none⟩ = some (.func (.func 43) #[] #[])) (hlt : gb < W.heap.size) :
    Calls Try.prog 48 #[.slice A l.length c, .func (.func 49) #[] #[.pointer (some ⟨gb, 0, none⟩)]] W fun e w' => e = .returned (.bool (l.any badWall)) ∧ Below W.heap.size W w' :=
  cont48 badWall 49 #[.pointer (some ⟨gb, 0, none⟩)] (enters_of Try.func49 (by kernel_rfl) rfl) A c l W (fun W' x hb => own_chk3 gb x W' ((hb.cell (p := ⟨gb, 0, none⟩) hlt).trans hgb) (Nat.lt_of_lt_of_le hlt hb.size)) (Kd.C_below hr hW)
/-- A valid site. -/
def siteOk (l0 : List S28) (l1 : List Int) (l2 : List S47) (x y z : Int) : Prop :=
  2 ≤ l0.length ∧ l0.length ≤ 32 ∧ l0.any badPoint = false ∧ l1.length = l0.length ∧ l1.any badPower = false ∧ l2.length ≤ 32 ∧ l2.any badWall = false ∧ (x = 2 ∨ x = 4) ∧ 1000 ≤ z ∧ z ≤ 100000 ∧ 1 ≤ y ∧ y ≤ 68719476736
instance (l0 : List S28) (l1 : List Int) (l2 : List S47) (x y z : Int) : Decidable (siteOk l0 l1 l2 x y z) := by unfold siteOk; infer_instance
def geometry_Check.f (l0 : List S28) (l1 : List Int) (l2 : List S47) (x y z : Int) : Option Int := some (if siteOk l0 l1 l2 x y z then 0 else 1)
def ChkPost (l0 : List S28) (l1 : List Int) (l2 : List S47) (x y z : Int) (w : World) (e : Ending) (w' : World) : Prop := ∃ r, geometry_Check.f l0 l1 l2 x y z = some r ∧ e = .returned (.int .i64 r) ∧ Below w.heap.size w w'
theorem chk_no {l0 : List S28} {l1 : List Int} {l2 : List S47} {x y z : Int} {w w' : World} (h : ¬ siteOk l0 l1 l2 x y z) (hb : Below w.heap.size w w') : ChkPost l0 l1 l2 x y z w (.returned (.int .i64 1)) w' :=
  ⟨1, by unfold geometry_Check.f; rw [if_neg h], rfl, hb⟩
theorem chk_yes {l0 : List S28} {l1 : List Int} {l2 : List S47} {x y z : Int} {w w' : World} (h : siteOk l0 l1 l2 x y z) (hb : Below w.heap.size w w') : ChkPost l0 l1 l2 x y z w (.returned (.int .i64 0)) w' :=
  ⟨0, by unfold geometry_Check.f; rw [if_pos h], rfl, hb⟩
set_option maxHeartbeats 4000000 in
theorem chk_any (A0 : Option Addr) (c0 : Nat) (l0 : List S28) (A1 : Option Addr) (c1 : Nat) (l1 : List Int) (A2 : Option Addr) (c2 : Nat) (l2 : List S47) (x y z : Int) (w : World) (hr0 : Kd.C k28 w A0 l0.length l0) (hr1 : Kd.C (Kd.int .i64) w A1 l1.length l1) (hr2 : Kd.C k47 w A2 l2.length l2) :
    Calls Try.prog 19 #[.agg #[.slice A0 l0.length c0, .slice A1 l1.length c1, .slice A2 l2.length c2, .int .i64 x, .int .i64 y, .int .i64 z]] w (ChkPost l0 l1 l2 x y z w) := by
  have C4 := Aside0.mk (own_c44 w A0 c0 l0 hr0)
  have C5 := Aside0.mk (own_c45 w A1 c1 l1 hr1)
  have C8 := Aside0.mk (own_c48 w A2 c2 l2 hr2)
  clear hr0 hr1 hr2
  have hu26 := Try.underlying26
  generalize hb1 : l0.any badPoint = b1 at C4
  generalize hb2 : l1.any badPower = b2 at C5
  generalize hb3 : l2.any badWall = b3 at C8
  obtain ⟨t1, rfl⟩ : ∃ t : Int, b1 = decide (t = 1) := ⟨if b1 = true then 1 else 0, by cases b1 <;> simp⟩
  obtain ⟨t2, rfl⟩ : ∃ t : Int, b2 = decide (t = 1) := ⟨if b2 = true then 1 else 0, by cases b2 <;> simp⟩
  obtain ⟨t3, rfl⟩ : ∃ t : Int, b3 = decide (t = 1) := ⟨if b3 = true then 1 else 0, by cases b3 <;> simp⟩
  have HS : Aside0 (∀ x : Int, siteOk l0 l1 l2 x y z ↔ ((2 : Int) ≤ l0.length ∧ (l0.length : Int) ≤ 32 ∧ ¬ t1 = 1 ∧ (l1.length : Int) = l0.length ∧ ¬ t2 = 1 ∧ (l2.length : Int) ≤ 32 ∧ ¬ t3 = 1 ∧ (x = 2 ∨ x = 4) ∧ 1000 ≤ z ∧ z ≤ 100000 ∧ 1 ≤ y ∧ y ≤ 68719476736)) := ⟨fun x => by
    unfold siteOk
    rw [hb1, hb2, hb3]
    simp only [decide_eq_false_iff_not]
    omega⟩
  clear hb1 hb2 hb3
  go_enter Try.func19, Try.ntmps19
  have HB := Aside0.mk (((Below.refl w.heap.size w).alloc (Nat.le_refl _) (.cells #[.slice A0 l0.length c0, .slice A1 l1.length c1, .slice A2 l2.length c2, .int .i64 x, .int .i64 y, .int .i64 z] 26)).alloc (by simp) (.cells #[.func (.func 43) #[] #[]] 64))
  have hzz : w.heap.size < w.heap.size + 1 := by omega
  go_wp2_with (first | (go_at_call 44; refine (C4.out _ HB.out).mono ?_; rintro e w1 ⟨rfl, hb1⟩; obtain ⟨hc1, hf1⟩ := own_bcell hb1; have hz1 : w.heap.size + 1 < w1.heap.size := (by have := hb1.size; simp at this; omega); have hy1 : w.heap.size < w1.heap.size := (by omega); have HBa := Aside0.mk (below_step HB.out hb1); clear hb1) | (go_at_call 45; refine (C5.out _ HBa.out).mono ?_; rintro e w2 ⟨rfl, hb2⟩; obtain ⟨hc2, hf2⟩ := own_bcell hb2; have hz2 : w.heap.size + 1 < w2.heap.size := (by have := hb2.size; omega); have hy2 : w.heap.size < w2.heap.size := (by omega); have hq2 : w2.cell? ⟨w.heap.size + 1, 0, none⟩ = some (.func (.func 43) #[] #[]) := (by rw [hc2 _ _ hz1, hc1 _ _ (by simp)]; simp); have HQ2 := Aside0.mk hq2; have HBb := Aside0.mk (below_step HBa.out hb2); clear hb2) | (go_at_call 48; refine (C8.out _ HBb.out _ HQ2.out hz2).mono ?_; rintro e w3 ⟨rfl, hb3⟩; obtain ⟨hc3, hf3⟩ := own_bcell hb3; have HBc := Aside0.mk (below_step HBb.out hb3); clear hb3))
  all_goals
    go_ret
    first
      | exact chk_no (by rw [HS.out]; omega) HBc.out
      | exact chk_yes (by rw [HS.out]; omega) HBc.out
      | exact chk_no (by rw [HS.out]; omega) HBb.out
      | exact chk_no (by rw [HS.out]; omega) HBa.out
      | exact chk_no (by rw [HS.out]; omega) HB.out
theorem geometry_Check.calls (A0_0 : Option Addr) (c0_0 : Nat) (l0_0 : List S28) (A0_1 : Option Addr) (c0_1 : Nat) (l0_1 : List Int) (A0_2 : Option Addr) (c0_2 : Nat) (l0_2 : List S47) (a0_3 : Int) (a0_4 : Int) (a0_5 : Int) (r : Int) (w : World) (hr0_0 : Kd.C k28 w A0_0 l0_0.length l0_0) (_hc0_0 : l0_0.length ≤ c0_0) (hr0_1 : Kd.C (Kd.int .i64) w A0_1 l0_1.length l0_1) (_hc0_1 : l0_1.length ≤ c0_1) (hr0_2 : Kd.C k47 w A0_2 l0_2.length l0_2) (_hc0_2 : l0_2.length ≤ c0_2) (h : geometry_Check.f l0_0 l0_1 l0_2 a0_3 a0_4 a0_5 = some r) :
    Calls Try.prog 19 #[.agg #[.slice A0_0 l0_0.length c0_0, .slice A0_1 l0_1.length c0_1, .slice A0_2 l0_2.length c0_2, .int .i64 a0_3, .int .i64 a0_4, .int .i64 a0_5]] w fun e w' => e = .returned (.int .i64 r) ∧ Below w.heap.size w w' := by
  refine (chk_any A0_0 c0_0 l0_0 A0_1 c0_1 l0_1 A0_2 c0_2 l0_2 a0_3 a0_4 a0_5 w hr0_0 hr0_1 hr0_2).mono ?_
  rintro e w' ⟨r', h', he, hb⟩
  rw [h] at h'
  obtain rfl := Option.some.inj h'
  exact ⟨he, hb⟩

end Go.Proofs.Ytcdgpnjlaicbcaa.PA
