-- Written by a program of this session (mkprint.py: the kit's print, changed) for this claim. Not trusted: Lean checks it.
import Derived.Test.YtddcacomphkeiaaPAx0
import Derived.Test.YtddcacomphkeiaaPAx3
import Derived.RangeFuncNested
import Derived.RangeFuncLeaves
import Derived.RangeFuncBound
import Derived.RangeFuncCalls
import Derived.Shelf.Abstract
import Derived.Stop.RegionWithIn
import Derived.WalkKit
import Derived.OwnWalkIn
import Derived.TacticsInMore
import Derived.LoopNIn
import Derived.LoopIn
namespace Go.Proofs.Ytddcacomphkeiaa.PA
open Go.RowKit Go.Proofs.YtddcacomphkeiaaW.PrintWords Go.Proofs.YtddcacomphkeiaaW.PrintLast Go.Proofs.YtddcacomphkeiaaW.PrintMore
attribute [local go_sem] max2_int min2_int max_two min_two max_three min_three max_four min_four   -- for this text's walks alone
set_option linter.unusedVariables false
set_option linter.unusedSimpArgs false

/-! ### hop_Channel: function 12 -/
-- (own)
-- IMPORT Derived.RangeFuncNested
-- IMPORT Derived.RangeFuncLeaves
-- IMPORT Derived.RangeFuncBound
-- IMPORT Derived.RangeFuncCalls
-- IMPORT Derived.Shelf.Abstract
-- IMPORT Derived.Stop.RegionWithIn
-- IMPORT Derived.WalkKit
-- IMPORT Derived.OwnWalkIn
-- IMPORT Derived.TacticsInMore
-- IMPORT Derived.LoopNIn
-- IMPORT Derived.LoopIn
open Go.Shelf
attribute [local go_sem] Oper.semAt_some
/-- The element that is yielded in round j. -/
def elt (l : List Int) (fr : Int) (j : Nat) : Int := rd l ((fr + j) % (l.length : Int))
theorem own_bc {n₀ : Nat} {A B : World} (h : Below n₀ A B) : (∀ b o, b < n₀ → B.cell? ⟨b, o, none⟩ = A.cell? ⟨b, o, none⟩) ∧ (∀ b o, b < n₀ → B.frozen? ⟨b, o, none⟩ = A.frozen? ⟨b, o, none⟩) :=
  ⟨fun b o h1 => h.cell (p := ⟨b, o, none⟩) h1, fun b o h1 => h.frozen (p := ⟨b, o, none⟩) h1⟩
/-- What a round keeps: all that lay below n1, and the blocks P and Q. -/
def Kp2 (n1 P Q : Nat) (A B : World) : Prop := Below n1 A B ∧ B.heap[P]? = A.heap[P]? ∧ B.heap[Q]? = A.heap[Q]?
theorem Kp2.size {n1 P Q : Nat} {A B : World} (h : Kp2 n1 P Q A B) : A.heap.size ≤ B.heap.size := h.1.size
theorem Kp2.refl (n1 P Q : Nat) (A : World) : Kp2 n1 P Q A A := ⟨Below.refl _ _, rfl, rfl⟩
theorem Kp2.trans {n1 P Q : Nat} {A B C : World} (h : Kp2 n1 P Q A B) (k : Kp2 n1 P Q B C) : Kp2 n1 P Q A C := ⟨h.1.trans k.1, k.2.1.trans h.2.1, k.2.2.trans h.2.2⟩
theorem Kp2.of_below {n1 P Q : Nat} {A B : World} (h : Below A.heap.size A B) (h1 : n1 ≤ A.heap.size) (hP : P < A.heap.size) (hQ : Q < A.heap.size) : Kp2 n1 P Q A B := ⟨h.mono h1, h.block P hP, h.block Q hQ⟩
theorem Kp2.cells {n1 P Q : Nat} {A B : World} (h : Kp2 n1 P Q A B) : (∀ o, B.cell? ⟨P, o, none⟩ = A.cell? ⟨P, o, none⟩) ∧ (∀ o, B.cell? ⟨Q, o, none⟩ = A.cell? ⟨Q, o, none⟩) :=
  ⟨fun o => by simp only [World.cell?, h.2.1], fun o => by simp only [World.cell?, h.2.2]⟩
/-- How a round ends: it goes on, or it has said that no more is wanted. -/
def YPost (J Jx : World → Prop) (Kp : World → World → Prop) (W1 : World) (b : Bool) (W' : World) : Prop := (b = true ∧ J W' ∧ Kp W1 W') ∨ (b = false ∧ Jx W')
set_option maxRecDepth 100000 in
set_option maxHeartbeats 4000000 in
/-- The closure of round: what is yielded are the elements, going round from a place on. -/
theorem round1_in (n : Nat) (hn : 1 ≤ n) (l Bl Bf : Nat) (A : Option Addr) (cap : Nat) (ls : List Int) (fr : Int) (hf0 : 0 ≤ fr) (hf1 : fr < ls.length) (hmx : ls.length ≤ 1000)
    (w0 : World) (hK : Kd.C (Kd.int .i64) w0 A ls.length ls) (J Jx : List Int → World → Prop) (W : World) (hJ : AbidesFrom W.heap.size J) (hBl : Bl < W.heap.size) (hBf : Bf < W.heap.size) (hW0 : Below w0.heap.size w0 W)
    (hY : ∀ pre x W1, J pre W1 → pre.length < ls.length → YieldAt Fence.wide (n - 1) Try.prog l #[.int .i64 x] W1 fun e W' =>
      (e = .returned (.bool true) ∧ J (pre ++ [x]) W' ∧ Kp2 w0.heap.size Bl Bf W1 W') ∨ (e = .returned (.bool false) ∧ Jx (pre ++ [x]) W'))
    (hc1 : W.cell? ⟨Bl, 0, none⟩ = some (.slice A ls.length cap)) (hc2 : W.cell? ⟨Bf, 0, none⟩ = some (.int .i64 fr)) (h0 : J [] W) :
    CallsIn Fence.wide n Try.prog 50 #[.func (.yield l) #[] #[], .pointer (some ⟨Bl, 0, none⟩), .pointer (some ⟨Bf, 0, none⟩)] W fun e W' => (∃ v, e = .returned v) ∧
      ((∃ ys, ys = (List.range ls.length).map (elt ls fr) ∧ J ys W') ∨ (∃ pre, (∃ k, k < ls.length ∧ pre = (List.range (k + 1)).map (elt ls fr)) ∧ Jx pre W')) := by
  refine callsIn_of_wp Try.func50 rfl trivial ?_ rfl
  simp only [Try.ntmps50, List.size_toArray, List.length_cons, List.length_nil, Nat.reduceAdd, Nat.reduceSub, Array.replicate_succ, Array.replicate_zero, List.push_toArray, List.append_toArray, List.nil_append, List.cons_append]
  gi_wp2
  gi_loopw [7] (fun v7 wr => ∃ k : Nat, k ≤ ls.length ∧ v7 = .int .i64 k ∧ J ((List.range k).map (elt ls fr)) wr ∧ Kp2 w0.heap.size Bl Bf W wr ∧ W.heap.size ≤ wr.heap.size)
    (fun v7 _ => ls.length - (intOf v7).toNat)
  case atStart => exact ⟨0, Nat.zero_le _, rfl, h0, Kp2.refl _ _ _ _, Nat.le_refl _⟩
  case round =>
    obtain ⟨k, hk, rfl, hJs, hnx, hzs⟩ := hrel
    obtain ⟨hp, hq⟩ := hnx.cells
    have hd1 : wr.cell? ⟨Bl, 0, none⟩ = some (.slice A ls.length cap) := (hp 0).trans hc1
    have hd2 : wr.cell? ⟨Bf, 0, none⟩ = some (.int .i64 fr) := (hq 0).trans hc2
    have hzl : Bl < wr.heap.size := (Nat.lt_of_lt_of_le hBl hzs)
    have hzf : Bf < wr.heap.size := (Nat.lt_of_lt_of_le hBf hzs)
    have hm := hK.2.1
    clear hp hq
    by_cases hlt : k < ls.length
    · have hltz : (k : Int) < (ls.length : Int) := by omega
      have hB0 : Below w0.heap.size w0 wr := hW0.trans hnx.1
      have hi0 : 0 ≤ (fr + k) % (ls.length : Int) := Int.emod_nonneg _ (by omega)
      have hi1 : (fr + k) % (ls.length : Int) < (ls.length : Int) := Int.emod_lt_of_pos _ (by omega)
      have hrem : (IntKind.i64.wrap (fr + k)).tmod (ls.length : Int) = (fr + k) % (ls.length : Int) := by
        rw [IntWalk.i64_in _ (by omega), Int.tmod_eq_emod_of_nonneg (by omega)]
      have hel : elt ls fr k = rd ls ((fr + k) % (ls.length : Int)) := rfl
      generalize (fr + k) % (ls.length : Int) = i at hi0 hi1 hrem hel
      obtain ⟨ad, e, hc0⟩ := Kd.at_int (Kd.C_below hK hB0) i hi0 hi1
      subst e
      have hJ1 := hJ _ wr wr.drew none hJs (grown_of_below ((Below.refl wr.heap.size wr).drew) none) (by simp)
      have hpl : ((List.range k).map (elt ls fr)).length < ls.length := by simpa using hlt
      obtain ⟨fn, tmps, assign, body, hyd, hR⟩ := hY _ (elt ls fr k) _ hJ1 hpl
      rw [hel] at hyd hR
      have hz : ¬ (ls.length : Int) = 0 := by omega
      have hzn : ¬ ls.length = 0 := by omega
      have HT := Aside0.mk (show (List.range (k + 1)).map (elt ls fr) = (List.range k).map (elt ls fr) ++ [rd ls i] by rw [List.range_succ, List.map_append, ← hel]; rfl)
      have hR' := hR.mono (R' := fun e W' => ∃ b, e = .returned (.bool b) ∧ YPost (J ((List.range k).map (elt ls fr) ++ [rd ls i])) (Jx ((List.range k).map (elt ls fr) ++ [rd ls i])) (Kp2 w0.heap.size Bl Bf) wr.drew b W') (fun e W' h => by
        rcases h with ⟨h1, h2, h3⟩ | ⟨h1, h2⟩
        · exact ⟨true, h1, .inl ⟨rfl, h2, h3⟩⟩
        · exact ⟨false, h1, .inr ⟨rfl, h2⟩⟩)
      have HLT := Aside0.mk hlt
      clear hel hlt hJ1 hJs hR
      gi_wp2
      gi_region_with (((with_reducible refine hR'.mono ?_); rintro e W3 ⟨b, rfl, hP⟩))
      all_goals
        rcases hP with ⟨rfl, hJ3, hk3⟩ | ⟨rfl, hJx3⟩
        · gi_wp2
          go_roundw
          case rel => exact ⟨k + 1, by omega, by simp, by rw [HT.out]; exact hJ3, (hnx.trans (Kp2.of_below ((Below.refl wr.heap.size wr).drew) (Nat.le_trans hW0.size hzs) hzl hzf)).trans hk3, Nat.le_trans hzs hk3.size⟩
          case measure => simp [intOf]; omega
        · gi_wp2
          refine bodyPost_ret (results_none rfl _ _ _) rfl ?_
          exact ⟨⟨_, rfl⟩, .inr ⟨_, ⟨k, HLT.out, HT.out.symm⟩, hJx3⟩⟩
    · obtain rfl : k = ls.length := by omega
      gi_wp2
      go_end0
      exact ⟨⟨_, rfl⟩, .inl ⟨_, rfl, hJs⟩⟩
theorem round_in (F : Fence) (n : Nat) (h35 : F.fn 35) (hro : F.round = none) (v : Value) (fr : Int) (w : World) (A : Option Addr) (m c : Nat) (hv : v = .slice A m c) :
    CallsIn F n Try.prog 35 #[v, .int .i64 fr] w fun e w' => e = .returned (.func (.func 50) #[] #[.pointer (some ⟨w.heap.size, 0, none⟩), .pointer (some ⟨w.heap.size + 1, 0, none⟩)]) ∧
      w' = (w.alloc (.cells #[v] 22)).alloc (.cells #[.int .i64 fr] 3) := by
  subst hv
  have hu22 := Try.underlying22
  refine callsIn_of_wp Try.func35 rfl h35 ?_ hro
  simp only [Try.ntmps35, List.size_toArray, List.length_cons, List.length_nil, Nat.reduceAdd, Nat.reduceSub, Array.replicate_succ, Array.replicate_zero, List.push_toArray, List.append_toArray, List.nil_append, List.cons_append]
  gi_wp2
  go_ret
  exact ⟨rfl, rfl⟩
theorem round_stops (n : Nat) (hn : 1 ≤ n) (Bl Bf : Nat) (A : Option Addr) (cap : Nat) (ls : List Int) (fr : Int) (hf0 : 0 ≤ fr) (hf1 : fr < ls.length) (hmx : ls.length ≤ 1000) (w : World) (hBl : Bl < w.heap.size) (hBf : Bf < w.heap.size) (w0 : World) (hK : Kd.C (Kd.int .i64) w0 A ls.length ls) (hW0 : Below w0.heap.size w0 w)
    (hc1 : w.cell? ⟨Bl, 0, none⟩ = some (.slice A ls.length cap)) (hc2 : w.cell? ⟨Bf, 0, none⟩ = some (.int .i64 fr)) :
    SeqStopsK Fence.wide n Try.prog 50 #[.pointer (some ⟨Bl, 0, none⟩), .pointer (some ⟨Bf, 0, none⟩)] (fun x : Int => #[Value.int .i64 x]) (Kp2 w0.heap.size Bl Bf) (fun ys => ys = (List.range ls.length).map (elt ls fr)) (fun pre => ∃ k, k < ls.length ∧ pre = (List.range (k + 1)).map (elt ls fr)) ls.length w := fun l J Jx W hW hJ _ hY h0 => by
  obtain ⟨hc, _⟩ := own_bc hW
  exact round1_in n hn l Bl Bf A cap ls fr hf0 hf1 hmx w0 hK J Jx W hJ (Nat.lt_of_lt_of_le hBl hW.size) (Nat.lt_of_lt_of_le hBf hW.size) (hW0.trans (hW.mono hW0.size)) hY ((hc _ _ hBl).trans hc1) ((hc _ _ hBf).trans hc2) h0
theorem Kp2.t {n1 P Q : Nat} : ∀ {A B C : World}, Kp2 n1 P Q A B → Kp2 n1 P Q B C → Kp2 n1 P Q A C := fun h k => h.trans k
theorem Kp2.b {n1 P Q : Nat} {w : World} (h1 : n1 ≤ w.heap.size) (hP : P < w.heap.size) (hQ : Q < w.heap.size) : ∀ (W : World) (l : Nat) (o o' : Obj), w.heap.size ≤ l → W.heap[l]? = some o → o.isCells = false → o.isWalk = false → Kp2 n1 P Q W (W.putObj l o') := fun W l o o' hl ho hc hw => by
  have hlt := (Array.getElem?_eq_some_iff.1 ho).1
  exact ⟨belowK_b h1 W l o o' hl ho hc hw, (grownBy_putObj' W l o').block P (by omega) (by intro e; cases e; omega), (grownBy_putObj' W l o').block Q (by omega) (by intro e; cases e; omega)⟩
theorem Kp2.set {n1 P Q : Nat} {A B : World} (h : Kp2 n1 P Q A B) {R : Nat} (hR : n1 ≤ R) (hP : P ≠ R) (hQ : Q ≠ R) (v : Value) : Kp2 n1 P Q A (B.setCell ⟨R, 0, none⟩ v) :=
  ⟨h.1.setCell (p := ⟨R, 0, none⟩) hR v, (Below.heap_setCell _ _ _ P (fun e => hP e)).trans h.2.1, (Below.heap_setCell _ _ _ Q (fun e => hQ e)).trans h.2.2⟩
theorem own_box {B : Nat} {A W : World} (h : Below B A W) {b : Nat} {t : TypeId} {v : Value} (hb : Boxed A b t v) (hlt : b < B) : Boxed W b t v := (h.block b hlt).trans hb
def hop_Channel.f (k : Nat) (a0_0 a0_1 a0_2 : Int) (l0_3 : List Int) (a1 a2 : Int) : Option (Int × Int) :=
  if l0_3.length ≤ 1000 then ((hop_Check.f k a0_0 a0_1 a0_2 l0_3).bind fun t => (if t = 0 then (if a1 < a0_1 then (some (0, 12)) else (if a1 ≥ a0_2 then (some (0, 12)) else (if a2 < 0 then (some (0, 2)) else (if a2 ≥ (l0_3.length : Int) then (some (0, 2)) else (if 0 ≤ a1 then (some (elt l0_3 (a1 % (l0_3.length : Int)) a2.toNat, 0)) else (none)))))) else (some (0, 1)))) else (none)
theorem hop_Channel.mono : ∀ a0 a1 a2 a3 a4 a5 k, LeO (hop_Channel.f k a0 a1 a2 a3 a4 a5) (hop_Channel.f (k + 1) a0 a1 a2 a3 a4 a5) := by
  intro a0 a1 a2 a3 a4 a5 k
  unfold hop_Channel.f
  refine LeO.ite ?_ (LeO.refl _)
  exact LeO.bind (hop_Check.mono _ _ _ _ _) (fun _ => LeO.refl _)
set_option maxHeartbeats 2000000 in
theorem chan_err (k : Nat) (a0_0 a0_1 a0_2 : Int) (A0_3 : Option Addr) (c0_3 : Nat) (l0_3 : List Int) (a1 a2 : Int) (t : Int) (r2 : Int) (w : World) (hr0_3 : Kd.C (Kd.int .i64) w A0_3 l0_3.length l0_3) (hc0_3 : l0_3.length ≤ c0_3) (ht : hop_Check.f k a0_0 a0_1 a0_2 l0_3 = some t)
    (h : (t ≠ 0 ∧ r2 = 1) ∨ (t = 0 ∧ (a1 < a0_1 ∨ a1 ≥ a0_2) ∧ r2 = 12) ∨ (t = 0 ∧ ¬ a1 < a0_1 ∧ ¬ a1 ≥ a0_2 ∧ (a2 < 0 ∨ a2 ≥ (l0_3.length : Int)) ∧ r2 = 2)) :
    Calls Try.prog 12 #[.agg #[.int .i64 a0_0, .int .i64 a0_1, .int .i64 a0_2, .slice A0_3 l0_3.length c0_3], .int .i64 a1, .int .i64 a2] w fun e w' => e = .returned (.tuple #[.int .i64 0, .int .i64 r2]) ∧ Below w.heap.size w w' := by
  have hu24 := Try.underlying24
  have hchk := Aside0.mk (fun W (hb : Below w.heap.size w W) => hop_Check.calls k a0_0 a0_1 a0_2 A0_3 c0_3 l0_3 t W (Kd.C_below hr0_3 hb) hc0_3 ht)
  clear hr0_3 ht hc0_3
  have HB := Aside0.mk (((Below.refl w.heap.size w).alloc (Nat.le_refl _) (.cells #[.int .i64 a0_0, .int .i64 a0_1, .int .i64 a0_2, .slice A0_3 l0_3.length c0_3] 24)).alloc (by simp) (.cells #[.int .i64 a2] 3))
  rcases h with ⟨h1, rfl⟩ | ⟨rfl, h2, rfl⟩ | ⟨rfl, h1, h2, h3, rfl⟩
  · have hd : (t != 0) = true := bne_iff_ne.2 h1
    clear h1
    go_enter Try.func12, Try.ntmps12
    go_wp2_with (go_at_call 24; refine (hchk.out _ HB.out).mono ?_; rintro e w1 ⟨rfl, hb1⟩; have HB1 := Aside0.mk (below_step HB.out hb1); clear hb1)
    go_ret2
    exact ⟨rfl, HB1.out⟩
  · rcases h2 with h2 | h2
    · go_enter Try.func12, Try.ntmps12
      go_wp2_with (go_at_call 24; refine (hchk.out _ HB.out).mono ?_; rintro e w1 ⟨rfl, hb1⟩; obtain ⟨hc1, hf1⟩ := own_bc hb1; have hz0 : w.heap.size < w.heap.size + 1 + 1 := (by omega); have HB1 := Aside0.mk (below_step HB.out hb1); clear hb1)
      go_ret2
      exact ⟨rfl, HB1.out⟩
    · by_cases h1 : a1 < a0_1
      all_goals
        go_enter Try.func12, Try.ntmps12
        go_wp2_with (go_at_call 24; refine (hchk.out _ HB.out).mono ?_; rintro e w1 ⟨rfl, hb1⟩; obtain ⟨hc1, hf1⟩ := own_bc hb1; have hz0 : w.heap.size < w.heap.size + 1 + 1 := (by omega); have HB1 := Aside0.mk (below_step HB.out hb1); clear hb1)
        go_ret2
        exact ⟨rfl, HB1.out⟩
  · rcases h3 with h3 | h3
    · go_enter Try.func12, Try.ntmps12
      go_wp2_with (go_at_call 24; refine (hchk.out _ HB.out).mono ?_; rintro e w1 ⟨rfl, hb1⟩; obtain ⟨hc1, hf1⟩ := own_bc hb1; have hz0 : w.heap.size < w.heap.size + 1 + 1 := (by omega); have hz1 : w.heap.size + 1 < w.heap.size + 1 + 1 := (by omega); have HB1 := Aside0.mk (below_step HB.out hb1); clear hb1)
      go_ret2
      exact ⟨rfl, HB1.out⟩
    · have h4 : ¬ a2 < 0 := by omega
      go_enter Try.func12, Try.ntmps12
      go_wp2_with (go_at_call 24; refine (hchk.out _ HB.out).mono ?_; rintro e w1 ⟨rfl, hb1⟩; obtain ⟨hc1, hf1⟩ := own_bc hb1; have hz0 : w.heap.size < w.heap.size + 1 + 1 := (by omega); have hz1 : w.heap.size + 1 < w.heap.size + 1 + 1 := (by omega); have HB1 := Aside0.mk (below_step HB.out hb1); clear hb1)
      go_ret2
      exact ⟨rfl, HB1.out⟩
theorem own_three (X : World) (o1 o2 o3 : Obj) : (((X.alloc o1).alloc o2).alloc o3).heap[X.heap.size]? = some o1 ∧ (((X.alloc o1).alloc o2).alloc o3).heap[X.heap.size + 1]? = some o2 ∧ (((X.alloc o1).alloc o2).alloc o3).heap[X.heap.size + 1 + 1]? = some o3 := by
  have h1 := World.alloc_heap_new X o1
  have h2 := World.alloc_heap_new (X.alloc o1) o2
  have h3 := World.alloc_heap_new ((X.alloc o1).alloc o2) o3
  simp only [World.size_alloc] at h2 h3
  refine ⟨?_, ?_, h3⟩
  · exact (Below.heap_alloc _ _ _ (by simp; omega)).trans ((Below.heap_alloc _ _ _ (by simp)).trans h1)
  · exact (Below.heap_alloc _ _ _ (by simp)).trans h2
/-- A piece of code that comes to its end in one way. -/
def OnlyN (R : Act → World → Prop) : Exit → Act → World → Prop
  | .normal, a, w => R a w
  | _, _, _ => False
theorem wpIn_onlyN {F : Fence} {rm : Nat} {P : Program} {s : Code} {K : Act → World → Prop} {Q' : Exit → Act → World → Prop} {a : Act} {w : World} (R : Act → World → Prop)
    (first : s.wpIn F rm P (OnlyN R) a w) (rest : ∀ a' w', R a' w' → K a' w') : s.wpIn F rm P (Exit.then K Q') a w := by
  refine wpIn_mono first ?_
  intro e a' w' hq
  cases e with
  | normal => exact rest _ _ hq
  | exit id => exact hq.elim
  | goto l => exact hq.elim
  | ret => exact hq.elim
  | panic ch => exact hq.elim
  | outgrown => exact hq.elim
set_option maxRecDepth 100000 in
set_option maxHeartbeats 8000000 in
theorem chan_in (k : Nat) (a0_0 a0_1 a0_2 : Int) (A : Option Addr) (c0 : Nat) (ls : List Int) (a1 a2 : Int) (w : World) (hr : Kd.C (Kd.int .i64) w A ls.length ls) (hc : ls.length ≤ c0) (ht : hop_Check.f k a0_0 a0_1 a0_2 ls = some 0)
    (hmx : ls.length ≤ 1000) (h1 : ¬ a1 < a0_1) (h2 : ¬ a1 ≥ a0_2) (h3 : ¬ a2 < 0) (h4 : ¬ a2 ≥ (ls.length : Int)) (h5 : 0 ≤ a1) :
    CallsIn Fence.wide 6 Try.prog 12 #[.agg #[.int .i64 a0_0, .int .i64 a0_1, .int .i64 a0_2, .slice A ls.length c0], .int .i64 a1, .int .i64 a2] w fun e w' => e = .returned (.tuple #[.int .i64 (elt ls (a1 % (ls.length : Int)) a2.toNat), .int .i64 0]) ∧ Below w.heap.size w w' := by
  have hu24 := Try.underlying24
  have hu22 := Try.underlying22
  have hro : (Fence.wide).round = none := rfl
  have hf : ∀ k, Fence.wide.fn k := fun _ => trivial
  have hchk := Aside0.mk (fun (n : Nat) W (hb : Below w.heap.size w W) => (callsIn_wide (n := n)).2 (hop_Check.calls k a0_0 a0_1 a0_2 A c0 ls 0 W (Kd.C_below hr hb) hc ht))
  have HR := Aside0.mk hr
  clear hr ht hc
  have HB := Aside0.mk (((Below.refl w.heap.size w).alloc (Nat.le_refl _) (.cells #[.int .i64 a0_0, .int .i64 a0_1, .int .i64 a0_2, .slice A ls.length c0] 24)).alloc (by simp) (.cells #[.int .i64 a2] 3))
  have hz : ¬ (ls.length : Int) = 0 := by omega
  have hzn : ¬ ls.length = 0 := by omega
  have hi0 : 0 ≤ a1 % (ls.length : Int) := Int.emod_nonneg _ (by omega)
  have hi1 : a1 % (ls.length : Int) < (ls.length : Int) := Int.emod_lt_of_pos _ (by omega)
  have hrem : a1.tmod (ls.length : Int) = a1 % (ls.length : Int) := Int.tmod_eq_emod_of_nonneg h5
  generalize a1 % (ls.length : Int) = fr at hi0 hi1 hrem
  refine callsIn_of_wp_marks Try.func12 rfl (hf 12) ?_ hro
  simp only [Try.ntmps12, List.size_toArray, List.length_cons, List.length_nil, Nat.reduceAdd, Nat.reduceSub, Array.replicate_succ, Array.replicate_zero, List.push_toArray, List.append_toArray, List.nil_append, List.cons_append]
  gi_wp2_with (gi_at_call 24; refine (hchk.out _ _ HB.out).mono ?_; rintro e w1 ⟨rfl, hb1⟩; obtain ⟨hc1, hf1⟩ := own_bc hb1; have hz0 : w.heap.size < w.heap.size + 1 + 1 := (by omega); have hz1 : w.heap.size + 1 < w.heap.size + 1 + 1 := (by omega); have hsz1 := hb1.size; simp only [World.size_alloc] at hsz1; have hy0 : w.heap.size < w1.heap.size := (by omega); have hy1 : w.heap.size + 1 < w1.heap.size := (by omega); have HBX := Aside0.mk hb1; clear hb1)
  refine wpIn_onlyN (fun a' w' => (∃ u0 u1 u2 u3 u4 u6 u7 u9 u10 u11 u12 u13 u14 u15 u16 u17 u18 u19 u20 u21 u22 u23 u24 u25 u26 u27 u28 u29 u30 u31 u32 u33 u34 u35 u36 u37 u38 u39 u40 u41 u43 u44 u45 u46 u47 u48 u49 : Value, a' = { tmps := #[u0, u1, u2, u3, u4, .pointer (some ⟨w.heap.size + 1, 0, none⟩), u6, u7, .pointer (some ⟨w1.heap.size, 0, none⟩), u9, u10, u11, u12, u13, u14, u15, u16, u17, u18, u19, u20, u21, u22, u23, u24, u25, u26, u27, u28, u29, u30, u31, u32, u33, u34, u35, u36, u37, u38, u39, u40, u41, .func (.func 50) #[] #[.pointer (some ⟨w1.heap.size + 1, 0, none⟩), .pointer (some ⟨w1.heap.size + 1 + 1, 0, none⟩)], u43, u44, u45, u46, u47, u48, u49], defers := [] }) ∧ w' = (((w1.alloc (.cells #[.int .i64 0] 3)).alloc (.cells #[.slice A ls.length c0] 22)).alloc (.cells #[.int .i64 fr] 3)).drew) ?first ?rest
  case first =>
    gi_region_with (gi_at_call 35; refine (round_in _ _ (hf 35) hro _ _ _ _ _ _ rfl).mono ?_; rintro e w' ⟨rfl, rfl⟩)
    all_goals
      refine ⟨?_, ?_⟩
      · exact ⟨_, _, _, _, _, _, _, _, _, _, _, _, _, _, _, _, _, _, _, _, _, _, _, _, _, _, _, _, _, _, _, _, _, _, _, _, _, _, _, _, _, _, _, _, _, _, _, rfl⟩
      · rfl
  case rest =>
    rintro _ W0 ⟨⟨u0, u1, u2, u3, u4, u6, u7, u9, u10, u11, u12, u13, u14, u15, u16, u17, u18, u19, u20, u21, u22, u23, u24, u25, u26, u27, u28, u29, u30, u31, u32, u33, u34, u35, u36, u37, u38, u39, u40, u41, u43, u44, u45, u46, u47, u48, u49, rfl⟩, hW0⟩
    have hb0 : Below w.heap.size w w1 := below_step HB.out HBX.out
    have hB0 : Below w.heap.size w W0 := by
      rw [hW0]
      exact ((((hb0.alloc (by omega) _).alloc (by simp; omega) _).alloc (by simp; omega) _).drew)
    have hsz : W0.heap.size = w1.heap.size + 3 := by rw [hW0]; simp
    obtain ⟨j0, j1, j2⟩ := own_three w1 (.cells #[.int .i64 0] 3) (.cells #[.slice A ls.length c0] 22) (.cells #[.int .i64 fr] 3)
    have hh : W0.heap = (((w1.alloc (.cells #[.int .i64 0] 3)).alloc (.cells #[.slice A ls.length c0] 22)).alloc (.cells #[.int .i64 fr] 3)).heap := by rw [hW0]; rfl
    rw [← hh] at j0 j1 j2
    have bO : Boxed W0 w1.heap.size 3 (.int .i64 0) := j0
    have k1 : W0.cell? ⟨w1.heap.size + 1, 0, none⟩ = some (.slice A ls.length c0) := by simp [World.cell?, j1]
    have k2 : W0.cell? ⟨w1.heap.size + 1 + 1, 0, none⟩ = some (.int .i64 fr) := by simp [World.cell?, j2]
    clear hh
    have bF : Boxed W0 (w.heap.size + 1) 3 (.int .i64 a2) := by
      have h0 : Boxed ((w.alloc (.cells #[.int .i64 a0_0, .int .i64 a0_1, .int .i64 a0_2, .slice A ls.length c0] 24)).alloc (.cells #[.int .i64 a2] 3)) (w.heap.size + 1) 3 (.int .i64 a2) := by
        have := Boxed.new (w.alloc (.cells #[.int .i64 a0_0, .int .i64 a0_1, .int .i64 a0_2, .slice A ls.length c0] 24)) 3 (.int .i64 a2)
        rwa [World.size_alloc] at this
      have h1 : Boxed w1 (w.heap.size + 1) 3 (.int .i64 a2) := own_box HBX.out h0 (by simp)
      rw [hW0]
      exact own_box ((((Below.refl w1.heap.size w1).alloc (Nat.le_refl _) _).alloc (by simp) _).alloc (by simp; omega) _).drew h1 hy1
    have hne : ¬ w.heap.size + 1 = w1.heap.size := by omega
    have hne' : ¬ w1.heap.size = w.heap.size + 1 := by omega
    clear hW0 j0 j1 j2 hc1 hf1
    have HI1 := Aside0.mk hi1
    gi_wp2
    refine wpIn_rangeFunc_ownH hro (by omega) (gf := 50) (lb := #[.pointer (some ⟨w1.heap.size + 1, 0, none⟩), .pointer (some ⟨w1.heap.size + 1 + 1, 0, none⟩)]) rfl (hf 50) (enters_of Try.func50 (by kernel_rfl) rfl)
      (round_stops 5 (by omega) (w1.heap.size + 1) (w1.heap.size + 1 + 1) A c0 ls fr hi0 hi1 hmx W0 (by omega) (by omega) w HR.out hB0 k1 k2) Kp2.t (Kp2.b (by omega) (by omega) (by omega)) (Below.refl _ _) (fun _ => rfl)
      (fun pre W => Boxed W w1.heap.size 3 (.int .i64 (pre.getLast?.getD 0)) ∧ Boxed W (w.heap.size + 1) 3 (.int .i64 (a2 - pre.length)) ∧ (pre.length : Int) ≤ a2 ∧ Below w.heap.size w W)
      (fun c pre W => Boxed W w1.heap.size 3 (.int .i64 (pre.getLast?.getD 0)) ∧ (c = .exit 1 ∧ (pre.length : Int) = a2 + 1) ∧ Below w.heap.size w W)
      (OwnFrom.and (Own.from (boxed_own _ _ _) _) (OwnFrom.and (Own.from (boxed_own _ _ _) _) (OwnFrom.and (ownFrom_pure _ _) (ownFrom_below (Nat.le_refl _) (by omega)))))
      (fun c => OwnFrom.and (Own.from (boxed_own _ _ _) _) (OwnFrom.and (ownFrom_pure _ _) (ownFrom_below (Nat.le_refl _) (by omega))))
      ⟨bO, by simpa using bF, by simp; omega, hB0⟩
      (fun x a' _ => a' = { tmps := #[u0, u1, u2, u3, u4, .pointer (some ⟨w.heap.size + 1, 0, none⟩), u6, u7, .pointer (some ⟨w1.heap.size, 0, none⟩), .int .i64 x, u10, u11, u12, u13, u14, u15, u16, u17, u18, u19, u20, u21, u22, u23, u24, u25, u26, u27, u28, u29, u30, u31, u32, u33, u34, u35, u36, u37, u38, u39, u40, u41, .func (.func 50) #[] #[.pointer (some ⟨w1.heap.size + 1, 0, none⟩), .pointer (some ⟨w1.heap.size + 1 + 1, 0, none⟩)], .int .i64 x, u44, u45, u46, u47, u48, u49], defers := [] })
      (fun x a' _ X Y row hs hg hr => hs)
      ?assign ?body ?done ?stop
    case assign =>
      rintro l pre x W K hi hK
      gi_wp2
      exact hK _ _ ((KeepsOthers.refl _).from _) (Kp2.refl _ _ _ _) hi rfl
    case body =>
      rintro l pre x a' W hl ⟨r, hr⟩ ⟨bO1, bF1, hle, hB1⟩ rfl hlt
      have cO := bO1.cell
      have fO := bO1.frozen
      have cF := bF1.cell
      have fF := bF1.frozen
      by_cases hq : a2 - pre.length = 0
      · have hq0 : (a2 - (pre.length : Int) == 0) = true := beq_iff_eq.2 hq
        gi_wp2
        exact ⟨(KeepsOthers.setCell _ _ _).from _, by simpa using bO1.set (.int .i64 x), ⟨rfl, by simp; omega⟩, hB1.setCell (p := ⟨w1.heap.size, 0, none⟩) (by simp; omega) _⟩
      · have hq0 : (a2 - (pre.length : Int) == 0) = false := beq_eq_false_iff_ne.2 hq
        have hb1 : a2 - pre.length - 1 = a2 - ((pre ++ [x]).length : Int) := by simp; omega
        gi_wp2
        refine ⟨((KeepsOthers.setCell _ _ _).trans (KeepsOthers.setCell _ _ _)).from _, ((Kp2.refl _ _ _ _).set (by omega) (by omega) (by omega) _).set (by omega) (by omega) (by omega) _, ?_, ?_, by simp; omega, (hB1.setCell (p := ⟨w1.heap.size, 0, none⟩) (by simp; omega) _).setCell (p := ⟨w.heap.size + 1, 0, none⟩) (by simp) _⟩
        · simpa using (bO1.set (.int .i64 x)).other hne' _
        · simpa using (bF1.other hne (.int .i64 x)).set (.int .i64 (a2 - ((pre.length : Int) + 1)))
    case done =>
      rintro D zs W hD rfl ⟨bO1, bF1, hle, hB1⟩ hK
      simp at hle
      omega
    case stop =>
      rintro D c pre W hD ⟨k, hk, rfl⟩ ⟨bO1, ⟨rfl, hlen⟩, hB1⟩ hK
      have cO := bO1.cell
      gi_wp2
      refine ⟨by simp, .inl ⟨_, _, rfl, run_takeDeferred hK, ?_⟩⟩
      have hka : k = a2.toNat := by simp at hlen; omega
      subst hka
      refine ⟨_, results_tmp2 rfl _ _ _, ?_, hB1.trans (belowK_b (w := w) (Nat.le_refl _) W D _ _ (by omega) hK rfl rfl)⟩
      simp [List.range_succ]
theorem hop_Channel.calls (k : Nat) (a0_0 : Int) (a0_1 : Int) (a0_2 : Int) (A0_3 : Option Addr) (c0_3 : Nat) (l0_3 : List Int) (a1 : Int) (a2 : Int) (r1 : Int) (r2 : Int) (w : World) (hr0_3 : Kd.C (Kd.int .i64) w A0_3 l0_3.length l0_3) (hc0_3 : l0_3.length ≤ c0_3) (h : hop_Channel.f k a0_0 a0_1 a0_2 l0_3 a1 a2 = some (r1, r2)) :
    Calls Try.prog 12 #[.agg #[.int .i64 a0_0, .int .i64 a0_1, .int .i64 a0_2, .slice A0_3 l0_3.length c0_3], .int .i64 a1, .int .i64 a2] w fun e w' => e = .returned (.tuple #[.int .i64 r1, .int .i64 r2]) ∧ Below w.heap.size w w' := by
  unfold hop_Channel.f at h
  by_cases hL : l0_3.length ≤ 1000
  · rw [if_pos hL] at h
    obtain ⟨t, ht, h⟩ := Option.bind_eq_some_iff.1 h
    by_cases h0 : t = 0
    · rw [if_pos h0] at h
      by_cases h1 : a1 < a0_1
      · rw [if_pos h1] at h
        simp only [Option.some.injEq, Prod.mk.injEq] at h
        obtain ⟨rfl, rfl⟩ := h
        exact chan_err k a0_0 a0_1 a0_2 A0_3 c0_3 l0_3 a1 a2 t 12 w hr0_3 hc0_3 ht (.inr (.inl ⟨h0, .inl h1, rfl⟩))
      · rw [if_neg h1] at h
        by_cases h2 : a1 ≥ a0_2
        · rw [if_pos h2] at h
          simp only [Option.some.injEq, Prod.mk.injEq] at h
          obtain ⟨rfl, rfl⟩ := h
          exact chan_err k a0_0 a0_1 a0_2 A0_3 c0_3 l0_3 a1 a2 t 12 w hr0_3 hc0_3 ht (.inr (.inl ⟨h0, .inr h2, rfl⟩))
        · rw [if_neg h2] at h
          by_cases h3 : a2 < 0
          · rw [if_pos h3] at h
            simp only [Option.some.injEq, Prod.mk.injEq] at h
            obtain ⟨rfl, rfl⟩ := h
            exact chan_err k a0_0 a0_1 a0_2 A0_3 c0_3 l0_3 a1 a2 t 2 w hr0_3 hc0_3 ht (.inr (.inr ⟨h0, h1, h2, .inl h3, rfl⟩))
          · rw [if_neg h3] at h
            by_cases h4 : a2 ≥ (l0_3.length : Int)
            · rw [if_pos h4] at h
              simp only [Option.some.injEq, Prod.mk.injEq] at h
              obtain ⟨rfl, rfl⟩ := h
              exact chan_err k a0_0 a0_1 a0_2 A0_3 c0_3 l0_3 a1 a2 t 2 w hr0_3 hc0_3 ht (.inr (.inr ⟨h0, h1, h2, .inr h4, rfl⟩))
            · rw [if_neg h4] at h
              by_cases h5 : 0 ≤ a1
              · rw [if_pos h5] at h
                simp only [Option.some.injEq, Prod.mk.injEq] at h
                obtain ⟨rfl, rfl⟩ := h
                subst h0
                exact callsIn_wide.1 (chan_in k a0_0 a0_1 a0_2 A0_3 c0_3 l0_3 a1 a2 w hr0_3 hc0_3 ht hL h1 h2 h3 h4 h5)
              · rw [if_neg h5] at h
                cases h
    · rw [if_neg h0] at h
      simp only [Option.some.injEq, Prod.mk.injEq] at h
      obtain ⟨rfl, rfl⟩ := h
      exact chan_err k a0_0 a0_1 a0_2 A0_3 c0_3 l0_3 a1 a2 t 1 w hr0_3 hc0_3 ht (.inl ⟨h0, rfl⟩)
  · rw [if_neg hL] at h
    cases h

end Go.Proofs.Ytddcacomphkeiaa.PA
