-- Written by a program of this session (mkprint.py: the kit's print, changed) for this claim. Not trusted: Lean checks it.
import Derived.Test.YtcdgpnjlaicbcaaPAx0
import Derived.Test.YtcdgpnjlaicbcaaPAx3
import Derived.Test.YtcdgpnjlaicbcaaPAx4
import Derived.Test.YtcdgpnjlaicbcaaPAx5
import Derived.Test.YtcdgpnjlaicbcaaPAx6
import Derived.Test.YtcdgpnjlaicbcaaPAx7
import Derived.RangeFuncNested
import Derived.RangeFuncLeaves
import Derived.RangeFuncBound
import Derived.RangeFuncCalls
import Derived.Shelf.Abstract
import Derived.WalkKit
import Derived.OwnWalkIn
import Derived.TacticsInMore
import Derived.LoopNIn
import Derived.LoopIn
namespace Go.Proofs.Ytcdgpnjlaicbcaa.PA
open Go.RowKit Go.Proofs.YtcdgpnjlaicbcaaW.PrintWords Go.Proofs.YtcdgpnjlaicbcaaW.PrintLast Go.Proofs.YtcdgpnjlaicbcaaW.PrintMore
attribute [local go_sem] max2_int min2_int max_two min_two max_three min_three max_four min_four   -- for this text's walks alone
set_option linter.unusedVariables false
set_option linter.unusedSimpArgs false

/-! ### geometry_at: function 52 -/
-- (own)
-- IMPORT Derived.RangeFuncNested
-- IMPORT Derived.RangeFuncLeaves
-- IMPORT Derived.RangeFuncBound
-- IMPORT Derived.RangeFuncCalls
-- IMPORT Derived.Shelf.Abstract
-- IMPORT Derived.WalkKit
-- IMPORT Derived.OwnWalkIn
-- IMPORT Derived.TacticsInMore
-- IMPORT Derived.LoopNIn
-- IMPORT Derived.LoopIn
open Go.Shelf
attribute [local go_sem] Oper.semAt_some
/-- Does the path from (a, b) to (c, d) cross the wall? -/
def crsB (a b c d : Int) (x : S47) : Bool := (geometry_Crosses.f 9 a b c d x.f0.f0 x.f0.f1 x.f1.f0 x.f1.f1 x.f2).getD false
theorem turn_tot (a b c d e f : Int) : ∃ r, geometry_turn.f a b c d e f = some r := by
  unfold geometry_turn.f cmp_Compare_int.f cmp_isNaN_int.f
  simp only [Option.bind_some]
  repeat' split
  all_goals exact ⟨_, rfl⟩
theorem within_tot (k : Nat) (a b c d e f : Int) : ∃ r, geometry_within.f (k + 1) a b c d e f = some r := by
  unfold geometry_within.f
  simp only [geometry_within.j0]
  repeat' split
  all_goals exact ⟨_, rfl⟩
theorem on_tot (k : Nat) (a b c d e f : Int) : ∃ r, geometry_on.f (k + 1) a b c d e f = some r := by
  obtain ⟨t, ht⟩ := turn_tot c d e f a b
  obtain ⟨u, hu⟩ := within_tot k a b c d e f
  unfold geometry_on.f
  simp only [ht, hu, geometry_on.j0, Option.bind_some]
  repeat' split
  all_goals exact ⟨_, rfl⟩
theorem crsB_eq (a b c d : Int) (x : S47) : geometry_Crosses.f 9 a b c d x.f0.f0 x.f0.f1 x.f1.f0 x.f1.f1 x.f2 = some (crsB a b c d x) := by
  unfold crsB
  obtain ⟨r, hr⟩ : ∃ r, geometry_Crosses.f 9 a b c d x.f0.f0 x.f0.f1 x.f1.f0 x.f1.f1 x.f2 = some r := by
    obtain ⟨t1, h1⟩ := on_tot 8 x.f0.f0 x.f0.f1 a b c d
    obtain ⟨t2, h2⟩ := on_tot 8 x.f1.f0 x.f1.f1 a b c d
    obtain ⟨t3, h3⟩ := on_tot 8 a b x.f0.f0 x.f0.f1 x.f1.f0 x.f1.f1
    obtain ⟨t4, h4⟩ := on_tot 8 c d x.f0.f0 x.f0.f1 x.f1.f0 x.f1.f1
    obtain ⟨u1, k1⟩ := turn_tot a b c d x.f0.f0 x.f0.f1
    obtain ⟨u2, k2⟩ := turn_tot a b c d x.f1.f0 x.f1.f1
    obtain ⟨u3, k3⟩ := turn_tot x.f0.f0 x.f0.f1 x.f1.f0 x.f1.f1 a b
    obtain ⟨u4, k4⟩ := turn_tot x.f0.f0 x.f0.f1 x.f1.f0 x.f1.f1 c d
    unfold geometry_Crosses.f
    simp only [h1, h2, h3, h4, k1, k2, k3, k4, geometry_Crosses.j0, Option.bind_some]
    repeat' split
    all_goals exact ⟨_, rfl⟩
  rw [hr]
  rfl
theorem crs_calls (a b c d : Int) (x : S47) (w : World) : Calls Try.prog 27 #[.agg #[.int .i64 a, .int .i64 b], .agg #[.int .i64 c, .int .i64 d], .agg #[.int .i64 x.f0.f0, .int .i64 x.f0.f1, .int .i64 x.f1.f0, .int .i64 x.f1.f1, .int .i64 x.f2]] w fun e w' => e = .returned (.bool (crsB a b c d x)) ∧ Below w.heap.size w w' :=
  geometry_Crosses.calls 9 a b c d _ _ _ _ _ _ w (crsB_eq a b c d x)
def sclB (p f : Int) : Int × Int := (power_Scale.f 9 p f).getD (0, 0)
theorem scl_eq (p f : Int) : power_Scale.f 9 p f = some ((sclB p f).1, (sclB p f).2) := by
  unfold sclB
  obtain ⟨r, hr⟩ : ∃ r, power_Scale.f 9 p f = some r := by
    unfold power_Scale.f power_power.f
    simp only [power_Scale.j0]
    split <;> (simp only [Option.bind_some]; repeat' split)
    all_goals exact ⟨_, rfl⟩
  rw [hr]
  rfl
theorem scl_calls (p f : Int) (w : World) : Calls Try.prog 69 #[.int .i64 p, .int .i64 f] w fun e w' => e = .returned (.tuple #[.int .i64 (sclB p f).1, .int .i64 (sclB p f).2]) ∧ Drawn0 w w' :=
  power_Scale.calls 9 p f _ _ w (scl_eq p f)
theorem own_bc {n₀ : Nat} {A B : World} (h : Below n₀ A B) : (∀ b o, b < n₀ → B.cell? ⟨b, o, none⟩ = A.cell? ⟨b, o, none⟩) ∧ (∀ b o, b < n₀ → B.frozen? ⟨b, o, none⟩ = A.frozen? ⟨b, o, none⟩) :=
  ⟨fun b o h1 => h.cell (p := ⟨b, o, none⟩) h1, fun b o h1 => h.frozen (p := ⟨b, o, none⟩) h1⟩
/-- What a round keeps: all that lay below n1, and what lay below n0 but for one block. -/
def KpB (n1 n0 P : Nat) (A B : World) : Prop := Below n1 A B ∧ ∀ i, i < n0 → i ≠ P → B.heap[i]? = A.heap[i]?
theorem KpB.refl (n1 n0 P : Nat) (A : World) : KpB n1 n0 P A A := ⟨Below.refl _ _, fun _ _ _ => rfl⟩
theorem KpB.trans {n1 n0 P : Nat} {A B C : World} (h : KpB n1 n0 P A B) (k : KpB n1 n0 P B C) : KpB n1 n0 P A C := ⟨h.1.trans k.1, fun i h1 h2 => (k.2 i h1 h2).trans (h.2 i h1 h2)⟩
theorem KpB.of_below {n1 n0 P : Nat} {A B : World} (h : Below A.heap.size A B) (h1 : n1 ≤ A.heap.size) (h0 : n0 ≤ A.heap.size) : KpB n1 n0 P A B := ⟨h.mono h1, fun i hi _ => h.block i (Nat.lt_of_lt_of_le hi h0)⟩
theorem own_kbc {n1 n0 P : Nat} {A B : World} (h : KpB n1 n0 P A B) : (∀ b o, b < n0 → b ≠ P → B.cell? ⟨b, o, none⟩ = A.cell? ⟨b, o, none⟩) ∧ (∀ b o, b < n0 → b ≠ P → B.frozen? ⟨b, o, none⟩ = A.frozen? ⟨b, o, none⟩) :=
  ⟨fun b o h1 h2 => by simp only [World.cell?, h.2 b h1 h2], fun b o h1 h2 => by simp only [World.frozen?, h.2 b h1 h2]⟩
set_option maxRecDepth 100000 in
set_option maxHeartbeats 4000000 in
/-- The closure of crossed: what is yielded are the walls that are crossed, in their order. -/
theorem crossed1_in (F : Fence) (n : Nat) (h73 : F.fn 73) (h27 : F.fn 27) (hro : F.round = none) (hcrs : ∀ a b c d x w, CallsIn F (n - 1) Try.prog 27 #[.agg #[.int .i64 a, .int .i64 b], .agg #[.int .i64 c, .int .i64 d], .agg #[.int .i64 x.f0.f0, .int .i64 x.f0.f1, .int .i64 x.f1.f0, .int .i64 x.f1.f1, .int .i64 x.f2]] w fun e w' => e = .returned (.bool (crsB a b c d x)) ∧ Below w.heap.size w w')
    (hn : 1 ≤ n) (l Bs Ba Bb n₀ : Nat) (A : Option Addr) (cap : Nat) (ws : List S47) (a b c d : Int) (hs : Bs < n₀) (ha : Ba < n₀) (hb : Bb < n₀) (P : Nat) (hs' : Bs ≠ P) (ha' : Ba ≠ P) (hb' : Bb ≠ P) (w0 : World) (hK : Kd.C k47 w0 A ws.length ws) (J Jx : List S47 → World → Prop)
    (W : World) (hJ : AbidesFrom W.heap.size J) (hn1 : n₀ ≤ W.heap.size) (hW0 : Below w0.heap.size w0 W)
    (hY : ∀ pre x W1, J pre W1 → pre.length < ws.length → YieldAt F (n - 1) Try.prog l #[.agg #[.int .i64 x.f0.f0, .int .i64 x.f0.f1, .int .i64 x.f1.f0, .int .i64 x.f1.f1, .int .i64 x.f2]] W1 fun e W' =>
      (e = .returned (.bool true) ∧ J (pre ++ [x]) W' ∧ KpB w0.heap.size n₀ P W1 W') ∨ (e = .returned (.bool false) ∧ Jx (pre ++ [x]) W'))
    (hBs : W.cell? ⟨Bs, 2, none⟩ = some (.slice A ws.length cap)) (hBa0 : W.cell? ⟨Ba, 0, none⟩ = some (.int .i64 a)) (hBa1 : W.cell? ⟨Ba, 1, none⟩ = some (.int .i64 b)) (hBb0 : W.cell? ⟨Bb, 0, none⟩ = some (.int .i64 c)) (hBb1 : W.cell? ⟨Bb, 1, none⟩ = some (.int .i64 d)) (h0 : J [] W) :
    CallsIn F n Try.prog 73 #[.func (.yield l) #[] #[], .pointer (some ⟨Bs, 0, none⟩), .pointer (some ⟨Ba, 0, none⟩), .pointer (some ⟨Bb, 0, none⟩)] W fun e W' => (∃ v, e = .returned v) ∧
      ((∃ ys, ys = ws.filter (crsB a b c d) ∧ J ys W') ∨ (∃ pre, True ∧ Jx pre W')) := by
  have hu47 := Try.underlying47
  have hu28 := Try.underlying28
  have hu26 := Try.underlying26
  refine callsIn_of_wp Try.func73 rfl h73 ?_ hro
  simp only [Try.ntmps73, List.size_toArray, List.length_cons, List.length_nil, Nat.reduceAdd, Nat.reduceSub, Array.replicate_succ, Array.replicate_zero, List.push_toArray, List.append_toArray, List.nil_append, List.cons_append]
  gi_wp2
  gi_loopw [6, 10] (fun v6 v10 wr => ∃ k : Nat, k ≤ ws.length ∧ v10 = .int .i64 k ∧ J ((ws.take k).filter (crsB a b c d)) wr ∧ KpB w0.heap.size n₀ P W wr)
    (fun _ v10 _ => ws.length - (intOf v10).toNat)
  case atStart => exact ⟨0, Nat.zero_le _, rfl, h0, KpB.refl _ _ _ _⟩
  case round =>
    obtain ⟨k, hk, rfl, hJs, hnx⟩ := hrel
    obtain ⟨hc, hf⟩ := own_kbc hnx
    have hsz := hnx.1.size
    have hzs : Bs < wr.heap.size := by omega
    have hza : Ba < wr.heap.size := by omega
    have hzb : Bb < wr.heap.size := by omega
    by_cases hlt : k < ws.length
    · have hm := hK.2.1
      have hltz : (k : Int) < (ws.length : Int) := by omega
      have hB0 : Below w0.heap.size w0 wr := hW0.trans hnx.1
      obtain ⟨ad, e, hc0, hc1, hc2, hc3, hc4⟩ := at_T47 (Kd.C_below hK hB0) (k : Int) (by omega) hltz
      subst e
      have hrd : rd_T47 ws (k : Int) = ws[k] := by unfold rd_T47; rw [List.getD_eq_getElem?_getD, Int.toNat_natCast, List.getElem?_eq_getElem hlt]; rfl
      rw [hrd, Int.toNat_natCast] at hc0 hc1 hc2 hc3 hc4
      clear hrd
      have htk : (ws.take (k + 1)).filter (crsB a b c d) = (ws.take k).filter (crsB a b c d) ++ [ws[k]].filter (crsB a b c d) := by
        rw [List.take_add_one, List.getElem?_eq_getElem hlt, List.filter_append]; rfl
      have hpl : ((ws.take k).filter (crsB a b c d)).length < ws.length := Nat.lt_of_le_of_lt (List.length_filter_le _ _) (by rw [List.length_take]; omega)
      generalize hy : ws[k] = y at hc0 hc1 hc2 hc3 hc4 htk
      have HY := Aside0.mk hy
      clear hy
      have hcall := hcrs a b c d y
      cases hq : crsB a b c d y with
      | false =>
        rw [hq] at hcall
        have htk' : (ws.take (k + 1)).filter (crsB a b c d) = (ws.take k).filter (crsB a b c d) := by rw [htk]; simp [hq]
        have HT := Aside0.mk htk'
        clear htk htk' hq
        gi_wp2_with (gi_at_call 27; refine (hcall _).mono ?_; rintro e w1 ⟨rfl, hb1⟩; have HB1 := Aside0.mk (below_step ((Below.refl wr.heap.size wr).alloc (Nat.le_refl _) (.cells #[.int .i64 y.f0.f0, .int .i64 y.f0.f1, .int .i64 y.f1.f0, .int .i64 y.f1.f1, .int .i64 y.f2] 47)) hb1); clear hb1)
        refine ⟨fun f hf => (by cases hf), ?_⟩
        gi_wp2
        go_roundw
        case rel => exact ⟨k + 1, by omega, by simp, by rw [HT.out]; exact hJ _ wr w1 none hJs (grown_of_below HB1.out none) (by simp), hnx.trans (KpB.of_below HB1.out (Nat.le_trans hW0.size hsz) (by omega))⟩
        case measure => simp [intOf]; omega
      | true =>
        rw [hq] at hcall
        have htk' : (ws.take (k + 1)).filter (crsB a b c d) = (ws.take k).filter (crsB a b c d) ++ [y] := by rw [htk]; simp [hq]
        have HT := Aside0.mk htk'
        clear htk htk' hq
        gi_wp2_with (gi_at_call 27; refine (hcall _).mono ?_; rintro e w1 ⟨rfl, hb1⟩; have HB1 := Aside0.mk (below_step ((Below.refl wr.heap.size wr).alloc (Nat.le_refl _) (.cells #[.int .i64 y.f0.f0, .int .i64 y.f0.f1, .int .i64 y.f1.f0, .int .i64 y.f1.f1, .int .i64 y.f2] 47)) hb1); obtain ⟨hc', hf'⟩ := own_bc hb1; have hsz1 := hb1.size; clear hb1; have hJ1 := hJ _ wr w1 none hJs (grown_of_below HB1.out none) (by simp); obtain ⟨fn, tmps, assign, body, hyd, hR⟩ := hY _ y w1 hJ1 hpl)
        refine hR.mono ?_
        rintro e W3 (⟨rfl, hJ3, hk3⟩ | ⟨rfl, hJx3⟩)
        · gi_wp2
          go_roundw
          case rel => exact ⟨k + 1, by omega, by simp, by rw [HT.out]; exact hJ3, (hnx.trans (KpB.of_below HB1.out (Nat.le_trans hW0.size hsz) (by omega))).trans hk3⟩
          case measure => simp [intOf]; omega
        · gi_wp2
          refine bodyPost_ret (results_none rfl _ _ _) rfl ?_
          exact ⟨⟨_, rfl⟩, .inr ⟨_, trivial, hJx3⟩⟩
    · obtain rfl : k = ws.length := by omega
      gi_wp2
      go_end0
      exact ⟨⟨_, rfl⟩, .inl ⟨_, rfl, by rw [List.take_length] at hJs; exact hJs⟩⟩
theorem crossed_in (F : Fence) (n : Nat) (h68 : F.fn 68) (hro : F.round = none) (v0 v1 v2 : Value) (v3 v4 v5 : Int) (a b c d : Int) (w : World) :
    CallsIn F n Try.prog 68 #[.agg #[v0, v1, v2, .int .i64 v3, .int .i64 v4, .int .i64 v5], .agg #[.int .i64 a, .int .i64 b], .agg #[.int .i64 c, .int .i64 d]] w fun e w' => e = .returned (.func (.func 73) #[] #[.pointer (some ⟨w.heap.size, 0, none⟩), .pointer (some ⟨w.heap.size + 1, 0, none⟩), .pointer (some ⟨w.heap.size + 1 + 1, 0, none⟩)]) ∧
      w' = ((w.alloc (.cells #[v0, v1, v2, .int .i64 v3, .int .i64 v4, .int .i64 v5] 26)).alloc (.cells #[.int .i64 a, .int .i64 b] 28)).alloc (.cells #[.int .i64 c, .int .i64 d] 28) := by
  have hu28 := Try.underlying28
  have hu26 := Try.underlying26
  refine callsIn_of_wp Try.func68 rfl h68 ?_ hro
  simp only [Try.ntmps68, List.size_toArray, List.length_cons, List.length_nil, Nat.reduceAdd, Nat.reduceSub, Array.replicate_succ, Array.replicate_zero, List.push_toArray, List.append_toArray, List.nil_append, List.cons_append]
  gi_wp2
  go_ret
  exact ⟨rfl, rfl⟩
theorem own_max2 (k k' : IntKind) (x y : Int) : Builtin.max2 (.int k x) (.int k' y) = pure (.int k (mx x y)) := max2_int k k' x y
attribute [-go_sem] max2_int
attribute [local go_sem] own_max2
def sqB (a b c d : Int) : Int := wrap64 ((wrap64 ((wrap64 (a - c)) * (wrap64 (a - c)))) + (wrap64 ((wrap64 (b - d)) * (wrap64 (b - d)))))
theorem sq_calls (a b c d : Int) (w : World) : Calls Try.prog 25 #[.agg #[.int .i64 a, .int .i64 b], .agg #[.int .i64 c, .int .i64 d]] w fun e w' => e = .returned (.int .i64 (sqB a b c d)) ∧ Below w.heap.size w w' :=
  geometry_Square.calls a b c d _ w rfl
def atM (a b c d : Int) : Int := mx (sqB a b c d) 100
def at1 (p m : Int) : Int := wrap64 (Int.tdiv (wrap64 (p * 100)) m)
def at0 (ex p m : Int) : Int := if ex = 4 then at1 (at1 p m) m else at1 p m
def sclF (p : Int) (ws : List S47) : Int := ws.foldl (fun p x => (sclB p x.f2).1) p
theorem sclF_snoc (p : Int) (ws : List S47) (x : S47) : sclF p (ws ++ [x]) = (sclB (sclF p ws) x.f2).1 := by simp [sclF]
theorem own_below_box {B : Nat} {A W : World} (h : Below B A W) {b : Nat} {t : TypeId} {v : Value} (hb : Boxed A b t v) (hlt : b < B) : Boxed W b t v := (h.block b hlt).trans hb
/-- A block with a wall in it. -/
def WBox (W : World) (B : Nat) (x : S47) : Prop := W.heap[B]? = some (.cells #[.int .i64 x.f0.f0, .int .i64 x.f0.f1, .int .i64 x.f1.f0, .int .i64 x.f1.f1, .int .i64 x.f2] 47 (0, 0))
theorem WBox.lt {W : World} {B : Nat} {x : S47} (h : WBox W B x) : B < W.heap.size := (Array.getElem?_eq_some_iff.1 h).1
theorem WBox.cell {W : World} {B : Nat} {x : S47} (h : WBox W B x) : W.cell? ⟨B, 4, none⟩ = some (.int .i64 x.f2) := by simp [World.cell?, show W.heap[B]? = _ from h]
theorem WBox.new (W : World) (x : S47) : WBox (W.alloc (.cells #[.int .i64 x.f0.f0, .int .i64 x.f0.f1, .int .i64 x.f1.f0, .int .i64 x.f1.f1, .int .i64 x.f2] 47)) W.heap.size x := World.alloc_heap_new W _
theorem wbox_own (B : Nat) (x : S47) : Own (fun (_ : Unit) W => WBox W B x) := fun _ X Y row hs hg hrow =>
  (hg.block B hs.lt (fun e' => by obtain ⟨o, ho, hc⟩ := hrow B e'.symm; rw [show X.heap[B]? = _ from hs] at ho; cases ho; cases hc)).trans hs
theorem kpb_t {n1 n0 P : Nat} : ∀ {A B C : World}, KpB n1 n0 P A B → KpB n1 n0 P B C → KpB n1 n0 P A C := fun h k => h.trans k
theorem crossed_stops (n : Nat) (hn : 1 ≤ n) (Bs Ba Bb n₀ : Nat) (A : Option Addr) (cap : Nat) (ws : List S47) (a b c d : Int) (w : World) (P : Nat) (hs : Bs < n₀) (ha : Ba < n₀) (hb : Bb < n₀) (hs' : Bs ≠ P) (ha' : Ba ≠ P) (hb' : Bb ≠ P) (w0 : World) (hK : Kd.C k47 w0 A ws.length ws) (hn1 : n₀ ≤ w.heap.size) (hW0 : Below w0.heap.size w0 w)
    (hBs : w.cell? ⟨Bs, 2, none⟩ = some (.slice A ws.length cap)) (hBa0 : w.cell? ⟨Ba, 0, none⟩ = some (.int .i64 a)) (hBa1 : w.cell? ⟨Ba, 1, none⟩ = some (.int .i64 b)) (hBb0 : w.cell? ⟨Bb, 0, none⟩ = some (.int .i64 c)) (hBb1 : w.cell? ⟨Bb, 1, none⟩ = some (.int .i64 d)) :
    SeqStopsK Fence.wide n Try.prog 73 #[.pointer (some ⟨Bs, 0, none⟩), .pointer (some ⟨Ba, 0, none⟩), .pointer (some ⟨Bb, 0, none⟩)] (fun x : S47 => #[Value.agg #[.int .i64 x.f0.f0, .int .i64 x.f0.f1, .int .i64 x.f1.f0, .int .i64 x.f1.f1, .int .i64 x.f2]]) (KpB w0.heap.size n₀ P) (fun ys => ys = ws.filter (crsB a b c d)) (fun _ => True) ws.length w := fun l J Jx W hW hJ _ hY h0 => by
  obtain ⟨hc, _⟩ := own_bc hW
  exact crossed1_in Fence.wide n trivial trivial rfl (fun a b c d x w => callsIn_wide.2 (crs_calls a b c d x w)) hn l Bs Ba Bb n₀ A cap ws a b c d hs ha hb P hs' ha' hb' w0 hK J Jx W hJ (Nat.le_trans hn1 hW.size) (hW0.trans (hW.mono hW0.size)) hY
    ((hc _ _ (by omega)).trans hBs) ((hc _ _ (by omega)).trans hBa0) ((hc _ _ (by omega)).trans hBa1) ((hc _ _ (by omega)).trans hBb0) ((hc _ _ (by omega)).trans hBb1) h0
theorem kpb_b {n1 n0 P : Nat} {w : World} (h1 : n1 ≤ w.heap.size) (h0 : n0 ≤ w.heap.size) : ∀ (W : World) (l : Nat) (o o' : Obj), w.heap.size ≤ l → W.heap[l]? = some o → o.isCells = false → o.isWalk = false → KpB n1 n0 P W (W.putObj l o') := fun W l o o' hl ho hc hw => by
  refine ⟨belowK_b h1 W l o o' hl ho hc hw, fun i hi _ => (grownBy_putObj' W l o').block i ?_ ?_⟩
  · have := (Array.getElem?_eq_some_iff.1 ho).1; omega
  · intro e; cases e; omega
theorem KeepsOthers.below {A B : World} (h : Below A.heap.size A B) : KeepsOthers A B := ⟨h.size, fun k o hk _ => (h.block k (Array.getElem?_eq_some_iff.1 hk).1).trans hk⟩
theorem kpb_set {n1 n0 P : Nat} {A B : World} (h : KpB n1 n0 P A B) (hP : n1 ≤ P) (v : Value) : KpB n1 n0 P A (B.setCell ⟨P, 0, none⟩ v) :=
  ⟨h.1.setCell (p := ⟨P, 0, none⟩) hP v, fun i hi hne => (Below.heap_setCell _ _ _ i (fun e => hne e)).trans (h.2 i hi hne)⟩
theorem own_three (X : World) (o1 o2 o3 : Obj) : (((X.alloc o1).alloc o2).alloc o3).heap[X.heap.size]? = some o1 ∧ (((X.alloc o1).alloc o2).alloc o3).heap[X.heap.size + 1]? = some o2 ∧ (((X.alloc o1).alloc o2).alloc o3).heap[X.heap.size + 1 + 1]? = some o3 := by
  have h1 := World.alloc_heap_new X o1
  have h2 := World.alloc_heap_new (X.alloc o1) o2
  have h3 := World.alloc_heap_new ((X.alloc o1).alloc o2) o3
  simp only [World.size_alloc] at h2 h3
  refine ⟨?_, ?_, h3⟩
  · exact (Below.heap_alloc _ _ _ (by simp; omega)).trans ((Below.heap_alloc _ _ _ (by simp)).trans h1)
  · exact (Below.heap_alloc _ _ _ (by simp)).trans h2
set_option maxRecDepth 100000 in
set_option maxHeartbeats 8000000 in
theorem at_in (A0 : Option Addr) (c0 n0 : Nat) (A1 : Option Addr) (c1 n1 : Nat) (A2 : Option Addr) (c2 : Nat) (l2 : List S47) (ex y z a b p c d : Int) (w : World) (hr : Kd.C k47 w A2 l2.length l2) :
    CallsIn Fence.wide 6 Try.prog 52 #[.agg #[.slice A0 n0 c0, .slice A1 n1 c1, .slice A2 l2.length c2, .int .i64 ex, .int .i64 y, .int .i64 z], .agg #[.int .i64 a, .int .i64 b], .int .i64 p, .agg #[.int .i64 c, .int .i64 d]] w fun e w' => e = .returned (.int .i64 (sclF (at0 ex p (atM a b c d)) (l2.filter (crsB a b c d)))) ∧ Below w.heap.size w w' := by
  have hu47 := Try.underlying47
  have hu28 := Try.underlying28
  have hu26 := Try.underlying26
  have hro : (Fence.wide).round = none := rfl
  have HR := Aside0.mk hr
  clear hr
  have hf : ∀ k, Fence.wide.fn k := fun _ => trivial
  have hm0 : ¬ atM a b c d = 0 := by unfold atM mx; split <;> omega
  have hsq := fun W => (callsIn_wide (n := 5)).2 (sq_calls a b c d W)
  have hscl := fun (q f : Int) (n : Nat) W => (callsIn_wide (n := n)).2 (scl_calls q f W)
  by_cases hx : ex = 4
  · subst hx
    have hat0 : at0 4 p (atM a b c d) = at1 (at1 p (atM a b c d)) (atM a b c d) := by unfold at0; rw [if_pos rfl]
    rw [hat0]
    refine callsIn_of_wp_marks Try.func52 rfl (hf 52) ?_ hro
    simp only [Try.ntmps52, List.size_toArray, List.length_cons, List.length_nil, Nat.reduceAdd, Nat.reduceSub, Array.replicate_succ, Array.replicate_zero, List.push_toArray, List.append_toArray, List.nil_append, List.cons_append]
    gi_wp2_with (first | (gi_at_call 25; refine (hsq _).mono ?_; rintro e w1 ⟨rfl, hb1⟩; simp only [World.size_alloc] at hb1; obtain ⟨hc1, hf1⟩ := own_bc hb1; have hsz1 := hb1.size; simp only [World.size_alloc] at hsz1; have hz0 : w.heap.size < w1.heap.size := (by omega); have hz1 : w.heap.size + 1 < w1.heap.size := (by omega); have hz2 : w.heap.size + 1 + 1 < w1.heap.size := (by omega); have hz3 : w.heap.size + 1 + 1 + 1 < w1.heap.size := (by omega); have hM : mx (sqB a b c d) 100 = atM a b c d := rfl) | (gi_at_call 68; refine (crossed_in _ _ (hf 68) hro _ _ _ _ _ _ _ _ _ _ _).mono ?_; rintro e w' ⟨rfl, rfl⟩))
    have bP : Boxed w1 (w.heap.size + 1 + 1) 3 (.int .i64 p) := own_below_box hb1 (((Boxed.new ((w.alloc (.cells #[.slice A0 n0 c0, .slice A1 n1 c1, .slice A2 l2.length c2, .int .i64 4, .int .i64 y, .int .i64 z] 26)).alloc (.cells #[.int .i64 a, .int .i64 b] 28)) 3 (.int .i64 p))).alloc _ |> fun h => by simpa only [World.size_alloc] using h) (by omega)
    have hb1' : Below w.heap.size w w1 := ((((((Below.refl _ w).alloc (Nat.le_refl _) (.cells #[.slice A0 n0 c0, .slice A1 n1 c1, .slice A2 l2.length c2, .int .i64 4, .int .i64 y, .int .i64 z] 26)).alloc (by simp) (.cells #[.int .i64 a, .int .i64 b] 28)).alloc (by simp; omega) (.cells #[.int .i64 p] 3)).alloc (by simp; omega) (.cells #[.int .i64 c, .int .i64 d] 28))).trans (hb1.mono (by omega))
    have bS := ((((bP.set (.int .i64 (at1 p (atM a b c d)))).set (.int .i64 (at1 (at1 p (atM a b c d)) (atM a b c d)))).alloc (.cells #[.slice A0 n0 c0, .slice A1 n1 c1, .slice A2 l2.length c2, .int .i64 4, .int .i64 y, .int .i64 z] 26)).alloc (.cells #[.int .i64 a, .int .i64 b] 28)).alloc (.cells #[.int .i64 c, .int .i64 d] 28)
    have hB0 := ((((hb1'.setCell (p := ⟨w.heap.size + 1 + 1, 0, none⟩) (by simp; omega) (.int .i64 (at1 p (atM a b c d)))).setCell (p := ⟨w.heap.size + 1 + 1, 0, none⟩) (by simp; omega) (.int .i64 (at1 (at1 p (atM a b c d)) (atM a b c d)))).alloc (by simp; omega) (.cells #[.slice A0 n0 c0, .slice A1 n1 c1, .slice A2 l2.length c2, .int .i64 4, .int .i64 y, .int .i64 z] 26)).alloc (by simp; omega) (.cells #[.int .i64 a, .int .i64 b] 28)).alloc (by simp; omega) (.cells #[.int .i64 c, .int .i64 d] 28)
    obtain ⟨W0, hW0⟩ : ∃ W0, ((((w1.setCell ⟨w.heap.size + 1 + 1, 0, none⟩ (.int .i64 (at1 p (atM a b c d)))).setCell ⟨w.heap.size + 1 + 1, 0, none⟩ (.int .i64 (at1 (at1 p (atM a b c d)) (atM a b c d)))).alloc (.cells #[.slice A0 n0 c0, .slice A1 n1 c1, .slice A2 l2.length c2, .int .i64 4, .int .i64 y, .int .i64 z] 26)).alloc (.cells #[.int .i64 a, .int .i64 b] 28)).alloc (.cells #[.int .i64 c, .int .i64 d] 28) = W0 := ⟨_, rfl⟩
    obtain ⟨j0, j1, j2⟩ := own_three ((w1.setCell ⟨w.heap.size + 1 + 1, 0, none⟩ (.int .i64 (at1 p (atM a b c d)))).setCell ⟨w.heap.size + 1 + 1, 0, none⟩ (.int .i64 (at1 (at1 p (atM a b c d)) (atM a b c d)))) (.cells #[.slice A0 n0 c0, .slice A1 n1 c1, .slice A2 l2.length c2, .int .i64 4, .int .i64 y, .int .i64 z] 26) (.cells #[.int .i64 a, .int .i64 b] 28) (.cells #[.int .i64 c, .int .i64 d] 28)
    rw [hW0] at j0 j1 j2
    have hzz : ((w1.setCell ⟨w.heap.size + 1 + 1, 0, none⟩ (.int .i64 (at1 p (atM a b c d)))).setCell ⟨w.heap.size + 1 + 1, 0, none⟩ (.int .i64 (at1 (at1 p (atM a b c d)) (atM a b c d)))).heap.size = w1.heap.size := by simp
    rw [hzz] at j0 j1 j2
    have k0 : W0.cell? ⟨w1.heap.size, 2, none⟩ = some (.slice A2 l2.length c2) := by simp [World.cell?, j0]
    have k1 : W0.cell? ⟨w1.heap.size + 1, 0, none⟩ = some (.int .i64 a) := by simp [World.cell?, j1]
    have k2 : W0.cell? ⟨w1.heap.size + 1, 1, none⟩ = some (.int .i64 b) := by simp [World.cell?, j1]
    have k3 : W0.cell? ⟨w1.heap.size + 1 + 1, 0, none⟩ = some (.int .i64 c) := by simp [World.cell?, j2]
    have k4 : W0.cell? ⟨w1.heap.size + 1 + 1, 1, none⟩ = some (.int .i64 d) := by simp [World.cell?, j2]
    have hsz : W0.heap.size = w1.heap.size + 3 := by rw [← hW0]; simp
    rw [hW0] at bS hB0
    change Code.wpIn _ _ _ _ _ _ (((((w1.setCell ⟨w.heap.size + 1 + 1, 0, none⟩ (.int .i64 (at1 p (atM a b c d)))).setCell ⟨w.heap.size + 1 + 1, 0, none⟩ (.int .i64 (at1 (at1 p (atM a b c d)) (atM a b c d)))).alloc (.cells #[.slice A0 n0 c0, .slice A1 n1 c1, .slice A2 l2.length c2, .int .i64 4, .int .i64 y, .int .i64 z] 26)).alloc (.cells #[.int .i64 a, .int .i64 b] 28)).alloc (.cells #[.int .i64 c, .int .i64 d] 28))
    rw [hW0]
    clear hW0 bP hb1' hb1 hc1 hf1 hsq
    clear hat0
    refine wpIn_rangeFunc_ownH hro (by omega) (gf := 73) (lb := #[.pointer (some ⟨w1.heap.size, 0, none⟩), .pointer (some ⟨w1.heap.size + 1, 0, none⟩), .pointer (some ⟨w1.heap.size + 1 + 1, 0, none⟩)]) rfl (hf 73) (enters_of Try.func73 (by kernel_rfl) rfl)
      (crossed_stops 5 (by omega) w1.heap.size (w1.heap.size + 1) (w1.heap.size + 1 + 1) (w1.heap.size + 3) A2 c2 l2 a b c d W0 (w.heap.size + 1 + 1) (by omega) (by omega) (by omega) (by omega) (by omega) (by omega) w HR.out (by omega) hB0 k0 k1 k2 k3 k4) kpb_t (kpb_b (by omega) (by omega)) (Below.refl _ _) (fun _ => rfl)
      (fun pre W => Boxed W (w.heap.size + 1 + 1) 3 (.int .i64 (sclF (at1 (at1 p (atM a b c d)) (atM a b c d)) pre)) ∧ Below w.heap.size w W ∧ w1.heap.size + 3 ≤ W.heap.size)
      (fun _ _ _ => False)
      (OwnFrom.and (Own.from (boxed_own _ _ _) _) (OwnFrom.and (ownFrom_below (Nat.le_refl _) (by omega)) (fun _ _ _ _ hs hg _ => Nat.le_trans hs hg.size)))
      (fun _ _ _ _ _ hs _ _ => hs)
      ⟨bS, hB0, by omega⟩
      (fun x a' W => ∃ Bx, w.heap.size + 1 + 1 < Bx ∧ WBox W Bx x ∧ a' = { tmps := #[Value.agg #[Value.slice A0 n0 c0, Value.slice A1 n1 c1, Value.slice A2 l2.length c2, Value.int .i64 4, Value.int .i64 y, Value.int .i64 z], Value.agg #[Value.int .i64 a, Value.int .i64 b], Value.int .i64 p, Value.agg #[Value.int .i64 c, Value.int .i64 d], Value.pointer (some ⟨w.heap.size, 0, none⟩), Value.pointer (some ⟨w.heap.size + 1, 0, none⟩), Value.pointer (some ⟨w.heap.size + 1 + 1, 0, none⟩), Value.pointer (some ⟨w.heap.size + 1 + 1 + 1, 0, none⟩), Value.int .i64 0, Value.int .i64 (atM a b c d), Value.pointer (some ⟨Bx, 0, none⟩), Value.agg #[Value.int .i64 a, Value.int .i64 b], Value.agg #[Value.int .i64 c, Value.int .i64 d], Value.int .i64 (sqB a b c d), Value.int .i64 (atM a b c d), Value.int .i64 p, Value.int .i64 (wrap64 (p * 100)), Value.int .i64 (atM a b c d), Value.int .i64 (at1 p (atM a b c d)), Value.pointer (some ⟨w.heap.size, 3, none⟩), Value.int .i64 4, Value.bool true, Value.int .i64 (at1 p (atM a b c d)), Value.int .i64 (wrap64 (at1 p (atM a b c d) * 100)), Value.int .i64 (atM a b c d), Value.int .i64 (at1 (at1 p (atM a b c d)) (atM a b c d)), Value.agg #[Value.slice A0 n0 c0, Value.slice A1 n1 c1, Value.slice A2 l2.length c2, Value.int .i64 4, Value.int .i64 y, Value.int .i64 z], Value.agg #[Value.int .i64 a, Value.int .i64 b], Value.agg #[Value.int .i64 c, Value.int .i64 d], Value.func (.func 73) #[] #[Value.pointer (some ⟨w1.heap.size, 0, none⟩), Value.pointer (some ⟨w1.heap.size + 1, 0, none⟩), Value.pointer (some ⟨w1.heap.size + 1 + 1, 0, none⟩)], Value.agg #[Value.int .i64 x.f0.f0, Value.int .i64 x.f0.f1, Value.int .i64 x.f1.f0, Value.int .i64 x.f1.f1, Value.int .i64 x.f2], undef, undef, undef, undef, undef, undef, undef, undef], defers := [] })
      (fun x a' _ X Y row hs hg hr => by obtain ⟨Bx, h1, h2, h3⟩ := hs; exact ⟨Bx, h1, wbox_own Bx x () X Y row h2 hg (fun r e => (hr r e).2), h3⟩)
      ?assign ?body ?done ?stop
    case assign =>
      rintro l pre x W K ⟨bS1, hB1, hz⟩ hK
      have hlt := bS1.lt
      gi_wp2
      exact hK _ _ ((KeepsOthers.alloc _ _).from _) (KpB.of_below ((Below.refl _ W).alloc (Nat.le_refl _) _) hB1.size hz) ⟨bS1.alloc _, hB1.alloc hB1.size _, by simp; omega⟩ ⟨W.heap.size, hlt, WBox.new W x, rfl⟩
    case body =>
      rintro l pre x a' W hl ⟨r, hr⟩ ⟨bS1, hB1, hz⟩ ⟨Bx, hBx, bX, rfl⟩ hlt
      have cS := bS1.cell
      have fS := bS1.frozen
      have cX := bX.cell
      have hs := hscl (sclF (at1 (at1 p (atM a b c d)) (atM a b c d)) pre) x.f2 3
      gi_wp2_with (gi_at_call 69; refine (CallsIn.inRound l (hs _)).mono ?_; rintro e w2 ⟨rfl, hdr⟩; have hb2 := Aside0.mk hdr.below; clear hdr; have bS2 := own_below_box hb2.out bS1 bS1.lt; have cS2 := bS2.cell; have fS2 := bS2.frozen)
      have hB2 := KpB.of_below (n1 := w.heap.size) (n0 := w1.heap.size + 3) (P := w.heap.size + 1 + 1) hb2.out hB1.size hz
      exact ⟨((KeepsOthers.below hb2.out).trans (KeepsOthers.setCell _ _ _)).from _, kpb_set hB2 (by omega) _, ⟨by rw [sclF_snoc]; exact bS2.set _, (hB1.trans hB2.1).setCell (p := ⟨w.heap.size + 1 + 1, 0, none⟩) (by simp; omega) _, by simpa using Nat.le_trans hz hb2.out.size⟩⟩
    case done =>
      rintro D zs W hD rfl ⟨bS1, hB1, hz⟩ hK
      have cS := bS1.cell
      gi_wp2
      refine ⟨by simp, .inl ⟨_, _, rfl, run_takeDeferred hK, ?_⟩⟩
      exact ⟨_, results_tmp rfl _ _ _, rfl, hB1.trans (belowK_b (w := w) (Nat.le_refl _) W D _ _ (by omega) hK rfl rfl)⟩
    case stop =>
      rintro D c pre W _ _ h _
      exact h.elim
  · have hat0 : at0 ex p (atM a b c d) = at1 p (atM a b c d) := by unfold at0; rw [if_neg hx]
    rw [hat0]
    refine callsIn_of_wp_marks Try.func52 rfl (hf 52) ?_ hro
    simp only [Try.ntmps52, List.size_toArray, List.length_cons, List.length_nil, Nat.reduceAdd, Nat.reduceSub, Array.replicate_succ, Array.replicate_zero, List.push_toArray, List.append_toArray, List.nil_append, List.cons_append]
    gi_wp2_with (first | (gi_at_call 25; refine (hsq _).mono ?_; rintro e w1 ⟨rfl, hb1⟩; simp only [World.size_alloc] at hb1; obtain ⟨hc1, hf1⟩ := own_bc hb1; have hsz1 := hb1.size; simp only [World.size_alloc] at hsz1; have hz0 : w.heap.size < w1.heap.size := (by omega); have hz1 : w.heap.size + 1 < w1.heap.size := (by omega); have hz2 : w.heap.size + 1 + 1 < w1.heap.size := (by omega); have hz3 : w.heap.size + 1 + 1 + 1 < w1.heap.size := (by omega); have hM : mx (sqB a b c d) 100 = atM a b c d := rfl) | (gi_at_call 68; refine (crossed_in _ _ (hf 68) hro _ _ _ _ _ _ _ _ _ _ _).mono ?_; rintro e w' ⟨rfl, rfl⟩))
    have bP : Boxed w1 (w.heap.size + 1 + 1) 3 (.int .i64 p) := own_below_box hb1 (((Boxed.new ((w.alloc (.cells #[.slice A0 n0 c0, .slice A1 n1 c1, .slice A2 l2.length c2, .int .i64 ex, .int .i64 y, .int .i64 z] 26)).alloc (.cells #[.int .i64 a, .int .i64 b] 28)) 3 (.int .i64 p))).alloc _ |> fun h => by simpa only [World.size_alloc] using h) (by omega)
    have hb1' : Below w.heap.size w w1 := ((((((Below.refl _ w).alloc (Nat.le_refl _) (.cells #[.slice A0 n0 c0, .slice A1 n1 c1, .slice A2 l2.length c2, .int .i64 ex, .int .i64 y, .int .i64 z] 26)).alloc (by simp) (.cells #[.int .i64 a, .int .i64 b] 28)).alloc (by simp; omega) (.cells #[.int .i64 p] 3)).alloc (by simp; omega) (.cells #[.int .i64 c, .int .i64 d] 28))).trans (hb1.mono (by omega))
    have bS := (((bP.set (.int .i64 (at1 p (atM a b c d)))).alloc (.cells #[.slice A0 n0 c0, .slice A1 n1 c1, .slice A2 l2.length c2, .int .i64 ex, .int .i64 y, .int .i64 z] 26)).alloc (.cells #[.int .i64 a, .int .i64 b] 28)).alloc (.cells #[.int .i64 c, .int .i64 d] 28)
    have hB0 := (((hb1'.setCell (p := ⟨w.heap.size + 1 + 1, 0, none⟩) (by simp; omega) (.int .i64 (at1 p (atM a b c d)))).alloc (by simp; omega) (.cells #[.slice A0 n0 c0, .slice A1 n1 c1, .slice A2 l2.length c2, .int .i64 ex, .int .i64 y, .int .i64 z] 26)).alloc (by simp; omega) (.cells #[.int .i64 a, .int .i64 b] 28)).alloc (by simp; omega) (.cells #[.int .i64 c, .int .i64 d] 28)
    obtain ⟨W0, hW0⟩ : ∃ W0, (((w1.setCell ⟨w.heap.size + 1 + 1, 0, none⟩ (.int .i64 (at1 p (atM a b c d)))).alloc (.cells #[.slice A0 n0 c0, .slice A1 n1 c1, .slice A2 l2.length c2, .int .i64 ex, .int .i64 y, .int .i64 z] 26)).alloc (.cells #[.int .i64 a, .int .i64 b] 28)).alloc (.cells #[.int .i64 c, .int .i64 d] 28) = W0 := ⟨_, rfl⟩
    obtain ⟨j0, j1, j2⟩ := own_three (w1.setCell ⟨w.heap.size + 1 + 1, 0, none⟩ (.int .i64 (at1 p (atM a b c d)))) (.cells #[.slice A0 n0 c0, .slice A1 n1 c1, .slice A2 l2.length c2, .int .i64 ex, .int .i64 y, .int .i64 z] 26) (.cells #[.int .i64 a, .int .i64 b] 28) (.cells #[.int .i64 c, .int .i64 d] 28)
    rw [hW0] at j0 j1 j2
    have hzz : (w1.setCell ⟨w.heap.size + 1 + 1, 0, none⟩ (.int .i64 (at1 p (atM a b c d)))).heap.size = w1.heap.size := by simp
    rw [hzz] at j0 j1 j2
    have k0 : W0.cell? ⟨w1.heap.size, 2, none⟩ = some (.slice A2 l2.length c2) := by simp [World.cell?, j0]
    have k1 : W0.cell? ⟨w1.heap.size + 1, 0, none⟩ = some (.int .i64 a) := by simp [World.cell?, j1]
    have k2 : W0.cell? ⟨w1.heap.size + 1, 1, none⟩ = some (.int .i64 b) := by simp [World.cell?, j1]
    have k3 : W0.cell? ⟨w1.heap.size + 1 + 1, 0, none⟩ = some (.int .i64 c) := by simp [World.cell?, j2]
    have k4 : W0.cell? ⟨w1.heap.size + 1 + 1, 1, none⟩ = some (.int .i64 d) := by simp [World.cell?, j2]
    have hsz : W0.heap.size = w1.heap.size + 3 := by rw [← hW0]; simp
    rw [hW0] at bS hB0
    change Code.wpIn _ _ _ _ _ _ ((((w1.setCell ⟨w.heap.size + 1 + 1, 0, none⟩ (.int .i64 (at1 p (atM a b c d)))).alloc (.cells #[.slice A0 n0 c0, .slice A1 n1 c1, .slice A2 l2.length c2, .int .i64 ex, .int .i64 y, .int .i64 z] 26)).alloc (.cells #[.int .i64 a, .int .i64 b] 28)).alloc (.cells #[.int .i64 c, .int .i64 d] 28))
    rw [hW0]
    clear hW0 bP hb1' hb1 hc1 hf1 hsq
    clear hat0
    refine wpIn_rangeFunc_ownH hro (by omega) (gf := 73) (lb := #[.pointer (some ⟨w1.heap.size, 0, none⟩), .pointer (some ⟨w1.heap.size + 1, 0, none⟩), .pointer (some ⟨w1.heap.size + 1 + 1, 0, none⟩)]) rfl (hf 73) (enters_of Try.func73 (by kernel_rfl) rfl)
      (crossed_stops 5 (by omega) w1.heap.size (w1.heap.size + 1) (w1.heap.size + 1 + 1) (w1.heap.size + 3) A2 c2 l2 a b c d W0 (w.heap.size + 1 + 1) (by omega) (by omega) (by omega) (by omega) (by omega) (by omega) w HR.out (by omega) hB0 k0 k1 k2 k3 k4) kpb_t (kpb_b (by omega) (by omega)) (Below.refl _ _) (fun _ => rfl)
      (fun pre W => Boxed W (w.heap.size + 1 + 1) 3 (.int .i64 (sclF (at1 p (atM a b c d)) pre)) ∧ Below w.heap.size w W ∧ w1.heap.size + 3 ≤ W.heap.size)
      (fun _ _ _ => False)
      (OwnFrom.and (Own.from (boxed_own _ _ _) _) (OwnFrom.and (ownFrom_below (Nat.le_refl _) (by omega)) (fun _ _ _ _ hs hg _ => Nat.le_trans hs hg.size)))
      (fun _ _ _ _ _ hs _ _ => hs)
      ⟨bS, hB0, by omega⟩
      (fun x a' W => ∃ Bx, w.heap.size + 1 + 1 < Bx ∧ WBox W Bx x ∧ a' = { tmps := #[Value.agg #[Value.slice A0 n0 c0, Value.slice A1 n1 c1, Value.slice A2 l2.length c2, Value.int .i64 ex, Value.int .i64 y, Value.int .i64 z], Value.agg #[Value.int .i64 a, Value.int .i64 b], Value.int .i64 p, Value.agg #[Value.int .i64 c, Value.int .i64 d], Value.pointer (some ⟨w.heap.size, 0, none⟩), Value.pointer (some ⟨w.heap.size + 1, 0, none⟩), Value.pointer (some ⟨w.heap.size + 1 + 1, 0, none⟩), Value.pointer (some ⟨w.heap.size + 1 + 1 + 1, 0, none⟩), Value.int .i64 0, Value.int .i64 (atM a b c d), Value.pointer (some ⟨Bx, 0, none⟩), Value.agg #[Value.int .i64 a, Value.int .i64 b], Value.agg #[Value.int .i64 c, Value.int .i64 d], Value.int .i64 (sqB a b c d), Value.int .i64 (atM a b c d), Value.int .i64 p, Value.int .i64 (wrap64 (p * 100)), Value.int .i64 (atM a b c d), Value.int .i64 (at1 p (atM a b c d)), Value.pointer (some ⟨w.heap.size, 3, none⟩), Value.int .i64 ex, Value.bool false, undef, undef, undef, undef, Value.agg #[Value.slice A0 n0 c0, Value.slice A1 n1 c1, Value.slice A2 l2.length c2, Value.int .i64 ex, Value.int .i64 y, Value.int .i64 z], Value.agg #[Value.int .i64 a, Value.int .i64 b], Value.agg #[Value.int .i64 c, Value.int .i64 d], Value.func (.func 73) #[] #[Value.pointer (some ⟨w1.heap.size, 0, none⟩), Value.pointer (some ⟨w1.heap.size + 1, 0, none⟩), Value.pointer (some ⟨w1.heap.size + 1 + 1, 0, none⟩)], Value.agg #[Value.int .i64 x.f0.f0, Value.int .i64 x.f0.f1, Value.int .i64 x.f1.f0, Value.int .i64 x.f1.f1, Value.int .i64 x.f2], undef, undef, undef, undef, undef, undef, undef, undef], defers := [] })
      (fun x a' _ X Y row hs hg hr => by obtain ⟨Bx, h1, h2, h3⟩ := hs; exact ⟨Bx, h1, wbox_own Bx x () X Y row h2 hg (fun r e => (hr r e).2), h3⟩)
      ?assign ?body ?done ?stop
    case assign =>
      rintro l pre x W K ⟨bS1, hB1, hz⟩ hK
      have hlt := bS1.lt
      gi_wp2
      exact hK _ _ ((KeepsOthers.alloc _ _).from _) (KpB.of_below ((Below.refl _ W).alloc (Nat.le_refl _) _) hB1.size hz) ⟨bS1.alloc _, hB1.alloc hB1.size _, by simp; omega⟩ ⟨W.heap.size, hlt, WBox.new W x, rfl⟩
    case body =>
      rintro l pre x a' W hl ⟨r, hr⟩ ⟨bS1, hB1, hz⟩ ⟨Bx, hBx, bX, rfl⟩ hlt
      have cS := bS1.cell
      have fS := bS1.frozen
      have cX := bX.cell
      have hs := hscl (sclF (at1 p (atM a b c d)) pre) x.f2 3
      gi_wp2_with (gi_at_call 69; refine (CallsIn.inRound l (hs _)).mono ?_; rintro e w2 ⟨rfl, hdr⟩; have hb2 := Aside0.mk hdr.below; clear hdr; have bS2 := own_below_box hb2.out bS1 bS1.lt; have cS2 := bS2.cell; have fS2 := bS2.frozen)
      have hB2 := KpB.of_below (n1 := w.heap.size) (n0 := w1.heap.size + 3) (P := w.heap.size + 1 + 1) hb2.out hB1.size hz
      exact ⟨((KeepsOthers.below hb2.out).trans (KeepsOthers.setCell _ _ _)).from _, kpb_set hB2 (by omega) _, ⟨by rw [sclF_snoc]; exact bS2.set _, (hB1.trans hB2.1).setCell (p := ⟨w.heap.size + 1 + 1, 0, none⟩) (by simp; omega) _, by simpa using Nat.le_trans hz hb2.out.size⟩⟩
    case done =>
      rintro D zs W hD rfl ⟨bS1, hB1, hz⟩ hK
      have cS := bS1.cell
      gi_wp2
      refine ⟨by simp, .inl ⟨_, _, rfl, run_takeDeferred hK, ?_⟩⟩
      exact ⟨_, results_tmp rfl _ _ _, rfl, hB1.trans (belowK_b (w := w) (Nat.le_refl _) W D _ _ (by omega) hK rfl rfl)⟩
    case stop =>
      rintro D c pre W _ _ h _
      exact h.elim
def geometry_at.f (_l0 : List S28) (_l1 : List Int) (l2 : List S47) (ex _y _z a b p c d : Int) : Option Int :=
  some (sclF (at0 ex p (atM a b c d)) (l2.filter (crsB a b c d)))
theorem geometry_at.calls (A0_0 : Option Addr) (c0_0 : Nat) (l0_0 : List S28) (A0_1 : Option Addr) (c0_1 : Nat) (l0_1 : List Int) (A0_2 : Option Addr) (c0_2 : Nat) (l0_2 : List S47) (a0_3 a0_4 a0_5 a1_0 a1_1 a2 a3_0 a3_1 : Int) (r : Int) (w : World) (_hr0_0 : Kd.C k28 w A0_0 l0_0.length l0_0) (_hc0_0 : l0_0.length ≤ c0_0) (_hr0_1 : Kd.C (Kd.int .i64) w A0_1 l0_1.length l0_1) (_hc0_1 : l0_1.length ≤ c0_1) (hr0_2 : Kd.C k47 w A0_2 l0_2.length l0_2) (_hc0_2 : l0_2.length ≤ c0_2) (h : geometry_at.f l0_0 l0_1 l0_2 a0_3 a0_4 a0_5 a1_0 a1_1 a2 a3_0 a3_1 = some r) :
    Calls Try.prog 52 #[.agg #[.slice A0_0 l0_0.length c0_0, .slice A0_1 l0_1.length c0_1, .slice A0_2 l0_2.length c0_2, .int .i64 a0_3, .int .i64 a0_4, .int .i64 a0_5], .agg #[.int .i64 a1_0, .int .i64 a1_1], .int .i64 a2, .agg #[.int .i64 a3_0, .int .i64 a3_1]] w fun e w' => e = .returned (.int .i64 r) ∧ Below w.heap.size w w' := by
  obtain rfl := Option.some.inj h
  exact callsIn_wide.1 (at_in A0_0 c0_0 l0_0.length A0_1 c0_1 l0_1.length A0_2 c0_2 l0_2 a0_3 a0_4 a0_5 a1_0 a1_1 a2 a3_0 a3_1 w hr0_2)

end Go.Proofs.Ytcdgpnjlaicbcaa.PA
