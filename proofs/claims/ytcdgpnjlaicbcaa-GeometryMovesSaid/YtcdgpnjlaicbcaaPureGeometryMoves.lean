/- The plain law of GeometryMoves: what the printed functions compute answers true. By this session. -/
import Derived.Test.YtcdgpnjlaicbcaaPAx0
import Derived.Test.YtcdgpnjlaicbcaaPAx11
import Derived.Test.YtcdgpnjlaicbcaaPAx35
import Derived.Test.YtcdgpnjlaicbcaaPAx36
import Derived.Test.YtcdgpnjlaicbcaaPAx50
import Derived.Test.YtcdgpnjlaicbcaaPAx51
import Derived.Test.YtcdgpnjlaicbcaaGeo
set_option linter.unusedVariables false
set_option linter.unusedSimpArgs false
namespace Go.Proofs.Ytcdgpnjlaicbcaa.Pure
open Go.RowKit Go.Proofs.YtcdgpnjlaicbcaaW.PrintWords Go.Proofs.YtcdgpnjlaicbcaaW.PrintLast Go.Proofs.YtcdgpnjlaicbcaaW.PrintMore Go.Proofs.Ytcdgpnjlaicbcaa.PA Go.Proofs.Ytcdgpnjlaicbcaa.Geo
theorem Dt_swap (a b c d e f : Int) : Dt c d a b e f = - Dt a b c d e f := by unfold Dt; grind
theorem Dt_move (a b c d e f x y : Int) : Dt (a - x) (b + y) (c - x) (d + y) (e - x) (f + y) = Dt a b c d e f := by
  unfold Dt
  rw [show c - x - (a - x) = c - a by omega, show f + y - (b + y) = f - b by omega, show d + y - (b + y) = d - b by omega, show e - x - (a - x) = e - a by omega]
theorem Dt_turn (a b c d e f : Int) : Dt b a d c f e = - Dt a b c d e f := by unfold Dt; grind
theorem mn_comm (a c : Int) : mn c a = mn a c := by have h := mnx a c; have h' := mnx c a; omega
theorem mx_comm (a c : Int) : mx c a = mx a c := by have h := mnx a c; have h' := mnx c a; omega
theorem mn_add (a c x : Int) : mn (a + x) (c + x) = mn a c + x := by have h := mnx a c; have h' := mnx (a + x) (c + x); omega
theorem mx_add (a c x : Int) : mx (a + x) (c + x) = mx a c + x := by have h := mnx a c; have h' := mnx (a + x) (c + x); omega
theorem mn_sub (a c x : Int) : mn (a - x) (c - x) = mn a c - x := by have h := mnx a c; have h' := mnx (a - x) (c - x); omega
theorem mx_sub (a c x : Int) : mx (a - x) (c - x) = mx a c - x := by have h := mnx a c; have h' := mnx (a - x) (c - x); omega
theorem onP_swap (p q a b c d : Int) : onP p q c d a b ↔ onP p q a b c d := by
  unfold onP inR
  rw [Dt_swap a b c d p q, mn_comm a c, mx_comm a c, mn_comm b d, mx_comm b d]
  constructor <;> intro h <;> refine ⟨by omega, h.2⟩
theorem onP_move (p q a b c d x y : Int) : onP (p - x) (q + y) (a - x) (b + y) (c - x) (d + y) ↔ onP p q a b c d := by
  unfold onP inR
  rw [Dt_move, mn_sub, mx_sub, mn_add, mx_add]
  constructor <;> rintro ⟨h, h1, h2, h3, h4⟩ <;> exact ⟨h, by omega, by omega, by omega, by omega⟩
theorem onP_turn (p q a b c d : Int) : onP q p b a d c ↔ onP p q a b c d := by
  unfold onP inR
  rw [Dt_turn a b c d p q]
  constructor <;> rintro ⟨h, h1, h2, h3, h4⟩ <;> exact ⟨by omega, h3, h4, h1, h2⟩
theorem crs_back (a b c d e f g h : Int) : crsP c d a b e f g h ↔ crsP a b c d e f g h := by
  unfold crsP
  rw [onP_swap e f a b c d, onP_swap g h a b c d, Dt_swap a b c d e f, Dt_swap a b c d g h, Int.neg_mul_neg, Int.mul_comm (Dt e f g h c d)]
  constructor <;> (rintro (h | h | h | h | h) <;> simp only [h, true_or, or_true, and_self])
theorem crs_wall (a b c d e f g h : Int) : crsP a b c d g h e f ↔ crsP a b c d e f g h := by
  unfold crsP
  rw [onP_swap a b e f g h, onP_swap c d e f g h, Dt_swap e f g h a b, Dt_swap e f g h c d, Int.neg_mul_neg, Int.mul_comm (Dt a b c d g h)]
  constructor <;> (rintro (h | h | h | h | h) <;> simp only [h, true_or, or_true, and_self])
theorem crs_change (a b c d e f g h : Int) : crsP e f g h a b c d ↔ crsP a b c d e f g h := by
  unfold crsP
  constructor <;> (rintro (h | h | h | h | ⟨h, h'⟩) <;> simp only [h, true_or, or_true, and_self])
  · exact .inr (.inr (.inr (.inr ⟨h', trivial⟩)))
  · exact .inr (.inr (.inr (.inr ⟨h', trivial⟩)))
theorem crs_move (a b c d e f g h x y : Int) : crsP (a - x) (b + y) (c - x) (d + y) (e - x) (f + y) (g - x) (h + y) ↔ crsP a b c d e f g h := by
  unfold crsP
  simp only [onP_move, Dt_move]
theorem crs_turn (a b c d e f g h : Int) : crsP b a d c f e h g ↔ crsP a b c d e f g h := by
  unfold crsP
  rw [onP_turn e f a b c d, onP_turn g h a b c d, onP_turn a b e f g h, onP_turn c d e f g h, Dt_turn a b c d e f, Dt_turn a b c d g h, Dt_turn e f g h a b, Dt_turn e f g h c d, Int.neg_mul_neg, Int.neg_mul_neg]
theorem sq_back (a b c d : Int) : sq c d a b = sq a b c d := by unfold sq; grind
theorem sq_move (a b c d x y : Int) : sq (a - x) (b + y) (c - x) (d + y) = sq a b c d := by
  unfold sq
  rw [show a - x - (c - x) = a - c by omega, show b + y - (d + y) = b - d by omega]
theorem sq_turn (a b c d : Int) : sq b a d c = sq a b c d := by unfold sq; omega
theorem sq_zero (a b c d : Int) : sq a b c d = 0 ↔ (a = c ∧ b = d) := by
  unfold sq
  constructor
  · intro h
    have h1 := sqn (a - c); have h2 := sqn (b - d)
    have h3 : (a - c) * (a - c) = 0 := by omega
    have h4 : (b - d) * (b - d) = 0 := by omega
    rcases Int.mul_eq_zero.1 h3 with h3 | h3 <;> rcases Int.mul_eq_zero.1 h4 with h4 | h4 <;> omega
  · rintro ⟨rfl, rfl⟩
    simp
def mbad (x : S28) : Prop := x.f0 < 0 ∨ x.f0 > 10000 ∨ x.f1 < 0 ∨ x.f1 > 10000
instance (x : S28) : Decidable (mbad x) := by unfold mbad; infer_instance
theorem mstep (k : Nat) (L : List S28) (i : Int) (h0 : 0 ≤ i) (h1 : i < (L.length : Int)) (h2 : i < 1000) (e f g h j x y a b c d : Int) :
    hopmeshlaw05_GeometryMoves.l0 (k + 1) L L.length i e f g h j x y a b c d = if mbad (rd_T28 L i) then some true else hopmeshlaw05_GeometryMoves.l0 k L L.length (i + 1) e f g h j x y a b c d := by
  rw [hopmeshlaw05_GeometryMoves.l0, if_pos h1, if_pos h0, if_pos h1]
  rw [w64 (x := i + 1) (by omega) (by omega)]
  unfold mbad
  generalize rd_T28 L i = x
  by_cases q1 : x.f0 < 0
  · simp [q1]
  · by_cases q2 : x.f0 > 10000
    · simp [q1, q2]
    · by_cases q3 : x.f1 < 0
      · simp [q1, q2, q3]
      · by_cases q4 : x.f1 > 10000
        · simp [q1, q2, q3, q4]
        · simp [q1, q2, q3, q4]
theorem mlast (k : Nat) (L : List S28) {a b c d e f g h x y : Int} (j : Int) (ha : 0 ≤ a ∧ a ≤ 10000) (hb : 0 ≤ b ∧ b ≤ 10000) (hc : 0 ≤ c ∧ c ≤ 10000) (hd : 0 ≤ d ∧ d ≤ 10000) (he : 0 ≤ e ∧ e ≤ 10000) (hf : 0 ≤ f ∧ f ≤ 10000) (hg : 0 ≤ g ∧ g ≤ 10000) (hh : 0 ≤ h ∧ h ≤ 10000) (hx : 0 ≤ x ∧ x ≤ 10000) (hy : 0 ≤ y ∧ y ≤ 10000) :
    hopmeshlaw05_GeometryMoves.l0 (k + 2) L L.length L.length e f g h j x y a b c d = some true := by
  have nn : ∀ {x : Int}, 0 ≤ x ∧ x ≤ 10000 → nr x := fun h => ⟨by omega, by omega⟩
  have ns : ∀ {z : Int}, 0 ≤ z ∧ z ≤ 10000 → nr (z - x) := fun h => ⟨by omega, by omega⟩
  have na : ∀ {z : Int}, 0 ≤ z ∧ z ≤ 10000 → nr (z + y) := fun h => ⟨by omega, by omega⟩
  have ws : ∀ {z : Int}, 0 ≤ z ∧ z ≤ 10000 → wrap64 (z - x) = z - x := fun h => w64 (by omega) (by omega)
  have wa : ∀ {z : Int}, 0 ≤ z ∧ z ≤ 10000 → wrap64 (z + y) = z + y := fun h => w64 (by omega) (by omega)
  rw [hopmeshlaw05_GeometryMoves.l0, if_neg (by omega)]
  simp only [hopmeshlaw05_GeometryMoves_1.f, hopmeshlaw05_GeometryMoves_2.f, hopmeshlaw05_GeometryMoves_3.f, Option.bind_some]
  rw [ws ha, wa hb, ws hc, wa hd, ws he, wa hf, ws hg, wa hh]
  rw [cross_at (by omega) j (nn ha) (nn hb) (nn hc) (nn hd) (nn he) (nn hf) (nn hg) (nn hh), cross_at (by omega) j (nn hc) (nn hd) (nn ha) (nn hb) (nn he) (nn hf) (nn hg) (nn hh),
    cross_at (by omega) j (nn ha) (nn hb) (nn hc) (nn hd) (nn hg) (nn hh) (nn he) (nn hf), cross_at (by omega) j (nn he) (nn hf) (nn hg) (nn hh) (nn ha) (nn hb) (nn hc) (nn hd),
    cross_at (by omega) j (ns ha) (na hb) (ns hc) (na hd) (ns he) (na hf) (ns hg) (na hh), cross_at (by omega) j (nn hb) (nn ha) (nn hd) (nn hc) (nn hf) (nn he) (nn hh) (nn hg)]
  rw [(sq_eq (nn ha) (nn hb) (nn hc) (nn hd)).1, (sq_eq (nn hc) (nn hd) (nn ha) (nn hb)).1, (sq_eq (ns ha) (na hb) (ns hc) (na hd)).1, (sq_eq (nn hb) (nn ha) (nn hd) (nn hc)).1]
  rw [sq_back a b c d, sq_move, sq_turn a b c d]
  simp only [crs_back a b c d e f g h, crs_wall a b c d e f g h, crs_change a b c d e f g h, crs_move, crs_turn a b c d e f g h, Option.bind_some]
  have h0 := (sq_eq (nn ha) (nn hb) (nn hc) (nn hd)).2.1
  have hz := sq_zero a b c d
  have hq : ((sq a b c d == 0) != (a == c && (b == d))) = false := by
    rw [bne_eq_false_iff_eq, Bool.eq_iff_iff]
    simpa using hz
  simp only [hq, Bool.false_eq_true, if_false, show ¬ sq a b c d < 0 by omega, if_true, beq_self_eq_true]
theorem GeometryMoves (y0_0 : S28) (y0_1 : S28) (y1_0 : S28) (y1_1 : S28) (y1_2 : Int) (y2_0 : Int) (y2_1 : Int) (_w0_0 : ((Lit.int .i64 y0_0.f0).wf = true ∧ (Lit.int .i64 y0_0.f1).wf = true)) (_w0_1 : ((Lit.int .i64 y0_1.f0).wf = true ∧ (Lit.int .i64 y0_1.f1).wf = true)) (_w1_0 : ((Lit.int .i64 y1_0.f0).wf = true ∧ (Lit.int .i64 y1_0.f1).wf = true)) (_w1_1 : ((Lit.int .i64 y1_1.f0).wf = true ∧ (Lit.int .i64 y1_1.f1).wf = true)) (_w1_2 : (Lit.int .i64 y1_2).wf = true) (_w2_0 : (Lit.int .i64 y2_0).wf = true) (_w2_1 : (Lit.int .i64 y2_1).wf = true) : ∃ k, hopmeshlaw05_GeometryMoves.f k y0_0.f0 y0_0.f1 y0_1.f0 y0_1.f1 y1_0.f0 y1_0.f1 y1_1.f0 y1_1.f1 y1_2 y2_0 y2_1 = some true := by
  refine ⟨9, ?_⟩
  unfold hopmeshlaw05_GeometryMoves.f hopmeshlaw05_awake.f
  simp only [Option.bind_some, if_true]
  have s := fun k i h0 h1 h2 => mstep k [(⟨y0_0.f0, y0_0.f1⟩ : S28), (⟨y0_1.f0, y0_1.f1⟩ : S28), (⟨y1_0.f0, y1_0.f1⟩ : S28), (⟨y1_1.f0, y1_1.f1⟩ : S28), (⟨y2_0, y2_1⟩ : S28)] i h0 h1 h2 y1_0.f0 y1_0.f1 y1_1.f0 y1_1.f1 y1_2 y2_0 y2_1 y0_0.f0 y0_0.f1 y0_1.f0 y0_1.f1
  have t := fun ha hb hc hd he hf hg hh hx hy => mlast 2 [(⟨y0_0.f0, y0_0.f1⟩ : S28), (⟨y0_1.f0, y0_1.f1⟩ : S28), (⟨y1_0.f0, y1_0.f1⟩ : S28), (⟨y1_1.f0, y1_1.f1⟩ : S28), (⟨y2_0, y2_1⟩ : S28)] (a := y0_0.f0) (b := y0_0.f1) (c := y0_1.f0) (d := y0_1.f1) (e := y1_0.f0) (f := y1_0.f1) (g := y1_1.f0) (h := y1_1.f1) (x := y2_0) (y := y2_1) y1_2 ha hb hc hd he hf hg hh hx hy
  rw [s 8 0 (by simp) (by simp) (by simp)]
  split
  · rfl
  · rename_i b0
    rw [s 7 (0 + 1) (by simp) (by simp) (by simp)]
    split
    · rfl
    · rename_i b1
      rw [s 6 (0 + 1 + 1) (by simp) (by simp) (by simp)]
      split
      · rfl
      · rename_i b2
        rw [s 5 (0 + 1 + 1 + 1) (by simp) (by simp) (by simp)]
        split
        · rfl
        · rename_i b3
          rw [s 4 (0 + 1 + 1 + 1 + 1) (by simp) (by simp) (by simp)]
          split
          · rfl
          · rename_i b4
            simp only [mbad, rd_T28, show ((0 : Int) + 1).toNat = 1 from rfl, show ((0 : Int) + 1 + 1).toNat = 2 from rfl, show ((0 : Int) + 1 + 1 + 1).toNat = 3 from rfl, show ((0 : Int) + 1 + 1 + 1 + 1).toNat = 4 from rfl, Int.toNat_zero, List.getD_cons_zero, List.getD_cons_succ] at b0 b1 b2 b3 b4
            exact t (by omega) (by omega) (by omega) (by omega) (by omega) (by omega) (by omega) (by omega) (by omega) (by omega)
end Go.Proofs.Ytcdgpnjlaicbcaa.Pure
