-- Written by a program of this session (mkprint.py: the kit's print, changed) for this claim. Not trusted: Lean checks it.
import Derived.Test.YtddcacomphkeiaaPAx0
import Derived.Test.YtddcacomphkeiaaPAx20
import Derived.Test.YtddcacomphkeiaaPAx30
import Derived.Test.YtddcacomphkeiaaHof
import Derived.Laws.EntriesVeiled
namespace Go.Proofs.Ytddcacomphkeiaa.PA
open Go.RowKit Go.Proofs.YtddcacomphkeiaaW.PrintWords Go.Proofs.YtddcacomphkeiaaW.PrintLast Go.Proofs.YtddcacomphkeiaaW.PrintMore
attribute [local go_sem] max2_int min2_int max_two min_two max_three min_three max_four min_four   -- for this text's walks alone
set_option linter.unusedVariables false
set_option linter.unusedSimpArgs false

/-! ### hop_InForce: function 29 -/
-- (own)
-- IMPORT Derived.Test.YtddcacomphkeiaaHof
-- IMPORT Derived.Laws.EntriesVeiled
open Go.Shelf
theorem own_bci {n₀ : Nat} {A B : World} (h : Below n₀ A B) : (∀ b o, b < n₀ → B.cell? ⟨b, o, none⟩ = A.cell? ⟨b, o, none⟩) ∧ (∀ b o, b < n₀ → B.frozen? ⟨b, o, none⟩ = A.frozen? ⟨b, o, none⟩) :=
  ⟨fun b o h1 => h.cell (p := ⟨b, o, none⟩) h1, fun b o h1 => h.frozen (p := ⟨b, o, none⟩) h1⟩
/-- A list is in force in a slot. -/
def inF (slot : Int) (x : S24) : Bool := decide (x.f1 ≤ slot) && decide (slot < x.f2)
set_option maxHeartbeats 2000000 in
theorem inF_calls (slot : Int) (Bs : Nat) (x : S24) (A : Option Addr) (c : Nat) (W : World) (hB : W.heap[Bs]? = some (.cells #[.int .i64 slot] 3 (0, 0))) :
    Calls Try.prog 48 #[.agg #[.int .i64 x.f0, .int .i64 x.f1, .int .i64 x.f2, .slice A x.f3.length c], .pointer (some ⟨Bs, 0, none⟩)] W fun e w' => e = .returned (.bool (inF slot x)) ∧ Below W.heap.size W w' := by
  obtain ⟨a, b, d, l⟩ := x
  dsimp only [inF]
  have hu24 := Try.underlying24
  have hc : W.cell? ⟨Bs, 0, none⟩ = some (.int .i64 slot) := (blk_cell hB 0).trans rfl
  have hlt : Bs < W.heap.size := blk_lt hB
  have hne : ¬ Bs = W.heap.size := by omega
  have hlt1 : Bs < W.heap.size + 1 := by omega
  clear hB
  by_cases h1 : b ≤ slot
  · have d1 : decide (b ≤ slot) = true := decide_eq_true h1
    by_cases h2 : slot < d
    · have d2 : decide (slot < d) = true := decide_eq_true h2
      rw [d1, d2]
      clear h1 h2
      go_enter Try.func48, Try.ntmps48
      go_wp2
      go_ret
      exact ⟨by simp, (Below.refl _ _).alloc (Nat.le_refl _) _⟩
    · have d2 : decide (slot < d) = false := decide_eq_false h2
      rw [d1, d2]
      clear h1 h2
      go_enter Try.func48, Try.ntmps48
      go_wp2
      go_ret
      exact ⟨by simp, (Below.refl _ _).alloc (Nat.le_refl _) _⟩
  · have d1 : decide (b ≤ slot) = false := decide_eq_false h1
    rw [d1]
    clear h1
    go_enter Try.func48, Try.ntmps48
    go_wp2
    go_ret
    exact ⟨by simp, (Below.refl _ _).alloc (Nat.le_refl _) _⟩
def hop_InForce.f (k : Nat) (l0 : List S24) (a1 : Int) : Option (Int × Int × Int × List Int × Int) :=
  (hop_CheckAll.f k l0).bind fun t => (if t = 0 then (match l0.find? (inF a1) with | none => some (0, 0, 0, [], 7) | some x => (if x.f3.length < 17592186044416 then (some (x.f0, x.f1, x.f2, x.f3, 0)) else (none))) else (some (0, 0, 0, [], t)))
theorem hop_InForce.mono : ∀ a0 a1 k, LeO (hop_InForce.f k a0 a1) (hop_InForce.f (k + 1) a0 a1) := by
  intro a0 a1 k
  unfold hop_InForce.f
  exact LeO.bind (hop_CheckAll.mono _ _) (fun _ => LeO.refl _)
def InfPost (w : World) (r1 r2 r3 : Int) (r4 : List Int) (r5 : Int) (e : Ending) (w' : World) : Prop := ∃ v3_ : Value, e = .returned (.tuple #[.agg #[.int .i64 r1, .int .i64 r2, .int .i64 r3, v3_], .int .i64 r5]) ∧ Kd.R (Kd.int .i64) 3 w' w.heap.size (fun _ => True) v3_ r4 ∧ Below w.heap.size w w'
set_option maxRecDepth 100000 in
set_option maxHeartbeats 8000000 in
theorem inf_err (k : Nat) (A0 : Option Addr) (c0 : Nat) (l : List S24) (slot t : Int) (w : World) (hr : Kd.C k24 w A0 l.length l) (hc : l.length ≤ c0) (ht : hop_CheckAll.f k l = some t) (h0 : t ≠ 0) :
    Calls Try.prog 29 #[.slice A0 l.length c0, .int .i64 slot] w (InfPost w 0 0 0 [] t) := by
  have hu24 := Try.underlying24
  have HB := Aside0.mk (((Below.refl w.heap.size w).alloc (Nat.le_refl _) (.cells #[.int .i64 slot] 3)).alloc (by simp) (.cells #[.int .i64 0, .int .i64 0, .int .i64 0, .slice none 0 0] 24))
  have HC := Aside0.mk (fun W hb => hop_CheckAll.calls k A0 c0 l t W (Kd.C_below hr hb) hc ht)
  have hd : (t != 0) = true := bne_iff_ne.2 h0
  clear hr hc ht h0
  go_enter Try.func29, Try.ntmps29
  go_wp2_with fail
  refine (HC.out _ HB.out).mono ?_
  rintro e w1 ⟨rfl, hb1⟩
  have B4 : w1.heap[w.heap.size + 1]? = some (.cells #[.int .i64 0, .int .i64 0, .int .i64 0, .slice none 0 0] 24 (0, 0)) := blk_below (by have := blk_new (w.alloc (.cells #[.int .i64 slot] 3)) (.cells #[.int .i64 0, .int .i64 0, .int .i64 0, .slice none 0 0] 24); rwa [World.size_alloc] at this) hb1
  have hc0 := (blk_cell B4 0).trans rfl
  have hc1 := (blk_cell B4 1).trans rfl
  have hc2 := (blk_cell B4 2).trans rfl
  have hc3 := (blk_cell B4 3).trans rfl
  have hf0 := blk_frozen B4 0
  have hf1 := blk_frozen B4 1
  have hf2 := blk_frozen B4 2
  have hf3 := blk_frozen B4 3
  have BB := Aside0.mk B4
  have HB1 := Aside0.mk (below_step HB.out hb1)
  clear B4 hb1
  go_wp2
  refine bodyPost_ret (results_ct rfl _ _ (w.heap.size + 1) 24 #[.int .i64 0, .int .i64 0, .int .i64 0, .slice none 0 0] (0, 0) _ rfl (by simpa using blk_set (blk_set (blk_set (blk_set BB.out 0 (.int .i64 0)) 1 (.int .i64 0)) 2 (.int .i64 0)) 3 (.slice none 0 0)) Try.underlying24 rfl (by kernel_rfl)) rfl ?_
  exact ⟨_, rfl, Kd.R_nil _ _ _ _ _, (((HB1.out.setCell (p := ⟨w.heap.size + 1, 0, none⟩) (by simp) _).setCell (p := ⟨w.heap.size + 1, 1, none⟩) (by simp) _).setCell (p := ⟨w.heap.size + 1, 2, none⟩) (by simp) _).setCell (p := ⟨w.heap.size + 1, 3, none⟩) (by simp) _⟩
theorem find_idx {p : S24 → Bool} {l : List S24} : (l.find? p = none ∧ fidx p l = -1) ∨ ∃ i, ∃ h : i < l.length, l.find? p = some l[i] ∧ fidx p l = (i : Int) := by
  by_cases h : l.any p = true
  · have hex : ∃ x, x ∈ l ∧ p x = true := by simpa using h
    have hi := List.findIdx_lt_length_of_exists hex
    refine .inr ⟨l.findIdx p, hi, ?_, by unfold fidx; rw [if_pos h]⟩
    rw [List.find?_eq_some_iff_getElem]
    refine ⟨List.findIdx_getElem, _, hi, rfl, fun j hj => ?_⟩
    simpa using List.not_of_lt_findIdx hj
  · refine .inl ⟨?_, by unfold fidx; rw [if_neg h]⟩
    rw [List.find?_eq_none]
    intro x hx hp
    exact h (List.any_eq_true.2 ⟨x, hx, hp⟩)
set_option maxRecDepth 100000 in
set_option maxHeartbeats 8000000 in
theorem inf_none (k : Nat) (A0 : Option Addr) (c0 : Nat) (l : List S24) (slot : Int) (w : World) (hr : Kd.C k24 w A0 l.length l) (hc : l.length ≤ c0) (ht : hop_CheckAll.f k l = some 0) (h0 : fidx (inF slot) l = -1) :
    Calls Try.prog 29 #[.slice A0 l.length c0, .int .i64 slot] w (InfPost w 0 0 0 [] 7) := by
  have hu24 := Try.underlying24
  have HB := Aside0.mk (((Below.refl w.heap.size w).alloc (Nat.le_refl _) (.cells #[.int .i64 slot] 3)).alloc (by simp) (.cells #[.int .i64 0, .int .i64 0, .int .i64 0, .slice none 0 0] 24))
  have HC := Aside0.mk (fun W hb => hop_CheckAll.calls k A0 c0 l 0 W (Kd.C_below hr hb) hc ht)
  have HI := Aside0.mk (fun W (hb : Below w.heap.size w W) (hB : W.heap[w.heap.size]? = some (.cells #[.int .i64 slot] 3 (0, 0))) => idx47 (inF slot) 48 #[.pointer (some ⟨w.heap.size, 0, none⟩)] (enters_of Try.func48 (by kernel_rfl) rfl) A0 c0 l W (fun W' x A c _ _ _ hb' => inF_calls slot w.heap.size x A c W' (blk_below hB hb')) (Kd.C_below hr hb))
  rw [h0] at HI
  clear hr hc ht h0
  go_enter Try.func29, Try.ntmps29
  go_wp2_with fail
  refine (HC.out _ HB.out).mono ?_
  rintro e w1 ⟨rfl, hb1⟩
  have B3 : w1.heap[w.heap.size]? = some (.cells #[.int .i64 slot] 3 (0, 0)) := blk_below (blk_alloc (blk_new w (.cells #[.int .i64 slot] 3)) _) hb1
  have B4 : w1.heap[w.heap.size + 1]? = some (.cells #[.int .i64 0, .int .i64 0, .int .i64 0, .slice none 0 0] 24 (0, 0)) := blk_below (by have := blk_new (w.alloc (.cells #[.int .i64 slot] 3)) (.cells #[.int .i64 0, .int .i64 0, .int .i64 0, .slice none 0 0] 24); rwa [World.size_alloc] at this) hb1
  have HB1 := Aside0.mk (below_step HB.out hb1)
  have BB := Aside0.mk B4
  have B3 := Aside0.mk B3
  clear B4 hb1
  go_wp2_with fail
  refine (HI.out _ HB1.out B3.out).mono ?_
  rintro e w2 ⟨rfl, hb2⟩
  have B4 := blk_below BB.out hb2
  have hc0 := (blk_cell B4 0).trans rfl
  have hc1 := (blk_cell B4 1).trans rfl
  have hc2 := (blk_cell B4 2).trans rfl
  have hc3 := (blk_cell B4 3).trans rfl
  have hf0 := blk_frozen B4 0
  have hf1 := blk_frozen B4 1
  have hf2 := blk_frozen B4 2
  have hf3 := blk_frozen B4 3
  have BC := Aside0.mk B4
  have HB2 := Aside0.mk (below_step HB1.out hb2)
  clear B4 hb2
  go_wp2
  refine bodyPost_ret (results_ct rfl _ _ (w.heap.size + 1) 24 #[.int .i64 0, .int .i64 0, .int .i64 0, .slice none 0 0] (0, 0) _ rfl (by simpa using blk_set (blk_set (blk_set (blk_set BC.out 0 (.int .i64 0)) 1 (.int .i64 0)) 2 (.int .i64 0)) 3 (.slice none 0 0)) Try.underlying24 rfl (by kernel_rfl)) rfl ?_
  exact ⟨_, rfl, Kd.R_nil _ _ _ _ _, (((HB2.out.setCell (p := ⟨w.heap.size + 1, 0, none⟩) (by simp) _).setCell (p := ⟨w.heap.size + 1, 1, none⟩) (by simp) _).setCell (p := ⟨w.heap.size + 1, 2, none⟩) (by simp) _).setCell (p := ⟨w.heap.size + 1, 3, none⟩) (by simp) _⟩
set_option maxRecDepth 100000 in
set_option maxHeartbeats 8000000 in
theorem inf_some (k : Nat) (A0 : Option Addr) (c0 : Nat) (l : List S24) (slot : Int) (w : World) (hr : Kd.C k24 w A0 l.length l) (hc : l.length ≤ c0) (ht : hop_CheckAll.f k l = some 0) (i : Nat) (hi : i < l.length) (h0 : fidx (inF slot) l = (i : Int)) (a b d : Int) (cs : List Int) (hx : l[i] = ⟨a, b, d, cs⟩) (hmx : cs.length < 17592186044416) :
    Calls Try.prog 29 #[.slice A0 l.length c0, .int .i64 slot] w (InfPost w a b d cs 0) := by
  have hu24 := Try.underlying24
  have hu51 := Try.underlying51
  have HB := Aside0.mk (((Below.refl w.heap.size w).alloc (Nat.le_refl _) (.cells #[.int .i64 slot] 3)).alloc (by simp) (.cells #[.int .i64 0, .int .i64 0, .int .i64 0, .slice none 0 0] 24))
  have HC := Aside0.mk (fun W hb => hop_CheckAll.calls k A0 c0 l 0 W (Kd.C_below hr hb) hc ht)
  have HI := Aside0.mk (fun W (hb : Below w.heap.size w W) (hB : W.heap[w.heap.size]? = some (.cells #[.int .i64 slot] 3 (0, 0))) => idx47 (inF slot) 48 #[.pointer (some ⟨w.heap.size, 0, none⟩)] (enters_of Try.func48 (by kernel_rfl) rfl) A0 c0 l W (fun W' x A c _ _ _ hb' => inF_calls slot w.heap.size x A c W' (blk_below hB hb')) (Kd.C_below hr hb))
  rw [h0] at HI
  have HR := Aside0.mk hr
  have hm := hr.2.1
  have HX := Aside0.mk hx
  clear hr hc ht h0 hx
  go_enter Try.func29, Try.ntmps29
  go_wp2_with fail
  refine (HC.out _ HB.out).mono ?_
  rintro e w1 ⟨rfl, hb1⟩
  have B3 : w1.heap[w.heap.size]? = some (.cells #[.int .i64 slot] 3 (0, 0)) := blk_below (blk_alloc (blk_new w (.cells #[.int .i64 slot] 3)) _) hb1
  have B4 : w1.heap[w.heap.size + 1]? = some (.cells #[.int .i64 0, .int .i64 0, .int .i64 0, .slice none 0 0] 24 (0, 0)) := blk_below (by have := blk_new (w.alloc (.cells #[.int .i64 slot] 3)) (.cells #[.int .i64 0, .int .i64 0, .int .i64 0, .slice none 0 0] 24); rwa [World.size_alloc] at this) hb1
  have HB1 := Aside0.mk (below_step HB.out hb1)
  have BB := Aside0.mk B4
  have B3 := Aside0.mk B3
  clear B4 hb1
  go_wp2_with fail
  refine (HI.out _ HB1.out B3.out).mono ?_
  rintro e w2 ⟨rfl, hb2⟩
  have HB2 := Aside0.mk (below_step HB1.out hb2)
  have BC := Aside0.mk (blk_below BB.out hb2)
  clear hb2
  obtain ⟨ad, A3, c3, e, hx0, hx1, hx2, hx3, hl3, hg3⟩ := at_T24 (Kd.C_below HR.out HB2.out) (i : Int) (by omega) (by omega)
  subst e
  have hrd : rd_T24 l (i : Int) = l[i] := by unfold rd_T24; rw [List.getD_eq_getElem?_getD, Int.toNat_natCast, List.getElem?_eq_getElem hi]; rfl
  rw [HX.out] at hrd
  rw [hrd, Int.toNat_natCast] at hx0 hx1 hx2 hx3
  rw [hrd] at hl3 hg3
  clear hrd
  dsimp only at hx0 hx1 hx2 hx3 hl3 hg3
  have HG := Aside0.mk hg3
  have HL := Aside0.mk hl3
  have HM := Aside0.mk hmx
  have hiz : (i : Int) < (l.length : Int) := by omega
  have hsz2 := HB2.out.size
  clear hg3 hl3 hmx
  have HCl := Aside0.mk (fun W (hb : Below w2.heap.size w2 W) => slices_Clone_int_int.calls A3 c3 cs cs W (Kd.C_below HG.out hb) HL.out (by unfold slices_Clone_int_int.f; rw [if_pos HM.out]))
  go_wp2_with fail
  have hbA := (Below.refl w2.heap.size w2).alloc (Nat.le_refl _) (.cells #[.int .i64 a, .int .i64 b, .int .i64 d, .slice A3 cs.length c3] 24)
  refine (HCl.out _ hbA).mono ?_
  rintro e w3 ⟨v, rfl, hR, hb3⟩
  obtain ⟨A5, c5, rfl⟩ := Kd.R_slice hR
  have B8 := blk_below (blk_new w2 (.cells #[.int .i64 a, .int .i64 b, .int .i64 d, .slice A3 cs.length c3] 24)) hb3
  have B4 := blk_below (blk_alloc BC.out (.cells #[.int .i64 a, .int .i64 b, .int .i64 d, .slice A3 cs.length c3] 24)) hb3
  have hc0 := (blk_cell B4 0).trans rfl
  have hc1 := (blk_cell B4 1).trans rfl
  have hc2 := (blk_cell B4 2).trans rfl
  have hc3 := (blk_cell B4 3).trans rfl
  have hf0 := blk_frozen B4 0
  have hf1 := blk_frozen B4 1
  have hf2 := blk_frozen B4 2
  have hf3 := blk_frozen B4 3
  have hd0 := (blk_cell B8 0).trans rfl
  have hd1 := (blk_cell B8 1).trans rfl
  have hd2 := (blk_cell B8 2).trans rfl
  have hd3 := (blk_cell B8 3).trans rfl
  have hg0 := blk_frozen B8 0
  have hg1 := blk_frozen B8 1
  have hg2 := blk_frozen B8 2
  have hg3 := blk_frozen B8 3
  have hlt4 := blk_lt BC.out
  have hne : ¬ w.heap.size + 1 = w2.heap.size := by omega
  have hne' : ¬ w2.heap.size = w.heap.size + 1 := by omega
  have BD := Aside0.mk B4
  have B8 := Aside0.mk B8
  have HR5 := Aside0.mk hR
  have HB3 := Aside0.mk (HB2.out.trans ((hbA.trans (hb3.mono (by simp))).mono hsz2))
  clear B4 hb3 hR hbA
  go_wp2
  have E8 := blk_set B8.out 3 (.slice A5 cs.length c5)
  have E4 := blk_far (p := ⟨w2.heap.size, 3, none⟩) BD.out hne (.slice A5 cs.length c5)
  have hq : ∀ q, q ∈ 3 :: (Kd.int IntKind.i64).E → q ≠ 24 := by decide
  have R1 := Kd.R_set HR5.out B8.out hq 3 (.slice A5 cs.length c5)
  have R2 := Kd.R_set R1 E4 hq 0 (.int .i64 a)
  have R3 := Kd.R_set R2 (blk_set E4 0 (.int .i64 a)) hq 1 (.int .i64 b)
  have R4 := Kd.R_set R3 (blk_set (blk_set E4 0 (.int .i64 a)) 1 (.int .i64 b)) hq 2 (.int .i64 d)
  have R5 := Kd.R_set R4 (blk_set (blk_set (blk_set E4 0 (.int .i64 a)) 1 (.int .i64 b)) 2 (.int .i64 d)) hq 3 (.slice A5 cs.length c5)
  refine bodyPost_ret (results_ct rfl _ _ (w.heap.size + 1) 24 #[.int .i64 a, .int .i64 b, .int .i64 d, .slice A5 cs.length c5] (0, 0) _ rfl (by simpa using blk_set (blk_set (blk_set (blk_set E4 0 (.int .i64 a)) 1 (.int .i64 b)) 2 (.int .i64 d)) 3 (.slice A5 cs.length c5)) Try.underlying24 rfl (by kernel_rfl)) rfl ?_
  exact ⟨_, rfl, Kd.R_lower R5 (Nat.le_trans hsz2 (by simp)), ((((HB3.out.setCell (p := ⟨w2.heap.size, 3, none⟩) hsz2 _).setCell (p := ⟨w.heap.size + 1, 0, none⟩) (by simp) _).setCell (p := ⟨w.heap.size + 1, 1, none⟩) (by simp) _).setCell (p := ⟨w.heap.size + 1, 2, none⟩) (by simp) _).setCell (p := ⟨w.heap.size + 1, 3, none⟩) (by simp) _⟩
theorem hop_InForce.calls (k : Nat) (A0 : Option Addr) (c0 : Nat) (l0 : List (S24)) (a1 : Int) (r1 : Int) (r2 : Int) (r3 : Int) (r4 : List Int) (r5 : Int) (w : World) (hr0 : Kd.C k24 w A0 l0.length l0) (hc0 : l0.length ≤ c0) (h : hop_InForce.f k l0 a1 = some (r1, r2, r3, r4, r5)) :
    Calls Try.prog 29 #[.slice A0 l0.length c0, .int .i64 a1] w fun e w' => ∃ v3_ : Value, e = .returned (.tuple #[.agg #[.int .i64 r1, .int .i64 r2, .int .i64 r3, v3_], .int .i64 r5]) ∧ Kd.R (Kd.int .i64) 3 w' w.heap.size (fun _ => True) v3_ r4 ∧ Below w.heap.size w w' := by
  unfold hop_InForce.f at h
  obtain ⟨t, ht, h⟩ := Option.bind_eq_some_iff.1 h
  by_cases h0 : t = 0
  · rw [if_pos h0] at h
    subst h0
    rcases find_idx (p := inF a1) (l := l0) with ⟨e1, e2⟩ | ⟨i, hi, e1, e2⟩
    · rw [e1] at h
      simp only [Option.some.injEq, Prod.mk.injEq] at h
      obtain ⟨rfl, rfl, rfl, rfl, rfl⟩ := h
      exact inf_none k A0 c0 l0 a1 w hr0 hc0 ht e2
    · rw [e1] at h
      dsimp only at h
      by_cases hm : l0[i].f3.length < 17592186044416
      · rw [if_pos hm] at h
        simp only [Option.some.injEq, Prod.mk.injEq] at h
        obtain ⟨rfl, rfl, rfl, rfl, rfl⟩ := h
        exact inf_some k A0 c0 l0 a1 w hr0 hc0 ht i hi e2 _ _ _ _ rfl hm
      · rw [if_neg hm] at h
        cases h
  · rw [if_neg h0] at h
    simp only [Option.some.injEq, Prod.mk.injEq] at h
    obtain ⟨rfl, rfl, rfl, rfl, rfl⟩ := h
    exact inf_err k A0 c0 l0 a1 t w hr0 hc0 ht h0

end Go.Proofs.Ytddcacomphkeiaa.PA
