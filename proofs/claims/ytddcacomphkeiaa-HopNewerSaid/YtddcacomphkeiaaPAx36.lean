-- Written by a program of this session (mkprint.py: the kit's print, changed) for this claim. Not trusted: Lean checks it.
import Derived.Test.YtddcacomphkeiaaPAx0
import Derived.Test.YtddcacomphkeiaaPAx30
import Derived.Lib.SliceRun
namespace Go.Proofs.Ytddcacomphkeiaa.PA
open Go.RowKit Go.Proofs.YtddcacomphkeiaaW.PrintWords Go.Proofs.YtddcacomphkeiaaW.PrintLast Go.Proofs.YtddcacomphkeiaaW.PrintMore
attribute [local go_sem] max2_int min2_int max_two min_two max_three min_three max_four min_four   -- for this text's walks alone
set_option linter.unusedVariables false
set_option linter.unusedSimpArgs false

/-! ### hopmeshlaw11_cp: function 30 -/
-- (own)
-- IMPORT Derived.Lib.SliceRun
theorem info24_ : (Try.prog.info? 24).map (fun i => (i.zero, i.size, i.bytes)) = some (some (.agg #[.int .i64 0, .int .i64 0, .int .i64 0, .slice none 0 0]), 4, 48) := by kernel_rfl
/-- Lists as they read in one world, their cells alone being told of. -/
def kfix (w0 : World) : Kd S24 where
  sz := 4
  E := []
  K := fun _ x cs => k24.K w0 x cs
  M := fun _ _ _ x cs => k24.K w0 x cs
  K_len := fun h => k24.K_len h
  K_one := fun h => k24.K_one h
  K_below := fun _ h => h
  K_of_M := fun h => h
  M_mono := fun _ h => h
  M_bound := fun h => h
  M_move := fun _ h => h
  M_lower := fun _ h => h
set_option maxHeartbeats 2000000 in
theorem clone49 (A0 : Option Addr) (c0 : Nat) (l0 : List S24) (w : World) (hr0 : Kd.C k24 w A0 l0.length l0) (hlt : l0.length < 1000) :
    Calls Try.prog 49 #[.slice A0 l0.length c0] w fun e w' => ∃ v0_ : Value, e = .returned v0_ ∧ Kd.R (kfix w) 24 w' w.heap.size (fun _ => True) v0_ l0 ∧ Below w.heap.size w w' := by
  have HR := Aside0.mk hr0
  have HL := Aside0.mk hlt
  clear hr0 hlt
  have u51 := Try.underlying51
  have q51 : ∀ (w : World) (a : Option Addr) (n c n' c' : Nat), (binOp .eql 51 (.slice a n c) (.slice none n' c')).run Try.prog w = .ok (.bool a.isNone) w := fun w a n c n' c' => Go.Lib.run_eql_slice_nil w _ _ a n c n' c' Try.underlying51
  rcases A0 with _ | ad
  · have h0 : l0 = [] := by
      rcases Nat.eq_zero_or_pos l0.length with h | h
      · exact List.eq_nil_of_length_eq_zero h
      · obtain ⟨ad, e, _⟩ := HR.out.2.2 h
        cases e
    subst h0
    go_enter Try.func49, Try.ntmps49
    go_wp2
    go_ret
    exact ⟨_, rfl, Kd.R_nil _ _ _ _ _, Below.refl _ _⟩
  · go_enter Try.func49, Try.ntmps49
    go_wp2_with (at_builtin; refine Aside0.out ?_)
    constructor
    refine Kd.R_append_rows (kfix w) (Rr := k24.K w) (w0 := w) w.heap.size rfl (.tmp 5) (.tmp 6) 51 24 (.agg #[.int .i64 0, .int .i64 0, .int .i64 0, .slice none 0 0]) 48 rfl Try.underlying51 info24_ rfl (show 0 < 4 by decide) (by omega) (.slice (some ⟨w.heap.size, 0, none⟩) 0 0) [] l0 _ _ _ (fun _ => True) (fun _ => False) rfl rfl ?aO ?aR ?aK (fun _ h => h.elim) (fun _ _ => trivial) ?aB ?aS ?aL ?_
    case aO => exact ⟨fun _ _ => trivial, [], World.ownsRow_made w #[] 0 (Nat.le_refl _) (Nat.zero_le _) (by simp), Reps.none _ _⟩
    case aR => exact ReadsRow.imp_ HR.out ((Below.refl _ w).alloc (Nat.le_refl _) _) (fun _ _ hp => hp)
    case aK => exact fun x cs h => h
    case aB => exact (Below.refl _ w).alloc (Nat.le_refl _) _
    case aS => simp
    case aL => have := HL.out; simp; omega
    intro v1 w1 hown hb _ _
    go_wp2
    go_ret
    exact ⟨_, rfl, hown, hb⟩
/-- The copies of the first lists are there; the others' rows are still the ones that came in. -/
def CpInv (w0 wr : World) (v : Value) (l : List S24) (vs : List Value) : Prop :=
  vs.length ≤ l.length ∧ ∃ inner, wr.ownsRow w0.heap.size 24 4 v l.length inner ∧
    (∀ j (hj : j < l.length), vs.length ≤ j → k24.K w0 l[j] ((inner.drop (j * 4)).take 4)) ∧
    (∀ j (hj : j < l.length) (hv : j < vs.length), (inner.drop (j * 4)).take 4 = [.int .i64 l[j].f0, .int .i64 l[j].f1, .int .i64 l[j].f2, vs[j]] ∧ Kd.R (Kd.int .i64) 3 wr w0.heap.size (fun _ => True) vs[j] l[j].f3) ∧
    (∀ i j (hi : i < vs.length) (hj : j < vs.length), i < j → ∀ k, vs[i].ownBlock = some k → vs[j].ownBlock ≠ some k)
theorem CpInv.start {w0 wr : World} {v : Value} {l : List S24} (h : Kd.R (kfix w0) 24 wr w0.heap.size (fun _ => True) v l) : CpInv w0 wr v l [] := by
  obtain ⟨_, inner, ho, hr⟩ := h
  exact ⟨Nat.zero_le _, inner, ho, fun j hj _ => hr.2 j l[j] (List.getElem?_eq_getElem hj), fun j hj hv => absurd hv (Nat.not_lt_zero _), fun i j hi => absurd hi (Nat.not_lt_zero _)⟩
theorem CpInv.done {w0 wr : World} {v : Value} {l : List S24} {vs : List Value} (h : CpInv w0 wr v l vs) (hl : vs.length = l.length) : Kd.S k24 24 wr w0.heap.size (fun _ => True) v l := by
  obtain ⟨_, inner, ho, _, hin, hd⟩ := h
  refine ⟨fun k => vs.findIdx (fun u => decide (u.ownBlock = some k)), fun _ _ => trivial, inner, by rw [List.length_zipIdx]; exact ho, by rw [List.length_zipIdx]; exact ho.1, fun j p hj => ?_⟩
  have hjl : j < l.length := by
    have := (List.getElem?_eq_some_iff.1 hj).1
    rwa [List.length_zipIdx] at this
  obtain rfl : p = (l[j], j) := by
    have := Kd.zip_at (List.getElem?_eq_getElem hjl)
    rw [hj] at this
    exact Option.some.inj this
  obtain ⟨h1, h2⟩ := hin j hjl (by omega)
  have hvj : j < vs.length := by omega
  show k24.M _ _ _ l[j] _
  have h1' : (inner.drop (j * (Kd.tag (fun k => vs.findIdx (fun u => decide (u.ownBlock = some k))) k24).sz)).take (Kd.tag (fun k => vs.findIdx (fun u => decide (u.ownBlock = some k))) k24).sz = [.int .i64 l[j].f0, .int .i64 l[j].f1, .int .i64 l[j].f2, vs[j]] := h1
  rw [h1']
  refine k24_mkM _ _ _ _ (Kd.R_reok rfl h2 (fun k hk => ⟨⟨trivial, fun e => ?_⟩, ?_⟩))
  · obtain ⟨c1, e1⟩ := Kd.R_typed h2 k hk
    obtain ⟨c2, e2⟩ := own_typed ho k e.symm
    rw [e1] at e2
    cases e2
  · show vs.findIdx _ = j
    rw [List.findIdx_eq hvj]
    exact ⟨decide_eq_true hk, fun i hi => decide_eq_false (fun e => hd i j (by omega) hvj hi k e hk)⟩
theorem drop_take_set {inner : List Value} {i j : Nat} (u : Value) (h : i * 4 + 4 ≤ inner.length) (hij : i ≠ j) : ((inner.set (i * 4 + 3) u).drop (j * 4)).take 4 = (inner.drop (j * 4)).take 4 := by
  apply List.ext_getElem?
  intro m
  rw [List.getElem?_take, List.getElem?_take]
  by_cases hm : m < 4
  · rw [if_pos hm, if_pos hm, List.getElem?_drop, List.getElem?_drop, List.getElem?_set_ne (by omega)]
  · rw [if_neg hm, if_neg hm]
theorem drop_take_set_same {inner : List Value} {i : Nat} {a b c d : Value} (u : Value) (h : (inner.drop (i * 4)).take 4 = [a, b, c, d]) : ((inner.set (i * 4 + 3) u).drop (i * 4)).take 4 = [a, b, c, u] := by
  rw [List.drop_set, if_neg (by omega), show i * 4 + 3 - i * 4 = 3 by omega, List.take_set, h]
  rfl
theorem CpInv.step {w0 wr w2 : World} {g cap : Nat} {l : List S24} {vs : List Value} (h : CpInv w0 wr (.slice (some ⟨g, 0, none⟩) l.length cap) l vs) (hk : vs.length < l.length) {u : Value} (hb : Below wr.heap.size wr w2) (hw : w0.heap.size ≤ wr.heap.size) (hu : Kd.R (Kd.int .i64) 3 w2 wr.heap.size (fun _ => True) u l[vs.length].f3) :
    CpInv w0 (w2.setCell ⟨g, vs.length * 4 + 3, none⟩ u) (.slice (some ⟨g, 0, none⟩) l.length cap) l (vs ++ [u]) := by
  obtain ⟨h0, inner, ho, hout, hin, hd⟩ := h
  have ho2 := pw_own_below ho hb
  have hil : inner.length = l.length * 4 := ho.1
  obtain ⟨cg, hcg⟩ := own_typed ho2 g rfl
  have hq : ∀ q, q ∈ 3 :: (Kd.int IntKind.i64).E → q ≠ 24 := by decide
  obtain ⟨A3, c3, e3, _, _⟩ := k24_open (hout vs.length hk (Nat.le_refl _))
  refine ⟨by simp; omega, inner.set (vs.length * 4 + 3) u, (ho2.stored _ _).1, fun j hj hv => ?_, fun j hj hv => ?_, fun i j hi hj hij k hk1 hk2 => ?_⟩
  · rw [List.length_append, List.length_singleton] at hv
    rw [drop_take_set _ (by omega) (by omega)]
    exact hout j hj (by omega)
  · rw [List.length_append, List.length_singleton] at hv
    rcases Nat.lt_or_ge j vs.length with hlt | hge
    · obtain ⟨h1, h2⟩ := hin j hj hlt
      rw [drop_take_set _ (by omega) (by omega), List.getElem_append_left hlt]
      exact ⟨h1, Kd.R_set (Kd.R_below h2 hb) hcg hq _ _⟩
    · obtain rfl : j = vs.length := by omega
      rw [drop_take_set_same _ e3, List.getElem_append_right (Nat.le_refl _)]
      simp only [Nat.sub_self, List.getElem_cons_zero]
      exact ⟨trivial, Kd.R_set (Kd.R_lower hu hw) hcg hq _ _⟩
  · rw [List.length_append, List.length_singleton] at hi hj
    rcases Nat.lt_or_ge j vs.length with hlt | hge
    · rw [List.getElem_append_left hlt] at hk2
      rw [List.getElem_append_left (by omega)] at hk1
      exact hd i j (by omega) hlt hij k hk1 hk2
    · obtain rfl : j = vs.length := by omega
      rw [List.getElem_append_right (Nat.le_refl _)] at hk2
      simp only [Nat.sub_self, List.getElem_cons_zero] at hk2
      rw [List.getElem_append_left hij] at hk1
      have h1 := Kd.R_lt (hin i (by omega) hij).2 k hk1
      have h2 := Kd.R_base hu k hk2
      omega
def hopmeshlaw11_cp.f (l0 : List S24) : Option (List S24) := if l0.length < 1000 ∧ l0.all (fun x => decide (x.f3.length < 17592186044416)) = true then some l0 else none
set_option maxRecDepth 100000 in
set_option maxHeartbeats 8000000 in
theorem hopmeshlaw11_cp.calls (A0 : Option Addr) (c0 : Nat) (l0 : List (S24)) (r : List (S24)) (w : World) (hr0 : Kd.C k24 w A0 l0.length l0) (hc0 : l0.length ≤ c0) (h : hopmeshlaw11_cp.f l0 = some r) :
    Calls Try.prog 30 #[.slice A0 l0.length c0] w fun e w' => ∃ v0_ : Value, e = .returned v0_ ∧ Kd.S k24 24 w' w.heap.size (fun _ => True) v0_ r ∧ Below w.heap.size w w' := by
  unfold hopmeshlaw11_cp.f at h
  split at h
  · rename_i hc
    obtain rfl := Option.some.inj h
    obtain ⟨hlt, hall⟩ := hc
    have HCl := Aside0.mk (clone49 A0 c0 l0 w hr0 hlt)
    have HR := Aside0.mk hr0
    have HA := Aside0.mk hall
    have hu51 := Try.underlying51
    have hu24 := Try.underlying24
    clear h hr0 hc0 hall
    go_enter Try.func30, Try.ntmps30
    go_wp2_with fail
    refine HCl.out.mono ?_
    rintro e w1 ⟨v, rfl, hR, hb1⟩
    obtain ⟨A1, c1, rfl⟩ := Kd.R_slice hR
    have HR1 := Aside0.mk hR
    have HB1 := Aside0.mk hb1
    clear hR hb1
    go_wp2
    go_loopg [9] l0.length (fun gg v9 wr => ∃ vs : List Value, v9 = .int .i64 vs.length ∧ Aside0 (l0.length - vs.length ≤ gg) ∧ Aside0 (CpInv w wr (.slice A1 l0.length c1) l0 vs) ∧ Aside0 (Below w.heap.size w wr))
    case atStart => exact ⟨[], rfl, ⟨by simp⟩, ⟨CpInv.start HR1.out⟩, HB1⟩
    case round =>
      obtain ⟨vs, rfl, hg, HI, HBr⟩ := hrel
      by_cases hk : vs.length < l0.length
      · have hkz : (vs.length : Int) < (l0.length : Int) := by omega
        obtain ⟨g, rfl⟩ : ∃ g, A1 = some ⟨g, 0, none⟩ := by
          obtain ⟨g, cap, e, _⟩ := Kd.R_form HR1.out (by omega)
          injection e with e1 e2 e3
          exact ⟨g, e1⟩
        obtain ⟨_, inner, ho, hout, _, _⟩ := HI.out
        obtain ⟨A3, c3, e3, hl3, hg3⟩ := k24_open (hout vs.length hk (Nat.le_refl _))
        have hcell : wr.cell? ⟨g, vs.length * 4 + 3, none⟩ = some (.slice A3 l0[vs.length].f3.length c3) := by
          have := ho.cells (g := g) rfl (vs.length * 4 + 3) (.slice A3 l0[vs.length].f3.length c3) (by
            have h1 : ((inner.drop (vs.length * 4)).take 4)[3]? = some (.slice A3 l0[vs.length].f3.length c3) := by rw [e3]; rfl
            rw [List.getElem?_take, if_pos (by omega), List.getElem?_drop] at h1
            exact h1)
          rwa [add_plain] at this
        have hfz : ∀ o, wr.frozen? ⟨g, o, none⟩ = false := by
          obtain ⟨cg, hcg⟩ := own_typed ho g rfl
          exact fun o => blk_frozen hcg o
        have hcg : g < wr.heap.size := by
          obtain ⟨cg, hcg⟩ := own_typed ho g rfl
          exact blk_lt hcg
        have hgw : w.heap.size ≤ g := by
          obtain ⟨g', cap, e, hb, _⟩ := Kd.R_form HR1.out (by omega)
          injection e with e1 e2 e3
          injection e1 with e1
          injection e1 with e1
          omega
        have hmx : l0[vs.length].f3.length < 17592186044416 := by simpa using List.all_eq_true.1 HA.out l0[vs.length] (List.getElem_mem hk)
        have hwr := HBr.out.size
        have HC2 := Aside0.mk (slices_Clone_int_int.calls A3 c3 l0[vs.length].f3 l0[vs.length].f3 wr (Kd.C_below hg3 (HBr.out)) hl3 (by unfold slices_Clone_int_int.f; rw [if_pos hmx]))
        have HST := Aside0.mk (fun (w2 : World) (u : Value) hb hu => HI.out.step (w2 := w2) (u := u) hk hb hwr hu)
        clear ho hout e3 hl3 hg3 hmx
        have HBR := HBr
        go_wp2_with fail
        refine HC2.out.mono ?_
        rintro e w2 ⟨u, rfl, hR2, hb2⟩
        obtain ⟨A5, c5, rfl⟩ := Kd.R_slice hR2
        have hcell2 : w2.cell? ⟨g, vs.length * 4 + 3, none⟩ = some (.slice A3 l0[vs.length].f3.length c3) := (hb2.cell (p := ⟨g, vs.length * 4 + 3, none⟩) hcg).trans hcell
        have hfz2 : w2.frozen? ⟨g, vs.length * 4 + 3, none⟩ = false := (hb2.frozen (p := ⟨g, vs.length * 4 + 3, none⟩) hcg).trans (hfz _)
        have HN := Aside0.mk (HST.out w2 _ hb2 hR2)
        have HB2 := Aside0.mk ((HBR.out.trans (hb2.mono hwr)).setCell (p := ⟨g, vs.length * 4 + 3, none⟩) hgw (.slice A5 l0[vs.length].f3.length c5))
        have hvl := HI.out.1
        clear hR2 hb2 hcell hfz
        go_wp2
        go_roundg (l0.length - (vs.length + 1))
        case measure => have := hg.out; omega
        case rel => exact ⟨vs ++ [.slice A5 l0[vs.length].f3.length c5], by simp, ⟨by simp⟩, HN, HB2⟩
      · have hd0 : decide ((vs.length : Int) < (l0.length : Int)) = false := decide_eq_false (by omega)
        have hd0' : decide (vs.length < l0.length) = false := decide_eq_false hk
        have HK := Aside0.mk hk
        clear hk
        go_wp2
        go_ret
        exact ⟨_, rfl, HI.out.done (by have := HK.out; have := HI.out.1; omega), HBr.out⟩
  · cases h

end Go.Proofs.Ytddcacomphkeiaa.PA
