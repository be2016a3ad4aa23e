-- Written by a program of this session (mkprint.py: the kit's print, changed) for this claim. Not trusted: Lean checks it.
import Derived.Test.YtddcacomphkeiaaPAx0
import Derived.Test.YtddcacomphkeiaaPAx1
import Derived.Test.YtddcacomphkeiaaPAx2
import Derived.Test.YtddcacomphkeiaaPAx4
import Derived.Test.YtddcacomphkeiaaPAx30
import Derived.Test.YtddcacomphkeiaaHof
import Derived.Lib.SliceRun
import Derived.Lib.EndianMore
import Derived.RangeFuncBox
import Derived.RangeFuncRecord
namespace Go.Proofs.Ytddcacomphkeiaa.PA
open Go.RowKit Go.Proofs.YtddcacomphkeiaaW.PrintWords Go.Proofs.YtddcacomphkeiaaW.PrintLast Go.Proofs.YtddcacomphkeiaaW.PrintMore
attribute [local go_sem] max2_int min2_int max_two min_two max_three min_three max_four min_four   -- for this text's walks alone
set_option linter.unusedVariables false
set_option linter.unusedSimpArgs false

/-! ### hop_Without: function 14 -/
-- (own)
-- IMPORT Derived.Test.YtddcacomphkeiaaHof
-- IMPORT Derived.Lib.SliceRun
-- IMPORT Derived.Lib.EndianMore
-- IMPORT Derived.RangeFuncBox
-- IMPORT Derived.RangeFuncRecord
open Go.Shelf
/-- The box of the channels that stay. -/
def StBox (W : World) (B : Nat) (st : List Bool) : Prop := W.heap[B]? = some (.cells (st.map Value.bool).toArray 66 (0, 0)) ∧ st.length = 16
theorem StBox.cell {W : World} {B : Nat} {st : List Bool} (h : StBox W B st) (x : Int) (h0 : 0 ≤ x) (h1 : x < 16) : W.cell? ⟨B, x.toNat, none⟩ = some (.bool (st.getD x.toNat false)) := by
  have hl : x.toNat < st.length := by rw [h.2]; omega
  simp [World.cell?, h.1, List.getD_eq_getElem?_getD, hl]
theorem StBox.frozen {W : World} {B : Nat} {st : List Bool} (h : StBox W B st) (o : Nat) : W.frozen? ⟨B, o, none⟩ = false := by simp [World.frozen?, h.1]
theorem StBox.lt {W : World} {B : Nat} {st : List Bool} (h : StBox W B st) : B < W.heap.size := (Array.getElem?_eq_some_iff.1 h.1).1
theorem StBox.same {W W' : World} {B : Nat} {st : List Bool} (h : StBox W B st) (e : W'.heap[B]? = W.heap[B]?) : StBox W' B st := ⟨e.trans h.1, h.2⟩
theorem StBox.set {W : World} {B : Nat} {st : List Bool} (h : StBox W B st) (o : Nat) (b : Bool) : StBox (W.setCell ⟨B, o, none⟩ (.bool b)) B (st.set o b) := by
  refine ⟨?_, by rw [List.length_set]; exact h.2⟩
  have := blk_set h.1 o (.bool b)
  rw [this]
  simp [List.map_set]
theorem stay_calls (Bs : Nat) (st : List Bool) (x : Int) (W : World) (h0 : 0 ≤ x) (h1 : x < 16) (hb : StBox W Bs st) :
    Calls Try.prog 42 #[.int .i64 x, .pointer (some ⟨Bs, 0, none⟩)] W fun e w' => e = .returned (.bool (!(st.getD x.toNat false))) ∧ w' = W := by
  have hu := Try.underlying66
  have hc := hb.cell x h0 h1
  generalize st.getD x.toNat false = b at hc
  go_enter Try.func42, Try.ntmps42
  go_wp2
  go_ret
  exact ⟨rfl, rfl⟩
theorem own_bcw {n₀ : Nat} {A B : World} (h : Below n₀ A B) : (∀ b o, b < n₀ → B.cell? ⟨b, o, none⟩ = A.cell? ⟨b, o, none⟩) ∧ (∀ b o, b < n₀ → B.frozen? ⟨b, o, none⟩ = A.frozen? ⟨b, o, none⟩) :=
  ⟨fun b o h1 => h.cell (p := ⟨b, o, none⟩) h1, fun b o h1 => h.frozen (p := ⟨b, o, none⟩) h1⟩
theorem index_from (l : List Int) (a : Int) (hl : l.length ≤ 9223372036854775807) : ∀ n i k, i + n = l.length → n + 1 ≤ k → (∀ j (h : j < l.length), j < i → l[j] ≠ a) → ∃ r, slices_Index_int_int.l0 k l a (l.length : Int) (i : Int) = some r ∧ (r ≥ 0 ↔ a ∈ l)
  | 0, i, k, h, hk, hn => by
    obtain ⟨k, rfl⟩ : ∃ j, k = j + 1 := ⟨k - 1, by omega⟩
    refine ⟨-1, by rw [slices_Index_int_int.l0, if_neg (by omega)], ?_⟩
    constructor
    · intro h; omega
    · intro hm
      obtain ⟨j, hj, e⟩ := List.getElem_of_mem hm
      exact absurd e (hn j hj (by omega))
  | n + 1, i, k, h, hk, hn => by
    obtain ⟨k, rfl⟩ : ∃ j, k = j + 1 := ⟨k - 1, by omega⟩
    have hi : i < l.length := by omega
    have hrd : rd l (i : Int) = l[i] := by unfold rd; rw [List.getD_eq_getElem?_getD, Int.toNat_natCast, List.getElem?_eq_getElem hi]; rfl
    by_cases q : a = l[i]
    · refine ⟨(i : Int), by rw [slices_Index_int_int.l0, if_pos (by omega), if_pos (by omega), if_pos (by omega), hrd, if_pos q], ?_⟩
      exact ⟨fun _ => by rw [q]; exact List.getElem_mem hi, fun _ => by omega⟩
    · obtain ⟨r, h1, h2⟩ := index_from l a hl n (i + 1) k (by omega) (by omega) (fun j hj hlt => by
        rcases Nat.lt_or_ge j i with h' | h'
        · exact hn j hj h'
        · obtain rfl : j = i := by omega
          exact fun e => q e.symm)
      refine ⟨r, ?_, h2⟩
      rw [slices_Index_int_int.l0, if_pos (by omega), if_pos (by omega), if_pos (by omega), hrd, if_neg q, show wrap64 ((i : Int) + 1) = ((i + 1 : Nat) : Int) by unfold wrap64; omega]
      exact h1
theorem contains_eq (l : List Int) (a : Int) (hl : l.length ≤ 9223372036854775807) {k : Nat} (hk : l.length + 1 ≤ k) : slices_Contains_int_int.f k l a = some (decide (a ∈ l)) := by
  obtain ⟨r, h1, h2⟩ := index_from l a hl l.length 0 k (by omega) (by omega) (fun j hj h => absurd h (Nat.not_lt_zero _))
  unfold slices_Contains_int_int.f slices_Index_int_int.f
  rw [show (0 : Int) = ((0 : Nat) : Int) from rfl, h1, Option.bind_some]
  congr 1
  rw [decide_eq_decide]
  exact h2
theorem contains_calls (A : Option Addr) (c : Nat) (l : List Int) (a : Int) (w W : World) (hr : Kd.C (Kd.int .i64) w A l.length l) (hc : l.length ≤ c) (hb : Below w.heap.size w W) :
    Calls Try.prog 13 #[.slice A l.length c, .int .i64 a] W fun e w' => e = .returned (.bool (decide (a ∈ l))) ∧ Drawn0 W w' :=
  slices_Contains_int_int.calls _ A c l a _ W (Kd.C_below hr hb) hc (contains_eq l a hr.2.1 (Nat.le_refl _))
/-- What stays of a row out of which elements are deleted, behind j elements. -/
def DelInv (p : Int → Bool) (d : List Int) (j : Nat) (i : Nat) (dk : List Int) : Prop := dk.length = d.length ∧ dk.take i = (d.take j).filter p ∧ i = ((d.take j).filter p).length ∧ (∀ t, j ≤ t → dk[t]? = d[t]?) ∧ i < j
theorem DelInv.skip {p : Int → Bool} {d : List Int} {j i : Nat} {dk : List Int} (h : DelInv p d j i dk) (hj : j < d.length) (hp : p d[j] = false) : DelInv p d (j + 1) i dk := by
  obtain ⟨h1, h2, h3, h4, h5⟩ := h
  have he : (d.take (j + 1)).filter p = (d.take j).filter p := by
    rw [List.take_succ_eq_append_getElem hj, List.filter_append, List.filter_cons]; simp [hp]
  exact ⟨h1, by rw [he]; exact h2, by rw [he]; exact h3, fun t ht => h4 t (by omega), by omega⟩
theorem DelInv.keep {p : Int → Bool} {d : List Int} {j i : Nat} {dk : List Int} (h : DelInv p d j i dk) (hj : j < d.length) (hp : p d[j] = true) : DelInv p d (j + 1) (i + 1) (dk.set i d[j]) := by
  obtain ⟨h1, h2, h3, h4, h5⟩ := h
  have he : (d.take (j + 1)).filter p = (d.take j).filter p ++ [d[j]] := by
    rw [List.take_succ_eq_append_getElem hj, List.filter_append, List.filter_cons]; simp [hp]
  have hi : i < dk.length := by omega
  refine ⟨by rw [List.length_set]; exact h1, ?_, by rw [he, List.length_append]; simpa using h3, fun t ht => ?_, by omega⟩
  · rw [he, ← h2, List.take_succ_eq_append_getElem (by rw [List.length_set]; exact hi), List.take_set_of_le (Nat.le_refl _)]
    simp
  · rw [List.getElem?_set_ne (by omega)]
    exact h4 t (by omega)
theorem R_setCells {W : World} {base g i cap : Nat} {ok : Nat → Prop} {xs : List Int} (h : Kd.R (Kd.int .i64) 3 W base ok (.slice (some ⟨g, 0, none⟩) i cap) xs) (vs : List Value) (hv : i + vs.length ≤ cap) :
    Kd.R (Kd.int .i64) 3 (W.setCells g i vs) base ok (.slice (some ⟨g, 0, none⟩) i cap) xs := by
  obtain ⟨h0, inner, ⟨hl, ho⟩, hr⟩ := h
  refine ⟨h0, inner, ⟨hl, ?_⟩, hr⟩
  rcases ho with ⟨e, _⟩ | ⟨g', cap', cur, e, hb, hh, hn, hc, hs, ht⟩
  · cases e
  · injection e with e1 e2 e3
    obtain rfl : g = g' := by injection e1 with e1; injection e1
    subst e2 e3
    have hs' : cur.size = cap * 1 := hs
    obtain ⟨cur', k1, k2, k3⟩ := setCells_row vs xs.length W cur hh (by omega)
    refine .inr ⟨g, cap, cur', rfl, hb, k1, hn, hc, by rw [k2]; exact hs, ?_⟩
    have ht' : cur.toList.take (xs.length * 1) = inner := ht
    have hln : (cur.toList.take xs.length).length = xs.length := by
      have hcl : cur.toList.length = cur.size := Array.length_toList
      rw [List.length_take]; omega
    show cur'.toList.take (xs.length * 1) = inner
    rw [k3, ← ht', Nat.mul_one, List.append_assoc]
    exact (List.take_append_of_le_length (Nat.le_of_eq hln.symm)).trans (List.take_of_length_le (Nat.le_of_eq hln))

/-- What lay in w below its heap's size, but for block b, lies as it lay. -/
def SameBut (w : World) (b : Nat) (W : World) : Prop := w.heap.size ≤ W.heap.size ∧ ∀ k, k < w.heap.size → k ≠ b → W.heap[k]? = w.heap[k]?
theorem SameBut.below {w W W' : World} {b : Nat} (h : SameBut w b W) (hb : Below W.heap.size W W') : SameBut w b W' := ⟨Nat.le_trans h.1 hb.size, fun k hk hne => (hb.block k (Nat.lt_of_lt_of_le hk h.1)).trans (h.2 k hk hne)⟩
theorem SameBut.refl (w : World) (b : Nat) : SameBut w b w := ⟨Nat.le_refl _, fun _ _ _ => rfl⟩
theorem SameBut.set {w W : World} {b : Nat} (h : SameBut w b W) (o : Nat) (v : Value) : SameBut w b (W.setCell ⟨b, o, none⟩ v) := ⟨by simpa using h.1, fun k hk hne => (Below.heap_setCell _ _ _ k (fun e => hne e)).trans (h.2 k hk hne)⟩
theorem R_cellI {W : World} {base b n cap : Nat} {ok : Nat → Prop} {xs : List Int} (h : Kd.R (Kd.int .i64) 3 W base ok (.slice (some ⟨b, 0, none⟩) n cap) xs) (j : Nat) (hj : j < n) : W.cell? ⟨b, j, none⟩ = some (.int .i64 (rd xs (j : Int))) ∧ ∀ o, W.frozen? ⟨b, o, none⟩ = false := by
  obtain ⟨h1, h2, h3⟩ := Kd.R_reads' h
  obtain ⟨ad, e, hc⟩ := Kd.at_int (h1 ▸ h3) (j : Int) (by omega) (by omega)
  cases e
  refine ⟨by rw [add_plain, Int.toNat_natCast] at hc; exact hc, fun o => ?_⟩
  obtain ⟨c, _, _, _, hf⟩ := Kd.R_elem h 0 0 (by omega) (by omega)
  simpa using hf o
theorem rdI {xs : List Int} {j : Nat} (h : j < xs.length) : rd xs (j : Int) = xs[j] := by unfold rd; rw [List.getD_eq_getElem?_getD, Int.toNat_natCast, List.getElem?_eq_getElem h]; rfl
set_option maxHeartbeats 4000000 in
/-- slices.DeleteFunc of a row of one's own, at whatever predicate that leaves the world alone. -/
theorem del_calls (p : Int → Bool) (g : Nat) (lb : Array Value) (eg : ∀ args w, (callFunc g args).run Try.prog w = .ok (.enter g args) w) (b cap base : Nat) (ok : Nat → Prop) (d : List Int) (w : World)
    (hp : ∀ (W : World) (x : Int), SameBut w b W → x ∈ d → Calls Try.prog g (#[.int .i64 x] ++ lb) W fun e w' => e = .returned (.bool (p x)) ∧ w' = W)
    (hR : Kd.R (Kd.int .i64) 3 w base ok (.slice (some ⟨b, 0, none⟩) d.length cap) d) (hbase : base ≤ b) (hbw : base ≤ w.heap.size) :
    Calls Try.prog 41 #[.slice (some ⟨b, 0, none⟩) d.length cap, .func (.func g) #[] lb] w fun e w' => e = .returned (.slice (some ⟨b, 0, none⟩) (d.filter fun x => !p x).length cap) ∧ Kd.R (Kd.int .i64) 3 w' base ok (.slice (some ⟨b, 0, none⟩) (d.filter fun x => !p x).length cap) (d.filter fun x => !p x) ∧ Below base w w' := by
  have hu22 := Try.underlying22
  have HP := Aside0.mk hp
  have HR := Aside0.mk hR
  have HL := Aside0.mk (Kd.R_reads' hR)
  have HI := Aside0.mk (idx51 p g lb eg (some ⟨b, 0, none⟩) cap d w (fun W x hx hb => (hp W x ((SameBut.refl w b).below hb) hx).mono fun e w' ⟨h1, h2⟩ => ⟨h1, h2 ▸ Below.refl _ _⟩) (Kd.R_reads' hR).2.2)
  clear hp hR
  by_cases hany : d.any p = true
  · obtain ⟨k0, hk0, hpk, hbf⟩ : ∃ k0, ∃ h : k0 < d.length, p d[k0] = true ∧ ∀ j (hj : j < d.length), j < k0 → p d[j] = false := by
      have hex : ∃ x, x ∈ d ∧ p x = true := by simpa using hany
      refine ⟨d.findIdx p, List.findIdx_lt_length_of_exists hex, List.findIdx_getElem, fun j hj hlt => ?_⟩
      simpa using List.not_of_lt_findIdx hlt
    have hfi : fidx p d = (k0 : Int) := fidx_hit hk0 hpk hbf
    have HI' := HI.out
    rw [hfi] at HI'
    have hst : DelInv (fun x => !p x) d (k0 + 1) k0 d := by
      have hall : (d.take k0).filter (fun x => !p x) = d.take k0 := List.filter_eq_self.2 (fun x hx => by
        obtain ⟨j, hj, rfl⟩ := List.getElem_of_mem hx
        rw [List.length_take] at hj
        rw [List.getElem_take, hbf j (by omega) (by omega)]; rfl)
      have he : (d.take (k0 + 1)).filter (fun x => !p x) = d.take k0 := by
        rw [List.take_succ_eq_append_getElem hk0, List.filter_append, List.filter_cons, hall]; simp [hpk]
      exact ⟨rfl, he.symm, by rw [he, List.length_take]; omega, fun _ _ => rfl, by omega⟩
    have HST := Aside0.mk hst
    have HI2 := Aside0.mk HI'
    clear HI HI' hst hfi hbf hpk hany
    have hne1 : ((k0 : Int) == -1) = false := beq_eq_false_iff_ne.2 (by omega)
    have hmx := HL.out.2.2.2.1
    go_enter Try.func41, Try.ntmps41
    go_wp2_with (go_at_call 51; refine HI2.out.mono ?_; rintro e w1 ⟨rfl, hb1⟩; have HB1 := Aside0.mk hb1; clear hb1)
    go_loopg [5, 6] d.length (fun gg v5 v6 wr => ∃ i j : Nat, ∃ dk : List Int, v5 = .int .i64 i ∧ v6 = .int .i64 j ∧ j ≤ d.length ∧ Aside0 (d.length - j ≤ gg) ∧ Aside0 (DelInv (fun x => !p x) d j i dk) ∧ Aside0 (Kd.R (Kd.int .i64) 3 wr base ok (.slice (some ⟨b, 0, none⟩) d.length cap) dk) ∧ Aside0 (SameBut w b wr) ∧ Aside0 (Below base w wr))
    case atStart => exact ⟨k0, k0 + 1, d, rfl, by go_num, by omega, ⟨by omega⟩, HST, ⟨Kd.R_below HR.out HB1.out⟩, ⟨(SameBut.refl w b).below HB1.out⟩, ⟨HB1.out.mono hbw⟩⟩
    case round =>
      obtain ⟨i, j, dk, rfl, rfl, hj, HG, HD, HRr, HSB, HBw⟩ := hrel
      have hij := HD.out.2.2.2.2
      by_cases hlt : j < d.length
      · have hltz : (j : Int) < (d.length : Int) := by omega
        have hfr : ∀ o, wr.frozen? ⟨b, o, none⟩ = false := (R_cellI HRr.out j hlt).2
        have hcj : wr.cell? ⟨b, j, none⟩ = some (.int .i64 d[j]) := by
          rw [(R_cellI HRr.out j hlt).1, rdI (by rw [HD.out.1]; exact hlt)]
          have := HD.out.2.2.2.1 j (Nat.le_refl _)
          rw [List.getElem?_eq_getElem (by rw [HD.out.1]; exact hlt), List.getElem?_eq_getElem hlt] at this
          rw [Option.some.inj this]
        have hci : ∃ old, wr.cell? ⟨b, i, none⟩ = some (.int .i64 old) := ⟨_, (R_cellI HRr.out i (by omega)).1⟩
        obtain ⟨old, hci⟩ := hci
        have hcall := HP.out wr d[j] HSB.out (List.getElem_mem hlt)
        have HK := Aside0.mk (fun h => (HD.out.keep hlt h : DelInv (fun x => !p x) d (j + 1) (i + 1) (dk.set i d[j])))
        have HKs := Aside0.mk (fun h => (HD.out.skip hlt h : DelInv (fun x => !p x) d (j + 1) i dk))
        generalize d[j] = u at hcj hcall HK HKs
        cases hq : p u with
        | false =>
          rw [hq] at hcall
          go_wp2_with (go_at_fn g; refine hcall.mono ?_; rintro e w' ⟨rfl, rfl⟩)
          go_roundg (d.length - (j + 1))
          case measure => have := HG.out; omega
          case rel => exact ⟨i + 1, j + 1, dk.set i u, by go_num, by go_num, by omega, ⟨Nat.le_refl _⟩, ⟨HK.out (by simp [hq])⟩, ⟨by have h := Kd.R_putn HRr.out (i : Int) u; rw [Int.toNat_natCast] at h; exact h⟩, ⟨HSB.out.set _ _⟩, ⟨HBw.out.setCell (p := ⟨b, i, none⟩) hbase _⟩⟩
        | true =>
          rw [hq] at hcall
          go_wp2_with (go_at_fn g; refine hcall.mono ?_; rintro e w' ⟨rfl, rfl⟩)
          go_roundg (d.length - (j + 1))
          case measure => have := HG.out; omega
          case rel => exact ⟨i, j + 1, dk, rfl, by go_num, by omega, ⟨Nat.le_refl _⟩, ⟨HKs.out (by simp [hq])⟩, HRr, HSB, HBw⟩
      · obtain rfl : j = d.length := by omega
        have hltz : ¬ (d.length : Int) < (d.length : Int) := by omega
        have hcap := HL.out.2.1
        have hcl : ∀ ty, (Builtin.clear_ #[22] ty #[.slice (some ⟨b, i, none⟩) (d.length - i) (cap - i)]).run Try.prog wr = .ok (.tuple #[]) (wr.setCells b i (List.replicate (d.length - i) (.int .i64 0))) :=
          fun ty => by
            have := Go.Lib.run_clear_slice (P := Try.prog) wr 22 3 ty (.int .i64 0) Try.underlying22 (fun w => Try.zeroValue3 w) rfl rfl b i (d.length - i) (cap - i) (by omega) (fun t ht => by rw [(R_cellI HRr.out (i + t) (by omega)).1]; rfl) (fun t ht => (R_cellI HRr.out i (by omega)).2 _)
            exact this
        go_wp2
        go_ret
        have hD := HD.out
        have hdone : (d.take d.length).filter (fun x => !p x) = d.filter (fun x => !p x) := by rw [List.take_length]
        obtain ⟨e1, e2, e3, e4, e5⟩ := hD
        rw [hdone] at e2 e3
        subst e3
        refine ⟨rfl, ?_, HBw.out.trans (Go.Lib.below_setCells_w hbase _ _ _)⟩
        have hT := Kd.R_take HRr.out (m := (d.filter fun x => !p x).length) (by omega)
        rw [e2] at hT
        exact R_setCells hT _ (by rw [List.length_replicate]; omega)
  · have hall : d.filter (fun x => !p x) = d := List.filter_eq_self.2 (fun x hx => by
      have : p x ≠ true := fun h => hany (List.any_eq_true.2 ⟨x, hx, h⟩)
      simpa using this)
    have hfi : fidx p d = -1 := fidx_none (fun j hj => by
      have : p d[j] ≠ true := fun h => hany (List.any_eq_true.2 ⟨_, List.getElem_mem hj, h⟩)
      simpa using this)
    rw [hall]
    have HI' := HI.out
    rw [hfi] at HI'
    have HI2 := Aside0.mk HI'
    clear HI HI' hfi hall hany
    go_enter Try.func41, Try.ntmps41
    go_wp2_with (go_at_call 51; refine HI2.out.mono ?_; rintro e w1 ⟨rfl, hb1⟩; have HB1 := Aside0.mk hb1; clear hb1)
    go_ret
    exact ⟨rfl, Kd.R_below HR.out HB1.out, HB1.out.mono hbw⟩

/-- What is no channel. -/
def badCh (c : Int) : Bool := !decide (0 ≤ c ∧ c < 16)
theorem badCh_eq (c : Int) : hop_Without_1.f c = some (badCh c) := by
  unfold hop_Without_1.f hop_channel.f badCh
  by_cases h : c ≥ 0
  · rw [if_pos h]; simp [h]
  · rw [if_neg h]; simp [h]
/-- The list's round: what is not in the blacklist stays. -/
def wstep1 (black : List Int) (s : List Bool × Int) (c : Int) : List Bool × Int := if c ∈ black then s else (s.1.set c.toNat true, s.2 + 1)
/-- The blacklist's round: what is needed stays all the same. -/
def wstep2 (l : List Int) (least : Int) (s : List Bool × Int) (c : Int) : List Bool × Int := if s.2 < least ∧ s.1.getD c.toNat false = false ∧ c ∈ l then (s.1.set c.toNat true, s.2 + 1) else s
def wst1 (l black : List Int) : List Bool × Int := l.foldl (wstep1 black) (List.replicate 16 false, 0)
def wst2 (l black : List Int) (least : Int) : List Bool × Int := black.foldl (wstep2 l least) (wst1 l black)
def wkeep (l black : List Int) (least : Int) : List Int := l.filter (fun c => (wst2 l black least).1.getD c.toNat false)
theorem fold_succ {α β : Type} (f : β → α → β) (b : β) (l : List α) (k : Nat) (h : k < l.length) : (l.take (k + 1)).foldl f b = f ((l.take k).foldl f b) l[k] := by
  rw [List.take_succ_eq_append_getElem h, List.foldl_append]; rfl
/-- What is known of the state in loop 1. -/
def WI1 (l black : List Int) (k : Nat) (st : List Bool) (n : Int) : Prop := (l.take k).foldl (wstep1 black) (List.replicate 16 false, 0) = (st, n) ∧ 0 ≤ n ∧ n ≤ k
theorem WI1.in_ {l black : List Int} {k : Nat} {st : List Bool} {n : Int} (h : WI1 l black k st n) (hk : k < l.length) (hc : l[k] ∈ black) : WI1 l black (k + 1) st n :=
  ⟨by rw [fold_succ _ _ _ _ hk, h.1]; simp [wstep1, hc], h.2.1, by have := h.2.2; omega⟩
theorem WI1.out_ {l black : List Int} {k : Nat} {st : List Bool} {n : Int} (h : WI1 l black k st n) (hk : k < l.length) (hc : l[k] ∉ black) : WI1 l black (k + 1) (st.set l[k].toNat true) (n + 1) :=
  ⟨by rw [fold_succ _ _ _ _ hk, h.1]; simp [wstep1, hc], by have := h.2.1; omega, by have := h.2.2; omega⟩
/-- What is known of the state in loop 2. -/
def WI2 (l black : List Int) (least : Int) (k : Nat) (st : List Bool) (n : Int) : Prop := (black.take k).foldl (wstep2 l least) (wst1 l black) = (st, n) ∧ 0 ≤ n ∧ n ≤ l.length
theorem WI2.skip {l black : List Int} {least : Int} {k : Nat} {st : List Bool} {n : Int} (h : WI2 l black least k st n) (hk : k < black.length) (hc : ¬ (n < least ∧ st.getD black[k].toNat false = false ∧ black[k] ∈ l)) : WI2 l black least (k + 1) st n :=
  ⟨by rw [fold_succ _ _ _ _ hk, h.1]; unfold wstep2; rw [if_neg hc], h.2⟩
theorem WI2.take {l black : List Int} {least : Int} {k : Nat} {st : List Bool} {n : Int} (h : WI2 l black least k st n) (hk : k < black.length) (h1 : n < least) (h2 : st.getD black[k].toNat false = false) (h3 : black[k] ∈ l) (hle : least ≤ l.length) : WI2 l black least (k + 1) (st.set black[k].toNat true) (n + 1) :=
  ⟨by rw [fold_succ _ _ _ _ hk, h.1]; unfold wstep2; rw [if_pos ⟨h1, h2, h3⟩], by have := h.2.1; omega, by omega⟩
theorem StBox.drewN {W : World} {B : Nat} {st : List Bool} (h : StBox W B st) (n : Nat) : StBox (W.drewN n) B st := ⟨blk_drewN h.1 n, h.2⟩
set_option maxRecDepth 100000 in
set_option maxHeartbeats 8000000 in
theorem wo_walk (A0 : Option Addr) (c0 : Nat) (l : List Int) (A1 : Option Addr) (c1 : Nat) (black : List Int) (least : Int) (w : World) (hr0 : Kd.C (Kd.int .i64) w A0 l.length l) (hc0 : l.length ≤ c0) (hr1 : Kd.C (Kd.int .i64) w A1 black.length black) (hc1 : black.length ≤ c1)
    (hch : ∀ W, Below w.heap.size w W → Calls Try.prog 37 #[.slice A0 l.length c0] W fun e w' => e = .returned (.bool true) ∧ Drawn0 W w')
    (hbl : black.any badCh = false) (hlen : ¬ (black.length : Int) > 64) (h1 : ¬ least < 1) (h2 : ¬ least > (l.length : Int)) (hall : ∀ c ∈ l, 0 ≤ c ∧ c < 16) (hmx : l.length < 17592186044416) :
    Calls Try.prog 14 #[.slice A0 l.length c0, .slice A1 black.length c1, .int .i64 least] w fun e w' => ∃ v, e = .returned (.tuple #[v, .int .i64 0]) ∧ Kd.R (Kd.int .i64) 3 w' w.heap.size (fun _ => True) v (wkeep l black least) ∧ Below w.heap.size w w' := by
  have hu22 := Try.underlying22
  have hu66 := Try.underlying66
  have HC := Aside0.mk (fun (c : Int) W hb => contains_calls A1 c1 black c w W hr1 hc1 hb)
  have HD := Aside0.mk (fun (c : Int) W hb => contains_calls A0 c0 l c w W hr0 hc0 hb)
  have HB := Aside0.mk (fun W (hb : Below w.heap.size w W) => cont38 badCh 39 #[] (enters_of Try.func39 (by kernel_rfl) rfl) A1 c1 black W (fun W' x _ _ => by rw [Array.append_empty]; exact (hop_Without_1.calls x _ W' (badCh_eq x)).mono fun e w' ⟨a, b⟩ => ⟨a, b.below⟩) (Kd.C_below hr1 hb))
  rw [hbl] at HB
  have H37 := Aside0.mk hch
  have HR0 := Aside0.mk hr0
  have HR1 := Aside0.mk hr1
  have HCC := Aside0.mk hc0
  have HA := Aside0.mk hall
  have HBL := Aside0.mk (fun (c : Int) (h : c ∈ black) => (show 0 ≤ c ∧ c < 16 by
    have := List.any_eq_false.1 hbl c h
    simpa [badCh] using this))
  have hm0 := hr0.2.1
  have hm1 := hr1.2.1
  have hd1 : decide (least < 1) = false := decide_eq_false h1
  have hd2 : decide ((l.length : Int) < least) = false := decide_eq_false (by omega)
  have hd3 : decide ((64 : Int) < (black.length : Int)) = false := decide_eq_false (by omega)
  clear hch hr0 hr1 hbl hc0 hc1 hall
  go_enter Try.func14, Try.ntmps14
  go_wp2_with (first | (go_at_call 37; refine (H37.out _ (Below.refl _ _)).mono ?_; rintro e w1 ⟨rfl, hd⟩; have HB1 := Aside0.mk (below_step (Below.refl w.heap.size w) hd.below); clear hd) | (go_at_call 38; refine (HB.out _ HB1.out).mono ?_; rintro e w2 ⟨rfl, hb⟩; have HB2 := Aside0.mk (below_step HB1.out hb); clear hb))
  have HL1 : StBox (w2.alloc (.cells #[.bool false, .bool false, .bool false, .bool false, .bool false, .bool false, .bool false, .bool false, .bool false, .bool false, .bool false, .bool false, .bool false, .bool false, .bool false, .bool false] 66)) w2.heap.size (List.replicate 16 false) := ⟨World.alloc_heap_new _ _, rfl⟩
  have HL1 := Aside0.mk HL1
  have hsz2 := HB2.out.size
  go_loopg [9, 36] l.length (fun gg v9 v36 wr => ∃ kk : Nat, ∃ st : List Bool, ∃ n : Int, Aside0 (kk ≤ l.length) ∧ Aside0 (l.length - kk ≤ gg) ∧ v36 = .int .i64 kk ∧ v9 = .int .i64 n ∧ Aside0 (WI1 l black kk st n) ∧ Aside0 (StBox wr w2.heap.size st) ∧ Aside0 (Below w.heap.size w wr))
  case atStart => exact ⟨0, List.replicate 16 false, 0, ⟨Nat.zero_le _⟩, ⟨by omega⟩, rfl, rfl, ⟨rfl, by omega, by omega⟩, HL1, ⟨HB2.out.alloc hsz2 _⟩⟩
  case round =>
    obtain ⟨kk, st, n, hkk, hg, rfl, rfl, HW, HS, HBr⟩ := hrel
    by_cases hlt : kk < l.length
    · have hltz : (kk : Int) < (l.length : Int) := by omega
      obtain ⟨ad, e, hc⟩ := Kd.at_int (Kd.C_below HR0.out HBr.out) (kk : Int) (by omega) hltz
      cases e
      have hrd : rd l (kk : Int) = l[kk] := rdI hlt
      rw [hrd, Int.toNat_natCast] at hc
      clear hrd
      have hr16 := HA.out l[kk] (List.getElem_mem hlt)
      have hn := HW.out.2
      have HWi := Aside0.mk (fun h => HW.out.in_ hlt h)
      have HWo := Aside0.mk (fun h => HW.out.out_ hlt h)
      have hcall := HC.out l[kk] wr HBr.out
      generalize l[kk] = c at hc hr16 HWi HWo hcall
      have hcS := HS.out.cell c hr16.1 hr16.2
      have hfS := HS.out.frozen c.toNat
      generalize st.getD c.toNat false = ob at hcS
      obtain ⟨hr16a, hr16b⟩ := hr16
      obtain ⟨hn0, hn1⟩ := hn
      by_cases hq : c ∈ black
      · rw [decide_eq_true hq] at hcall
        have HQ := Aside0.mk hq
        clear hq
        go_wp2_with (go_at_call 13; refine hcall.mono ?_; rintro e w' ⟨rfl, ⟨nd, rfl⟩⟩)
        go_roundg (l.length - (kk + 1))
        case measure => have := hg.out; omega
        case rel => exact ⟨kk + 1, st, n, ⟨by omega⟩, ⟨Nat.le_refl _⟩, by go_num, rfl, ⟨HWi.out HQ.out⟩, ⟨HS.out.drewN _⟩, ⟨pw_below_drewN HBr.out _⟩⟩
      · rw [decide_eq_false hq] at hcall
        have HQ := Aside0.mk hq
        clear hq
        go_wp2_with (go_at_call 13; refine hcall.mono ?_; rintro e w' ⟨rfl, ⟨nd, rfl⟩⟩)
        go_roundg (l.length - (kk + 1))
        case measure => have := hg.out; omega
        case rel => exact ⟨kk + 1, st.set c.toNat true, n + 1, ⟨by omega⟩, ⟨Nat.le_refl _⟩, by go_num, by go_num, ⟨HWo.out HQ.out⟩, ⟨(HS.out.drewN _).set _ _⟩, ⟨(pw_below_drewN HBr.out _).setCell (p := ⟨w2.heap.size, c.toNat, none⟩) hsz2 _⟩⟩
    · have HW1 : WI2 l black least 0 st n := by
        have := HW.out
        obtain rfl : kk = l.length := by have := hkk.out; omega
        obtain ⟨e1, e2, e3⟩ := this
        rw [List.take_length] at e1
        exact ⟨e1, e2, e3⟩
      have HW1 := Aside0.mk HW1
      have HK := Aside0.mk hlt
      have hd0 : decide ((kk : Int) < (l.length : Int)) = false := decide_eq_false (by omega)
      have hd0' : decide (kk < l.length) = false := decide_eq_false hlt
      clear hlt
      go_wp2
      have HS1 := HS
      have HBr1 := HBr
      clear HS HBr hg hkk HW
      go_loopg [9, 51] black.length (fun gg v9 v51 ws => ∃ kb : Nat, ∃ st : List Bool, ∃ n : Int, Aside0 (kb ≤ black.length) ∧ Aside0 (black.length - kb ≤ gg) ∧ v51 = .int .i64 kb ∧ v9 = .int .i64 n ∧ Aside0 (WI2 l black least kb st n) ∧ Aside0 (StBox ws w2.heap.size st) ∧ Aside0 (Below w.heap.size w ws))
      case atStart => exact ⟨0, st, n, ⟨Nat.zero_le _⟩, ⟨by omega⟩, rfl, rfl, HW1, HS1, HBr1⟩
      case round =>
        clear HW1 HS1 HBr1
        obtain ⟨kb, st, n, hkk, hg, rfl, rfl, HW, HS, HBr⟩ := hrel
        by_cases hlt : kb < black.length
        · have hltz : (kb : Int) < (black.length : Int) := by omega
          obtain ⟨ad, e, hc⟩ := Kd.at_int (Kd.C_below HR1.out HBr.out) (kb : Int) (by omega) hltz
          cases e
          have hrd : rd black (kb : Int) = black[kb] := rdI hlt
          rw [hrd, Int.toNat_natCast] at hc
          clear hrd
          have hr16 := HBL.out black[kb] (List.getElem_mem hlt)
          have hn := HW.out.2
          have HWi := Aside0.mk (fun h => HW.out.skip hlt h)
          have HWo := Aside0.mk (fun h1 h2 h3 => HW.out.take hlt h1 h2 h3 (by omega))
          have hcall := HD.out black[kb] wr HBr.out
          generalize black[kb] = c at hc hr16 HWi HWo hcall
          have hcS := HS.out.cell c hr16.1 hr16.2
          have hfS := HS.out.frozen c.toNat
          obtain ⟨hr16a, hr16b⟩ := hr16
          obtain ⟨hn0, hn1⟩ := hn
          by_cases hq1 : n < least
          · cases hq2 : st.getD c.toNat false with
            | true =>
              rw [hq2] at hcS
              have HQ := Aside0.mk hq2
              clear hq2
              go_wp2_with (go_at_call 13; refine hcall.mono ?_; rintro e w' ⟨rfl, ⟨nd, rfl⟩⟩)
              go_roundg (black.length - (kb + 1))
              case measure => have := hg.out; omega
              case rel => exact ⟨kb + 1, st, n, ⟨by omega⟩, ⟨Nat.le_refl _⟩, by go_num, rfl, ⟨HWi.out (fun h => by rw [HQ.out] at h; exact absurd h.2.1 (by simp))⟩, HS, HBr⟩
            | false =>
              rw [hq2] at hcS
              have HQ := Aside0.mk hq2
              clear hq2
              by_cases hq : c ∈ l
              · rw [decide_eq_true hq] at hcall
                have HQ3 := Aside0.mk hq
                clear hq
                go_wp2_with (go_at_call 13; refine hcall.mono ?_; rintro e w' ⟨rfl, ⟨nd, rfl⟩⟩)
                go_roundg (black.length - (kb + 1))
                case measure => have := hg.out; omega
                case rel => exact ⟨kb + 1, st.set c.toNat true, n + 1, ⟨by omega⟩, ⟨Nat.le_refl _⟩, by go_num, by go_num, ⟨HWo.out (by assumption) HQ.out HQ3.out⟩, ⟨(HS.out.drewN _).set _ _⟩, ⟨(pw_below_drewN HBr.out _).setCell (p := ⟨w2.heap.size, c.toNat, none⟩) hsz2 _⟩⟩
              · rw [decide_eq_false hq] at hcall
                have HQ3 := Aside0.mk hq
                clear hq
                go_wp2_with (go_at_call 13; refine hcall.mono ?_; rintro e w' ⟨rfl, ⟨nd, rfl⟩⟩)
                go_roundg (black.length - (kb + 1))
                case measure => have := hg.out; omega
                case rel => exact ⟨kb + 1, st, n, ⟨by omega⟩, ⟨Nat.le_refl _⟩, by go_num, rfl, ⟨HWi.out (fun h => HQ3.out h.2.2)⟩, ⟨HS.out.drewN _⟩, ⟨pw_below_drewN HBr.out _⟩⟩
          · have hq1' : decide (n < least) = false := decide_eq_false hq1
            have HQ := Aside0.mk hq1
            clear hq1
            generalize st.getD c.toNat false = ob at hcS
            go_wp2_with (go_at_call 13; refine hcall.mono ?_; rintro e w' ⟨rfl, ⟨nd, rfl⟩⟩)
            go_roundg (black.length - (kb + 1))
            case measure => have := hg.out; omega
            case rel => exact ⟨kb + 1, st, n, ⟨by omega⟩, ⟨Nat.le_refl _⟩, by go_num, rfl, ⟨HWi.out (fun h => by have := HQ.out; omega)⟩, HS, HBr⟩
        · have HFIN : Aside0 (wst2 l black least = (st, n)) := by
            obtain rfl : kb = black.length := by have := hkk.out; omega
            have := HW.out.1
            rw [List.take_length] at this
            exact ⟨this⟩
          have hd9 : decide ((kb : Int) < (black.length : Int)) = false := decide_eq_false (by omega)
          have hd9' : decide (kb < black.length) = false := decide_eq_false hlt
          clear hlt
          have HCl := Aside0.mk (slices_Clone_int_int.calls A0 c0 l l wr (Kd.C_below HR0.out HBr.out) HCC.out (by unfold slices_Clone_int_int.f; rw [if_pos hmx]))
          go_wp2_with fail
          refine HCl.out.mono ?_
          rintro e w3 ⟨v0, rfl, hR3, hb3⟩
          have hpos : 0 < l.length := by omega
          obtain ⟨A3, c3, rfl⟩ := Kd.R_slice hR3
          obtain ⟨b, rfl, hb⟩ : ∃ b, A3 = some ⟨b, 0, none⟩ ∧ wr.heap.size ≤ b := by
            obtain ⟨_, inner, ⟨_, ho⟩, _⟩ := hR3
            rcases ho with ⟨e, _⟩ | ⟨g', cap', cur, e, hg', _⟩
            · injection e with e1 e2 e3
              omega
            · injection e with e1 e2 e3
              exact ⟨g', e1, hg'⟩
          have hwl := HS.out.lt
          have hS3 : StBox w3 w2.heap.size st := HS.out.same (hb3.block _ hwl)
          have hwb := HBr.out.size
          have HDel := Aside0.mk (del_calls (fun c => !(st.getD c.toNat false)) 42 #[.pointer (some ⟨w2.heap.size, 0, none⟩)] (enters_of Try.func42 (by kernel_rfl) rfl) b c3 wr.heap.size (fun _ => True) l w3
            (fun W x hW hx => stay_calls w2.heap.size st x W (HA.out x hx).1 (HA.out x hx).2 (hS3.same (hW.2 _ hS3.lt (by omega)))) hR3 hb hb3.size)
          have HBf := Aside0.mk (HBr.out.trans (hb3.mono hwb))
          have HST := Aside0.mk hwb
          clear hS3 hwl hb3 hR3 hb hwb
          go_wp2_with (go_at_call 41; refine HDel.out.mono ?_; rintro e w4 ⟨rfl, hR4, hb4⟩; have HR4 := Aside0.mk hR4; have HB4 := Aside0.mk hb4; clear hR4 hb4)
          go_ret2
          have hfe : (l.filter fun x => !(!(st.getD x.toNat false))) = wkeep l black least := by
            unfold wkeep
            rw [HFIN.out]
            simp
          refine ⟨_, rfl, ?_, HBf.out.trans (HB4.out.mono HST.out)⟩
          have hfe2 : (l.filter fun x => st[x.toNat]?.getD false) = wkeep l black least := by
            unfold wkeep
            rw [HFIN.out]
            simp [List.getD_eq_getElem?_getD]
          have h4 := HR4.out
          rw [hfe] at h4
          show Kd.R _ 3 w4 w.heap.size _ (.slice (some ⟨b, 0, none⟩) (l.filter fun x => st[x.toNat]?.getD false).length c3) _
          rw [hfe2]
          exact Kd.R_lower h4 HST.out
def hop_Without.f (k : Nat) (l0 l1 : List Int) (a2 : Int) : Option (List Int × Int) :=
  if l0.length < 17592186044416 then ((hop_channels.f k l0).bind fun t => (if t = true then (if (l1.length : Int) > 64 then (some ([], 1)) else (if l1.any badCh = true then (some ([], 1)) else (if a2 < 1 then (some ([], 2)) else (if a2 > (l0.length : Int) then (some ([], 2)) else (if l0.all (fun c => decide (0 ≤ c ∧ c < 16)) = true then (some (wkeep l0 l1 a2, 0)) else (none)))))) else (some ([], 1)))) else (none)
theorem hop_Without.mono : ∀ a0 a1 a2 k, LeO (hop_Without.f k a0 a1 a2) (hop_Without.f (k + 1) a0 a1 a2) := by
  intro a0 a1 a2 k
  unfold hop_Without.f
  refine LeO.ite ?_ (LeO.refl _)
  exact LeO.bind (hop_channels.mono _ _) (fun _ => LeO.refl _)
set_option maxHeartbeats 4000000 in
theorem wo_err (A0 : Option Addr) (c0 : Nat) (l : List Int) (A1 : Option Addr) (c1 : Nat) (black : List Int) (least : Int) (w : World) (t : Bool) (r2 : Int) (hr1 : Kd.C (Kd.int .i64) w A1 black.length black) (hc1 : black.length ≤ c1)
    (hch : ∀ W, Below w.heap.size w W → Calls Try.prog 37 #[.slice A0 l.length c0] W fun e w' => e = .returned (.bool t) ∧ Drawn0 W w')
    (h : (t = false ∧ r2 = 1) ∨ (t = true ∧ (black.length : Int) > 64 ∧ r2 = 1) ∨ (t = true ∧ ¬ (black.length : Int) > 64 ∧ black.any badCh = true ∧ r2 = 1) ∨ (t = true ∧ ¬ (black.length : Int) > 64 ∧ black.any badCh = false ∧ (least < 1 ∨ (¬ least < 1 ∧ least > (l.length : Int))) ∧ r2 = 2)) :
    Calls Try.prog 14 #[.slice A0 l.length c0, .slice A1 black.length c1, .int .i64 least] w fun e w' => e = .returned (.tuple #[.slice none 0 0, .int .i64 r2]) ∧ Below w.heap.size w w' := by
  have HB := Aside0.mk (fun W (hb : Below w.heap.size w W) => cont38 badCh 39 #[] (enters_of Try.func39 (by kernel_rfl) rfl) A1 c1 black W (fun W' x _ _ => by rw [Array.append_empty]; exact (hop_Without_1.calls x _ W' (badCh_eq x)).mono fun e w' ⟨a, b⟩ => ⟨a, b.below⟩) (Kd.C_below hr1 hb))
  have H37 := Aside0.mk hch
  clear hch hr1 hc1
  rcases h with ⟨rfl, rfl⟩ | ⟨rfl, h1, rfl⟩ | ⟨rfl, h1, h2, rfl⟩ | ⟨rfl, h1, h2, h3, rfl⟩
  · go_enter Try.func14, Try.ntmps14
    go_wp2_with (go_at_call 37; refine (H37.out _ (Below.refl _ _)).mono ?_; rintro e w1 ⟨rfl, hd⟩; have HB1 := Aside0.mk (below_step (Below.refl w.heap.size w) hd.below); clear hd)
    go_ret2
    exact ⟨rfl, HB1.out⟩
  · have hd3 : decide ((64 : Int) < (black.length : Int)) = true := decide_eq_true (by omega)
    go_enter Try.func14, Try.ntmps14
    go_wp2_with (go_at_call 37; refine (H37.out _ (Below.refl _ _)).mono ?_; rintro e w1 ⟨rfl, hd⟩; have HB1 := Aside0.mk (below_step (Below.refl w.heap.size w) hd.below); clear hd)
    go_ret2
    exact ⟨rfl, HB1.out⟩
  · have hd3 : decide ((64 : Int) < (black.length : Int)) = false := decide_eq_false (by omega)
    rw [h2] at HB
    clear h2
    go_enter Try.func14, Try.ntmps14
    go_wp2_with (first | (go_at_call 37; refine (H37.out _ (Below.refl _ _)).mono ?_; rintro e w1 ⟨rfl, hd⟩; have HB1 := Aside0.mk (below_step (Below.refl w.heap.size w) hd.below); clear hd) | (go_at_call 38; refine (HB.out _ HB1.out).mono ?_; rintro e w2 ⟨rfl, hb⟩; have HB2 := Aside0.mk (below_step HB1.out hb); clear hb))
    go_ret2
    exact ⟨rfl, HB2.out⟩
  · have hd3 : decide ((64 : Int) < (black.length : Int)) = false := decide_eq_false (by omega)
    rw [h2] at HB
    clear h2
    rcases h3 with h3 | ⟨h3, h4⟩
    all_goals
      go_enter Try.func14, Try.ntmps14
      go_wp2_with (first | (go_at_call 37; refine (H37.out _ (Below.refl _ _)).mono ?_; rintro e w1 ⟨rfl, hd⟩; have HB1 := Aside0.mk (below_step (Below.refl w.heap.size w) hd.below); clear hd) | (go_at_call 38; refine (HB.out _ HB1.out).mono ?_; rintro e w2 ⟨rfl, hb⟩; have HB2 := Aside0.mk (below_step HB1.out hb); clear hb))
      go_ret2
      exact ⟨rfl, HB2.out⟩
theorem hop_Without.calls (k : Nat) (A0 : Option Addr) (c0 : Nat) (l0 : List Int) (A1 : Option Addr) (c1 : Nat) (l1 : List Int) (a2 : Int) (r1 : List Int) (r2 : Int) (w : World) (hr0 : Kd.C (Kd.int .i64) w A0 l0.length l0) (hc0 : l0.length ≤ c0) (hr1 : Kd.C (Kd.int .i64) w A1 l1.length l1) (hc1 : l1.length ≤ c1) (h : hop_Without.f k l0 l1 a2 = some (r1, r2)) :
    Calls Try.prog 14 #[.slice A0 l0.length c0, .slice A1 l1.length c1, .int .i64 a2] w fun e w' => ∃ v0_ : Value, e = .returned (.tuple #[v0_, .int .i64 r2]) ∧ Kd.R (Kd.int .i64) 3 w' w.heap.size (fun _ => True) v0_ r1 ∧ Below w.heap.size w w' := by
  unfold hop_Without.f at h
  by_cases hL : l0.length < 17592186044416
  · rw [if_pos hL] at h
    obtain ⟨t, ht, h⟩ := Option.bind_eq_some_iff.1 h
    have hch := fun W (hb : Below w.heap.size w W) => hop_channels.calls k A0 c0 l0 t W (Kd.C_below hr0 hb) hc0 ht
    have err : ∀ r2', ((t = false ∧ r2' = 1) ∨ (t = true ∧ (l1.length : Int) > 64 ∧ r2' = 1) ∨ (t = true ∧ ¬ (l1.length : Int) > 64 ∧ l1.any badCh = true ∧ r2' = 1) ∨ (t = true ∧ ¬ (l1.length : Int) > 64 ∧ l1.any badCh = false ∧ (a2 < 1 ∨ (¬ a2 < 1 ∧ a2 > (l0.length : Int))) ∧ r2' = 2)) → some (([], r2') : List Int × Int) = some (r1, r2) →
        Calls Try.prog 14 #[.slice A0 l0.length c0, .slice A1 l1.length c1, .int .i64 a2] w fun e w' => ∃ v0_ : Value, e = .returned (.tuple #[v0_, .int .i64 r2]) ∧ Kd.R (Kd.int .i64) 3 w' w.heap.size (fun _ => True) v0_ r1 ∧ Below w.heap.size w w' := fun r2' hh he => by
      simp only [Option.some.injEq, Prod.mk.injEq] at he
      obtain ⟨rfl, rfl⟩ := he
      exact (wo_err A0 c0 l0 A1 c1 l1 a2 w t _ hr1 hc1 hch hh).mono fun e w' ⟨h1, h2⟩ => ⟨_, h1, Kd.R_nil _ _ _ _ _, h2⟩
    by_cases h0 : t = true
    · rw [if_pos h0] at h
      by_cases h1 : (l1.length : Int) > 64
      · rw [if_pos h1] at h
        exact err 1 (.inr (.inl ⟨h0, h1, rfl⟩)) h
      · rw [if_neg h1] at h
        by_cases h2 : l1.any badCh = true
        · rw [if_pos h2] at h
          exact err 1 (.inr (.inr (.inl ⟨h0, h1, h2, rfl⟩))) h
        · rw [if_neg h2] at h
          have h2' : l1.any badCh = false := by simpa using h2
          by_cases h3 : a2 < 1
          · rw [if_pos h3] at h
            exact err 2 (.inr (.inr (.inr ⟨h0, h1, h2', .inl h3, rfl⟩))) h
          · rw [if_neg h3] at h
            by_cases h4 : a2 > (l0.length : Int)
            · rw [if_pos h4] at h
              exact err 2 (.inr (.inr (.inr ⟨h0, h1, h2', .inr ⟨h3, h4⟩, rfl⟩))) h
            · rw [if_neg h4] at h
              by_cases h5 : l0.all (fun c => decide (0 ≤ c ∧ c < 16)) = true
              · rw [if_pos h5] at h
                simp only [Option.some.injEq, Prod.mk.injEq] at h
                obtain ⟨rfl, rfl⟩ := h
                subst h0
                exact wo_walk A0 c0 l0 A1 c1 l1 a2 w hr0 hc0 hr1 hc1 hch h2' h1 h3 h4 (fun c hc => by simpa using List.all_eq_true.1 h5 c hc) hL
              · rw [if_neg h5] at h
                cases h
    · rw [if_neg h0] at h
      exact err 1 (.inl ⟨by simpa using h0, rfl⟩) h
  · rw [if_neg hL] at h
    cases h

end Go.Proofs.Ytddcacomphkeiaa.PA
