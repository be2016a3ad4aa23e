/- slices.IndexFunc and slices.ContainsFunc at this seat's element types, at whatever predicate (the shelf's worked proof at structs, turned to the printed texts' kinds). Written by a program of this session (hof.py). -/
import Derived.Test.YtcdgpnjlaicbcaaPAx0
import Derived.Shelf.GgClosure.Gives
import Derived.Shelf.Abstract
namespace Go.Proofs.Ytcdgpnjlaicbcaa.PA
open Go.RowKit Go.Shelf Go.Proofs.YtcdgpnjlaicbcaaW.PrintWords Go.Proofs.YtcdgpnjlaicbcaaW.PrintLast Go.Proofs.YtcdgpnjlaicbcaaW.PrintMore
/-- The first place at which p holds, or -1. -/
def fidx {α : Type} (p : α → Bool) (l : List α) : Int := if l.any p = true then ((l.findIdx p : Nat) : Int) else -1
theorem fidx_hit {α : Type} {p : α → Bool} {l : List α} {k : Nat} (hk : k < l.length) (h : p l[k] = true) (hb : ∀ j (hj : j < l.length), j < k → p l[j] = false) : fidx p l = k := by
  unfold fidx
  rw [if_pos (List.any_eq_true.2 ⟨_, List.getElem_mem hk, h⟩)]
  have : l.findIdx p = k := by
    rw [List.findIdx_eq hk]
    exact ⟨h, fun j hj => by simpa using hb j (by omega) hj⟩
  rw [this]
theorem fidx_none {α : Type} {p : α → Bool} {l : List α} (hb : ∀ j (hj : j < l.length), p l[j] = false) : fidx p l = -1 := by
  unfold fidx
  rw [if_neg]
  intro h
  obtain ⟨x, hx, hp⟩ := List.any_eq_true.1 h
  obtain ⟨j, hj, rfl⟩ := List.getElem_of_mem hx
  rw [hb j hj] at hp
  exact absurd hp (by simp)
theorem fidx_any {α : Type} (p : α → Bool) (l : List α) : decide (fidx p l ≥ 0) = l.any p := by
  unfold fidx
  cases h : l.any p <;> simp
theorem ret_i {k : IntKind} {a b : Int} (h : a = b) : Ending.returned (.int k a) = .returned (.int k b) := by rw [h]
theorem ret_b {a b : Bool} (h : a = b) : Ending.returned (.bool a) = .returned (.bool b) := by rw [h]

set_option maxHeartbeats 2000000 in
theorem idx64 (p : S28 → Bool) (g : Nat) (lb : Array Value) (eg : ∀ args w, (callFunc g args).run Try.prog w = .ok (.enter g args) w) (A : Option Addr) (c : Nat) (l : List S28) (w : World)
    (hp : ∀ (W : World) (x : S28), Below w.heap.size w W → Calls Try.prog g (#[.agg #[.int .i64 x.f0, .int .i64 x.f1]] ++ lb) W fun e w' => e = .returned (.bool (p x)) ∧ Below W.heap.size W w')
    (hr : Kd.C k28 w A l.length l) :
    Calls Try.prog 64 #[.slice A l.length c, .func (.func g) #[] lb] w fun e w' => e = .returned (.int .i64 (fidx p l)) ∧ Below w.heap.size w w' := by
  have HR := Aside0.mk hr
  have HP := Aside0.mk hp
  have HL := Aside0.mk hr.2.1
  clear hr hp
  go_enter Try.func64, Try.ntmps64
  go_wp2
  go_loopg [5, 8] l.length (fun gg v5 v8 wr => ∃ kk : Nat, Aside0 (kk ≤ l.length) ∧ Aside0 (l.length - kk ≤ gg) ∧ v8 = .int .i64 kk ∧ Aside0 (Below w.heap.size w wr) ∧ Aside0 (∀ j (hj : j < l.length), j < kk → p l[j] = false))
  case atStart => exact ⟨0, ⟨Nat.zero_le _⟩, ⟨by omega⟩, rfl, ⟨Below.refl _ w⟩, ⟨fun j _ hj => absurd hj (Nat.not_lt_zero _)⟩⟩
  case round =>
    obtain ⟨kk, hkk, hg, rfl, HB, HA⟩ := hrel
    by_cases hlt : kk < l.length
    · have hm := HL.out
      have hltz : (kk : Int) < (l.length : Int) := by omega
      obtain ⟨ad, e, hc0, hc1⟩ := at_T28 (Kd.C_below HR.out HB.out) (kk : Int) (by omega) hltz
      cases e
      have hcall := HP.out wr (rd_T28 l (kk : Int)) HB.out
      have hrd : rd_T28 l (kk : Int) = l[kk] := by unfold rd_T28; rw [List.getD_eq_getElem?_getD, Int.toNat_natCast, List.getElem?_eq_getElem hlt]; rfl
      rw [hrd, Int.toNat_natCast] at hc0 hc1
      rw [hrd] at hcall
      clear hrd
      generalize hy : l[kk] = y at hc0 hc1 hcall
      have HY := Aside0.mk hy
      clear hy
      cases hq : p y with
      | true =>
        rw [hq] at hcall
        go_wp2_with (go_at_fn g; refine hcall.mono ?_; rintro e w' ⟨rfl, hb'⟩)
        go_ret
        exact ⟨ret_i (fidx_hit hlt (by rw [HY.out]; exact hq) HA.out).symm, below_step HB.out hb'⟩
      | false =>
        rw [hq] at hcall
        go_wp2_with (go_at_fn g; refine hcall.mono ?_; rintro e w' ⟨rfl, hb'⟩)
        go_roundg (l.length - (kk + 1))
        case measure => have := hg.out; omega
        case rel => exact ⟨kk + 1, ⟨by omega⟩, ⟨by omega⟩, by go_num, ⟨below_step HB.out hb'⟩, ⟨fun j hj hlt' => by
          rcases Nat.lt_or_ge j kk with h | h
          · exact HA.out j hj h
          · obtain rfl : j = kk := by omega
            rw [HY.out]; exact hq⟩⟩
    · have hd0 : decide (kk < l.length) = false := decide_eq_false hlt
      have hd1 : decide ((kk : Int) < (l.length : Int)) = false := decide_eq_false (by omega)
      have HG := Aside0.mk hlt
      clear hlt
      go_wp2
      go_ret
      exact ⟨ret_i (fidx_none (fun j hj => HA.out j hj (by have := HG.out; omega))).symm, HB.out⟩

set_option maxHeartbeats 2000000 in
theorem cont44 (p : S28 → Bool) (g : Nat) (lb : Array Value) (eg : ∀ args w, (callFunc g args).run Try.prog w = .ok (.enter g args) w) (A : Option Addr) (c : Nat) (l : List S28) (w : World)
    (hp : ∀ (W : World) (x : S28), Below w.heap.size w W → Calls Try.prog g (#[.agg #[.int .i64 x.f0, .int .i64 x.f1]] ++ lb) W fun e w' => e = .returned (.bool (p x)) ∧ Below W.heap.size W w')
    (hr : Kd.C k28 w A l.length l) :
    Calls Try.prog 44 #[.slice A l.length c, .func (.func g) #[] lb] w fun e w' => e = .returned (.bool (l.any p)) ∧ Below w.heap.size w w' := by
  have HI := Aside0.mk (idx64 p g lb eg A c l w hp hr)
  clear hp hr eg
  go_enter Try.func44, Try.ntmps44
  go_wp2_with (go_at_call 64; refine HI.out.mono ?_; rintro e w' ⟨rfl, hb⟩)
  go_ret
  exact ⟨ret_b (fidx_any p l), hb⟩

set_option maxHeartbeats 2000000 in
theorem idx65 (p : Int → Bool) (g : Nat) (lb : Array Value) (eg : ∀ args w, (callFunc g args).run Try.prog w = .ok (.enter g args) w) (A : Option Addr) (c : Nat) (l : List Int) (w : World)
    (hp : ∀ (W : World) (x : Int), Below w.heap.size w W → Calls Try.prog g (#[.int .i64 x] ++ lb) W fun e w' => e = .returned (.bool (p x)) ∧ Below W.heap.size W w')
    (hr : Kd.C (Kd.int .i64) w A l.length l) :
    Calls Try.prog 65 #[.slice A l.length c, .func (.func g) #[] lb] w fun e w' => e = .returned (.int .i64 (fidx p l)) ∧ Below w.heap.size w w' := by
  have HR := Aside0.mk hr
  have HP := Aside0.mk hp
  have HL := Aside0.mk hr.2.1
  clear hr hp
  go_enter Try.func65, Try.ntmps65
  go_wp2
  go_loopg [5, 8] l.length (fun gg v5 v8 wr => ∃ kk : Nat, Aside0 (kk ≤ l.length) ∧ Aside0 (l.length - kk ≤ gg) ∧ v8 = .int .i64 kk ∧ Aside0 (Below w.heap.size w wr) ∧ Aside0 (∀ j (hj : j < l.length), j < kk → p l[j] = false))
  case atStart => exact ⟨0, ⟨Nat.zero_le _⟩, ⟨by omega⟩, rfl, ⟨Below.refl _ w⟩, ⟨fun j _ hj => absurd hj (Nat.not_lt_zero _)⟩⟩
  case round =>
    obtain ⟨kk, hkk, hg, rfl, HB, HA⟩ := hrel
    by_cases hlt : kk < l.length
    · have hm := HL.out
      have hltz : (kk : Int) < (l.length : Int) := by omega
      obtain ⟨ad, e, hc0⟩ := Kd.at_int (Kd.C_below HR.out HB.out) (kk : Int) (by omega) hltz
      cases e
      have hcall := HP.out wr (rd l (kk : Int)) HB.out
      have hrd : rd l (kk : Int) = l[kk] := by unfold rd; rw [List.getD_eq_getElem?_getD, Int.toNat_natCast, List.getElem?_eq_getElem hlt]; rfl
      rw [hrd, Int.toNat_natCast] at hc0
      rw [hrd] at hcall
      clear hrd
      generalize hy : l[kk] = y at hc0 hcall
      have HY := Aside0.mk hy
      clear hy
      cases hq : p y with
      | true =>
        rw [hq] at hcall
        go_wp2_with (go_at_fn g; refine hcall.mono ?_; rintro e w' ⟨rfl, hb'⟩)
        go_ret
        exact ⟨ret_i (fidx_hit hlt (by rw [HY.out]; exact hq) HA.out).symm, below_step HB.out hb'⟩
      | false =>
        rw [hq] at hcall
        go_wp2_with (go_at_fn g; refine hcall.mono ?_; rintro e w' ⟨rfl, hb'⟩)
        go_roundg (l.length - (kk + 1))
        case measure => have := hg.out; omega
        case rel => exact ⟨kk + 1, ⟨by omega⟩, ⟨by omega⟩, by go_num, ⟨below_step HB.out hb'⟩, ⟨fun j hj hlt' => by
          rcases Nat.lt_or_ge j kk with h | h
          · exact HA.out j hj h
          · obtain rfl : j = kk := by omega
            rw [HY.out]; exact hq⟩⟩
    · have hd0 : decide (kk < l.length) = false := decide_eq_false hlt
      have hd1 : decide ((kk : Int) < (l.length : Int)) = false := decide_eq_false (by omega)
      have HG := Aside0.mk hlt
      clear hlt
      go_wp2
      go_ret
      exact ⟨ret_i (fidx_none (fun j hj => HA.out j hj (by have := HG.out; omega))).symm, HB.out⟩

set_option maxHeartbeats 2000000 in
theorem cont45 (p : Int → Bool) (g : Nat) (lb : Array Value) (eg : ∀ args w, (callFunc g args).run Try.prog w = .ok (.enter g args) w) (A : Option Addr) (c : Nat) (l : List Int) (w : World)
    (hp : ∀ (W : World) (x : Int), Below w.heap.size w W → Calls Try.prog g (#[.int .i64 x] ++ lb) W fun e w' => e = .returned (.bool (p x)) ∧ Below W.heap.size W w')
    (hr : Kd.C (Kd.int .i64) w A l.length l) :
    Calls Try.prog 45 #[.slice A l.length c, .func (.func g) #[] lb] w fun e w' => e = .returned (.bool (l.any p)) ∧ Below w.heap.size w w' := by
  have HI := Aside0.mk (idx65 p g lb eg A c l w hp hr)
  clear hp hr eg
  go_enter Try.func45, Try.ntmps45
  go_wp2_with (go_at_call 65; refine HI.out.mono ?_; rintro e w' ⟨rfl, hb⟩)
  go_ret
  exact ⟨ret_b (fidx_any p l), hb⟩

set_option maxHeartbeats 2000000 in
theorem idx66 (p : S47 → Bool) (g : Nat) (lb : Array Value) (eg : ∀ args w, (callFunc g args).run Try.prog w = .ok (.enter g args) w) (A : Option Addr) (c : Nat) (l : List S47) (w : World)
    (hp : ∀ (W : World) (x : S47), Below w.heap.size w W → Calls Try.prog g (#[.agg #[.int .i64 x.f0.f0, .int .i64 x.f0.f1, .int .i64 x.f1.f0, .int .i64 x.f1.f1, .int .i64 x.f2]] ++ lb) W fun e w' => e = .returned (.bool (p x)) ∧ Below W.heap.size W w')
    (hr : Kd.C k47 w A l.length l) :
    Calls Try.prog 66 #[.slice A l.length c, .func (.func g) #[] lb] w fun e w' => e = .returned (.int .i64 (fidx p l)) ∧ Below w.heap.size w w' := by
  have HR := Aside0.mk hr
  have HP := Aside0.mk hp
  have HL := Aside0.mk hr.2.1
  clear hr hp
  go_enter Try.func66, Try.ntmps66
  go_wp2
  go_loopg [5, 8] l.length (fun gg v5 v8 wr => ∃ kk : Nat, Aside0 (kk ≤ l.length) ∧ Aside0 (l.length - kk ≤ gg) ∧ v8 = .int .i64 kk ∧ Aside0 (Below w.heap.size w wr) ∧ Aside0 (∀ j (hj : j < l.length), j < kk → p l[j] = false))
  case atStart => exact ⟨0, ⟨Nat.zero_le _⟩, ⟨by omega⟩, rfl, ⟨Below.refl _ w⟩, ⟨fun j _ hj => absurd hj (Nat.not_lt_zero _)⟩⟩
  case round =>
    obtain ⟨kk, hkk, hg, rfl, HB, HA⟩ := hrel
    by_cases hlt : kk < l.length
    · have hm := HL.out
      have hltz : (kk : Int) < (l.length : Int) := by omega
      obtain ⟨ad, e, hc0, hc1, hc2, hc3, hc4⟩ := at_T47 (Kd.C_below HR.out HB.out) (kk : Int) (by omega) hltz
      cases e
      have hcall := HP.out wr (rd_T47 l (kk : Int)) HB.out
      have hrd : rd_T47 l (kk : Int) = l[kk] := by unfold rd_T47; rw [List.getD_eq_getElem?_getD, Int.toNat_natCast, List.getElem?_eq_getElem hlt]; rfl
      rw [hrd, Int.toNat_natCast] at hc0 hc1 hc2 hc3 hc4
      rw [hrd] at hcall
      clear hrd
      generalize hy : l[kk] = y at hc0 hc1 hc2 hc3 hc4 hcall
      have HY := Aside0.mk hy
      clear hy
      cases hq : p y with
      | true =>
        rw [hq] at hcall
        go_wp2_with (go_at_fn g; refine hcall.mono ?_; rintro e w' ⟨rfl, hb'⟩)
        go_ret
        exact ⟨ret_i (fidx_hit hlt (by rw [HY.out]; exact hq) HA.out).symm, below_step HB.out hb'⟩
      | false =>
        rw [hq] at hcall
        go_wp2_with (go_at_fn g; refine hcall.mono ?_; rintro e w' ⟨rfl, hb'⟩)
        go_roundg (l.length - (kk + 1))
        case measure => have := hg.out; omega
        case rel => exact ⟨kk + 1, ⟨by omega⟩, ⟨by omega⟩, by go_num, ⟨below_step HB.out hb'⟩, ⟨fun j hj hlt' => by
          rcases Nat.lt_or_ge j kk with h | h
          · exact HA.out j hj h
          · obtain rfl : j = kk := by omega
            rw [HY.out]; exact hq⟩⟩
    · have hd0 : decide (kk < l.length) = false := decide_eq_false hlt
      have hd1 : decide ((kk : Int) < (l.length : Int)) = false := decide_eq_false (by omega)
      have HG := Aside0.mk hlt
      clear hlt
      go_wp2
      go_ret
      exact ⟨ret_i (fidx_none (fun j hj => HA.out j hj (by have := HG.out; omega))).symm, HB.out⟩

set_option maxHeartbeats 2000000 in
theorem cont48 (p : S47 → Bool) (g : Nat) (lb : Array Value) (eg : ∀ args w, (callFunc g args).run Try.prog w = .ok (.enter g args) w) (A : Option Addr) (c : Nat) (l : List S47) (w : World)
    (hp : ∀ (W : World) (x : S47), Below w.heap.size w W → Calls Try.prog g (#[.agg #[.int .i64 x.f0.f0, .int .i64 x.f0.f1, .int .i64 x.f1.f0, .int .i64 x.f1.f1, .int .i64 x.f2]] ++ lb) W fun e w' => e = .returned (.bool (p x)) ∧ Below W.heap.size W w')
    (hr : Kd.C k47 w A l.length l) :
    Calls Try.prog 48 #[.slice A l.length c, .func (.func g) #[] lb] w fun e w' => e = .returned (.bool (l.any p)) ∧ Below w.heap.size w w' := by
  have HI := Aside0.mk (idx66 p g lb eg A c l w hp hr)
  clear hp hr eg
  go_enter Try.func48, Try.ntmps48
  go_wp2_with (go_at_call 66; refine HI.out.mono ?_; rintro e w' ⟨rfl, hb⟩)
  go_ret
  exact ⟨ret_b (fidx_any p l), hb⟩
end Go.Proofs.Ytcdgpnjlaicbcaa.PA
