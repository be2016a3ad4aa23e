/- slices.IndexFunc and slices.ContainsFunc at this seat's element types, at whatever predicate (the shelf's worked proof at structs, turned to the printed texts' kinds). Written by a program of this session (hof.py). -/
import Derived.Test.YtddcacomphkeiaaPAx0
import Derived.Shelf.GgClosure.Gives
import Derived.Shelf.Abstract
namespace Go.Proofs.Ytddcacomphkeiaa.PA
open Go.RowKit Go.Shelf Go.Proofs.YtddcacomphkeiaaW.PrintWords Go.Proofs.YtddcacomphkeiaaW.PrintLast Go.Proofs.YtddcacomphkeiaaW.PrintMore
/-- The first place at which p holds, or -1. -/
def fidx {α : Type} (p : α → Bool) (l : List α) : Int := if l.any p = true then ((l.findIdx p : Nat) : Int) else -1
theorem fidx_hit {α : Type} {p : α → Bool} {l : List α} {k : Nat} (hk : k < l.length) (h : p l[k] = true) (hb : ∀ j (hj : j < l.length), j < k → p l[j] = false) : fidx p l = k := by
  unfold fidx
  rw [if_pos (List.any_eq_true.2 ⟨_, List.getElem_mem hk, h⟩)]
  have : l.findIdx p = k := by
    rw [List.findIdx_eq hk]
    exact ⟨h, fun j hj => by simpa using hb j (by omega) hj⟩
  rw [this]
theorem fidx_none {α : Type} {p : α → Bool} {l : List α} (hb : ∀ j (hj : j < l.length), p l[j] = false) : fidx p l = -1 := by
  unfold fidx
  rw [if_neg]
  intro h
  obtain ⟨x, hx, hp⟩ := List.any_eq_true.1 h
  obtain ⟨j, hj, rfl⟩ := List.getElem_of_mem hx
  rw [hb j hj] at hp
  exact absurd hp (by simp)
theorem fidx_any {α : Type} (p : α → Bool) (l : List α) : decide (fidx p l ≥ 0) = l.any p := by
  unfold fidx
  cases h : l.any p <;> simp
theorem ret_i {k : IntKind} {a b : Int} (h : a = b) : Ending.returned (.int k a) = .returned (.int k b) := by rw [h]
theorem ret_b {a b : Bool} (h : a = b) : Ending.returned (.bool a) = .returned (.bool b) := by rw [h]

set_option maxHeartbeats 2000000 in
theorem idx51 (p : Int → Bool) (g : Nat) (lb : Array Value) (eg : ∀ args w, (callFunc g args).run Try.prog w = .ok (.enter g args) w) (A : Option Addr) (c : Nat) (l : List Int) (w : World)
    (hp : ∀ (W : World) (x : Int), x ∈ l → Below w.heap.size w W → Calls Try.prog g (#[.int .i64 x] ++ lb) W fun e w' => e = .returned (.bool (p x)) ∧ Below W.heap.size W w')
    (hr : Kd.C (Kd.int .i64) w A l.length l) :
    Calls Try.prog 51 #[.slice A l.length c, .func (.func g) #[] lb] w fun e w' => e = .returned (.int .i64 (fidx p l)) ∧ Below w.heap.size w w' := by
  have HR := Aside0.mk hr
  have HP := Aside0.mk hp
  have HL := Aside0.mk hr.2.1
  clear hr hp
  go_enter Try.func51, Try.ntmps51
  go_wp2
  go_loopg [5, 8] l.length (fun gg v5 v8 wr => ∃ kk : Nat, Aside0 (kk ≤ l.length) ∧ Aside0 (l.length - kk ≤ gg) ∧ v8 = .int .i64 kk ∧ Aside0 (Below w.heap.size w wr) ∧ Aside0 (∀ j (hj : j < l.length), j < kk → p l[j] = false))
  case atStart => exact ⟨0, ⟨Nat.zero_le _⟩, ⟨by omega⟩, rfl, ⟨Below.refl _ w⟩, ⟨fun j _ hj => absurd hj (Nat.not_lt_zero _)⟩⟩
  case round =>
    obtain ⟨kk, hkk, hg, rfl, HB, HA⟩ := hrel
    by_cases hlt : kk < l.length
    · have hm := HL.out
      have hltz : (kk : Int) < (l.length : Int) := by omega
      obtain ⟨ad, e, hc0⟩ := Kd.at_int (Kd.C_below HR.out HB.out) (kk : Int) (by omega) hltz
      cases e
      have hrd : rd l (kk : Int) = l[kk] := by unfold rd; rw [List.getD_eq_getElem?_getD, Int.toNat_natCast, List.getElem?_eq_getElem hlt]; rfl
      rw [hrd, Int.toNat_natCast] at hc0
      have hcall := HP.out wr l[kk] (List.getElem_mem hlt) HB.out
      clear hrd
      generalize hy : l[kk] = y at hc0 hcall
      have HY := Aside0.mk hy
      clear hy
      cases hq : p y with
      | true =>
        rw [hq] at hcall
        go_wp2_with (go_at_fn g; refine hcall.mono ?_; rintro e w' ⟨rfl, hb'⟩)
        go_ret
        exact ⟨ret_i (fidx_hit hlt (by rw [HY.out]; exact hq) HA.out).symm, below_step HB.out hb'⟩
      | false =>
        rw [hq] at hcall
        go_wp2_with (go_at_fn g; refine hcall.mono ?_; rintro e w' ⟨rfl, hb'⟩)
        go_roundg (l.length - (kk + 1))
        case measure => have := hg.out; omega
        case rel => exact ⟨kk + 1, ⟨by omega⟩, ⟨by omega⟩, by go_num, ⟨below_step HB.out hb'⟩, ⟨fun j hj hlt' => by
          rcases Nat.lt_or_ge j kk with h | h
          · exact HA.out j hj h
          · obtain rfl : j = kk := by omega
            rw [HY.out]; exact hq⟩⟩
    · have hd0 : decide (kk < l.length) = false := decide_eq_false hlt
      have hd1 : decide ((kk : Int) < (l.length : Int)) = false := decide_eq_false (by omega)
      have HG := Aside0.mk hlt
      clear hlt
      go_wp2
      go_ret
      exact ⟨ret_i (fidx_none (fun j hj => HA.out j hj (by have := HG.out; omega))).symm, HB.out⟩

set_option maxHeartbeats 2000000 in
theorem cont38 (p : Int → Bool) (g : Nat) (lb : Array Value) (eg : ∀ args w, (callFunc g args).run Try.prog w = .ok (.enter g args) w) (A : Option Addr) (c : Nat) (l : List Int) (w : World)
    (hp : ∀ (W : World) (x : Int), x ∈ l → Below w.heap.size w W → Calls Try.prog g (#[.int .i64 x] ++ lb) W fun e w' => e = .returned (.bool (p x)) ∧ Below W.heap.size W w')
    (hr : Kd.C (Kd.int .i64) w A l.length l) :
    Calls Try.prog 38 #[.slice A l.length c, .func (.func g) #[] lb] w fun e w' => e = .returned (.bool (l.any p)) ∧ Below w.heap.size w w' := by
  have HI := Aside0.mk (idx51 p g lb eg A c l w hp hr)
  clear hp hr eg
  go_enter Try.func38, Try.ntmps38
  go_wp2_with (go_at_call 51; refine HI.out.mono ?_; rintro e w' ⟨rfl, hb⟩)
  go_ret
  exact ⟨ret_b (fidx_any p l), hb⟩

set_option maxHeartbeats 2000000 in
theorem idx47 (p : S24 → Bool) (g : Nat) (lb : Array Value) (eg : ∀ args w, (callFunc g args).run Try.prog w = .ok (.enter g args) w) (A : Option Addr) (c : Nat) (l : List S24) (w : World)
    (hp : ∀ (W : World) (x : S24) (A_ : Option Addr) (c_ : Nat), x ∈ l → x.f3.length ≤ c_ → (Kd.int .i64).C W A_ x.f3.length x.f3 → Below w.heap.size w W → Calls Try.prog g (#[.agg #[.int .i64 x.f0, .int .i64 x.f1, .int .i64 x.f2, .slice A_ x.f3.length c_]] ++ lb) W fun e w' => e = .returned (.bool (p x)) ∧ Below W.heap.size W w')
    (hr : Kd.C k24 w A l.length l) :
    Calls Try.prog 47 #[.slice A l.length c, .func (.func g) #[] lb] w fun e w' => e = .returned (.int .i64 (fidx p l)) ∧ Below w.heap.size w w' := by
  have HR := Aside0.mk hr
  have HP := Aside0.mk hp
  have HL := Aside0.mk hr.2.1
  clear hr hp
  go_enter Try.func47, Try.ntmps47
  go_wp2
  go_loopg [5, 8] l.length (fun gg v5 v8 wr => ∃ kk : Nat, Aside0 (kk ≤ l.length) ∧ Aside0 (l.length - kk ≤ gg) ∧ v8 = .int .i64 kk ∧ Aside0 (Below w.heap.size w wr) ∧ Aside0 (∀ j (hj : j < l.length), j < kk → p l[j] = false))
  case atStart => exact ⟨0, ⟨Nat.zero_le _⟩, ⟨by omega⟩, rfl, ⟨Below.refl _ w⟩, ⟨fun j _ hj => absurd hj (Nat.not_lt_zero _)⟩⟩
  case round =>
    obtain ⟨kk, hkk, hg, rfl, HB, HA⟩ := hrel
    by_cases hlt : kk < l.length
    · have hm := HL.out
      have hltz : (kk : Int) < (l.length : Int) := by omega
      obtain ⟨ad, A3, c3, e, hc0, hc1, hc2, hc3, hl3, hg3⟩ := at_T24 (Kd.C_below HR.out HB.out) (kk : Int) (by omega) hltz
      cases e
      have hrd : rd_T24 l (kk : Int) = l[kk] := by unfold rd_T24; rw [List.getD_eq_getElem?_getD, Int.toNat_natCast, List.getElem?_eq_getElem hlt]; rfl
      rw [hrd, Int.toNat_natCast] at hc0 hc1 hc2 hc3
      have hcall := HP.out wr l[kk] A3 c3 (List.getElem_mem hlt) (by simpa [hrd] using hl3) (by simpa [hrd] using hg3) HB.out
      clear hrd hl3 hg3
      generalize hy : l[kk] = y at hc0 hc1 hc2 hc3 hcall
      have HY := Aside0.mk hy
      clear hy
      cases hq : p y with
      | true =>
        rw [hq] at hcall
        go_wp2_with (go_at_fn g; refine hcall.mono ?_; rintro e w' ⟨rfl, hb'⟩)
        go_ret
        exact ⟨ret_i (fidx_hit hlt (by rw [HY.out]; exact hq) HA.out).symm, below_step HB.out hb'⟩
      | false =>
        rw [hq] at hcall
        go_wp2_with (go_at_fn g; refine hcall.mono ?_; rintro e w' ⟨rfl, hb'⟩)
        go_roundg (l.length - (kk + 1))
        case measure => have := hg.out; omega
        case rel => exact ⟨kk + 1, ⟨by omega⟩, ⟨by omega⟩, by go_num, ⟨below_step HB.out hb'⟩, ⟨fun j hj hlt' => by
          rcases Nat.lt_or_ge j kk with h | h
          · exact HA.out j hj h
          · obtain rfl : j = kk := by omega
            rw [HY.out]; exact hq⟩⟩
    · have hd0 : decide (kk < l.length) = false := decide_eq_false hlt
      have hd1 : decide ((kk : Int) < (l.length : Int)) = false := decide_eq_false (by omega)
      have HG := Aside0.mk hlt
      clear hlt
      go_wp2
      go_ret
      exact ⟨ret_i (fidx_none (fun j hj => HA.out j hj (by have := HG.out; omega))).symm, HB.out⟩

set_option maxHeartbeats 2000000 in
theorem cont33 (p : S24 → Bool) (g : Nat) (lb : Array Value) (eg : ∀ args w, (callFunc g args).run Try.prog w = .ok (.enter g args) w) (A : Option Addr) (c : Nat) (l : List S24) (w : World)
    (hp : ∀ (W : World) (x : S24) (A_ : Option Addr) (c_ : Nat), x ∈ l → x.f3.length ≤ c_ → (Kd.int .i64).C W A_ x.f3.length x.f3 → Below w.heap.size w W → Calls Try.prog g (#[.agg #[.int .i64 x.f0, .int .i64 x.f1, .int .i64 x.f2, .slice A_ x.f3.length c_]] ++ lb) W fun e w' => e = .returned (.bool (p x)) ∧ Below W.heap.size W w')
    (hr : Kd.C k24 w A l.length l) :
    Calls Try.prog 33 #[.slice A l.length c, .func (.func g) #[] lb] w fun e w' => e = .returned (.bool (l.any p)) ∧ Below w.heap.size w w' := by
  have HI := Aside0.mk (idx47 p g lb eg A c l w hp hr)
  clear hp hr eg
  go_enter Try.func33, Try.ntmps33
  go_wp2_with (go_at_call 47; refine HI.out.mono ?_; rintro e w' ⟨rfl, hb⟩)
  go_ret
  exact ⟨ret_b (fidx_any p l), hb⟩
end Go.Proofs.Ytddcacomphkeiaa.PA
