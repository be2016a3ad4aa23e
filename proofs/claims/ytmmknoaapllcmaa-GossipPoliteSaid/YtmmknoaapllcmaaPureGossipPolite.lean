/- The plain law of GossipPolite: what the printed functions compute answers true. By this session. -/
import Derived.Test.YtmmknoaapllcmaaPAx16
import Derived.Test.YtmmknoaapllcmaaBase
namespace Go.Proofs.Ytmmknoaapllcmaa.Pure
open Go.RowKit Go.Proofs.YtmmknoaapllcmaaW.PrintWords Go.Proofs.YtmmknoaapllcmaaW.PrintLast Go.Proofs.YtmmknoaapllcmaaW.PrintMore Go.Proofs.Ytmmknoaapllcmaa.PA Go.Proofs.Ytmmknoaapllcmaa.Base
theorem rd_u32 {l : List Int} (hl : ∀ y ∈ l, (Lit.int .u32 y).wf = true) (i : Int) : 0 ≤ rd l i ∧ rd l i ≤ 4294967295 := by
  unfold rd
  rw [List.getD_eq_getElem?_getD]
  cases h : l[i.toNat]? with
  | none => simp
  | some y => exact u32_ (hl y (List.mem_of_getElem? h))
theorem index_some (l : List Int) (x : Int) (hl : (l.length : Int) ≤ 1000) (d : Nat) : ∀ (k : Nat) (i : Int), 0 ≤ i → i ≤ (l.length : Int) → ((l.length : Int) - i).toNat = d → d < k → ∃ r, slices_Index_int_int.l0 k l x (l.length : Int) i = some r := by
  induction d with
  | zero =>
    intro k i h0 h1 hd hk
    obtain ⟨k, rfl⟩ : ∃ m, k = m + 1 := ⟨k - 1, by omega⟩
    exact ⟨-1, by rw [slices_Index_int_int.l0, if_neg (by omega)]⟩
  | succ d ih =>
    intro k i h0 h1 hd hk
    obtain ⟨k, rfl⟩ : ∃ m, k = m + 1 := ⟨k - 1, by omega⟩
    rw [slices_Index_int_int.l0, if_pos (by omega), if_pos h0, if_pos (by omega), w64 (x := i + 1) (by omega) (by omega)]
    by_cases h : x = rd l i
    · exact ⟨i, by rw [if_pos h]⟩
    · rw [if_neg h]; exact ih k (i + 1) (by omega) (by omega) (by omega) (by omega)
theorem contains_some (l : List Int) (x : Int) (hl : (l.length : Int) ≤ 1000) {k : Nat} (hk : l.length < k) : ∃ b, slices_Contains_int_int.f k l x = some b := by
  obtain ⟨r, h⟩ := index_some l x hl l.length k 0 (by omega) (by omega) (by omega) hk
  exact ⟨decide (r ≥ 0), by unfold slices_Contains_int_int.f slices_Index_int_int.f; rw [h]; rfl⟩

/-- How many nodes have come to their Point: in slots ahead of this one, and the first i in this one. -/
def cnt (ps : List Int) (slot : Int) (i : Nat) : Nat := ps.countP (fun p => decide (p < slot)) + (ps.take i).countP (fun p => decide (p = slot))
theorem cnt_le (ps : List Int) (slot : Int) (i : Nat) : cnt ps slot i ≤ ps.length := by
  unfold cnt
  induction ps generalizing i with
  | nil => simp
  | cons p ps ih =>
    cases i with
    | zero => simp only [List.take_zero, List.countP_nil, Nat.add_zero]; exact List.countP_le_length
    | succ i =>
      have := ih i
      simp only [List.take_succ_cons, List.countP_cons, List.length_cons]
      by_cases h1 : p < slot <;> by_cases h2 : p = slot <;> simp [h1, h2] <;> omega
theorem cnt_succ {ps : List Int} {slot : Int} {i : Nat} (hi : i < ps.length) : cnt ps slot (i + 1) = cnt ps slot i + if ps[i] = slot then 1 else 0 := by
  unfold cnt
  rw [List.take_succ_eq_append_getElem hi, List.countP_append]
  by_cases h : ps[i] = slot <;> simp [h] <;> omega
theorem cnt_end (ps : List Int) (slot : Int) : cnt ps slot ps.length = cnt ps (slot + 1) 0 := by
  unfold cnt
  simp only [List.take_length, List.take_zero, List.countP_nil, Nat.add_zero]
  induction ps with
  | nil => rfl
  | cons p ps ih =>
    simp only [List.countP_cons]
    by_cases h1 : p < slot
    · have h2 : ¬ p = slot := by omega
      have h3 : p < slot + 1 := by omega
      simp [h1, h2, h3]; omega
    · by_cases h2 : p = slot
      · subst h2
        have h3 : p < p + 1 := by omega
        simp [h3]; omega
      · have h3 : ¬ p < slot + 1 := by omega
        simp [h1, h2, h3]; omega
/-- How many announcements these have made. -/
def madeOf (E : Int) (c : Nat) : Int := if E = 0 then c else min E c
/-- The states: a node that hasn't come to its Point has heard all announcements. -/
def Sts (L : Int) (ps : List Int) (x : List S28) (m slot : Int) (i : Nat) : Prop :=
  x.length = ps.length ∧ ∀ j (hj : j < ps.length), ∃ h, x[j]? = some ⟨L, 0, ps[j], h⟩ ∧ 0 ≤ h ∧ h ≤ m ∧ (slot < ps[j] ∨ slot = ps[j] ∧ i ≤ j → h = m)
theorem rd_at {x : List S28} {j : Nat} {v : S28} (h : x[j]? = some v) : rd_T28 x (j : Int) = v := by
  unfold rd_T28
  rw [List.getD_eq_getElem?_getD, Int.toNat_natCast, h]
  rfl
theorem set_same {x : List S28} {j : Nat} {v : S28} (h : x[j]? = some v) : x.set j v = x := by
  apply List.ext_getElem?
  intro q
  rw [List.getElem?_set]
  by_cases e : j = q
  · subst e
    rw [if_pos rfl, h, if_pos (List.getElem?_eq_some_iff.1 h).1]
  · rw [if_neg e]
theorem state_ok {L D E : Int} (hG : okG L D E) {ps : List Int} (hps : ∀ p ∈ ps, L / 2 ≤ p ∧ p < L) {p h : Int} (hp : p ∈ ps) (h0 : 0 ≤ h) (h1 : h ≤ 1000) : okR L D L 0 p h := by
  have := hps p hp
  exact ⟨len_L hG, by omega, by omega, by omega, by omega, h0, by omega⟩
/-- All others hear the announcement of node i. -/
theorem Polite_l3 {L D E : Int} (hG : okG L D E) (hL : L ≤ 200) {ps : List Int} (hps : ∀ p ∈ ps, L / 2 ≤ p ∧ p < L) (h8 : ps.length ≤ 8) (slot : Int) (s0 : 0 ≤ slot) (s1 : slot < L) (i : Nat) (m : Int) (d : Nat) :
    ∀ (k q : Nat) (x : List S28), 14 ≤ k → q ≤ ps.length → ps.length - q = d → x.length = ps.length →
    (∀ j (hj : j < ps.length), q ≤ j → ∃ h, x[j]? = some ⟨L, 0, ps[j], h⟩ ∧ 0 ≤ h ∧ h ≤ 100) →
    ∃ x', x'.length = ps.length ∧ (∀ j (hj : j < ps.length) h, x[j]? = some ⟨L, 0, ps[j], h⟩ → x'[j]? = some ⟨L, 0, ps[j], if q ≤ j ∧ j ≠ i then h + 1 else h⟩) ∧
      hopmeshlaw47_GossipPolite.l3 (k + d + 1) x m slot (i : Int) L slot (ps.length : Int) (i : Int) (ps.length : Int) (q : Int) L D E =
        hopmeshlaw47_GossipPolite.l2 k x' m slot L slot (ps.length : Int) (wrap64 ((i : Int) + 1)) L D E := by
  induction d with
  | zero =>
    intro k q x hk hq hd hx _
    refine ⟨x, hx, fun j hj h e => ?_, ?_⟩
    · rw [if_neg (by omega)]; exact e
    · rw [hopmeshlaw47_GossipPolite.l3, if_neg (by omega)]
  | succ d ih =>
    intro k q x hk hq hd hx hst
    have e1 : k + (d + 1) + 1 = (k + d + 1) + 1 := by omega
    rw [e1, hopmeshlaw47_GossipPolite.l3, if_pos (by omega), w64 (x := (q : Int) + 1) (by omega) (by omega)]
    by_cases hqi : q = i
    · rw [if_pos (by omega)]
      obtain ⟨x', h1, h2, h3⟩ := ih k (q + 1) x hk (by omega) (by omega) hx (fun j hj hqj => hst j hj (by omega))
      refine ⟨x', h1, fun j hj h e => ?_, by rw [← h3]; rfl⟩
      rw [h2 j hj h e]
      by_cases hc : q + 1 ≤ j ∧ j ≠ i
      · rw [if_pos hc, if_pos (by omega)]
      · rw [if_neg hc, if_neg (by omega)]
    · rw [if_neg (by omega), if_pos (by omega), if_pos (by rw [hx]; omega)]
      obtain ⟨h, e, h0, h1⟩ := hst q (by omega) (Nat.le_refl _)
      rw [rd_at e]
      have hm : ps[q] ∈ ps := List.getElem_mem _
      rw [hear_eq hG (state_ok hG hps hm h0 (by omega)) s0 (by omega) s0 (by omega)]
      simp only [Option.bind_some, if_true]
      rw [Int.min_eq_left (by omega), Int.toNat_natCast]
      obtain ⟨x', g1, g2, g3⟩ := ih k (q + 1) (x.set q ⟨L, 0, ps[q], h + 1⟩) hk (by omega) (by omega) (by simp [hx]) (fun j hj hqj => by
        rw [List.getElem?_set, if_neg (by omega)]
        exact hst j hj (by omega))
      refine ⟨x', g1, fun j hj h' e' => ?_, by rw [← g3]; rfl⟩
      by_cases ej : q = j
      · subst ej
        have : h' = h := by rw [e] at e'; injection e' with e'; injection e' with _ _ _ e'; exact e'.symm
        subst this
        rw [g2 q hj (h' + 1) (by simp [hx, hj]), if_neg (by omega), if_pos (by omega)]
      · rw [g2 j hj h' (by rw [List.getElem?_set, if_neg ej]; exact e')]
        by_cases hc : q + 1 ≤ j ∧ j ≠ i
        · rw [if_pos hc, if_pos (by omega)]
        · rw [if_neg hc, if_neg (by omega)]
theorem madeOf_le (E : Int) (c : Nat) (hE : 0 ≤ E) : 0 ≤ madeOf E c ∧ madeOf E c ≤ c := by
  unfold madeOf
  split <;> omega
/-- The nodes from i on, in one slot. -/
theorem Polite_l2 {L D E : Int} (hG : okG L D E) (hL : L ≤ 200) {ps : List Int} (hps : ∀ p ∈ ps, L / 2 ≤ p ∧ p < L) (h8 : ps.length ≤ 8) (slot : Int) (s0 : 0 ≤ slot) (s1 : slot < L) (K : Nat) (hK : 14 ≤ K)
    (cont : ∀ (k : Nat) (x : List S28), K ≤ k → Sts L ps x (madeOf E (cnt ps (slot + 1) 0)) (slot + 1) 0 → hopmeshlaw47_GossipPolite.l1 k x (madeOf E (cnt ps (slot + 1) 0)) L (slot + 1) L D E = some true)
    (d : Nat) : ∀ (k i : Nat) (x : List S28), K + 12 * d + 1 ≤ k → i ≤ ps.length → ps.length - i = d → Sts L ps x (madeOf E (cnt ps slot i)) slot i →
    hopmeshlaw47_GossipPolite.l2 k x (madeOf E (cnt ps slot i)) slot L slot (ps.length : Int) (i : Int) L D E = some true := by
  have e0 := hG.2.2.2.2.1
  induction d with
  | zero =>
    intro k i x hk hi hd hS
    obtain rfl : i = ps.length := by omega
    obtain ⟨k, rfl⟩ : ∃ m, k = m + 1 := ⟨k - 1, by omega⟩
    rw [hopmeshlaw47_GossipPolite.l2, if_neg (by omega), w64 (x := slot + 1) (by omega) (by omega), cnt_end]
    refine cont k x (by omega) ⟨hS.1, fun j hj => ?_⟩
    obtain ⟨h, e, h0, h1, h2⟩ := hS.2 j hj
    rw [cnt_end] at h1 h2
    exact ⟨h, e, h0, h1, fun hc => h2 (by omega)⟩
  | succ d ih =>
    intro k i x hk hi hd hS
    have hlt : i < ps.length := by omega
    obtain ⟨k, rfl⟩ : ∃ m, k = m + 1 := ⟨k - 1, by omega⟩
    have hcl := cnt_le ps slot (i + 1)
    have hcs := cnt_succ (ps := ps) (slot := slot) hlt
    obtain ⟨h, e, h0, h1, h2⟩ := hS.2 i hlt
    have hm : ps[i] ∈ ps := List.getElem_mem _
    have hml := madeOf_le E (cnt ps slot i) e0
    have hci := cnt_le ps slot i
    rw [hopmeshlaw47_GossipPolite.l2, if_pos (by omega), if_pos (by omega), if_pos (by rw [hS.1]; omega), rd_at e]
    rw [step_in hG (state_ok hG hps hm h0 (by omega)) s0 (by omega) s0 (by omega) (by omega)]
    simp only [Option.bind_some, if_true]
    rw [Int.toNat_natCast, set_same e]
    by_cases hp : slot = ps[i] ∧ (E = 0 ∨ h < E)
    · rw [decide_eq_true hp]
      simp only [if_true]
      have hh := h2 (.inr ⟨hp.1, Nat.le_refl _⟩)
      rw [if_pos hp.1.symm] at hcs
      have hmd : madeOf E (cnt ps slot (i + 1)) = madeOf E (cnt ps slot i) + 1 := by
        have h3 : E = 0 ∨ madeOf E (cnt ps slot i) < E := by rw [← hh]; exact hp.2
        rw [hcs]
        unfold madeOf at h3 ⊢
        by_cases h4 : E = 0
        · rw [if_pos h4, if_pos h4]; omega
        · rw [if_neg h4] at h3 ⊢
          rw [if_neg h4]; omega
      obtain ⟨x', g1, g2, g3⟩ := Polite_l3 hG hL hps h8 slot s0 s1 i (madeOf E (cnt ps slot i) + 1) ps.length (k - ps.length - 1) 0 x (by omega) (by omega) (by omega) hS.1 (fun j hj _ => by
        obtain ⟨h, e, h0, h1, _⟩ := hS.2 j hj
        exact ⟨h, e, h0, by omega⟩)
      rw [show k = k - ps.length - 1 + ps.length + 1 by omega, w64 (x := madeOf E (cnt ps slot i) + 1) (by omega) (by omega), hS.1]
      have g3' := g3
      simp only [Int.natCast_zero] at g3'
      rw [g3', w64 (x := (i : Int) + 1) (by omega) (by omega), ← hmd]
      refine ih (k - ps.length - 1) (i + 1) x' (by omega) (by omega) (by omega) ⟨g1, fun j hj => ?_⟩
      obtain ⟨h', e', h0', h1', h2'⟩ := hS.2 j hj
      refine ⟨_, g2 j hj h' e', ?_⟩
      by_cases hij : j = i
      · subst hij
        rw [if_neg (by omega)]
        exact ⟨h0', by omega, fun hc => by omega⟩
      · rw [if_pos (by omega)]
        exact ⟨by omega, by omega, fun hc => by rw [hmd, h2' (by omega)]⟩
    · rw [decide_eq_false hp]
      simp only [Bool.false_eq_true, if_false]
      have hmd : madeOf E (cnt ps slot (i + 1)) = madeOf E (cnt ps slot i) := by
        rw [hcs]
        by_cases h3 : ps[i] = slot
        · rw [if_pos h3]
          have hh := h2 (.inr ⟨h3.symm, Nat.le_refl _⟩)
          have h4 : ¬ (E = 0 ∨ h < E) := fun h4 => hp ⟨h3.symm, h4⟩
          unfold madeOf at hh ⊢
          rw [if_neg (by omega)] at hh
          rw [if_neg (by omega), if_neg (by omega)]
          omega
        · rw [if_neg h3]; rfl
      rw [w64 (x := (i : Int) + 1) (by omega) (by omega), ← hmd]
      refine ih k (i + 1) x (by omega) (by omega) (by omega) ⟨hS.1, fun j hj => ?_⟩
      obtain ⟨h, e, h0, h1, h2⟩ := hS.2 j hj
      exact ⟨h, e, h0, by rw [hmd]; exact h1, fun hc => by rw [hmd]; exact h2 (by omega)⟩
/-- The slots. -/
theorem Polite_l1 {L D E : Int} (hG : okG L D E) (hL : L ≤ 200) {ps : List Int} (hps : ∀ p ∈ ps, L / 2 ≤ p ∧ p < L) (h8 : ps.length ≤ 8) (d : Nat) : ∀ (k : Nat) (slot : Int) (x : List S28),
    110 * d + 20 ≤ k → 0 ≤ slot → slot ≤ L → (L - slot).toNat = d → Sts L ps x (madeOf E (cnt ps slot 0)) slot 0 →
    hopmeshlaw47_GossipPolite.l1 k x (madeOf E (cnt ps slot 0)) L slot L D E = some true := by
  induction d with
  | zero =>
    intro k slot x hk h0 h1 hd hS
    obtain rfl : slot = L := by omega
    obtain ⟨k, rfl⟩ : ∃ m, k = m + 1 := ⟨k - 1, by omega⟩
    have hc : cnt ps slot 0 = ps.length := by
      unfold cnt
      simp only [List.take_zero, List.countP_nil, Nat.add_zero]
      rw [List.countP_eq_length]
      intro p hp
      simpa using (hps p hp).2
    rw [hopmeshlaw47_GossipPolite.l1, if_neg (by omega), hS.1, hc]
    unfold madeOf
    by_cases h4 : E = 0
    · rw [if_pos h4, if_pos h4]; simp
    · rw [if_neg h4, if_neg h4, mn_eq]; simp
  | succ d ih =>
    intro k slot x hk h0 h1 hd hS
    obtain ⟨k, rfl⟩ : ∃ m, k = m + 1 := ⟨k - 1, by omega⟩
    rw [hopmeshlaw47_GossipPolite.l1, if_pos (by omega), hS.1]
    exact Polite_l2 hG hL hps h8 slot h0 (by omega) (110 * d + 20) (by omega) (fun k x hk hS => ih k (slot + 1) x hk (by omega) (by omega) (by omega) hS) ps.length k 0 x (by omega) (by omega) (by omega) hS
/-- The nodes begin. -/
theorem Polite_l0 {L D E : Int} (hG : okG L D E) (hL : L ≤ 200) {l : List Int} (hl : ∀ y ∈ l, (Lit.int .u32 y).wf = true) (h8 : l.length ≤ 8) (d : Nat) : ∀ (k i : Nat) (ps : List Int),
    40000 + d ≤ k → i ≤ l.length → l.length - i = d → ps.length = i → (∀ p ∈ ps, L / 2 ≤ p ∧ p < L) →
    hopmeshlaw47_GossipPolite.l0 k (ps.map fun p => (⟨L, 0, p, 0⟩ : S28)) ps l (l.length : Int) (i : Int) L D E = some true := by
  induction d with
  | zero =>
    intro k i ps hk hi hd hn hps
    obtain ⟨k, rfl⟩ : ∃ m, k = m + 1 := ⟨k - 1, by omega⟩
    rw [hopmeshlaw47_GossipPolite.l0, if_neg (by omega)]
    have hL1 := hG.1
    have hc : cnt ps 0 0 = 0 := by
      unfold cnt
      simp only [List.take_zero, List.countP_nil, Nat.add_zero]
      rw [List.countP_eq_zero]
      intro p hp
      have := hps p hp
      simp; omega
    have hm : madeOf E (cnt ps 0 0) = 0 := by rw [hc]; have := hG.2.2.2.2.1; unfold madeOf; split <;> omega
    have := Polite_l1 hG hL hps (by omega) L.toNat k 0 (ps.map fun p => (⟨L, 0, p, 0⟩ : S28)) (by omega) (by omega) (by omega) (by omega) ⟨by simp, fun j hj => ⟨0, by simp [hj], by omega, by omega, fun _ => hm.symm⟩⟩
    rw [hm] at this
    exact this
  | succ d ih =>
    intro k i ps hk hi hd hn hps
    obtain ⟨k, rfl⟩ : ∃ m, k = m + 1 := ⟨k - 1, by omega⟩
    obtain ⟨r0, r1⟩ := rd_u32 hl (i : Int)
    have hL1 := hG.1
    have hv := begin_valid (r := rd l (i : Int)) hG (len_L hG) (show (0 : Int) ≤ 0 by omega) (by omega)
    have p1 := hv.2.2.2.1
    have p2 := hv.2.2.2.2.1
    rw [hopmeshlaw47_GossipPolite.l0, if_pos (by omega), if_pos (by omega), if_pos (by omega), start_ok hG (by omega) (by omega) r0 r1]
    simp only [Option.bind_some, if_true]
    obtain ⟨b, hb⟩ := contains_some ps (0 + L / 2 + rd l (i : Int) % (L - L / 2)) (by omega) (k := k) (by omega)
    rw [hb]
    simp only [Option.bind_some]
    cases b with
    | true => rfl
    | false =>
      simp only [Bool.false_eq_true, if_false]
      rw [if_pos (by simp; omega), if_pos (by simp; omega), w64 (x := (i : Int) + 1) (by omega) (by omega)]
      have e := ih k (i + 1) (ps ++ [0 + L / 2 + rd l (i : Int) % (L - L / 2)]) (by omega) (by omega) (by omega) (by simp [hn]) (fun p hp => by
        rcases List.mem_append.1 hp with hp | hp
        · exact hps p hp
        · rw [List.mem_singleton.1 hp]; omega)
      rw [List.map_append] at e
      exact e
theorem Polite_yes (k : Nat) (l : List Int) (L D E : Int) : hopmeshlaw47_GossipPolite.j0 (k + 1) l true L D E = some true := rfl

theorem GossipPolite (y0_0 : Int) (y0_1 : Int) (y0_2 : Int) (l1 : (List Int)) (_w0_0 : (Lit.int .i64 y0_0).wf = true) (_w0_1 : (Lit.int .i64 y0_1).wf = true) (_w0_2 : (Lit.int .i64 y0_2).wf = true) (w1 : (∀ y ∈ l1, (Lit.int .u32 y).wf = true)) : ∃ k, hopmeshlaw47_GossipPolite.f k y0_0 y0_1 y0_2 l1 = some true := by
  refine ⟨40101, ?_⟩
  unfold hopmeshlaw47_GossipPolite.f
  rw [awake_]
  simp only [Option.bind_some, if_true]
  by_cases h1 : (l1.length : Int) > 8
  · rw [if_pos h1, Polite_yes]
  · rw [if_neg h1]
    by_cases hG : okG y0_0 y0_1 y0_2
    · rw [check_ok hG]
      simp only [Option.bind_some, if_true]
      by_cases h2 : y0_0 > 200
      · rw [decide_eq_true h2, Polite_yes]
      · rw [decide_eq_false h2, hopmeshlaw47_GossipPolite.j0]
        simp only [Bool.false_eq_true, if_false]
        exact Polite_l0 hG (by omega) w1 (by omega) l1.length 40100 0 [] (by omega) (by omega) (by omega) rfl (by simp)
    · rw [check_bad hG]
      simp only [Option.bind_some]
      rw [if_neg (by omega), Polite_yes]
end Go.Proofs.Ytmmknoaapllcmaa.Pure
