/- The plain law of GossipOnce: what the printed functions compute answers true. By this session. -/
import Derived.Test.YtmmknoaapllcmaaPAx13
import Derived.Test.YtmmknoaapllcmaaBase
namespace Go.Proofs.Ytmmknoaapllcmaa.Pure
open Go.RowKit Go.Proofs.YtmmknoaapllcmaaW.PrintWords Go.Proofs.YtmmknoaapllcmaaW.PrintLast Go.Proofs.YtmmknoaapllcmaaW.PrintMore Go.Proofs.Ytmmknoaapllcmaa.PA Go.Proofs.Ytmmknoaapllcmaa.Base
theorem rd_u32 {l : List S33} (hl : ∀ y ∈ l, True ∧ True ∧ (Lit.int .u32 y.f2).wf = true) (i : Int) : 0 ≤ (rd_T33 l i).f2 ∧ (rd_T33 l i).f2 ≤ 4294967295 := by
  unfold rd_T33
  rw [List.getD_eq_getElem?_getD]
  cases h : l[i.toNat]? with
  | none => simp [z33]
  | some y => exact u32_ (hl y (List.mem_of_getElem? h)).2.2
/-- At the head of round i: the state is valid, and if an announcement was made in its interval, its Point has passed. -/
def Inv (L D s i made I B P H : Int) : Prop := okR L D I B P H ∧ B ≤ s + i ∧ (made = 0 ∨ made = 1 ∧ P < s + i)
/-- What is heard behind the announcement. -/
theorem Once_j5 {l : List S33} {L D E s : Int} (hG : okG L D E) (s0 : 0 ≤ s) (s1 : s ≤ 536870912) (i : Int) (h0 : 0 ≤ i) (hi : i < 200) (b c : Bool) (r : Int) (r0 : 0 ≤ r) (r1 : r ≤ 4294967295) (n : Int) (k : Nat) (hk : 14 ≤ k)
    (ih : ∀ made I B P H, Inv L D s (i + 1) made I B P H → ∀ q, k ≤ q + 1 → hopmeshlaw47_GossipOnce.l0 q s B made l n (i + 1) L D E I B P H = some true)
    {made I B P H : Int} (hR : okR L D I B P H) (hB : B ≤ s + i) (hm : made = 0 ∨ made = 1 ∧ P ≤ s + i) :
    hopmeshlaw47_GossipOnce.j5 k s B made i l n i false L D E I B P H b c r = some true := by
  obtain ⟨k, rfl⟩ : ∃ m, k = m + 1 := ⟨k - 1, by omega⟩
  have hL := hG.1
  have p1 := hR.2.2.2.1
  obtain ⟨l1, l2⟩ := len_le hG hR.1
  rw [hopmeshlaw47_GossipOnce.j5]
  simp only [Bool.false_eq_true, if_false]
  rw [w64 (x := i + 1) (by omega) (by omega), w64 (x := s + i) (by omega) (by omega)]
  cases b with
  | false =>
    simp only [Bool.false_eq_true, if_false]
    exact ih _ _ _ _ _ ⟨hR, by omega, by omega⟩ k (by omega)
  | true =>
    simp only [if_true]
    cases c with
    | true =>
      have hh := hR.2.2.2.2.2
      have hR2 : okR L D I B P (min (H + 1) 1048576) := okR_heard hR (by omega) (by omega)
      rw [hear_eq hG hR (by omega) (by omega) hB (by omega)]
      simp only [Option.bind_some, if_true]
      rw [valid_ok hG hR2 (by omega)]
      simp only [Option.bind_some, if_true]
      exact ih _ _ _ _ _ ⟨hR2, by omega, by omega⟩ k (by omega)
    | false =>
      by_cases hI : I ≤ L
      · rw [hear_same hG hR (by omega) (by omega) hB hI (by omega)]
        simp only [Option.bind_some, if_true]
        rw [valid_ok hG hR (by omega)]
        simp only [Option.bind_some, if_true]
        exact ih _ _ _ _ _ ⟨hR, by omega, by omega⟩ k (by omega)
      · have hR2 := begin_valid (r := r) hG (len_L hG) (show 0 ≤ s + i by omega) (show s + i ≤ 1073741824 by omega)
        rw [hear_new hG hR (by omega) (by omega) hB (by omega) r0 r1 (by omega)]
        simp only [Option.bind_some, if_true]
        rw [valid_ok hG hR2 (by omega)]
        simp only [Option.bind_some, if_true]
        by_cases hb : s + i = B
        · rw [if_pos hb]
          have : made = 0 := by omega
          subst this
          rw [← hb]
          exact ih _ _ _ _ _ ⟨hR2, by omega, by omega⟩ k (by omega)
        · rw [if_neg hb]
          exact ih _ _ _ _ _ ⟨hR2, by omega, by omega⟩ k (by omega)
/-- The rounds. -/
theorem Once_l0 {l : List S33} {L D E s : Int} (hG : okG L D E) (s0 : 0 ≤ s) (s1 : s ≤ 536870912) (hl : ∀ y ∈ l, True ∧ True ∧ (Lit.int .u32 y.f2).wf = true) (h200 : (l.length : Int) ≤ 200) (d : Nat) : ∀ (k : Nat) (i made I B P H : Int),
    0 ≤ i → i ≤ (l.length : Int) → ((l.length : Int) - i).toNat = d → 5 * d + 30 ≤ k → Inv L D s i made I B P H →
    hopmeshlaw47_GossipOnce.l0 k s B made l (l.length : Int) i L D E I B P H = some true := by
  have hL := hG.1
  induction d with
  | zero =>
    intro k i made I B P H h0 h1 hd hk hv
    obtain ⟨k, rfl⟩ : ∃ m, k = m + 1 := ⟨k - 1, by omega⟩
    rw [hopmeshlaw47_GossipOnce.l0, if_neg (by omega)]
  | succ d ih =>
    intro k i made I B P H h0 h1 hd hk ⟨hR, hB, hm⟩
    obtain ⟨r0, r1⟩ := rd_u32 hl i
    have p1 := hR.2.2.2.1
    have p2 := hR.2.2.2.2.1
    have b0 := hR.2.1
    obtain ⟨l1, l2⟩ := len_le hG hR.1
    obtain ⟨k, rfl⟩ : ∃ m, k = m + 4 := ⟨k - 4, by omega⟩
    have ih' : ∀ made I B P H, Inv L D s (i + 1) made I B P H → ∀ q, k ≤ q + 1 → hopmeshlaw47_GossipOnce.l0 q s B made l (l.length : Int) (i + 1) L D E I B P H = some true :=
      fun made I B P H hv q hq => ih q (i + 1) made I B P H (by omega) (by omega) (by omega) (by omega) hv
    rw [hopmeshlaw47_GossipOnce.l0, if_pos (by omega), if_pos h0, if_pos (by omega), w64 (x := s + i) (by omega) (by omega)]
    by_cases hin : s + i < B + I
    · have top := (len_next hG hR.1).2
      rw [step_in hG hR (by omega) (by omega) hB hin (by omega)]
      simp only [Option.bind_some, if_true]
      rw [valid_ok hG hR (by omega)]
      simp only [Option.bind_some, if_true]
      rw [Greatest_ok hG]
      simp only [Option.bind_some]
      rw [decide_eq_false (show ¬ (I > L * 2 ^ D.toNat) by omega), hopmeshlaw47_GossipOnce.j2]
      simp only [Bool.false_eq_true, if_false, if_true]
      rw [hopmeshlaw47_GossipOnce.j3]
      by_cases hs : s + i = P ∧ (E = 0 ∨ H < E)
      · rw [decide_eq_true hs]
        simp only [if_true]
        obtain rfl : made = 0 := by omega
        rw [hopmeshlaw47_GossipOnce.j4]
        rw [w64 (x := 0 + 1) (by omega) (by omega), if_neg (by omega)]
        simp only [if_true]
        rw [w64 (x := s + i) (by omega) (by omega), w64 (x := s + i - B) (by omega) (by omega), w64 (x := 2 * (s + i - B)) (by omega) (by omega), w64 (x := 2 * (s + i - B) + 1) (by omega) (by omega), if_neg (by omega), w64 (x := B + I) (by omega) (by omega), decide_eq_false (show ¬ (s + i ≥ B + I) by omega)]
        exact Once_j5 hG s0 s1 i h0 (by omega) _ _ _ r0 r1 _ k (by omega) ih' hR hB (.inr ⟨rfl, by omega⟩)
      · rw [decide_eq_false hs]
        simp only [Bool.false_eq_true, if_false]
        rw [hopmeshlaw47_GossipOnce.j4, if_neg (by omega)]
        simp only [Bool.false_eq_true, if_false]
        exact Once_j5 hG s0 s1 i h0 (by omega) _ _ _ r0 r1 _ k (by omega) ih' hR hB (by omega)
    · have hn := (len_next hG hR.1).1
      have hR2 := begin_valid (r := (rd_T33 l i).f2) hG hn (show 0 ≤ s + i by omega) (show s + i ≤ 1073741824 by omega)
      have top := (len_next hG hn).2
      rw [step_new hG hR (by omega) (by omega) hB (by omega) r0 r1 (by omega)]
      simp only [Option.bind_some, if_true, nextI]
      rw [valid_ok hG hR2 (by omega)]
      simp only [Option.bind_some, if_true]
      rw [Greatest_ok hG]
      simp only [Option.bind_some]
      rw [decide_eq_false (show ¬ (min (2 * I) (L * 2 ^ D.toNat) > L * 2 ^ D.toNat) by omega), hopmeshlaw47_GossipOnce.j2]
      simp only [Bool.false_eq_true, if_false]
      rw [if_neg (by omega), hopmeshlaw47_GossipOnce.j3]
      simp only [Bool.false_eq_true, if_false]
      rw [hopmeshlaw47_GossipOnce.j4, if_neg (by omega)]
      simp only [Bool.false_eq_true, if_false]
      exact Once_j5 hG s0 s1 i h0 (by omega) _ _ _ r0 r1 _ k (by omega) ih' hR2 (by omega) (.inl rfl)
theorem Once_yes (k : Nat) (s r : Int) (l : List S33) (L D E : Int) : hopmeshlaw47_GossipOnce.j0 (k + 1) s r l true L D E = some true := rfl

theorem GossipOnce (y0_0 : Int) (y0_1 : Int) (y0_2 : Int) (a1 : Int) (a2 : Int) (l3 : (List S33)) (_w0_0 : (Lit.int .i64 y0_0).wf = true) (_w0_1 : (Lit.int .i64 y0_1).wf = true) (_w0_2 : (Lit.int .i64 y0_2).wf = true) (_w1 : (Lit.int .i64 a1).wf = true) (w2 : (Lit.int .u32 a2).wf = true) (w3 : (∀ y ∈ l3, (True ∧ True ∧ (Lit.int .u32 y.f2).wf = true))) : ∃ k, hopmeshlaw47_GossipOnce.f k y0_0 y0_1 y0_2 a1 a2 l3 = some true := by
  refine ⟨1101, ?_⟩
  obtain ⟨r0, r1⟩ := u32_ w2
  unfold hopmeshlaw47_GossipOnce.f
  rw [awake_]
  simp only [Option.bind_some, if_true]
  by_cases h1 : (l3.length : Int) > 200
  · rw [if_pos h1, Once_yes]
  · rw [if_neg h1]
    by_cases h2 : a1 > 536870912
    · rw [decide_eq_true h2, Once_yes]
    · rw [decide_eq_false h2, hopmeshlaw47_GossipOnce.j0]
      simp only [Bool.false_eq_true, if_false]
      by_cases hs : okG y0_0 y0_1 y0_2 ∧ 0 ≤ a1 ∧ a1 ≤ 1073741824
      · obtain ⟨hG, s0, s1⟩ := hs
        rw [start_ok hG s0 s1 r0 r1]
        simp only [Option.bind_some, if_true]
        exact Once_l0 hG s0 (by omega) w3 (by omega) l3.length 1100 0 0 _ _ _ _ (by omega) (by omega) (by omega) (by omega) ⟨begin_valid hG (len_L hG) s0 s1, by omega, by omega⟩
      · rw [start_bad hs]
        simp
end Go.Proofs.Ytmmknoaapllcmaa.Pure
