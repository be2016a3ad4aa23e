/- The plain law of GossipRuns: what the printed functions compute answers true: the program and the reference go through the same states. By this session. -/
import Derived.Test.YtmmknoaapllcmaaPAx12
import Derived.Test.YtmmknoaapllcmaaBase
namespace Go.Proofs.Ytmmknoaapllcmaa.Pure
open Go.RowKit Go.Proofs.YtmmknoaapllcmaaW.PrintWords Go.Proofs.YtmmknoaapllcmaaW.PrintLast Go.Proofs.YtmmknoaapllcmaaW.PrintMore Go.Proofs.Ytmmknoaapllcmaa.PA Go.Proofs.Ytmmknoaapllcmaa.Base
theorem rd_u32' {l : List S33} (hl : ∀ y ∈ l, True ∧ True ∧ (Lit.int .u32 y.f2).wf = true) (i : Int) : 0 ≤ (rd_T33 l i).f2 ∧ (rd_T33 l i).f2 ≤ 4294967295 := by
  unfold rd_T33
  rw [List.getD_eq_getElem?_getD]
  cases h : l[i.toNat]? with
  | none => simp [z33]
  | some y => exact u32_ (hl y (List.mem_of_getElem? h)).2.2
theorem rcheck_ok {L D E : Int} (hG : okG L D E) : hopmeshref47_Check.f L D E = some 0 := by
  obtain ⟨h1, h2, h3, h4, h5, h6⟩ := hG
  unfold hopmeshref47_Check.f
  rw [if_neg (by omega), if_neg (by omega), if_neg (by omega), if_neg (by omega), if_neg (by omega), if_neg (by omega)]
theorem rcheck_bad {L D E : Int} (hG : ¬ okG L D E) : hopmeshref47_Check.f L D E = some 2 := by
  unfold hopmeshref47_Check.f
  by_cases h1 : L < 2 <;> by_cases h2 : L > 1024 <;> by_cases h3 : D < 0 <;> by_cases h4 : D > 8 <;> by_cases h5 : E < 0 <;> by_cases h6 : E > 16 <;> simp [h1, h2, h3, h4, h5, h6]
  exact hG ⟨by omega, by omega, by omega, by omega, by omega, by omega⟩
theorem rbegin_ok {a s r : Int} (h1 : 2 ≤ a) (h2 : a ≤ 262144) (s0 : 0 ≤ s) (s1 : s ≤ 1073741824) (r0 : 0 ≤ r) (r1 : r ≤ 4294967295) :
    hopmeshref47_begin.f a s r = some (a, s, s + a / 2 + r % (a - a / 2), 0) := by
  have e1 : wrap64 (Int.tdiv a 2) = a / 2 := by rw [tdiv2 (by omega), w64 (by omega) (by omega)]
  have e2 : wrap64 (a - a / 2) = a - a / 2 := w64 (by omega) (by omega)
  have m1 := Int.emod_nonneg r (show a - a / 2 ≠ 0 by omega)
  have m2 := Int.emod_lt_of_pos r (show 0 < a - a / 2 by omega)
  unfold hopmeshref47_begin.f
  rw [e1, e2, w64 (x := r) (by omega) (by omega), tmod_ r0, w64 (x := s + a / 2) (by omega) (by omega), w64 (x := s + a / 2 + r % (a - a / 2)) (by omega) (by omega)]
  rw [if_neg (by omega)]
theorem rstart_ok {L D E s r : Int} (hG : okG L D E) (s0 : 0 ≤ s) (s1 : s ≤ 1073741824) (r0 : 0 ≤ r) (r1 : r ≤ 4294967295) :
    hopmeshref47_Start.f L D E s r = some (L, s, s + L / 2 + r % (L - L / 2), 0, 0) := by
  unfold hopmeshref47_Start.f
  rw [rcheck_ok hG]
  simp only [Option.bind_some]
  rw [if_pos trivial, if_neg (by omega), if_neg (by omega), rbegin_ok hG.1 (by have := hG.2.1; omega) s0 s1 r0 r1]
  rfl
theorem rstart_bad {L D E s r : Int} (h : ¬ (okG L D E ∧ 0 ≤ s ∧ s ≤ 1073741824)) : hopmeshref47_Start.f L D E s r = some (0, 0, 0, 0, 2) := by
  unfold hopmeshref47_Start.f
  by_cases hG : okG L D E
  · rw [rcheck_ok hG]
    simp only [Option.bind_some]
    rw [if_pos trivial]
    by_cases h0 : s < 0
    · rw [if_pos h0]
    · rw [if_neg h0, if_pos (by have : ¬ (s ≤ 1073741824) := fun h1 => h ⟨hG, by omega, h1⟩; omega)]
  · rw [rcheck_bad hG]
    simp only [Option.bind_some]
    rw [if_neg (by omega)]
theorem rvalid_loop {L D E I B P H : Int} (hG : okG L D E) (hR : okR L D I B P H) (d : Nat) : ∀ (k : Nat) (x : Int) (b : Bool), 0 ≤ x → x ≤ D + 1 → (D + 1 - x).toNat = d → d < k →
    ((∃ i : Nat, (i : Int) < x ∧ I = L * 2 ^ i) → b = true) → hopmeshref47_Valid.l0 k b x L D E I B P H = some 0 := by
  have hD := hG.2.2.2.1
  have hL := hG.1
  obtain ⟨l1, l2⟩ := len_le hG hR.1
  obtain ⟨hlen, b0, b1, p1, p2, h0', h1'⟩ := hR
  induction d with
  | zero =>
    intro k x b h0 h1 hd hk hb
    obtain ⟨k, rfl⟩ : ∃ m, k = m + 1 := ⟨k - 1, by omega⟩
    obtain ⟨i, hi, e⟩ := hlen
    rw [hopmeshref47_Valid.l0, if_neg (by omega), if_pos (hb ⟨i, by omega, e⟩), if_neg (by omega), if_neg (by omega), tdiv2 (by omega), w64 (x := I / 2) (by omega) (by omega), w64 (x := B + I / 2) (by omega) (by omega), w64 (x := B + I) (by omega) (by omega), if_neg (by omega), if_neg (by omega), if_neg (by omega), if_neg (by omega)]
  | succ d ih =>
    intro k x b h0 h1 hd hk hb
    obtain ⟨k, rfl⟩ : ∃ m, k = m + 1 := ⟨k - 1, by omega⟩
    rw [hopmeshref47_Valid.l0, if_pos (by omega), w64 (x := x + 1) (by omega) (by omega)]
    cases hbb : b with
    | true =>
      simp only [if_true]
      exact ih k (x + 1) true (by omega) (by omega) (by omega) (by omega) (fun _ => rfl)
    | false =>
      simp only [Bool.false_eq_true, if_false]
      rw [if_pos h0, shl_ hG h0 (by omega)]
      refine ih k (x + 1) _ (by omega) (by omega) (by omega) (by omega) ?_
      rintro ⟨i, hi, e⟩
      by_cases hx : (i : Int) < x
      · have := hb ⟨i, hx, e⟩; rw [hbb] at this; simp at this
      · have : i = x.toNat := by omega
        subst this
        simpa using e
theorem rvalid_ok {L D E I B P H : Int} (hG : okG L D E) (hR : okR L D I B P H) {k : Nat} (hk : 12 ≤ k) : hopmeshref47_Valid.f k L D E I B P H = some 0 := by
  have hD := hG.2.2
  unfold hopmeshref47_Valid.f
  rw [rcheck_ok hG]
  simp only [Option.bind_some, if_true]
  exact rvalid_loop hG hR (D + 1).toNat k 0 false (by omega) (by omega) (by omega) (by omega) (by rintro ⟨i, hi, _⟩; omega)
theorem rchk_ok {L D E I B P H s : Int} (hG : okG L D E) (hR : okR L D I B P H) (s0 : 0 ≤ s) (s1 : s ≤ 1073741824) (hB : B ≤ s) {k : Nat} (hk : 12 ≤ k) :
    hopmeshref47_check.f k L D E I B P H s = some 0 := by
  unfold hopmeshref47_check.f
  rw [rvalid_ok hG hR hk]
  simp only [Option.bind_some, if_true]
  rw [if_neg (by omega)]
  obtain ⟨k, rfl⟩ : ∃ m, k = m + 1 := ⟨k - 1, by omega⟩
  rw [hopmeshref47_check.j0, if_neg (by simp; omega), if_neg (by omega)]
theorem rchk_late {L D E I B P H s : Int} (hG : okG L D E) (hR : okR L D I B P H) (s1 : 1073741824 < s) {k : Nat} (hk : 12 ≤ k) :
    hopmeshref47_check.f k L D E I B P H s = some 2 := by
  unfold hopmeshref47_check.f
  rw [rvalid_ok hG hR hk]
  simp only [Option.bind_some, if_true]
  rw [if_neg (by omega)]
  obtain ⟨k, rfl⟩ : ∃ m, k = m + 1 := ⟨k - 1, by omega⟩
  rw [hopmeshref47_check.j0, if_pos (by simp; omega)]
theorem rGreatest_ok {L D E : Int} (hG : okG L D E) : hopmeshref47_Greatest.f L D E = some (L * 2 ^ D.toNat) := by
  unfold hopmeshref47_Greatest.f
  rw [rcheck_ok hG]
  simp only [Option.bind_some, if_true]
  rw [if_pos hG.2.2.1, shl_ hG hG.2.2.1 (Int.le_refl _)]
theorem rstep_j0 (L D E I B P H s : Int) {k : Nat} (hk : 2 ≤ k) : hopmeshref47_Step.j0 k s L D E I B P H = some (I, B, P, H, decide (s = P ∧ (E = 0 ∨ H < E)), 0) := by
  obtain ⟨k, rfl⟩ : ∃ m, k = m + 2 := ⟨k - 2, by omega⟩
  rw [hopmeshref47_Step.j0]
  by_cases h : s = P
  · rw [if_pos h]
    by_cases hE : E = 0
    · rw [if_pos hE, hopmeshref47_Step.j1]; simp [h, hE]
    · rw [if_neg hE, hopmeshref47_Step.j1]; simp [h, hE]
  · rw [if_neg h, hopmeshref47_Step.j1]; simp [h]
theorem rstep_in {L D E I B P H s r : Int} (hG : okG L D E) (hR : okR L D I B P H) (s0 : 0 ≤ s) (s1 : s ≤ 1073741824) (hB : B ≤ s) (hI : s < B + I) {k : Nat} (hk : 12 ≤ k) :
    hopmeshref47_Step.f k L D E I B P H s r = some (I, B, P, H, decide (s = P ∧ (E = 0 ∨ H < E)), 0) := by
  obtain ⟨l1, l2⟩ := len_le hG hR.1
  have b0 := hR.2.1
  have b1 := hR.2.2.1
  unfold hopmeshref47_Step.f
  rw [rchk_ok hG hR s0 s1 hB hk]
  simp only [Option.bind_some, if_true]
  rw [w64 (x := B + I) (by have := hG.1; omega) (by omega), if_neg (by omega)]
  exact rstep_j0 _ _ _ _ _ _ _ _ (by omega)
theorem rstep_new {L D E I B P H s r : Int} (hG : okG L D E) (hR : okR L D I B P H) (s0 : 0 ≤ s) (s1 : s ≤ 1073741824) (hB : B ≤ s) (hI : B + I ≤ s) (r0 : 0 ≤ r) (r1 : r ≤ 4294967295) {k : Nat} (hk : 12 ≤ k) :
    hopmeshref47_Step.f k L D E I B P H s r = some (nextI L D I, s, s + nextI L D I / 2 + r % (nextI L D I - nextI L D I / 2), 0, false, 0) := by
  obtain ⟨l1, l2⟩ := len_le hG hR.1
  have b0 := hR.2.1
  have b1 := hR.2.2.1
  have hL := hG.1
  have hn := (len_next hG hR.1).1
  obtain ⟨n1, n2⟩ := len_le hG hn
  unfold hopmeshref47_Step.f
  rw [rchk_ok hG hR s0 s1 hB hk]
  simp only [Option.bind_some, if_true]
  rw [w64 (x := B + I) (by omega) (by omega), if_pos (by omega), rGreatest_ok hG]
  simp only [Option.bind_some]
  rw [w64 (x := 2 * I) (by omega) (by omega), mn_eq, rbegin_ok (by omega) n2 s0 s1 r0 r1]
  simp only [Option.bind_some]
  rw [rstep_j0 _ _ _ _ _ _ _ _ (by omega)]
  have m1 := Int.emod_nonneg r (show min (2 * I) (L * 2 ^ D.toNat) - min (2 * I) (L * 2 ^ D.toNat) / 2 ≠ 0 by omega)
  unfold nextI
  rw [decide_eq_false (by omega)]
theorem rstep_late {L D E I B P H s r : Int} (hG : okG L D E) (hR : okR L D I B P H) (s1 : 1073741824 < s) {k : Nat} (hk : 12 ≤ k) :
    hopmeshref47_Step.f k L D E I B P H s r = some (0, 0, 0, 0, false, 2) := by
  unfold hopmeshref47_Step.f
  rw [rchk_late hG hR s1 hk]
  simp
theorem rhear_eq {L D E I B P H s r : Int} (hG : okG L D E) (hR : okR L D I B P H) (s0 : 0 ≤ s) (s1 : s ≤ 1073741824) (hB : B ≤ s) {k : Nat} (hk : 12 ≤ k) :
    hopmeshref47_Hear.f k L D E I B P H true s r = some (I, B, P, min (H + 1) 1048576, 0) := by
  have h0 := hR.2.2.2.2.2
  unfold hopmeshref47_Hear.f
  rw [rchk_ok hG hR s0 s1 hB hk]
  simp only [Option.bind_some, if_true]
  rw [w64 (x := H + 1) (by omega) (by omega), mn_eq]
theorem rhear_same {L D E I B P H s r : Int} (hG : okG L D E) (hR : okR L D I B P H) (s0 : 0 ≤ s) (s1 : s ≤ 1073741824) (hB : B ≤ s) (hI : I ≤ L) {k : Nat} (hk : 12 ≤ k) :
    hopmeshref47_Hear.f k L D E I B P H false s r = some (I, B, P, H, 0) := by
  unfold hopmeshref47_Hear.f
  rw [rchk_ok hG hR s0 s1 hB hk]
  simp only [Option.bind_some, if_true, Bool.false_eq_true, if_false]
  rw [if_neg (by omega)]
theorem rhear_new {L D E I B P H s r : Int} (hG : okG L D E) (hR : okR L D I B P H) (s0 : 0 ≤ s) (s1 : s ≤ 1073741824) (hB : B ≤ s) (hI : L < I) (r0 : 0 ≤ r) (r1 : r ≤ 4294967295) {k : Nat} (hk : 12 ≤ k) :
    hopmeshref47_Hear.f k L D E I B P H false s r = some (L, s, s + L / 2 + r % (L - L / 2), 0, 0) := by
  unfold hopmeshref47_Hear.f
  rw [rchk_ok hG hR s0 s1 hB hk]
  simp only [Option.bind_some, if_true, Bool.false_eq_true, if_false]
  rw [if_pos (by omega), rbegin_ok hG.1 (by have := hG.2.1; omega) s0 s1 r0 r1]
  rfl

/-- Behind Step, which answered both alike and without an error. -/
theorem Runs_j3 {l : List S33} {L D E s n : Int} (hG : okG L D E) (i : Int) (h0 : 0 ≤ i) (hi : i < 200) (_s0 : 0 ≤ s) (s1 : s + i ≤ 1073741824) (b c : Bool) (r : Int) (r0 : 0 ≤ r) (r1 : r ≤ 4294967295) (k : Nat) (hk : 14 ≤ k)
    (ih : ∀ I B P H, okR L D I B P H → B ≤ s + (i + 1) → hopmeshlaw47_GossipRuns.l0 k s l n (i + 1) L D E I B P H I B P H = some true)
    {I B P H : Int} (hR : okR L D I B P H) (hB : B ≤ s + i) :
    hopmeshlaw47_GossipRuns.j3 (k + 2) s 0 0 i l n i false L D E I B P H I B P H b c r = some true := by
  have b0 := hR.2.1
  rw [hopmeshlaw47_GossipRuns.j3]
  simp only [Bool.false_eq_true, if_false, if_true]
  rw [hopmeshlaw47_GossipRuns.j4]
  cases b with
  | false =>
    simp only [BEq.rfl, Bool.not_true, Bool.or_self, Bool.false_eq_true, if_false, if_true]
    rw [w64 (x := i + 1) (by omega) (by omega)]
    exact ih I B P H hR (by omega)
  | true =>
    simp only [if_true]
    rw [w64 (x := s + i) (by omega) (by omega), w64 (x := i + 1) (by omega) (by omega)]
    cases c with
    | true =>
      have hh := hR.2.2.2.2.2
      rw [hear_eq hG hR (by omega) s1 hB (by omega), rhear_eq hG hR (by omega) s1 hB (by omega)]
      simp only [Option.bind_some, BEq.rfl, Bool.not_true, Bool.or_self, Bool.false_eq_true, if_false, if_true]
      exact ih _ _ _ _ (okR_heard hR (by omega) (by omega)) (by omega)
    | false =>
      by_cases hI : I ≤ L
      · rw [hear_same hG hR (by omega) s1 hB hI (by omega), rhear_same hG hR (by omega) s1 hB hI (by omega)]
        simp only [Option.bind_some, BEq.rfl, Bool.not_true, Bool.or_self, Bool.false_eq_true, if_false, if_true]
        exact ih _ _ _ _ hR (by omega)
      · rw [hear_new hG hR (by omega) s1 hB (by omega) r0 r1 (by omega), rhear_new hG hR (by omega) s1 hB (by omega) r0 r1 (by omega)]
        simp only [Option.bind_some, BEq.rfl, Bool.not_true, Bool.or_self, Bool.false_eq_true, if_false, if_true]
        exact ih _ _ _ _ (begin_valid hG (len_L hG) (by omega) s1) (by omega)
theorem Runs_l0 {l : List S33} {L D E s : Int} (hG : okG L D E) (s0 : 0 ≤ s) (s1 : s ≤ 1073741824) (hl : ∀ y ∈ l, True ∧ True ∧ (Lit.int .u32 y.f2).wf = true) (h200 : (l.length : Int) ≤ 200) (d : Nat) : ∀ (k : Nat) (i I B P H : Int),
    0 ≤ i → i ≤ (l.length : Int) → ((l.length : Int) - i).toNat = d → 5 * d + 30 ≤ k → okR L D I B P H → B ≤ s + i →
    hopmeshlaw47_GossipRuns.l0 k s l (l.length : Int) i L D E I B P H I B P H = some true := by
  have hL := hG.1
  induction d with
  | zero =>
    intro k i I B P H h0 h1 hd hk hR hB
    obtain ⟨k, rfl⟩ : ∃ m, k = m + 1 := ⟨k - 1, by omega⟩
    rw [hopmeshlaw47_GossipRuns.l0, if_neg (by omega)]
  | succ d ih =>
    intro k i I B P H h0 h1 hd hk hR hB
    obtain ⟨r0, r1⟩ := rd_u32' hl i
    have p1 := hR.2.2.2.1
    have b0 := hR.2.1
    obtain ⟨l1, l2⟩ := len_le hG hR.1
    obtain ⟨k, rfl⟩ : ∃ m, k = m + 3 := ⟨k - 3, by omega⟩
    have ih' : ∀ I B P H, okR L D I B P H → B ≤ s + (i + 1) → hopmeshlaw47_GossipRuns.l0 k s l (l.length : Int) (i + 1) L D E I B P H I B P H = some true :=
      fun I B P H hR hB => ih k (i + 1) I B P H (by omega) (by omega) (by omega) (by omega) hR hB
    rw [hopmeshlaw47_GossipRuns.l0, if_pos (by omega), if_pos h0, if_pos (by omega), w64 (x := s + i) (by omega) (by omega)]
    by_cases late : 1073741824 < s + i
    · rw [step_late hG hR late (by omega), rstep_late hG hR late (by omega)]
      simp only [Option.bind_some, BEq.rfl, Bool.not_true, Bool.or_self, Bool.false_eq_true, if_false, bne_self_eq_false]
      rw [hopmeshlaw47_GossipRuns.j3]
      simp only [Bool.false_eq_true, if_false]
      rw [if_neg (by omega), hopmeshlaw47_GossipRuns.j4]
      simp
    · by_cases hin : s + i < B + I
      · rw [step_in hG hR (by omega) (by omega) hB hin (by omega), rstep_in hG hR (by omega) (by omega) hB hin (by omega)]
        simp only [Option.bind_some, BEq.rfl, Bool.not_true, Bool.or_self, Bool.false_eq_true, if_false, bne_self_eq_false]
        exact Runs_j3 hG i h0 (by omega) s0 (by omega) _ _ _ r0 r1 k (by omega) ih' hR hB
      · rw [step_new hG hR (by omega) (by omega) hB (by omega) r0 r1 (by omega), rstep_new hG hR (by omega) (by omega) hB (by omega) r0 r1 (by omega)]
        simp only [Option.bind_some, BEq.rfl, Bool.not_true, Bool.or_self, Bool.false_eq_true, if_false, bne_self_eq_false]
        exact Runs_j3 hG i h0 (by omega) s0 (by omega) _ _ _ r0 r1 k (by omega) ih' (begin_valid hG (len_next hG hR.1).1 (by omega) (by omega)) (by omega)
theorem Runs_yes (k : Nat) (s r : Int) (l : List S33) (L D E : Int) : hopmeshlaw47_GossipRuns.j0 (k + 1) s r l true L D E = some true := rfl

theorem GossipRuns (y0_0 : Int) (y0_1 : Int) (y0_2 : Int) (a1 : Int) (a2 : Int) (l3 : (List S33)) (_w0_0 : (Lit.int .i64 y0_0).wf = true) (_w0_1 : (Lit.int .i64 y0_1).wf = true) (_w0_2 : (Lit.int .i64 y0_2).wf = true) (_w1 : (Lit.int .i64 a1).wf = true) (w2 : (Lit.int .u32 a2).wf = true) (w3 : (∀ y ∈ l3, (True ∧ True ∧ (Lit.int .u32 y.f2).wf = true))) : ∃ k, hopmeshlaw47_GossipRuns.f k y0_0 y0_1 y0_2 a1 a2 l3 = some true := by
  refine ⟨1102, ?_⟩
  obtain ⟨r0, r1⟩ := u32_ w2
  unfold hopmeshlaw47_GossipRuns.f
  rw [awake_]
  simp only [Option.bind_some, if_true]
  by_cases h1 : (l3.length : Int) > 200
  · rw [decide_eq_true h1, Runs_yes]
  · rw [decide_eq_false h1, hopmeshlaw47_GossipRuns.j0]
    simp only [Bool.false_eq_true, if_false]
    by_cases hs : okG y0_0 y0_1 y0_2 ∧ 0 ≤ a1 ∧ a1 ≤ 1073741824
    · obtain ⟨hG, s0, s1⟩ := hs
      rw [start_ok hG s0 s1 r0 r1, rstart_ok hG s0 s1 r0 r1]
      simp only [Option.bind_some, BEq.rfl, Bool.not_true, Bool.or_self, Bool.false_eq_true, if_false, bne_self_eq_false, if_true]
      rw [hopmeshlaw47_GossipRuns.j1]
      simp only [Bool.false_eq_true, if_false]
      exact Runs_l0 hG s0 s1 w3 (by omega) l3.length 1100 0 _ _ _ _ (by omega) (by omega) (by omega) (by omega) (begin_valid hG (len_L hG) s0 s1) (by omega)
    · rw [start_bad hs, rstart_bad hs]
      simp only [Option.bind_some]
      simp [hopmeshlaw47_GossipRuns.j1]
end Go.Proofs.Ytmmknoaapllcmaa.Pure
