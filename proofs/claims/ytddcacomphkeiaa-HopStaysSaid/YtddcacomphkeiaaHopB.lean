/- What stays of a list if a blacklist is left out, as a plain function; the printed functions answer as it. By this session. -/
import Derived.Test.YtddcacomphkeiaaPAx10
import Derived.Test.YtddcacomphkeiaaPAx29
import Derived.Test.YtddcacomphkeiaaHopA
set_option linter.unusedVariables false
set_option linter.unusedSimpArgs false
namespace Go.Proofs.Ytddcacomphkeiaa.Hop
open Go.RowKit Go.Proofs.YtddcacomphkeiaaW.PrintWords Go.Proofs.YtddcacomphkeiaaW.PrintLast Go.Proofs.YtddcacomphkeiaaW.PrintMore Go.Proofs.Ytddcacomphkeiaa.PA
def rng (c : Int) : Prop := 0 ≤ c ∧ c < 16
theorem set_get {st : List Bool} (hl : st.length = 16) {c x : Int} (hc : rng c) (hx : rng x) : (st.set c.toNat true).getD x.toNat false = (decide (x = c) || st.getD x.toNat false) := by
  unfold rng at hc hx
  rw [List.getD_eq_getElem?_getD, List.getD_eq_getElem?_getD, List.getElem?_set]
  by_cases h : x = c
  · subst h
    rw [if_pos rfl, if_pos (by omega)]
    simp
  · rw [if_neg (by omega)]
    simp [h]
/-- The channels that are not in the blacklist. -/
def goodL (ch black : List Int) : List Int := ch.filter (fun c => decide (c ∉ black))
def Inv1 (black p : List Int) (s : List Bool × Int) : Prop := s.1.length = 16 ∧ (∀ x, rng x → s.1.getD x.toNat false = decide (x ∈ p ∧ x ∉ black)) ∧ s.2 = ((goodL p black).length : Int)
theorem fold1 (black : List Int) : ∀ (l p : List Int) (s : List Bool × Int), Inv1 black p s → (∀ c ∈ l, rng c) → Inv1 black (p ++ l) (l.foldl (wstep1 black) s)
  | [], p, s, h, _ => by simpa using h
  | c :: l, p, s, h, hr => by
    have hc := hr c List.mem_cons_self
    have hs : Inv1 black (p ++ [c]) (wstep1 black s c) := by
      obtain ⟨h1, h2, h3⟩ := h
      unfold wstep1
      by_cases hb : c ∈ black
      · rw [if_pos hb]
        refine ⟨h1, fun x hx => ?_, by rw [h3]; simp [goodL, hb]⟩
        rw [h2 x hx, decide_eq_decide]
        constructor
        · rintro ⟨a, b⟩; exact ⟨List.mem_append_left _ a, b⟩
        · rintro ⟨a, b⟩
          rcases List.mem_append.1 a with a | a
          · exact ⟨a, b⟩
          · rw [List.mem_singleton.1 a] at b; exact absurd hb b
      · rw [if_neg hb]
        refine ⟨by simpa using h1, fun x hx => ?_, by rw [show (s.1.set c.toNat true, s.2 + 1).2 = s.2 + 1 from rfl, h3]; simp [goodL, hb]⟩
        show (s.1.set c.toNat true).getD x.toNat false = _
        rw [set_get h1 hc hx, h2 x hx]
        by_cases hxc : x = c
        · subst hxc; simp [hb]
        · simp [hxc]
    have := fold1 black l (p ++ [c]) _ hs (fun x hx => hr x (List.mem_cons_of_mem _ hx))
    simpa using this
theorem wst1_spec {ch black : List Int} (hr : ∀ c ∈ ch, rng c) : Inv1 black ch (wst1 ch black) := by
  have := fold1 black ch [] (List.replicate 16 false, 0) ⟨List.length_replicate, fun x hx => by
    rw [List.getD_eq_getElem?_getD, List.getElem?_replicate, decide_eq_false (fun h => by cases h.1)]
    split <;> rfl, by simp [goodL]⟩ hr
  rw [List.nil_append] at this
  exact this
/-- A blacklisted channel is kept if there would be too few. -/
def kst (ch : List Int) (least good : Int) (kept : List Int) (c : Int) : List Int := if good + kept.length < least ∧ c ∈ ch ∧ c ∉ kept then kept ++ [c] else kept
def keptL (ch black : List Int) (least : Int) : List Int := black.foldl (kst ch least ((goodL ch black).length : Int)) []
def Inv2 (ch black : List Int) (good : Int) (kept : List Int) (s : List Bool × Int) : Prop := s.1.length = 16 ∧ (∀ x, rng x → s.1.getD x.toNat false = decide ((x ∈ ch ∧ x ∉ black) ∨ x ∈ kept)) ∧ s.2 = good + kept.length ∧ (∀ x ∈ kept, x ∈ black ∧ x ∈ ch)
theorem fold2 (ch black : List Int) (least good : Int) : ∀ (l kept : List Int) (s : List Bool × Int), Inv2 ch black good kept s → (∀ c ∈ l, rng c ∧ c ∈ black) → Inv2 ch black good (l.foldl (kst ch least good) kept) (l.foldl (wstep2 ch least) s)
  | [], kept, s, h, _ => h
  | c :: l, kept, s, h, hr => by
    obtain ⟨hc, hcb⟩ := hr c List.mem_cons_self
    refine fold2 ch black least good l (kst ch least good kept c) (wstep2 ch least s c) ?_ (fun x hx => hr x (List.mem_cons_of_mem _ hx))
    obtain ⟨h1, h2, h3, h4⟩ := h
    have hg : s.1.getD c.toNat false = decide (c ∈ kept) := by
      rw [h2 c hc, decide_eq_decide]
      constructor
      · rintro (⟨_, b⟩ | b)
        · exact absurd hcb b
        · exact b
      · exact fun b => .inr b
    unfold wstep2 kst
    rw [hg, h3]
    by_cases hq : good + (kept.length : Int) < least ∧ c ∈ ch ∧ c ∉ kept
    · rw [if_pos hq, if_pos ⟨hq.1, decide_eq_false hq.2.2, hq.2.1⟩]
      refine ⟨by simpa using h1, fun x hx => ?_, by simp; omega, fun x hx => ?_⟩
      · show (s.1.set c.toNat true).getD x.toNat false = _
        rw [set_get h1 hc hx, h2 x hx]
        by_cases hxc : x = c
        · subst hxc; simp
        · simp [hxc]
      · rcases List.mem_append.1 hx with hx | hx
        · exact h4 x hx
        · rw [List.mem_singleton.1 hx]; exact ⟨hcb, hq.2.1⟩
    · rw [if_neg hq, if_neg (fun h' => hq ⟨h'.1, h'.2.2, by simpa using h'.2.1⟩)]
      exact ⟨h1, h2, h3, h4⟩
theorem wst2_spec {ch black : List Int} {least : Int} (hr : ∀ c ∈ ch, rng c) (hb : ∀ c ∈ black, rng c) : Inv2 ch black ((goodL ch black).length : Int) (keptL ch black least) (wst2 ch black least) := by
  obtain ⟨h1, h2, h3⟩ := wst1_spec (black := black) hr
  exact fold2 ch black least _ black [] (wst1 ch black) ⟨h1, fun x hx => by rw [h2 x hx]; simp, by rw [h3]; simp, by simp⟩ (fun c hc => ⟨hb c hc, hc⟩)
/-- What stays. -/
def stayP (ch black : List Int) (least : Int) (c : Int) : Bool := decide (c ∉ black ∨ c ∈ keptL ch black least)
theorem wkeep_eq {ch black : List Int} {least : Int} (hr : ∀ c ∈ ch, rng c) (hb : ∀ c ∈ black, rng c) : wkeep ch black least = ch.filter (stayP ch black least) := by
  unfold wkeep
  refine List.filter_congr fun c hc => ?_
  rw [(wst2_spec hr hb).2.1 c (hr c hc)]
  unfold stayP
  rw [decide_eq_decide]
  constructor
  · rintro (h | h)
    · exact .inl h.2
    · exact .inr h
  · rintro (h | h)
    · exact .inl ⟨hc, h⟩
    · exact .inr h
def withoutL (ch black : List Int) (least : Int) : List Int × Int :=
  if okCh ch ∧ black.length ≤ 64 ∧ black.any badCh = false then (if 1 ≤ least ∧ least ≤ ch.length then (ch.filter (stayP ch black least), 0) else ([], 2)) else ([], 1)
theorem not_bad {black : List Int} (h : black.any badCh = false) : ∀ c ∈ black, rng c := fun c hc => by
  have := List.any_eq_false.1 h c hc
  simpa [badCh, rng] using this
theorem Without_eq {ch black : List Int} (least : Int) (hl : ch.length ≤ 1000) {k : Nat} (hk : 2100 ≤ k) : hop_Without.f k ch black least = some (withoutL ch black least) := by
  unfold hop_Without.f withoutL
  rw [if_pos (by omega), channels_eq hl hk, Option.bind_some]
  by_cases h0 : okCh ch
  · rw [if_pos (decide_eq_true h0)]
    by_cases h1 : (black.length : Int) > 64
    · rw [if_pos h1, if_neg (fun h => by have := h.2.1; omega)]
    rw [if_neg h1]
    by_cases h2 : black.any badCh = true
    · rw [if_pos h2, if_neg (fun h => by rw [h2] at h; exact absurd h.2.2 (by simp))]
    rw [if_neg h2]
    have h2' : black.any badCh = false := by simpa using h2
    rw [if_pos (show okCh ch ∧ black.length ≤ 64 ∧ black.any badCh = false from ⟨h0, by omega, h2'⟩)]
    by_cases h3 : least < 1
    · rw [if_pos h3, if_neg (by omega)]
    rw [if_neg h3]
    by_cases h4 : least > (ch.length : Int)
    · rw [if_pos h4, if_neg (by omega)]
    rw [if_neg h4, if_pos (by rw [List.all_eq_true]; exact fun c hc => by simpa using h0.2.1 c hc), if_pos (by omega), wkeep_eq h0.2.1 (not_bad h2')]
  · rw [if_neg (by simpa using h0), if_neg (fun h => h0 h.1)]
/-! ### the reference -/
theorem rl0_ok (ch black : List Int) (least : Int) (hb : black.length ≤ 64) (hr : ∀ c ∈ black, rng c) : ∀ n i k', i + n = black.length → hopmeshref11_Without.l0 (n + 1 + k') ch black least (i : Int) = if least < 1 then hopmeshref11_Without.j2 (n - n + k') ch black least true else hopmeshref11_Without.j2 k' ch black least (decide (least > (ch.length : Int)))
  | 0, i, k', h => by
    rw [show 0 + 1 + k' = k' + 1 by omega, hopmeshref11_Without.l0, if_neg (by omega)]
    simp
  | n + 1, i, k', h => by
    have hi : i < black.length := by omega
    rw [show n + 1 + 1 + k' = (n + 1 + k') + 1 by omega, hopmeshref11_Without.l0, if_pos (by omega), if_pos (by omega), rdi hi, rchannel_eq, Option.bind_some, if_pos (decide_eq_true (show 0 ≤ black[i] ∧ black[i] < 16 from hr _ (List.getElem_mem hi))), wsucc (by omega), rl0_ok ch black least hb hr n (i + 1) k' (by omega)]
    simp
theorem rl0_bad (ch black : List Int) (least : Int) (hb : black.length ≤ 64) : ∀ n i k, i + n = black.length → n + 1 ≤ k → (∃ c ∈ black.drop i, ¬ rng c) → hopmeshref11_Without.l0 k ch black least (i : Int) = some ([], 1)
  | 0, i, k, h, hk, hx => by
    obtain ⟨c, hc, _⟩ := hx
    rw [List.drop_of_length_le (by omega)] at hc
    cases hc
  | n + 1, i, k, h, hk, hx => by
    obtain ⟨k, rfl⟩ : ∃ j, k = j + 1 := ⟨k - 1, by omega⟩
    have hi : i < black.length := by omega
    rw [hopmeshref11_Without.l0, if_pos (by omega), if_pos (by omega), rdi hi, rchannel_eq, Option.bind_some]
    by_cases q : 0 ≤ black[i] ∧ black[i] < 16
    · rw [if_pos (decide_eq_true q), wsucc (by omega)]
      refine rl0_bad ch black least hb n (i + 1) k (by omega) (by omega) ?_
      obtain ⟨c, hc, hn⟩ := hx
      rw [List.drop_eq_getElem_cons hi] at hc
      rcases List.mem_cons.1 hc with hc | hc
      · exact absurd (hc ▸ q) hn
      · exact ⟨c, hc, hn⟩
    · rw [if_neg (by simpa using q)]
theorem rl1_eq (ch black : List Int) (least : Int) (hl : ch.length ≤ 1000) (hb : black.length ≤ 1000) : ∀ n i k', i + n = ch.length → 1001 ≤ k' → hopmeshref11_Without.l1 (n + 1 + k') ch black least ((goodL (ch.take i) black).length : Int) [] (i : Int) = hopmeshref11_Without.l2 k' ch black least ((goodL ch black).length : Int) [] 0
  | 0, i, k', h, hk => by
    rw [show 0 + 1 + k' = k' + 1 by omega, hopmeshref11_Without.l1, if_neg (by omega), List.take_of_length_le (by omega)]
  | n + 1, i, k', h, hk => by
    have hi : i < ch.length := by omega
    have hgl : (goodL (ch.take i) black).length ≤ 1000 := Nat.le_trans (List.length_filter_le _ _) (by rw [List.length_take]; omega)
    have hs : goodL (ch.take (i + 1)) black = goodL (ch.take i) black ++ (if ch[i] ∈ black then [] else [ch[i]]) := by
      unfold goodL
      rw [take_succ_ hi, List.filter_append]
      by_cases q : ch[i] ∈ black
      · simp [q]
      · simp [q]
    have ih := rl1_eq ch black least hl hb n (i + 1) k' (by omega) hk
    rw [show n + 1 + 1 + k' = (n + 1 + k') + 1 by omega, hopmeshref11_Without.l1, if_pos (by omega), if_pos (by omega), rdi hi, has_eq _ hb (by omega), Option.bind_some]
    by_cases q : ch[i] ∈ black
    · rw [if_pos (decide_eq_true q), wsucc (by omega)]
      rw [hs, if_pos q, List.append_nil] at ih
      exact ih
    · rw [if_neg (by simpa using q), wsucc (by omega), wsucc (by omega)]
      rw [hs, if_neg q, List.length_append] at ih
      simpa using ih
theorem kst_stop {ch : List Int} {least good : Int} {kept : List Int} (h : ¬ good + (kept.length : Int) < least) : ∀ l : List Int, l.foldl (kst ch least good) kept = kept
  | [] => rfl
  | c :: l => by
    rw [List.foldl_cons, show kst ch least good kept c = kept by unfold kst; rw [if_neg (fun h' => h h'.1)]]
    exact kst_stop h l
theorem rl2_eq (ch black : List Int) (least good : Int) (hl : ch.length ≤ 1000) (hb : black.length ≤ 1000) (hg0 : 0 ≤ good) (hg : good ≤ 1000) : ∀ n i k kept, i + n = black.length → kept.length ≤ i → 2 * n + 1100 ≤ k → ∃ k', k ≤ k' + 2 * n + 2 ∧ hopmeshref11_Without.l2 k ch black least (good + (kept.length : Int)) kept (i : Int) = hopmeshref11_Without.l3 k' ch black ((black.drop i).foldl (kst ch least good) kept) [] 0
  | 0, i, k, kept, h, hkl, hk => by
    obtain ⟨k, rfl⟩ : ∃ j, k = j + 1 + 1 := ⟨k - 2, by omega⟩
    refine ⟨k, by omega, ?_⟩
    rw [hopmeshref11_Without.l2, if_neg (by omega), hopmeshref11_Without.j5, if_neg (by simp), List.drop_of_length_le (by omega)]
    rfl
  | n + 1, i, k, kept, h, hkl, hk => by
    obtain ⟨k, rfl⟩ : ∃ j, k = j + 1 + 1 := ⟨k - 2, by omega⟩
    have hi : i < black.length := by omega
    rw [hopmeshref11_Without.l2, if_pos (by omega), hopmeshref11_Without.j5]
    by_cases q : good + (kept.length : Int) < least
    · rw [if_pos (decide_eq_true q), if_pos (by omega), if_pos (by omega), rdi hi, has_eq _ hl (by omega), Option.bind_some, List.drop_eq_getElem_cons hi, List.foldl_cons]
      by_cases q2 : black[i] ∈ ch
      · rw [if_pos (decide_eq_true q2), has_eq _ (by omega) (by omega), Option.bind_some]
        by_cases q3 : black[i] ∈ kept
        · rw [if_pos (decide_eq_true q3), wsucc (by omega), show kst ch least good kept black[i] = kept by unfold kst; rw [if_neg (fun h' => h'.2.2 q3)]]
          obtain ⟨k', h1, h2⟩ := rl2_eq ch black least good hl hb hg0 hg n (i + 1) k kept (by omega) (by omega) (by omega)
          exact ⟨k', by omega, h2⟩
        · rw [if_neg (by simpa using q3), if_pos (by omega), wsucc (by omega), show kst ch least good kept black[i] = kept ++ [black[i]] by unfold kst; rw [if_pos ⟨q, q2, q3⟩]]
          obtain ⟨k', h1, h2⟩ := rl2_eq ch black least good hl hb hg0 hg n (i + 1) k (kept ++ [black[i]]) (by omega) (by simp; omega) (by omega)
          refine ⟨k', by omega, ?_⟩
          rw [← h2, show wrap64 (good + (kept.length : Int) + 1) = good + ((kept ++ [black[i]]).length : Int) by rw [w64 (by omega) (by omega)]; simp; omega]
      · rw [if_neg (by simpa using q2), wsucc (by omega), show kst ch least good kept black[i] = kept by unfold kst; rw [if_neg (fun h' => q2 h'.2.1)]]
        obtain ⟨k', h1, h2⟩ := rl2_eq ch black least good hl hb hg0 hg n (i + 1) k kept (by omega) (by omega) (by omega)
        exact ⟨k', by omega, h2⟩
    · rw [if_neg (by simpa using q)]
      exact ⟨k, by omega, by rw [kst_stop q]⟩
theorem rl3_eq (ch black kept : List Int) (hl : ch.length ≤ 1000) (hb : black.length ≤ 1000) (hkp : kept.length ≤ 1000) : ∀ n i k, i + n = ch.length → n + 1100 ≤ k → hopmeshref11_Without.l3 k ch black kept ((ch.take i).filter (fun c => decide (c ∉ black ∨ c ∈ kept))) (i : Int) = some (ch.filter (fun c => decide (c ∉ black ∨ c ∈ kept)), 0)
  | 0, i, k, h, hk => by
    obtain ⟨k, rfl⟩ : ∃ j, k = j + 1 := ⟨k - 1, by omega⟩
    rw [hopmeshref11_Without.l3, if_neg (by omega), List.take_of_length_le (by omega)]
  | n + 1, i, k, h, hk => by
    obtain ⟨k, rfl⟩ : ∃ j, k = j + 1 := ⟨k - 1, by omega⟩
    have hi : i < ch.length := by omega
    have hfl : ((ch.take i).filter (fun c => decide (c ∉ black ∨ c ∈ kept))).length ≤ 1000 := Nat.le_trans (List.length_filter_le _ _) (by rw [List.length_take]; omega)
    have hs : (ch.take (i + 1)).filter (fun c => decide (c ∉ black ∨ c ∈ kept)) = (ch.take i).filter (fun c => decide (c ∉ black ∨ c ∈ kept)) ++ (if ch[i] ∉ black ∨ ch[i] ∈ kept then [ch[i]] else []) := by
      rw [take_succ_ hi, List.filter_append]
      by_cases q : ch[i] ∉ black ∨ ch[i] ∈ kept
      · rw [if_pos q, List.filter_cons, if_pos (decide_eq_true q)]; rfl
      · rw [if_neg q, List.filter_cons, if_neg (by simpa using q)]; rfl
    have ih := rl3_eq ch black kept hl hb hkp n (i + 1) k (by omega) (by omega)
    rw [hs] at ih
    rw [hopmeshref11_Without.l3, if_pos (by omega), if_pos (by omega), rdi hi, has_eq _ hb (by omega), Option.bind_some]
    by_cases q : ch[i] ∈ black
    · rw [if_pos (decide_eq_true q), has_eq _ hkp (by omega), Option.bind_some]
      by_cases q2 : ch[i] ∈ kept
      · rw [if_pos (decide_eq_true q2), if_pos (by omega), wsucc (by omega)]
        rw [if_pos (.inr q2)] at ih
        exact ih
      · rw [if_neg (by simpa using q2), wsucc (by omega)]
        rw [if_neg (fun h' => h'.elim (fun h => h q) q2), List.append_nil] at ih
        exact ih
    · rw [if_neg (by simpa using q), if_pos (by omega), wsucc (by omega)]
      rw [if_pos (.inl q)] at ih
      exact ih
theorem kst_len (ch : List Int) (least good : Int) : ∀ l kept : List Int, (l.foldl (kst ch least good) kept).length ≤ kept.length + l.length
  | [], kept => by simp
  | c :: l, kept => by
    rw [List.foldl_cons]
    have := kst_len ch least good l (kst ch least good kept c)
    have h2 : (kst ch least good kept c).length ≤ kept.length + 1 := by unfold kst; split <;> simp
    simp only [List.length_cons]
    omega
theorem rWithout_eq {ch black : List Int} (least : Int) (hl : ch.length ≤ 1000) (hb : black.length ≤ 1000) {k : Nat} (hk : 9000 ≤ k) : hopmeshref11_Without.f k ch black least = some (withoutL ch black least) := by
  unfold hopmeshref11_Without.f withoutL
  rw [different_eq hl (by omega), Option.bind_some]
  obtain ⟨k, rfl⟩ : ∃ j, k = j + 1 := ⟨k - 1, by omega⟩
  by_cases h0 : okCh ch
  · rw [if_pos (decide_eq_true h0), hopmeshref11_Without.j0]
    by_cases h1 : (black.length : Int) > 64
    · rw [if_pos (decide_eq_true h1), if_neg (fun h => by have := h.2.1; omega)]
    rw [if_neg (by simpa using h1)]
    by_cases h2 : black.any badCh = false
    · have hr := not_bad h2
      rw [if_pos (show okCh ch ∧ black.length ≤ 64 ∧ black.any badCh = false from ⟨h0, by omega, h2⟩)]
      obtain ⟨k', rfl⟩ : ∃ k', k = black.length + 1 + k' := ⟨k - (black.length + 1), by omega⟩
      rw [show (0 : Int) = ((0 : Nat) : Int) from rfl, rl0_ok ch black least (by omega) hr black.length 0 k' (by omega), Nat.sub_self, Nat.zero_add]
      obtain ⟨k', rfl⟩ : ∃ j, k' = j + 1 := ⟨k' - 1, by omega⟩
      rw [hopmeshref11_Without.j2, hopmeshref11_Without.j2]
      by_cases h3 : least < 1
      · rw [if_pos h3, if_pos rfl, if_neg (by omega)]
      rw [if_neg h3]
      by_cases h4 : least > (ch.length : Int)
      · rw [if_pos (decide_eq_true h4), if_neg (by omega)]
      rw [if_neg (by simpa using h4), if_pos (by omega)]
      obtain ⟨k', rfl⟩ : ∃ j, k' = ch.length + 1 + j := ⟨k' - (ch.length + 1), by omega⟩
      have e1 := rl1_eq ch black least hl hb ch.length 0 k' (by omega) (by omega)
      rw [show ((goodL (ch.take 0) black).length : Int) = 0 by simp [goodL], show ((0 : Nat) : Int) = 0 from rfl] at e1
      rw [e1]
      have hg : (goodL ch black).length ≤ 1000 := Nat.le_trans (List.length_filter_le _ _) hl
      obtain ⟨k2, h5, h6⟩ := rl2_eq ch black least ((goodL ch black).length : Int) hl hb (by omega) (by omega) black.length 0 k' [] (by omega) (by simp) (by omega)
      rw [show ((goodL ch black).length : Int) + (([] : List Int).length : Int) = ((goodL ch black).length : Int) by simp, show ((0 : Nat) : Int) = 0 from rfl, List.drop_zero] at h6
      rw [h6]
      have hkl := kst_len ch least ((goodL ch black).length : Int) black []
      have e3 := rl3_eq ch black (keptL ch black least) hl hb (by unfold keptL; simp at hkl; omega) ch.length 0 k2 (by omega) (by omega)
      rw [List.take_zero, List.filter_nil, show ((0 : Nat) : Int) = 0 from rfl] at e3
      exact e3
    · rw [if_neg (fun h => h2 h.2.2)]
      have h2' : black.any badCh = true := by simpa using h2
      obtain ⟨c, hc, hcb⟩ := List.any_eq_true.1 h2'
      exact rl0_bad ch black least (by omega) black.length 0 k (by omega) (by omega) ⟨c, by simpa using hc, fun hr => by unfold rng at hr; simp [badCh, hr] at hcb⟩
  · rw [if_neg (by simpa using h0), hopmeshref11_Without.j0, if_pos rfl, if_neg (fun h => h0 h.1)]
end Go.Proofs.Ytddcacomphkeiaa.Hop
