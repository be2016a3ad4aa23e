/- The plain law of HopStays: what the printed functions compute answers true. By this session. -/
import Derived.Test.YtddcacomphkeiaaPAx1
import Derived.Test.YtddcacomphkeiaaPAx28
import Derived.Test.YtddcacomphkeiaaPAx29
import Derived.Test.YtddcacomphkeiaaPAx6
import Derived.Test.YtddcacomphkeiaaPAx8
import Derived.Test.YtddcacomphkeiaaHopB
set_option linter.unusedVariables false
set_option linter.unusedSimpArgs false
namespace Go.Proofs.Ytddcacomphkeiaa.Pure
open Go.RowKit Go.Proofs.YtddcacomphkeiaaW.PrintWords Go.Proofs.YtddcacomphkeiaaW.PrintLast Go.Proofs.YtddcacomphkeiaaW.PrintMore Go.Proofs.Ytddcacomphkeiaa.PA Go.Proofs.Ytddcacomphkeiaa.Hop
theorem Clone_eqS {l : List Int} (h : l.length ≤ 1000) : slices_Clone_int_int.f l = some l := by
  unfold slices_Clone_int_int.f
  rw [if_pos (by omega)]
/-- One bit more: one element more. -/
theorem filter_more {p p' : Int → Bool} {c : Int} : ∀ l : List Int, l.Nodup → c ∈ l → p c = false → p' c = true → (∀ x, x ≠ c → p' x = p x) → (l.filter p').length = (l.filter p).length + 1
  | [], _, hc, _, _, _ => by cases hc
  | a :: l, hn, hc, h1, h2, h3 => by
    have hn' := List.nodup_cons.1 hn
    by_cases h : a = c
    · subst h
      rw [List.filter_cons, List.filter_cons, h1, h2]
      simp only [if_true, Bool.false_eq_true, if_false, List.length_cons]
      rw [List.filter_congr (p := p') (q := p) (fun x hx => h3 x (fun e => hn'.1 (e ▸ hx)))]
    · have hc' : c ∈ l := by
        rcases List.mem_cons.1 hc with hc | hc
        · exact absurd hc.symm h
        · exact hc
      have ih := filter_more l hn'.2 hc' h1 h2 h3
      rw [List.filter_cons, List.filter_cons, h3 a h]
      split <;> simp [ih]
def keepQ (black kept : List Int) (c : Int) : Bool := decide (c ∉ black ∨ c ∈ kept)
def Inv3 (ch black : List Int) (least good : Int) (p kept : List Int) : Prop := ((ch.filter (keepQ black kept)).length : Int) = good + kept.length ∧ (good + (kept.length : Int) ≤ good ∨ good + (kept.length : Int) ≤ least) ∧ (good + (kept.length : Int) < least → ∀ x ∈ p, x ∈ ch → x ∈ kept)
theorem fold3 (ch black : List Int) (least good : Int) (hn : ch.Nodup) : ∀ l p kept, Inv3 ch black least good p kept → (∀ c ∈ l, c ∈ black) → Inv3 ch black least good (p ++ l) (l.foldl (kst ch least good) kept)
  | [], p, kept, h, _ => by simpa using h
  | c :: l, p, kept, h, hb => by
    have hs : Inv3 ch black least good (p ++ [c]) (kst ch least good kept c) := by
      obtain ⟨h1, h2, h3⟩ := h
      unfold kst
      by_cases hq : good + (kept.length : Int) < least ∧ c ∈ ch ∧ c ∉ kept
      · rw [if_pos hq]
        have hcb := hb c List.mem_cons_self
        have := filter_more (p := keepQ black kept) (p' := keepQ black (kept ++ [c])) ch hn hq.2.1 (by simp [keepQ, hcb, hq.2.2]) (by simp [keepQ]) (fun x hx => by simp [keepQ, hx])
        refine ⟨by rw [this, List.length_append]; simp; omega, .inr (by simp; omega), fun hlt x hx hxc => ?_⟩
        rcases List.mem_append.1 hx with hx | hx
        · exact List.mem_append_left _ (h3 hq.1 x hx hxc)
        · exact List.mem_append_right _ hx
      · rw [if_neg hq]
        refine ⟨h1, h2, fun hlt x hx hxc => ?_⟩
        rcases List.mem_append.1 hx with hx | hx
        · exact h3 hlt x hx hxc
        · rw [List.mem_singleton.1 hx] at hxc ⊢
          by_cases hk : c ∈ kept
          · exact hk
          · exact absurd ⟨hlt, hxc, hk⟩ hq
    have := fold3 ch black least good hn l (p ++ [c]) _ hs (fun x hx => hb x (List.mem_cons_of_mem _ hx))
    simpa using this
theorem stay_len {ch black : List Int} {least : Int} (hn : ch.Nodup) (h1 : least ≤ ch.length) : ((ch.filter (stayP ch black least)).length : Int) = mx ((goodL ch black).length : Int) least := by
  have h0 : Inv3 ch black least ((goodL ch black).length : Int) [] [] := by
    refine ⟨?_, .inl (by simp), fun _ x hx => by cases hx⟩
    unfold goodL keepQ
    simp
  obtain ⟨e1, e2, e3⟩ := fold3 ch black least _ hn black [] [] h0 (fun c hc => hc)
  rw [List.nil_append] at e3
  have hk : keptL ch black least = black.foldl (kst ch least ((goodL ch black).length : Int)) [] := rfl
  rw [← hk] at e1 e2 e3
  have hf : ch.filter (stayP ch black least) = ch.filter (keepQ black (keptL ch black least)) := rfl
  rw [hf, e1]
  unfold mx
  by_cases q : ((goodL ch black).length : Int) < least
  · rw [if_pos q]
    by_cases q2 : ((goodL ch black).length : Int) + ((keptL ch black least).length : Int) < least
    · have hall : ch.filter (keepQ black (keptL ch black least)) = ch := List.filter_eq_self.2 (fun c hc => by
        unfold keepQ
        rw [decide_eq_true_eq]
        by_cases hb : c ∈ black
        · exact .inr (e3 q2 c hb hc)
        · exact .inl hb)
      rw [hall] at e1
      omega
    · omega
  · rw [if_neg q]
    omega
theorem stays_from (ch black : List Int) (least : Int) (hl : ch.length ≤ 20) (hb : black.length ≤ 64) (hn : ch.Nodup) (h1 : least ≤ ch.length) : ∀ n i k, i + n = ch.length → 3 * n + 1200 ≤ k →
    hopmeshlaw11_HopStays.l0 k (ch.filter (stayP ch black least)) (((ch.take i).filter (stayP ch black least)).length : Int) ((goodL (ch.take i) black).length : Int) ch (ch.length : Int) (i : Int) ch black least = some true
  | 0, i, k, h, hk => by
    obtain ⟨k, rfl⟩ : ∃ j, k = j + 1 := ⟨k - 1, by omega⟩
    rw [hopmeshlaw11_HopStays.l0, if_neg (by omega), List.take_of_length_le (by omega), if_pos rfl, stay_len hn h1]
    simp
  | n + 1, i, k, h, hk => by
    obtain ⟨k, rfl⟩ : ∃ j, k = j + 1 + 1 + 1 := ⟨k - 3, by omega⟩
    have hi : i < ch.length := by omega
    have hq1 : (ch.take (i + 1)).filter (stayP ch black least) = (ch.take i).filter (stayP ch black least) ++ (if stayP ch black least ch[i] = true then [ch[i]] else []) := by
      rw [take_succ_ hi, List.filter_append, List.filter_cons]; rfl
    have hg1 : goodL (ch.take (i + 1)) black = goodL (ch.take i) black ++ (if ch[i] ∈ black then [] else [ch[i]]) := by
      unfold goodL
      rw [take_succ_ hi, List.filter_append]
      by_cases q : ch[i] ∈ black
      · simp [q]
      · simp [q]
    have hsp : ch.filter (stayP ch black least) = (ch.take i).filter (stayP ch black least) ++ ((if stayP ch black least ch[i] = true then [ch[i]] else []) ++ (ch.drop (i + 1)).filter (stayP ch black least)) := by
      have hgen : ∀ p : Int → Bool, ch.filter p = (ch.take (i + 1)).filter p ++ (ch.drop (i + 1)).filter p := fun p => by rw [← List.filter_append, List.take_append_drop]
      rw [hgen, hq1, List.append_assoc]
    have hfl : ((ch.take i).filter (stayP ch black least)).length ≤ i := Nat.le_trans (List.length_filter_le _ _) (by rw [List.length_take]; omega)
    have hgl : (goodL (ch.take i) black).length ≤ i := Nat.le_trans (List.length_filter_le _ _) (by rw [List.length_take]; omega)
    have ih := stays_from ch black least hl hb hn h1 n (i + 1) k (by omega) (by omega)
    rw [hq1, hg1] at ih
    have hcon : ∀ m, slices_Contains_int_int.f (k + m) black ch[i] = some (decide (ch[i] ∈ black)) := fun m => contains_eq _ _ (by omega) (by omega)
    -- the rest of the round, whatever the count of the good ones
    have rest : ∀ g : Int, g = ((goodL (ch.take i) black ++ (if ch[i] ∈ black then [] else [ch[i]])).length : Int) → hopmeshlaw11_HopStays.j2 (k + 1 + 1) (ch.filter (stayP ch black least)) (((ch.take i).filter (stayP ch black least)).length : Int) g ch[i] ch (ch.length : Int) (i : Int) ch black least = some true := by
      intro g hg
      subst hg
      rw [hopmeshlaw11_HopStays.j2]
      by_cases q : stayP ch black least ch[i] = true
      · rw [if_pos q] at hsp ih
        have hlt : ((ch.take i).filter (stayP ch black least)).length < (ch.filter (stayP ch black least)).length := by rw [hsp]; simp
        rw [if_pos (by omega), if_pos (by omega), rdi hlt]
        have he : (ch.filter (stayP ch black least))[((ch.take i).filter (stayP ch black least)).length] = ch[i] := by
          simp only [hsp]
          rw [List.getElem_append_right (Nat.le_refl _)]
          simp
        rw [he, hopmeshlaw11_HopStays.j3, if_pos (by simp), wsucc (by omega), wsucc (by omega)]
        rw [List.length_append] at ih
        exact ih
      · rw [if_neg q, List.append_nil] at ih
        have hbk : ch[i] ∈ black := by
          by_cases hb' : ch[i] ∈ black
          · exact hb'
          · exact absurd (by unfold stayP; rw [decide_eq_true_eq]; exact .inl hb') q
        have fin : hopmeshlaw11_HopStays.j3 (k + 1) (ch.filter (stayP ch black least)) (((ch.take i).filter (stayP ch black least)).length : Int) ((goodL (ch.take i) black ++ (if ch[i] ∈ black then [] else [ch[i]])).length : Int) ch[i] ch (ch.length : Int) (i : Int) false ch black least = some true := by
          rw [hopmeshlaw11_HopStays.j3, if_neg (by simp), show k = k + 0 from rfl, hcon 0, Option.bind_some, if_pos (decide_eq_true hbk), wsucc (by omega)]
          exact ih
        by_cases hlt : (((ch.take i).filter (stayP ch black least)).length : Int) < ((ch.filter (stayP ch black least)).length : Int)
        · have hlt' : ((ch.take i).filter (stayP ch black least)).length < (ch.filter (stayP ch black least)).length := by omega
          have hm := (List.mem_filter.1 (List.getElem_mem hlt')).2
          have hne : (ch.filter (stayP ch black least))[((ch.take i).filter (stayP ch black least)).length] ≠ ch[i] := fun e => q (e ▸ hm)
          rw [if_pos hlt, if_pos (by omega), rdi hlt', beq_eq_false_iff_ne.2 hne]
          exact fin
        · rw [if_neg hlt]
          exact fin
    rw [hopmeshlaw11_HopStays.l0, if_pos (by omega), if_pos (by omega), if_pos (by omega), rdi hi, show k + 1 + 1 = k + 2 from rfl, hcon 2, Option.bind_some]
    by_cases q : ch[i] ∈ black
    · rw [if_pos (decide_eq_true q)]
      exact rest _ (by rw [if_pos q]; simp)
    · rw [if_neg (by simpa using q), wsucc (by omega)]
      exact rest _ (by rw [if_neg q]; simp)
theorem HopStays (y0_0 : (List Int)) (y0_1 : (List Int)) (y0_2 : Int) (w0_0 : (∀ y ∈ y0_0, (Lit.int .i64 y).wf = true)) (w0_1 : (∀ y ∈ y0_1, (Lit.int .i64 y).wf = true)) (w0_2 : (Lit.int .i64 y0_2).wf = true) : ∃ k, hopmeshlaw11_HopStays.f k y0_0 y0_1 y0_2 = some true := by
  refine ⟨10001, ?_⟩
  unfold hopmeshlaw11_HopStays.f hopmeshlaw11_awake.f
  rw [Option.bind_some, if_pos rfl, show (10001 : Nat) = 10000 + 1 from rfl]
  by_cases h1 : (y0_0.length : Int) > 20
  · rw [if_pos h1, hopmeshlaw11_HopStays.j0, if_pos rfl]
  rw [if_neg h1, hopmeshlaw11_HopStays.j0]
  by_cases h2 : (y0_1.length : Int) > 64
  · rw [if_pos (decide_eq_true h2)]
  rw [if_neg (by simpa using h2), Clone_eqS (show y0_0.length ≤ 1000 by omega), Option.bind_some, Clone_eqS (show y0_1.length ≤ 1000 by omega), Option.bind_some, Without_eq y0_2 (by omega) (by omega), Option.bind_some]
  unfold withoutL
  by_cases h3 : okCh y0_0 ∧ y0_1.length ≤ 64 ∧ y0_1.any badCh = false
  · rw [if_pos h3]
    by_cases h4 : 1 ≤ y0_2 ∧ y0_2 ≤ y0_0.length
    · rw [if_pos h4]
      dsimp only
      rw [if_pos rfl]
      exact stays_from y0_0 y0_1 y0_2 (by omega) (by omega) h3.1.2.2 h4.2 y0_0.length 0 10000 (by omega) (by omega)
    · rw [if_neg h4]
      rfl
  · rw [if_neg h3]
    rfl
end Go.Proofs.Ytddcacomphkeiaa.Pure
