/- Arguments that came in, read as lists and records of the printed texts' kinds. By this session. -/
import Derived.Test.YtcdgpnjlaicbcaaPAx0
import Derived.Deep.Slices
import Derived.WideShapes
namespace Go.Proofs.Ytcdgpnjlaicbcaa.Opn
open Go.ChangeShapes Go.WideShapes Go.RowKit Go.Deep Go.Proofs.YtcdgpnjlaicbcaaW.PrintWords Go.Proofs.YtcdgpnjlaicbcaaW.PrintLast Go.Proofs.YtcdgpnjlaicbcaaW.PrintMore Go.Proofs.Ytcdgpnjlaicbcaa.PA
/-- What is read at type t is an x of the kind d, and of it G holds. -/
def Opens {α : Type} (P : Program) (t : TypeId) (d : Kd α) (G : α → Prop) : Prop :=
  ∀ (W : World) {H : Type} (enc : TypeId × Value → H) (fuel : Nat) (cs : List Value) (x : DataW H × List MemPlace), DataW.trod enc P W 0 (fun _ => true) true fuel t cs = some x → ∃ y, d.K W y cs ∧ G y
theorem okWide_array {P : Program} {w : World} {r : Reach} {base : Nat} {t : TypeId} {v : Value} {n : Nat} {e : TypeId} (ht : P.underlying t = some (.array n e)) (h : Value.okWide P w r base t v) : ∃ cs, v = .agg cs ∧ cs.size = P.cellsOf t := by
  simp only [Value.okWide, ht] at h
  obtain ⟨cs, h1, h2, _⟩ := h
  exact ⟨cs, h1, h2⟩
theorem opens_int {P : Program} {t : TypeId} {k : IntKind} (ht : P.underlying t = some (.int k)) : Opens P t (Kd.int k) (fun n => (Lit.int k n).wf = true) := by
  intro W H enc fuel cs x h
  obtain ⟨n, rfl, _, hw⟩ := DataW.trod_int ht h
  exact ⟨n, rfl, hw⟩
theorem opens_bool {P : Program} {t : TypeId} (ht : P.underlying t = some .bool) : Opens P t Kd.bool (fun _ => True) := by
  intro W H enc fuel cs x h
  obtain ⟨b, rfl, _⟩ := DataW.trod_bool ht h
  exact ⟨b, rfl, trivial⟩
theorem opens_slice {α : Type} {P : Program} {t e : TypeId} {d : Kd α} {G : α → Prop} (ht : P.underlying t = some (.slice e)) (hC : P.cellsOf e = d.sz) (he : Opens P e d G) :
    Opens P t (Kd.slice e d) (fun xs => ∀ x ∈ xs, G x) := by
  intro W H enc fuel cs x h
  rcases open_slice ht h with ⟨rfl, _⟩ | ⟨a, len, cap, m, n, D, Pl, rfl, _, hl, hmax, hm, _, hi⟩
  · exact ⟨[], ⟨none, 0, rfl, Nat.le_refl _, ⟨rfl, Nat.zero_le _, fun h0 => absurd h0 (by simp)⟩⟩, by simp⟩
  · rw [if_pos rfl] at hm
    subst hm
    have hel : ∀ i, i < len → ∃ y c, d.K W y c ∧ G y ∧ ∀ j u, c[j]? = some u → W.cell? (a.add (i * d.sz + j)) = some u := by
      intro i hlt
      obtain ⟨c, hc, htr⟩ := hi i (by omega)
      obtain ⟨y, hK, hG⟩ := he W enc n c _ htr
      refine ⟨y, c, hK, hG, fun j u hu => ?_⟩
      rw [hC] at hc
      obtain ⟨_, hcl, hat⟩ := World.cells?_some hc
      have hj : j < d.sz := by rw [← d.K_len hK]; exact (List.getElem?_eq_some_iff.1 hu).1
      rw [← Go.Deep.add_add, hat j hj, hu]
    have hall : ∀ q, q ≤ len → ∃ ys : List α, ys.length = q ∧ (∀ y ∈ ys, G y) ∧ ∀ j p, ys[j]? = some p → ∃ c, c.length = d.sz ∧ d.K W p c ∧ ∀ i u, c[i]? = some u → W.cell? (a.add (j * d.sz + i)) = some u := by
      intro q
      induction q with
      | zero => intro _; exact ⟨[], rfl, by simp, fun j p h => by simp at h⟩
      | succ q ih =>
        intro hq
        obtain ⟨ys, h1, h2, h3⟩ := ih (by omega)
        obtain ⟨y, c, hK, hG, hc⟩ := hel q (by omega)
        refine ⟨ys ++ [y], by simp [h1], fun z hz => ?_, fun j p hj => ?_⟩
        · rcases List.mem_append.1 hz with hz | hz
          · exact h2 z hz
          · rw [List.mem_singleton.1 hz]; exact hG
        · rcases Nat.lt_or_ge j q with hlt | hge
          · rw [List.getElem?_append_left (by omega)] at hj
            exact h3 j p hj
          · have hlt := (List.getElem?_eq_some_iff.1 hj).1
            have : j = q := by simp [h1] at hlt; omega
            subst this
            rw [List.getElem?_append_right (by omega), h1, Nat.sub_self] at hj
            obtain rfl : y = p := by simpa using hj
            exact ⟨c, d.K_len hK, hK, hc⟩
    obtain ⟨ys, h1, h2, h3⟩ := hall len (Nat.le_refl _)
    refine ⟨ys, ⟨some a, _, by rw [h1], by omega, ⟨rfl, by unfold maxLen at hmax; omega, fun _ => ⟨a, rfl, h3⟩⟩⟩, h2⟩
theorem cells1 {l : List Value} (h : l.length = 1) : ∃ c0, l = [c0] :=
  match l, h with
  | [c0], _ => ⟨c0, rfl⟩
theorem cells2 {l : List Value} (h : l.length = 2) : ∃ c0 c1, l = [c0, c1] :=
  match l, h with
  | [c0, c1], _ => ⟨c0, c1, rfl⟩
theorem cells3 {l : List Value} (h : l.length = 3) : ∃ c0 c1 c2, l = [c0, c1, c2] :=
  match l, h with
  | [c0, c1, c2], _ => ⟨c0, c1, c2, rfl⟩
theorem cells4 {l : List Value} (h : l.length = 4) : ∃ c0 c1 c2 c3, l = [c0, c1, c2, c3] :=
  match l, h with
  | [c0, c1, c2, c3], _ => ⟨c0, c1, c2, c3, rfl⟩
theorem cells5 {l : List Value} (h : l.length = 5) : ∃ c0 c1 c2 c3 c4, l = [c0, c1, c2, c3, c4] :=
  match l, h with
  | [c0, c1, c2, c3, c4], _ => ⟨c0, c1, c2, c3, c4, rfl⟩
theorem cells6 {l : List Value} (h : l.length = 6) : ∃ c0 c1 c2 c3 c4 c5, l = [c0, c1, c2, c3, c4, c5] :=
  match l, h with
  | [c0, c1, c2, c3, c4, c5], _ => ⟨c0, c1, c2, c3, c4, c5, rfl⟩
theorem cells7 {l : List Value} (h : l.length = 7) : ∃ c0 c1 c2 c3 c4 c5 c6, l = [c0, c1, c2, c3, c4, c5, c6] :=
  match l, h with
  | [c0, c1, c2, c3, c4, c5, c6], _ => ⟨c0, c1, c2, c3, c4, c5, c6, rfl⟩
theorem cells8 {l : List Value} (h : l.length = 8) : ∃ c0 c1 c2 c3 c4 c5 c6 c7, l = [c0, c1, c2, c3, c4, c5, c6, c7] :=
  match l, h with
  | [c0, c1, c2, c3, c4, c5, c6, c7], _ => ⟨c0, c1, c2, c3, c4, c5, c6, c7, rfl⟩
theorem opens28 : Opens Try.prog 28 k28 (fun x => (Lit.int .i64 x.f0).wf = true ∧ (Lit.int .i64 x.f1).wf = true) := by
  intro W H enc fuel cs x h
  obtain ⟨xs, n, rfl, rfl, hlen, hxs, hf⟩ := DataW.trod_struct Try.underlying28 h
  rw [show Try.prog.cellsOf 28 = 2 from by kernel_rfl] at hlen
  replace hxs : xs.length = 2 := hxs
  match cs, hlen with
  | [c0, c1], _ =>
    obtain ⟨z0, hz0⟩ : ∃ z, xs[0]? = some z := ⟨_, List.getElem?_eq_getElem (by omega)⟩
    obtain ⟨y0, K0, G0⟩ := (opens_int Try.underlying3) W enc n [c0] z0 ((hf 0 _ rfl).trans hz0)
    obtain ⟨z1, hz1⟩ : ∃ z, xs[1]? = some z := ⟨_, List.getElem?_eq_getElem (by omega)⟩
    obtain ⟨y1, K1, G1⟩ := (opens_int Try.underlying3) W enc n [c1] z1 ((hf 1 _ rfl).trans hz1)
    exact ⟨⟨y0, y1⟩, ⟨[c0], [c1], rfl, K0, K1⟩, ⟨G0, G1⟩⟩
end Go.Proofs.Ytcdgpnjlaicbcaa.Opn
