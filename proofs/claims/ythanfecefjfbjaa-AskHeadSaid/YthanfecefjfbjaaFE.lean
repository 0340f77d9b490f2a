/- A struct with slices as a row reads it. -/
import Derived.Test.YthanfecefjfbjaaL
import Derived.Test.YthanfecefjfbjaaJ
namespace Go.Proofs.Ythanfecefjfbjaa
open Go.RowKit Go.ChangeShapes Go.WideShapes Go.ChangeAt
section
variable {H : Type} {enc : TypeId × Value → H} {P : Program} {w : World} {base : Nat} {spare : Nat → Bool} {held : Bool}
theorem open_cells_sl {α : Type} {E : Enc α} {wf : α → Prop} {T e : TypeId} {fuel : Nat} {cs : List Value} {x : DataW H × List MemPlace} (hT : P.underlying T = some (.slice e)) (hC : P.cellsOf e = E.size) (ho : Opens P e E wf)
    (hf : DataW.trod enc P w base spare held fuel T cs = some x) : ∃ v, cs = [v] ∧ ∃ xs : List α, Sl w E v xs ∧ ∀ x ∈ xs, wf x := by
  rcases Go.Deep.open_slice hT hf with ⟨rfl, _⟩ | ⟨a, len, cap, m, n, D, Pl, rfl, _, hl, hm, hmm, hx0, hi⟩
  · exact ⟨_, rfl, [], Sl.nil E w, by simp⟩
  · refine ⟨_, rfl, ?_⟩
    have hlm : len ≤ m := by rw [hmm]; split <;> omega
    have each : ∀ i, i < len → ∃ y : α, wf y ∧ ∀ j u, (E.enc y)[j]? = some u → w.cell? (a.add (i * E.size + j)) = some u := by
      intro i hilt
      obtain ⟨cs', h1, h2⟩ := hi i (by omega)
      obtain ⟨y, rfl, hwf⟩ := ho H enc w base spare held n cs' _ h2
      refine ⟨y, hwf, fun j u hu => ?_⟩
      rw [hC] at h1
      obtain ⟨_, hlen, hat⟩ := World.cells?_some h1
      have hj : j < E.size := by rw [← E.len y]; exact (List.getElem?_eq_some_iff.1 hu).1
      rw [← Go.Deep.add_add, hat j hj, hu]
    have main : ∃ xs : List α, xs.length = len ∧ (∀ x ∈ xs, wf x) ∧ ∀ i x, xs[i]? = some x → ∀ j u, (E.enc x)[j]? = some u → w.cell? (a.add (i * E.size + j)) = some u := by
      clear hi hlm hmm hl hx0 hf
      induction len with
      | zero => exact ⟨[], rfl, by simp, by simp⟩
      | succ k ih =>
        obtain ⟨xs, h1, h2, h3⟩ := ih fun i hi => each i (by omega)
        obtain ⟨y, hy, hcell⟩ := each k (by omega)
        refine ⟨xs ++ [y], by simp [h1], fun x hx => ?_, fun i x hx => ?_⟩
        · rcases List.mem_append.1 hx with hx | hx
          · exact h2 x hx
          · rw [List.mem_singleton] at hx; subst hx; exact hy
        · rcases Nat.lt_or_ge i xs.length with hlt | hge
          · rw [List.getElem?_append_left hlt] at hx; exact h3 i x hx
          · rw [List.getElem?_append_right hge] at hx
            have h0 : i - xs.length = 0 := by
              rcases Nat.eq_zero_or_pos (i - xs.length) with h | h
              · exact h
              · rw [List.getElem?_eq_none (by simp; omega)] at hx; cases hx
            rw [h0] at hx
            simp only [List.getElem?_cons_zero, Option.some.injEq] at hx
            subst hx
            have : i = k := by omega
            subst this
            exact hcell
    obtain ⟨xs, h1, h2, h3⟩ := main
    refine ⟨xs, ⟨some a, cap, by rw [h1], by omega, hm, fun hne => ?_⟩, h2⟩
    rcases xs with _ | ⟨x, xs⟩
    · exact absurd rfl hne
    · have h0 := h3 0 x rfl 0 _ (List.getElem?_eq_getElem (by rw [E.len]; exact E.pos))
      simp only [Nat.zero_mul, Nat.zero_add, Addr.add_zero'] at h0
      have ha := spot_of_cell h0
      refine ⟨a.block, a.off, by rw [← ha], fun i y hy j u hu => ?_⟩
      have := h3 i y hy j u hu
      rw [ha, Addr.add_lit] at this
      rw [Nat.add_assoc]; exact this
/-- One field of a struct that is read. -/
theorem field_at {t : TypeId} {fs : Array Field} {fuel : Nat} {cs : List Value} {x : DataW H × List MemPlace} (ht : P.underlying t = some (.struct fs)) (h : DataW.trod enc P w base spare held fuel t cs = some x) {k : Nat} {f : Field} (hk : fs[k]? = some f) :
    ∃ n y, DataW.trod enc P w base spare held n f.type ((cs.drop f.offset).take (P.cellsOf f.type)) = some y := by
  obtain ⟨xs, n, _, rfl, hl, hlen, hg⟩ := DataW.trod_struct ht h
  have := hg k f hk
  have hx : k < xs.length := by have := (Array.getElem?_eq_some_iff.1 hk).1; omega
  rw [List.getElem?_eq_getElem hx] at this
  exact ⟨n, _, this⟩
theorem field_int {t : TypeId} {fs : Array Field} {fuel : Nat} {cs : List Value} {x : DataW H × List MemPlace} (ht : P.underlying t = some (.struct fs)) (h : DataW.trod enc P w base spare held fuel t cs = some x) {k : Nat} {f : Field} (hk : fs[k]? = some f) {kd : IntKind}
    (hu : P.underlying f.type = some (.int kd)) (hc : P.cellsOf f.type = 1) (hlt : f.offset < cs.length) : ∃ n, cs[f.offset]? = some (.int kd n) ∧ kd.min ≤ n ∧ n ≤ kd.max := by
  obtain ⟨n, y, h1⟩ := field_at ht h hk
  rw [hc] at h1
  obtain ⟨m, e, _, hw⟩ := DataW.trod_int hu h1
  rw [List.drop_eq_getElem_cons hlt] at e
  simp only [List.take_succ_cons, List.take_zero, List.cons.injEq, and_true] at e
  exact ⟨m, by rw [List.getElem?_eq_getElem hlt, e], by simpa [Lit.wf] using hw⟩
theorem field_sl {α : Type} {E : Enc α} {wf : α → Prop} {t e : TypeId} {fs : Array Field} {fuel : Nat} {cs : List Value} {x : DataW H × List MemPlace} (ht : P.underlying t = some (.struct fs)) (h : DataW.trod enc P w base spare held fuel t cs = some x) {k : Nat} {f : Field} (hk : fs[k]? = some f)
    (hu : P.underlying f.type = some (.slice e)) (hc : P.cellsOf f.type = 1) (hC : P.cellsOf e = E.size) (ho : Opens P e E wf) (hlt : f.offset < cs.length) : ∃ v, cs[f.offset]? = some v ∧ ∃ xs : List α, Sl w E v xs ∧ ∀ x ∈ xs, wf x := by
  obtain ⟨n, y, h1⟩ := field_at ht h hk
  rw [hc] at h1
  obtain ⟨v, e, hv⟩ := open_cells_sl hu hC ho h1
  rw [List.drop_eq_getElem_cons hlt] at e
  simp only [List.take_succ_cons, List.take_zero, List.cons.injEq, and_true] at e
  exact ⟨v, by rw [List.getElem?_eq_getElem hlt, e], hv⟩
theorem struct_len {t : TypeId} {fs : Array Field} {fuel : Nat} {cs : List Value} {x : DataW H × List MemPlace} (ht : P.underlying t = some (.struct fs)) (h : DataW.trod enc P w base spare held fuel t cs = some x) : cs.length = P.cellsOf t := by
  obtain ⟨xs, n, _, rfl, hl, hlen, hg⟩ := DataW.trod_struct ht h
  omega
end
end Go.Proofs.Ythanfecefjfbjaa
