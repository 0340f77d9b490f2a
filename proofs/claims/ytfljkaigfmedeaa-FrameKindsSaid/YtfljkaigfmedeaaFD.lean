/- A frame as a row reads it. -/
import Derived.Test.YtfljkaigfmedeaaL
import Derived.Test.YtfljkaigfmedeaaFA
namespace Go.Proofs.Ytfljkaigfmedeaa
open Go.RowKit Go.ChangeShapes Go.WideShapes Go.ChangeAt
section
variable {H : Type} {enc : TypeId × Value → H} {P : Program} {w : World} {base : Nat} {spare : Nat → Bool} {held : Bool}
theorem open_cells_sl {α : Type} {E : Enc α} {wf : α → Prop} {T e : TypeId} {fuel : Nat} {cs : List Value} {x : DataW H × List MemPlace} (hT : P.underlying T = some (.slice e)) (hC : P.cellsOf e = E.size) (ho : Opens P e E wf)
    (hf : DataW.trod enc P w base spare held fuel T cs = some x) : ∃ v, cs = [v] ∧ ∃ xs : List α, Sl w E v xs ∧ ∀ x ∈ xs, wf x := by
  rcases Go.Deep.open_slice hT hf with ⟨rfl, _⟩ | ⟨a, len, cap, m, n, D, Pl, rfl, _, hl, hm, hmm, hx0, hi⟩
  · exact ⟨_, rfl, [], Sl.nil E w, by simp⟩
  · refine ⟨_, rfl, ?_⟩
    have hlm : len ≤ m := by rw [hmm]; split <;> omega
    have each : ∀ i, i < len → ∃ y : α, wf y ∧ ∀ j u, (E.enc y)[j]? = some u → w.cell? (a.add (i * E.size + j)) = some u := by
      intro i hilt
      obtain ⟨cs', h1, h2⟩ := hi i (by omega)
      obtain ⟨y, rfl, hwf⟩ := ho H enc w base spare held n cs' _ h2
      refine ⟨y, hwf, fun j u hu => ?_⟩
      rw [hC] at h1
      obtain ⟨_, hlen, hat⟩ := World.cells?_some h1
      have hj : j < E.size := by rw [← E.len y]; exact (List.getElem?_eq_some_iff.1 hu).1
      rw [← Go.Deep.add_add, hat j hj, hu]
    have main : ∃ xs : List α, xs.length = len ∧ (∀ x ∈ xs, wf x) ∧ ∀ i x, xs[i]? = some x → ∀ j u, (E.enc x)[j]? = some u → w.cell? (a.add (i * E.size + j)) = some u := by
      clear hi hlm hmm hl hx0 hf
      induction len with
      | zero => exact ⟨[], rfl, by simp, by simp⟩
      | succ k ih =>
        obtain ⟨xs, h1, h2, h3⟩ := ih fun i hi => each i (by omega)
        obtain ⟨y, hy, hcell⟩ := each k (by omega)
        refine ⟨xs ++ [y], by simp [h1], fun x hx => ?_, fun i x hx => ?_⟩
        · rcases List.mem_append.1 hx with hx | hx
          · exact h2 x hx
          · rw [List.mem_singleton] at hx; subst hx; exact hy
        · rcases Nat.lt_or_ge i xs.length with hlt | hge
          · rw [List.getElem?_append_left hlt] at hx; exact h3 i x hx
          · rw [List.getElem?_append_right hge] at hx
            have h0 : i - xs.length = 0 := by
              rcases Nat.eq_zero_or_pos (i - xs.length) with h | h
              · exact h
              · rw [List.getElem?_eq_none (by simp; omega)] at hx; cases hx
            rw [h0] at hx
            simp only [List.getElem?_cons_zero, Option.some.injEq] at hx
            subst hx
            have : i = k := by omega
            subst this
            exact hcell
    obtain ⟨xs, h1, h2, h3⟩ := main
    refine ⟨xs, ⟨some a, cap, by rw [h1], by omega, hm, fun hne => ?_⟩, h2⟩
    rcases xs with _ | ⟨x, xs⟩
    · exact absurd rfl hne
    · have h0 := h3 0 x rfl 0 _ (List.getElem?_eq_getElem (by rw [E.len]; exact E.pos))
      simp only [Nat.zero_mul, Nat.zero_add, Addr.add_zero'] at h0
      have ha := spot_of_cell h0
      refine ⟨a.block, a.off, by rw [← ha], fun i y hy j u hu => ?_⟩
      have := h3 i y hy j u hu
      rw [ha, Addr.add_lit] at this
      rw [Nat.add_assoc]; exact this
/-- One field of a struct that is read. -/
theorem field_at {t : TypeId} {fs : Array Field} {fuel : Nat} {cs : List Value} {x : DataW H × List MemPlace} (ht : P.underlying t = some (.struct fs)) (h : DataW.trod enc P w base spare held fuel t cs = some x) {k : Nat} {f : Field} (hk : fs[k]? = some f) :
    ∃ n y, DataW.trod enc P w base spare held n f.type ((cs.drop f.offset).take (P.cellsOf f.type)) = some y := by
  obtain ⟨xs, n, _, rfl, hl, hlen, hg⟩ := DataW.trod_struct ht h
  have := hg k f hk
  have hx : k < xs.length := by have := (Array.getElem?_eq_some_iff.1 hk).1; omega
  rw [List.getElem?_eq_getElem hx] at this
  exact ⟨n, _, this⟩
theorem field_int {t : TypeId} {fs : Array Field} {fuel : Nat} {cs : List Value} {x : DataW H × List MemPlace} (ht : P.underlying t = some (.struct fs)) (h : DataW.trod enc P w base spare held fuel t cs = some x) {k : Nat} {f : Field} (hk : fs[k]? = some f) {kd : IntKind}
    (hu : P.underlying f.type = some (.int kd)) (hc : P.cellsOf f.type = 1) (hlt : f.offset < cs.length) : ∃ n, cs[f.offset]? = some (.int kd n) ∧ kd.min ≤ n ∧ n ≤ kd.max := by
  obtain ⟨n, y, h1⟩ := field_at ht h hk
  rw [hc] at h1
  obtain ⟨m, e, _, hw⟩ := DataW.trod_int hu h1
  rw [List.drop_eq_getElem_cons hlt] at e
  simp only [List.take_succ_cons, List.take_zero, List.cons.injEq, and_true] at e
  exact ⟨m, by rw [List.getElem?_eq_getElem hlt, e], by simpa [Lit.wf] using hw⟩
theorem field_sl {α : Type} {E : Enc α} {wf : α → Prop} {t e : TypeId} {fs : Array Field} {fuel : Nat} {cs : List Value} {x : DataW H × List MemPlace} (ht : P.underlying t = some (.struct fs)) (h : DataW.trod enc P w base spare held fuel t cs = some x) {k : Nat} {f : Field} (hk : fs[k]? = some f)
    (hu : P.underlying f.type = some (.slice e)) (hc : P.cellsOf f.type = 1) (hC : P.cellsOf e = E.size) (ho : Opens P e E wf) (hlt : f.offset < cs.length) : ∃ v, cs[f.offset]? = some v ∧ ∃ xs : List α, Sl w E v xs ∧ ∀ x ∈ xs, wf x := by
  obtain ⟨n, y, h1⟩ := field_at ht h hk
  rw [hc] at h1
  obtain ⟨v, e, hv⟩ := open_cells_sl hu hC ho h1
  rw [List.drop_eq_getElem_cons hlt] at e
  simp only [List.take_succ_cons, List.take_zero, List.cons.injEq, and_true] at e
  exact ⟨v, by rw [List.getElem?_eq_getElem hlt, e], hv⟩
theorem struct_len {t : TypeId} {fs : Array Field} {fuel : Nat} {cs : List Value} {x : DataW H × List MemPlace} (ht : P.underlying t = some (.struct fs)) (h : DataW.trod enc P w base spare held fuel t cs = some x) : cs.length = P.cellsOf t := by
  obtain ⟨xs, n, _, rfl, hl, hlen, hg⟩ := DataW.trod_struct ht h
  omega
theorem open_frame {T e : TypeId} {f0 f1 f2 f3 f4 : Field} {v : Value} {d : DataW H} {ps : List MemPlace} {r : Reach} {b0 : Nat} (hT : P.underlying T = some (.struct #[f0, f1, f2, f3, f4])) (hC : P.cellsOf T = 5)
    (hf : f0.offset = 0 ∧ f1.offset = 1 ∧ f2.offset = 2 ∧ f3.offset = 3 ∧ f4.offset = 4) (hc : P.cellsOf f0.type = 1 ∧ P.cellsOf f1.type = 1 ∧ P.cellsOf f2.type = 1 ∧ P.cellsOf f3.type = 1 ∧ P.cellsOf f4.type = 1 ∧ P.cellsOf e = 1)
    (h0 : P.underlying f0.type = some (.int .i64)) (h1 : P.underlying f1.type = some (.int .i64)) (h2 : P.underlying f2.type = some (.int .i64)) (h3 : P.underlying f3.type = some (.int .i64)) (h4 : P.underlying f4.type = some (.slice e)) (he : P.underlying e = some (.int .u8))
    (hv : Value.okWide P w r b0 T v) (h : DataW.Trod enc P w base spare held T v d ps) : ∃ (x : Frame) (u : Value), v = .agg #[.int .i64 x.Kind, .int .i64 x.View, .int .i64 x.Site, .int .i64 x.Seq, u] ∧ Sl w u8E u x.Body ∧ x.ok := by
  obtain ⟨cs, rfl, _⟩ := okWide_struct hT hv
  obtain ⟨fuel, hf'⟩ := h
  have hl := struct_len hT hf'
  rw [hC] at hl
  obtain ⟨o0, o1, o2, o3, o4⟩ := hf
  obtain ⟨c0, c1, c2, c3, c4, ce⟩ := hc
  obtain ⟨n0, e0, w0⟩ := field_int hT hf' (k := 0) (f := f0) rfl h0 c0 (by omega)
  obtain ⟨n1, e1, w1⟩ := field_int hT hf' (k := 1) (f := f1) rfl h1 c1 (by omega)
  obtain ⟨n2, e2, w2⟩ := field_int hT hf' (k := 2) (f := f2) rfl h2 c2 (by omega)
  obtain ⟨n3, e3, w3⟩ := field_int hT hf' (k := 3) (f := f3) rfl h3 c3 (by omega)
  obtain ⟨u, e4, xs, hs, _⟩ := field_sl (E := u8E) hT hf' (k := 4) (f := f4) rfl h4 c4 ce (opens_u8 he) (by omega)
  rw [o0] at e0; rw [o1] at e1; rw [o2] at e2; rw [o3] at e3; rw [o4] at e4
  refine ⟨⟨n0, n1, n2, n3, xs⟩, u, ?_, hs, i64R_of w0, i64R_of w1, i64R_of w2, i64R_of w3⟩
  congr 1
  apply Array.toList_inj.1
  simp only [Value.cells] at e0 e1 e2 e3 e4 hl
  apply List.ext_getElem?
  intro i
  match i with
  | 0 => rw [e0]; rfl
  | 1 => rw [e1]; rfl
  | 2 => rw [e2]; rfl
  | 3 => rw [e3]; rfl
  | 4 => rw [e4]; rfl
  | i + 5 => rw [List.getElem?_eq_none (by omega)]; rfl
end
end Go.Proofs.Ytfljkaigfmedeaa
