/- From a row's reading of its arguments to the words of the walks, and back. -/
import Derived.Test.YthanfecefjfbjaaB
import Derived.ProofKit
import Derived.Deep.Slices
import Derived.ChangeSame
namespace Go.Proofs.Ythanfecefjfbjaa
open Go.RowKit Go.ChangeShapes Go.WideShapes Go.ChangeAt

section
variable {H : Type} {enc : TypeId × Value → H} {P : Program} {w : World} {base : Nat} {spare : Nat → Bool} {held : Bool}

/-- A type whose readable cells are those of a plain datum. -/
def Opens {α : Type} (P : Program) (t : TypeId) (E : Enc α) (wf : α → Prop) : Prop :=
  ∀ (H : Type) (enc : TypeId × Value → H) (w : World) (base : Nat) (spare : Nat → Bool) (held : Bool) (fuel : Nat) (cs : List Value) (x : DataW H × List MemPlace),
    DataW.trod enc P w base spare held fuel t cs = some x → ∃ y : α, cs = E.enc y ∧ wf y

theorem opens_int {t : TypeId} {k : IntKind} (ht : P.underlying t = some (.int k)) : Opens P t (intE k) (fun n => k.min ≤ n ∧ n ≤ k.max) := by
  intro H enc w base spare held fuel cs x h
  obtain ⟨n, rfl, _, hw⟩ := DataW.trod_int ht h
  exact ⟨n, rfl, by simpa [Lit.wf] using hw⟩
theorem opens_u8 {t : TypeId} (ht : P.underlying t = some (.int .u8)) : Opens P t u8E (fun _ => True) := by
  intro H enc w base spare held fuel cs x h
  obtain ⟨n, rfl, _, hw⟩ := DataW.trod_int ht h
  have hb : 0 ≤ n ∧ n ≤ 255 := by
    simp only [Lit.wf, Bool.and_eq_true, decide_eq_true_eq] at hw
    have h1 : IntKind.u8.min = 0 := by decide
    have h2 : IntKind.u8.max = 255 := by decide
    rw [h1, h2] at hw; exact hw
  exact ⟨byt n, by simp only [u8E]; rw [byt_toNat hb.1 hb.2], trivial⟩

theorem spot_of_cell {a : Addr} {v : Value} (h : w.cell? a = some v) : a = ⟨a.block, a.off, none⟩ := by
  obtain ⟨b, o, s⟩ := a
  cases s with
  | none => rfl
  | some x =>
    exfalso
    unfold World.cell? at h
    split at h <;> simp at h

theorem open_sl {α : Type} {E : Enc α} {wf : α → Prop} {T e : TypeId} {v : Value} {d : DataW H} {ps : List MemPlace} {r : Reach} {b0 : Nat} (hT : P.underlying T = some (.slice e)) (hC : P.cellsOf e = E.size) (ho : Opens P e E wf)
    (hv : Value.okWide P w r b0 T v) (h : DataW.Trod enc P w base spare held T v d ps) : ∃ xs : List α, Sl w E v xs ∧ ∀ x ∈ xs, wf x := by
  obtain ⟨a0, len0, cap0, rfl⟩ := okWide_slice hT hv
  obtain ⟨fuel, hf⟩ := h
  rcases Go.Deep.open_slice hT hf with ⟨hc, _⟩ | ⟨a, len, cap, m, n, D, Pl, hc, _, hl, hm, hmm, hx0, hi⟩
  · simp only [Value.cells, List.cons.injEq, and_true] at hc
    rw [hc]
    exact ⟨[], Sl.nil E w, by simp⟩
  · simp only [Value.cells, List.cons.injEq, and_true] at hc
    rw [hc]
    have hlm : len ≤ m := by rw [hmm]; split <;> omega
    -- the elements
    have each : ∀ i, i < len → ∃ y : α, wf y ∧ ∀ j u, (E.enc y)[j]? = some u → w.cell? (a.add (i * E.size + j)) = some u := by
      intro i hilt
      obtain ⟨cs', h1, h2⟩ := hi i (by omega)
      obtain ⟨y, rfl, hwf⟩ := ho H enc w base spare held n cs' _ h2
      refine ⟨y, hwf, fun j u hu => ?_⟩
      rw [hC] at h1
      obtain ⟨_, hlen, hat⟩ := World.cells?_some h1
      have hj : j < E.size := by rw [← E.len y]; exact (List.getElem?_eq_some_iff.1 hu).1
      rw [← Go.Deep.add_add, hat j hj, hu]
    have main : ∃ xs : List α, xs.length = len ∧ (∀ x ∈ xs, wf x) ∧ ∀ i x, xs[i]? = some x → ∀ j u, (E.enc x)[j]? = some u → w.cell? (a.add (i * E.size + j)) = some u := by
      clear hc hi hlm hmm hl hx0
      induction len with
      | zero => exact ⟨[], rfl, by simp, by simp⟩
      | succ k ih =>
        obtain ⟨xs, h1, h2, h3⟩ := ih fun i hi => each i (by omega)
        obtain ⟨y, hy, hcell⟩ := each k (by omega)
        refine ⟨xs ++ [y], by simp [h1], fun x hx => ?_, fun i x hx => ?_⟩
        · rcases List.mem_append.1 hx with hx | hx
          · exact h2 x hx
          · rw [List.mem_singleton] at hx; subst hx; exact hy
        · rcases Nat.lt_or_ge i xs.length with hlt | hge
          · rw [List.getElem?_append_left hlt] at hx; exact h3 i x hx
          · rw [List.getElem?_append_right hge] at hx
            have h0 : i - xs.length = 0 := by
              rcases Nat.eq_zero_or_pos (i - xs.length) with h | h
              · exact h
              · rw [List.getElem?_eq_none (by simp; omega)] at hx; cases hx
            rw [h0] at hx
            simp only [List.getElem?_cons_zero, Option.some.injEq] at hx
            subst hx
            have : i = k := by omega
            subst this
            exact hcell
    obtain ⟨xs, h1, h2, h3⟩ := main
    refine ⟨xs, ⟨some a, cap, by rw [h1], by omega, hm, fun hne => ?_⟩, h2⟩
    rcases xs with _ | ⟨x, xs⟩
    · exact absurd rfl hne
    · have h0 := h3 0 x rfl 0 _ (List.getElem?_eq_getElem (by rw [E.len]; exact E.pos))
      simp only [Nat.zero_mul, Nat.zero_add, Addr.add_zero'] at h0
      have ha := spot_of_cell h0
      refine ⟨a.block, a.off, by rw [← ha], fun i y hy j u hu => ?_⟩
      have := h3 i y hy j u hu
      rw [ha, Addr.add_lit] at this
      rw [Nat.add_assoc]; exact this
end

theorem wf_bi64 {n : Int} (h : (Lit.int .i64 n).wf = true) : -9223372036854775808 ≤ n ∧ n ≤ 9223372036854775807 := by
  simp only [Lit.wf, Bool.and_eq_true, decide_eq_true_eq] at h
  have h1 : IntKind.i64.min = -9223372036854775808 := by decide
  have h2 : IntKind.i64.max = 9223372036854775807 := by decide
  rw [h1, h2] at h; exact h
theorem wf_bu64 {n : Int} (h : (Lit.int .u64 n).wf = true) : 0 ≤ n ∧ n ≤ 18446744073709551615 := by
  simp only [Lit.wf, Bool.and_eq_true, decide_eq_true_eq] at h
  have h1 : IntKind.u64.min = 0 := by decide
  have h2 : IntKind.u64.max = 18446744073709551615 := by decide
  rw [h1, h2] at h; exact h
theorem wf_bu32 {n : Int} (h : (Lit.int .u32 n).wf = true) : 0 ≤ n ∧ n ≤ 4294967295 := by
  simp only [Lit.wf, Bool.and_eq_true, decide_eq_true_eq] at h
  have h1 : IntKind.u32.min = 0 := by decide
  have h2 : IntKind.u32.max = 4294967295 := by decide
  rw [h1, h2] at h; exact h
theorem wf_bu8 {n : Int} (h : (Lit.int .u8 n).wf = true) : 0 ≤ n ∧ n ≤ 255 := by
  simp only [Lit.wf, Bool.and_eq_true, decide_eq_true_eq] at h
  have h1 : IntKind.u8.min = 0 := by decide
  have h2 : IntKind.u8.max = 255 := by decide
  rw [h1, h2] at h; exact h
/-! ### The end of a law's row -/
section
variable {H : Type} {enc : TypeId × Value → H} {P : Program}
theorem trodAll_kept (hl : laidOutB P = true) {W W' : World} {sp : Nat → Bool} : ∀ {ts : List TypeId} {vs : List Value} {ds : List (DataW H)} {ps : List MemPlace}, (ts.all fun t => P.readableRec t && decide (t < P.types.size)) = true →
    DataW.TrodAll enc P W 0 (fun _ => true) true ts vs ds ps → (∀ p ∈ ps, W.sameAt W' p) → (∀ p ∈ ps, sp p.block = true) → DataW.TrodAll enc P W' 0 sp true ts vs ds ps
  | [], vs, ds, ps, _, h, _, _ => by
    obtain ⟨rfl, rfl, rfl⟩ := trodAll_nil h
    exact trodAll_mk0
  | t :: ts, vs, ds, ps, ht, h, hs, hp => by
    obtain ⟨v, vs', d, ds', p, q, rfl, rfl, rfl, h1, h2⟩ := trodAll_cons h
    simp only [List.all_cons, Bool.and_eq_true, decide_eq_true_eq] at ht
    exact ⟨p, q, Go.WideElems.Trod_stays hl ht.1.1 ht.1.2 h1 (fun x hx => hs x (by simp [hx])) (fun x hx => hp x (by simp [hx])),
      trodAll_kept hl ht.2 h2 (fun x hx => hs x (by simp [hx])) (fun x hx => hp x (by simp [hx])), rfl⟩

theorem law_post {f : Func} {s : ChangeSpec} {apart fresh handsOn again : Bool} {W W' : World} {args : Array Value} {ds gs : List (DataW H)} {before : List MemPlace} {tb : TypeId} (hl : laidOutB P = true)
    (hr : (f.params.toList.all fun t => P.readableRec t && decide (t < P.types.size)) = true) (hrt : f.resultTypes = #[tb]) (hb : P.underlying tb = some .bool) (hv : s.vars = [])
    (hs : (s.fn H ds).results = [.lit (.bool true)] ∧ (s.fn H ds).args = ds ∧ (s.fn H ds).vars = [])
    (hW : DataW.Whole enc P f.params.toList s.vars apart W args.toList ds gs before) (hbel : Below W.heap.size W W') :
    s.post enc P f apart fresh handsOn again W args (.bool true) W' := by
  have hlt : ∀ p ∈ before, p.block < W.heap.size := fun p hp => hW.lt p hp
  have hW0 := hW
  obtain ⟨p, q, hA, hV, hpq, hz, hn⟩ := hW
  rw [hv] at hV
  obtain ⟨rfl, rfl⟩ := trodVars_none hV
  rw [List.append_nil] at hpq
  subst hpq
  obtain ⟨hs1, hs2, hs3⟩ := hs
  have hold : ∀ x ∈ before, (fun b => decide (b < W.heap.size)) x.block = true := fun x hx => by simpa using hlt x hx
  have hargs : ∀ sp : Nat → Bool, (∀ x ∈ before, sp x.block = true) → DataW.TrodAll enc P W' 0 sp true f.params.toList args.toList (s.fn H (ds ++ [])).args before := fun sp hsp => by
    rw [List.append_nil, hs2]
    exact trodAll_kept hl hr hA (fun x hx => hbel.same (hlt x hx)) hsp
  have hres : ∀ (b : Nat) (sp : Nat → Bool) (hd : Bool), DataW.TrodAll enc P W' b sp hd f.resultTypes.toList ((Value.bool true).resultList f.resultTypes.size) (s.fn H (ds ++ [])).results [] := fun b sp hd => by
    rw [List.append_nil, hs1, hrt]
    exact trodAll_mk1 (shut_bool hb true)
  have hvars : ∀ sp : Nat → Bool, DataW.TrodVars enc P W' sp s.vars (s.fn H (ds ++ [])).vars [] := fun sp => by
    rw [List.append_nil, hs3, hv]
    rfl
  have hok : ∀ (j : Nat) (t : TypeId) (r : Value), f.resultTypes[j]? = some t → ((Value.bool true).resultList f.resultTypes.size)[j]? = some r → Value.okWide P W' .any 0 t r := by
    rw [hrt]
    exact ok_one hrt rfl (okWide_bool_mk hb true) |> fun h => by simpa [hrt] using h
  refine ⟨ds, [], before, [], before, [], hW0, hres _ _ _, hargs _ hold, hvars _, World.keptBut_mono (fun x hx => ⟨hx, ?_⟩) (hbel.frame (· ∈ before)), fun _ => ?_⟩
  · exact Or.inr (Or.inl hx)
  · refine ⟨hok, _, _, ([] ++ before) ++ [], ⟨[] ++ before, [], trodAll_append (hargs _ (fun _ _ => rfl)) (hres _ _ _), hvars _, rfl, ?_, ?_⟩, ?_⟩
    · intro b off hp
      have hin : MemPlace.cell b off ∈ before := by simpa using hp
      rw [hbel.frozen (hlt _ hin)]
      exact hz b off hin
    · intro ha
      simpa using hn ha
    · intro x hx _
      simpa using hx
end
end Go.Proofs.Ythanfecefjfbjaa
