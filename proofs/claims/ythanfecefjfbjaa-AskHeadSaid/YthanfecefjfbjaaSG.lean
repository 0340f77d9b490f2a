/- Segments: how they read, which may be. -/
import Derived.Test.YthanfecefjfbjaaJ
import Derived.Test.YthanfecefjfbjaaFE
import Derived.Test.YthanfecefjfbjaaTG
namespace Go.Proofs.Ythanfecefjfbjaa
open Go.RowKit Go.ChangeShapes Go.WideShapes Go.ChangeAt
/-- A value of one cell. -/
abbrev OneV := {v : Value // v.oneCell' = true}
def nilV : OneV := ⟨.slice none 0 0, rfl⟩
structure SegD where
  Id : Int
  Tier : Int
  From : Int
  To : Int
  Samples : List Sample
  Aggs : List Agg
  deriving DecidableEq
/-- A segment, and where its samples and its aggregates lie. -/
structure Seg where
  d : SegD
  sv : OneV
  av : OneV
def segE : Enc Seg := ⟨6, fun s => [.int .i64 s.d.Id, .int .i64 s.d.Tier, .int .i64 s.d.From, .int .i64 s.d.To, s.sv.1, s.av.1], fun _ => rfl, by decide,
  fun s u hu => by simp at hu; rcases hu with rfl | rfl | rfl | rfl | rfl | rfl <;> first | rfl | exact s.sv.2 | exact s.av.2⟩
def SegIn (w : World) (s : Seg) : Prop := Sl w sampE s.sv.1 s.d.Samples ∧ Sl w aggE s.av.1 s.d.Aggs
def SegsIn (w : World) (l : List Seg) : Prop := ∀ s ∈ l, SegIn w s
theorem SegIn.below {w w' : World} {s : Seg} (h : SegIn w s) (hb : Below w.heap.size w w') : SegIn w' s := ⟨h.1.below hb, h.2.below hb⟩
theorem SegsIn.below {w w' : World} {l : List Seg} (h : SegsIn w l) (hb : Below w.heap.size w w') : SegsIn w' l := fun s hs => (h s hs).below hb
theorem segsIn_nil (w : World) : SegsIn w [] := fun s h => nomatch h
theorem segsIn_one {w : World} {a : Seg} (h : SegIn w a) : SegsIn w [a] := fun s hs => by obtain rfl := List.mem_singleton.1 hs; exact h
theorem segsIn_two {w : World} {a b : Seg} (h : SegIn w a) (h' : SegIn w b) : SegsIn w [a, b] := fun s hs => by
  rcases List.mem_cons.1 hs with rfl | hs
  · exact h
  · obtain rfl := List.mem_singleton.1 hs; exact h'
abbrev SegD.ok (s : SegD) : Prop := i64R s.Id ∧ i64R s.Tier ∧ i64R s.From ∧ i64R s.To ∧ (∀ x ∈ s.Samples, x.ok) ∧ (∀ x ∈ s.Aggs, x.ok)
section
variable {P : Program} {H : Type} {enc : TypeId × Value → H} {w : World} {base : Nat} {spare : Nat → Bool} {held : Bool}
theorem open_seg {T e e' : TypeId} {f0 f1 f2 f3 f4 f5 : Field} {v : Value} {d : DataW H} {ps : List MemPlace} {r : Reach} {b0 : Nat} (hT : P.underlying T = some (.struct #[f0, f1, f2, f3, f4, f5])) (hC : P.cellsOf T = 6)
    (hf : f0.offset = 0 ∧ f1.offset = 1 ∧ f2.offset = 2 ∧ f3.offset = 3 ∧ f4.offset = 4 ∧ f5.offset = 5) (hc : P.cellsOf f0.type = 1 ∧ P.cellsOf f1.type = 1 ∧ P.cellsOf f2.type = 1 ∧ P.cellsOf f3.type = 1 ∧ P.cellsOf f4.type = 1 ∧ P.cellsOf f5.type = 1 ∧ P.cellsOf e = 2 ∧ P.cellsOf e' = 7)
    (h0 : P.underlying f0.type = some (.int .i64)) (h1 : P.underlying f1.type = some (.int .i64)) (h2 : P.underlying f2.type = some (.int .i64)) (h3 : P.underlying f3.type = some (.int .i64)) (h4 : P.underlying f4.type = some (.slice e)) (h5 : P.underlying f5.type = some (.slice e')) (he : Opens P e sampE Sample.ok) (he' : Opens P e' aggE Agg.ok)
    (hv : Value.okWide P w r b0 T v) (h : DataW.Trod enc P w base spare held T v d ps) : ∃ x : Seg, v = .agg #[.int .i64 x.d.Id, .int .i64 x.d.Tier, .int .i64 x.d.From, .int .i64 x.d.To, x.sv.1, x.av.1] ∧ SegIn w x ∧ x.d.ok := by
  obtain ⟨cs, rfl, _⟩ := okWide_struct hT hv
  obtain ⟨fuel, hf'⟩ := h
  have hl := struct_len hT hf'
  rw [hC] at hl
  obtain ⟨o0, o1, o2, o3, o4, o5⟩ := hf
  obtain ⟨c0, c1, c2, c3, c4, c5, ce, ce'⟩ := hc
  obtain ⟨n0, e0, w0⟩ := field_int hT hf' (k := 0) (f := f0) rfl h0 c0 (by omega)
  obtain ⟨n1, e1, w1⟩ := field_int hT hf' (k := 1) (f := f1) rfl h1 c1 (by omega)
  obtain ⟨n2, e2, w2⟩ := field_int hT hf' (k := 2) (f := f2) rfl h2 c2 (by omega)
  obtain ⟨n3, e3, w3⟩ := field_int hT hf' (k := 3) (f := f3) rfl h3 c3 (by omega)
  obtain ⟨u, e4, xs, hs, hxo⟩ := field_sl (E := sampE) hT hf' (k := 4) (f := f4) rfl h4 c4 ce he (by omega)
  obtain ⟨u', e5, ys, hs', hyo⟩ := field_sl (E := aggE) hT hf' (k := 5) (f := f5) rfl h5 c5 ce' he' (by omega)
  rw [o0] at e0; rw [o1] at e1; rw [o2] at e2; rw [o3] at e3; rw [o4] at e4; rw [o5] at e5
  refine ⟨⟨⟨n0, n1, n2, n3, xs, ys⟩, ⟨u, sl_one hs⟩, ⟨u', sl_one hs'⟩⟩, ?_, ⟨hs, hs'⟩, i64R_of w0, i64R_of w1, i64R_of w2, i64R_of w3, hxo, hyo⟩
  congr 1
  apply Array.toList_inj.1
  simp only [Value.cells] at e0 e1 e2 e3 e4 e5 hl
  apply List.ext_getElem?
  intro i
  match i with
  | 0 => rw [e0]; rfl
  | 1 => rw [e1]; rfl
  | 2 => rw [e2]; rfl
  | 3 => rw [e3]; rfl
  | 4 => rw [e4]; rfl
  | 5 => rw [e5]; rfl
  | i + 6 => rw [List.getElem?_eq_none (by omega)]; rfl
end
/-! ### Which may be -/
def headS (id k fr to : Int) : Bool := decide (1 ≤ id ∧ id ≤ 1073741824 ∧ 0 ≤ k ∧ k < 4 ∧ 0 ≤ fr ∧ fr < to ∧ to ≤ 1099511627776)
theorem headS_yes {id k fr to : Int} (h : 1 ≤ id ∧ id ≤ 1073741824 ∧ 0 ≤ k ∧ k < 4 ∧ 0 ≤ fr ∧ fr < to ∧ to ≤ 1099511627776) : headS id k fr to = true := decide_eq_true h
theorem headS_no {id k fr to : Int} (h : ¬ (1 ≤ id ∧ id ≤ 1073741824 ∧ 0 ≤ k ∧ k < 4 ∧ 0 ≤ fr ∧ fr < to ∧ to ≤ 1099511627776)) : headS id k fr to = false := decide_eq_false h
theorem headS_iff {id k fr to : Int} : headS id k fr to = true ↔ (1 ≤ id ∧ id ≤ 1073741824 ∧ 0 ≤ k ∧ k < 4 ∧ 0 ≤ fr ∧ fr < to ∧ to ≤ 1099511627776) := decide_eq_true_iff
def mayRaw (s : SegD) : Bool := (((((decide ((s.Aggs.length : Int) = 0) && decide (1 ≤ (s.Samples.length : Int))) && decide ((s.Samples.length : Int) ≤ 64)) && risingA s.Samples) && decide (s.From ≤ (gd s.Samples 0).T)) && decide ((gd s.Samples (s.Samples.length - 1)).T < s.To))
def mayUp (s : SegD) : Bool := (((((decide ((s.Samples.length : Int) = 0) && decide (1 ≤ (s.Aggs.length : Int))) && decide ((s.Aggs.length : Int) ≤ 64)) && alignedA s.Aggs s.Tier) && decide (floorA s.From s.Tier ≤ (gd s.Aggs 0).From)) && decide ((gd s.Aggs (s.Aggs.length - 1)).From < s.To))
def mayS (s : SegD) : Bool := headS s.Id s.Tier s.From s.To && (if s.Tier = 0 then mayRaw s else mayUp s)
theorem may_nohead {s : SegD} (h : headS s.Id s.Tier s.From s.To = false) : mayS s = false := by unfold mayS; rw [h]; rfl
theorem may_nohead2 {s : SegD} (h : ¬ (1 ≤ s.Id ∧ s.Id ≤ 1073741824 ∧ 0 ≤ s.Tier ∧ s.Tier < 4 ∧ 0 ≤ s.From ∧ s.From < s.To ∧ s.To ≤ 1099511627776)) : mayS s = false := may_nohead (headS_no h)
theorem may_raw {s : SegD} (h : headS s.Id s.Tier s.From s.To = true) (h0 : s.Tier = 0) : mayS s = mayRaw s := by unfold mayS; rw [h, if_pos h0]; rfl
theorem may_up {s : SegD} (h : headS s.Id s.Tier s.From s.To = true) (h0 : ¬ s.Tier = 0) : mayS s = mayUp s := by unfold mayS; rw [h, if_neg h0]; rfl
theorem may_iff {s : SegD} : mayS s = true ↔ headS s.Id s.Tier s.From s.To = true ∧ ((s.Tier = 0 ∧ mayRaw s = true) ∨ (¬ s.Tier = 0 ∧ mayUp s = true)) := by
  unfold mayS
  by_cases h : s.Tier = 0
  · rw [if_pos h]; simp [h]
  · rw [if_neg h]; simp [h]
theorem mayRaw_iff {s : SegD} : mayRaw s = true ↔ s.Aggs = [] ∧ 1 ≤ s.Samples.length ∧ s.Samples.length ≤ 64 ∧ risingA s.Samples = true ∧ s.From ≤ (gd s.Samples 0).T ∧ (gd s.Samples (s.Samples.length - 1)).T < s.To := by
  unfold mayRaw
  simp only [Bool.and_eq_true, decide_eq_true_eq]
  constructor
  · rintro ⟨⟨⟨⟨⟨h1, h2⟩, h3⟩, h4⟩, h5⟩, h6⟩
    exact ⟨List.eq_nil_of_length_eq_zero (by omega), by omega, by omega, h4, h5, h6⟩
  · rintro ⟨h1, h2, h3, h4, h5, h6⟩
    exact ⟨⟨⟨⟨⟨by rw [h1]; rfl, by omega⟩, by omega⟩, h4⟩, h5⟩, h6⟩
theorem mayUp_iff {s : SegD} : mayUp s = true ↔ s.Samples = [] ∧ 1 ≤ s.Aggs.length ∧ s.Aggs.length ≤ 64 ∧ alignedA s.Aggs s.Tier = true ∧ floorA s.From s.Tier ≤ (gd s.Aggs 0).From ∧ (gd s.Aggs (s.Aggs.length - 1)).From < s.To := by
  unfold mayUp
  simp only [Bool.and_eq_true, decide_eq_true_eq]
  constructor
  · rintro ⟨⟨⟨⟨⟨h1, h2⟩, h3⟩, h4⟩, h5⟩, h6⟩
    exact ⟨List.eq_nil_of_length_eq_zero (by omega), by omega, by omega, h4, h5, h6⟩
  · rintro ⟨h1, h2, h3, h4, h5, h6⟩
    exact ⟨⟨⟨⟨⟨by rw [h1]; rfl, by omega⟩, by omega⟩, h4⟩, h5⟩, h6⟩
end Go.Proofs.Ythanfecefjfbjaa
