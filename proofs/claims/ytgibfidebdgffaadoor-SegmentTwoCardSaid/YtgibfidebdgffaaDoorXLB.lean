/- The library of this proof, part 2: The steps of the reader of aggregates, its answers by names. Two lists, place by place. A place of an array that stands in a block. Files of segments: what the program's steps come to. The program's notes of segments (Info): how they read, how two are compared, which comes first. Sorting notes by their span: the insertion sort. The first note of a kind. Of notes of one span the finest: by steps, in order. The first element of a kind, of whatever type. Windows of an answer; which segments are asked; what they answer. A segment rolled up. Segments rolled up together; what is told of a file. What the laws of segments need. What the program tells of a few windows. Windows of rising samples fail by a sum alone. Answers without segments. Segments of tier 0 that are made of samples that rise. Windows of windows: small ones never fail; two samples that change places do not rise. Step by step or at once: windows of windows are the windows of the coarser tier. Rows of segments: that they may be, and what they are rolled up to. The laws of segments, in plain numbers. Which block a slot names; two segments; sums of a list's front. Short names for what walks write often. -/
import Derived.Test.YtgibfidebdgffaaDoorXLA
section
namespace Go.Proofs.YtgibfidebdgffaaDoor
theorem gnE {n : Int} {b : List UInt8} {p : Int} (h : n = (get b p).1) : 0 ≤ n ∧ n ≤ 18446744073709551615 := h ▸ get_nn b p
theorem CA_oneE {b : List UInt8} {k n at_ F : Int} {out : List Agg} {i : Nat} {p : Int} {bad : Bool} {N0 P1 N1 P2 N2 P3 : Int} {D0 D1 D2 : Bool} (h : CA b k n out i p bad at_) (hn : (i : Int) < n) (e0 : N0 = (get b p).1) (f0 : P1 = (get b p).2.1) (g0 : D0 = rbad bad b p) (e1 : N1 = (get b P1).1) (f1 : P2 = (get b P1).2.1) (g1 : D1 = rbad D0 b P1) (e2 : N2 = (get b P2).1) (f2 : P3 = (get b P2).2.1) (g2 : D2 = rbad D1 b P2) (hF : wr ((wr (wr (at_ + 1) + wr N0)) * widthA k) = F) (hc : wr (wr N1 + 1) = 1) :
    CA b k n (out ++ [⟨F, wr (wr N1 + 1), zag N2, zag N2, zag N2, zag N2, zag N2⟩]) (i + 1) P3 D2 (wr (wr (at_ + 1) + wr N0)) := by
  subst hF e0 f0 g0 e1 f1 g1 e2 f2 g2
  exact CA_one h hn hc
theorem CA_manyE {b : List UInt8} {k n at_ F : Int} {out : List Agg} {i : Nat} {p : Int} {bad : Bool} {N0 P1 N1 P2 N2 P3 N3 P4 N4 P5 N5 P6 N6 P7 : Int} {D0 D1 D2 D3 D4 D5 D6 : Bool} (h : CA b k n out i p bad at_) (hn : (i : Int) < n) (e0 : N0 = (get b p).1) (f0 : P1 = (get b p).2.1) (g0 : D0 = rbad bad b p) (e1 : N1 = (get b P1).1) (f1 : P2 = (get b P1).2.1) (g1 : D1 = rbad D0 b P1) (e2 : N2 = (get b P2).1) (f2 : P3 = (get b P2).2.1) (g2 : D2 = rbad D1 b P2) (e3 : N3 = (get b P3).1) (f3 : P4 = (get b P3).2.1) (g3 : D3 = rbad D2 b P3) (e4 : N4 = (get b P4).1) (f4 : P5 = (get b P4).2.1) (g4 : D4 = rbad D3 b P4) (e5 : N5 = (get b P5).1) (f5 : P6 = (get b P5).2.1) (g5 : D5 = rbad D4 b P5) (e6 : N6 = (get b P6).1) (f6 : P7 = (get b P6).2.1) (g6 : D6 = rbad D5 b P6) (hF : wr ((wr (wr (at_ + 1) + wr N0)) * widthA k) = F) (hc : ¬ wr (wr N1 + 1) = 1) :
    CA b k n (out ++ [⟨F, wr (wr N1 + 1), zag N4, zag N2, wr ((zag N2 % 18446744073709551616 + N3) % 18446744073709551616), wr ((zag N2 % 18446744073709551616 + N5) % 18446744073709551616), wr ((zag N2 % 18446744073709551616 + N6) % 18446744073709551616)⟩]) (i + 1) P7 D6 (wr (wr (at_ + 1) + wr N0)) := by
  subst hF e0 f0 g0 e1 f1 g1 e2 f2 g2 e3 f3 g3 e4 f4 g4 e5 f5 g5 e6 f6 g6
  exact CA_many h hn hc
end Go.Proofs.YtgibfidebdgffaaDoor
end
section
namespace Go.Proofs.YtgibfidebdgffaaDoor
section
variable {α : Type} [DecidableEq α] {a b : List α} {i : Nat}
theorem same_len (h : ¬ ((a.length : Int) = (b.length : Int))) : false = decide (a = b) := (decide_eq_false fun e => h (by rw [e])).symm
theorem same_no (h : i < a.length) (h' : i < b.length) (hne : ¬ a[i] = b[i]) : false = decide (a = b) := (decide_eq_false fun e => hne (by subst e; rfl)).symm
theorem same_end (hi : i = a.length) (hl : (a.length : Int) = (b.length : Int)) (he : a.take i = b.take i) : true = decide (a = b) :=
  (decide_eq_true (by rw [List.take_of_length_le (by omega), List.take_of_length_le (by omega)] at he; exact he)).symm
end
theorem same_step {α : Type} {a b : List α} {i : Nat} (he : a.take i = b.take i) (h : i < a.length) (h' : i < b.length) (heq : a[i] = b[i]) : a.take (i + 1) = b.take (i + 1) := by
  rw [List.take_succ_eq_append_getElem h, List.take_succ_eq_append_getElem h', he, heq]
end Go.Proofs.YtgibfidebdgffaaDoor
end
section
namespace Go.Proofs.YtgibfidebdgffaaDoor
open Go.RowKit
section
variable {P : Program} {ρ : Env} {w : World} {K : Value → World → Prop}
variable {dst : Option Tmp} {ty : TypeId} {pos : String} {aft : Array Edge} {g : Option (Nat × Bool)}
theorem op_indexAddrA {T e : TypeId} {x i : Operand} {N b off : Nat} {k : IntKind} {m : Int} (n : Nat) (hT : P.underlying T = some (.array N e)) (hs : ∀ w, (sizeOf e).run P w = .ok 1 w) (hx : evE ρ x = .pointer (some ⟨b, off, none⟩)) (hi : evE ρ i = .int k m) (hn : m = (n : Int)) (hm : n < N)
    (h : K (.pointer (some ⟨b, off + n, none⟩)) w) : opE P ⟨dst, .indexAddr T x i, ty, pos, aft, g⟩ ρ w K := by
  subst hn
  have h0 : (0 : Int) ≤ (n : Int) := Int.natCast_nonneg n
  have hlt : (n : Int) < (N : Int) := by omega
  exact op_of (by simp [execOp, hx, hi, Instr.indexAt, Instr.sureAddr, asIntOf, run_underlying hT, h0, hm, hs, Addr.add_lit]) h
end
end Go.Proofs.YtgibfidebdgffaaDoor
end
section
namespace Go.Proofs.YtgibfidebdgffaaDoor
/-! ### Decoders as functions -/
open Classical in
noncomputable def decSf (b : List UInt8) : List Sample × Int := if h : ∃ p : List Sample × Int, DecS b p.1 p.2 then h.choose else ([], 0)
theorem decSf_is {b : List UInt8} {l : List Sample} {c : Int} (h : DecS b l c) : decSf b = (l, c) := by
  have hx : ∃ p : List Sample × Int, DecS b p.1 p.2 := ⟨(l, c), h⟩
  unfold decSf
  rw [dif_pos hx]
  have := decS_one hx.choose_spec h
  exact Prod.ext this.1 this.2
open Classical in
noncomputable def decAf (k : Int) (b : List UInt8) : List Agg × Int := if h : ∃ p : List Agg × Int, DecA k b p.1 p.2 then h.choose else ([], 0)
theorem decAf_is {k : Int} {b : List UInt8} {l : List Agg} {c : Int} (h : DecA k b l c) : decAf k b = (l, c) := by
  have hx : ∃ p : List Agg × Int, DecA k b p.1 p.2 := ⟨(l, c), h⟩
  unfold decAf
  rw [dif_pos hx]
  have := decA_one hx.choose_spec h
  exact Prod.ext this.1 this.2
theorem decSf_enc {l : List Sample} (hl : okS l = true) (ho : ∀ s ∈ l, s.ok) : decSf (encS l).1 = (l, 0) := by
  rw [encS_yes hl]; exact decSf_is ⟨ho, Or.inl ⟨rfl, hl, rfl⟩⟩
theorem decAf_enc {k : Int} {l : List Agg} (hl : okA k l = true) (ho : ∀ a ∈ l, a.ok) : decAf k (encA k l).1 = (l, 0) := by
  rw [encA_yes hl]; exact decAf_is ⟨ho, Or.inl ⟨rfl, okA_coarse hl, hl, rfl⟩⟩
theorem decSf_ok (b : List UInt8) : ∀ s ∈ (decSf b).1, s.ok := by
  unfold decSf; split
  · rename_i h; exact h.choose_spec.1
  · intro s hs; cases hs
theorem decAf_ok (k : Int) (b : List UInt8) : ∀ s ∈ (decAf k b).1, s.ok := by
  unfold decAf; split
  · rename_i h; exact h.choose_spec.1
  · intro s hs; cases hs
/-! ### Names, comparisons -/
def nameG (n : Int) : List UInt8 := if n = 3 then [115, 51] else []
theorem nameG_no {n : Int} (h : n < 1) : nameG n = [] := if_neg (by omega)
theorem nameG_yes {n : Int} (h : n = 3) : nameG n = [115] ++ [51] := if_pos h
theorem segD_iff {s t : SegD} : s = t ↔ (((((s.Id = t.Id ∧ s.Tier = t.Tier) ∧ s.From = t.From) ∧ s.To = t.To) ∧ s.Samples = t.Samples) ∧ s.Aggs = t.Aggs) := by
  constructor
  · rintro rfl; exact ⟨⟨⟨⟨⟨rfl, rfl⟩, rfl⟩, rfl⟩, rfl⟩, rfl⟩
  · rintro ⟨⟨⟨⟨⟨h1, h2⟩, h3⟩, h4⟩, h5⟩, h6⟩; exact segD_eq h1 h2 h3 h4 h5 h6
theorem segD_dec (s t : SegD) : (((((decide (s.Id = t.Id) && decide (s.Tier = t.Tier)) && decide (s.From = t.From)) && decide (s.To = t.To)) && decide (s.Samples = t.Samples)) && decide (s.Aggs = t.Aggs)) = decide (s = t) := by
  rw [Bool.eq_iff_iff]
  simp only [Bool.and_eq_true, decide_eq_true_eq]
  exact segD_iff.symm
/-! ### Put -/
theorem nums_r {s : SegD} (h : mayS s = true) : ∀ x ∈ numsG s, 0 ≤ x ∧ x ≤ 1099511627776 := fun x hx => by
  have hn := may_nums h
  simp only [numsG, List.mem_cons, List.not_mem_nil, or_false] at hx
  omega
theorem encS_len (l : List Sample) : (encS l).1.length ≤ 1300 := by
  unfold encS; split
  · rename_i h; exact putS_length64 (okS_iff.1 h).2
  · simp
theorem encA_len (k : Int) (l : List Agg) : (encA k l).1.length ≤ 5000 := by
  by_cases h : okA k l = true
  · exact encA_len64 h
  · unfold encA; rw [if_neg h]; simp
theorem body_raw {s : SegD} (h : mayS s = true) (h0 : ¬ 0 < s.Tier) : headG s ++ (encS s.Samples).1 = bodyG s := by
  have := may_nums h
  unfold bodyG; rw [block_raw (by omega)]
theorem body_up {s : SegD} (h : mayS s = true) (h0 : 0 < s.Tier) : headG s ++ (encA s.Tier s.Aggs).1 = bodyG s := by unfold bodyG; rw [block_up h0]
theorem code_raw {s : SegD} (h : mayS s = true) (h0 : ¬ 0 < s.Tier) : (encS s.Samples).2 = 0 := by
  rcases may_block h with ⟨_, _, a⟩ | ⟨a, _, _⟩
  · rw [encS_yes a]
  · exact absurd a h0
theorem code_up {s : SegD} (h : mayS s = true) (h0 : 0 < s.Tier) : (encA s.Tier s.Aggs).2 = 0 := by
  rcases may_block h with ⟨a, _, _⟩ | ⟨_, _, a⟩
  · omega
  · rw [encA_yes a]
theorem body_len {s : SegD} (h : mayS s = true) : (bodyG s).length ≤ 5100 := by
  have h1 := head_len s
  have h2 := block_len h
  unfold bodyG; rw [List.length_append]; omega
theorem bytes_le {s : SegD} (h : mayS s = true) : (bytesG s).length ≤ 5200 := by
  have h1 := body_len h
  unfold bytesG; rw [List.length_append, four_len]; omega
/-! ### Get -/
section
variable {b : List UInt8} {i : Nat} {at_ x0 x1 x2 x3 : Int}
theorem GI_head (c : ((b.length : Int) - 4 < 2 ∨ ¬ ((gd b 0).toNat : Int) = 84) ∨ ¬ ((gd b 1).toNat : Int) = 75) : ∀ d : SegD, d.ok → encG d ≠ (b, 0) := by
  by_cases h : (b.length : Int) - 4 < 2
  · exact GI_short h
  · exact GI_first (by omega) (by rcases c with (c | c) | c; exact absurd c h; exact Or.inl c; exact Or.inr c)
theorem GI_rawF (h : GI b i at_ x0 x1 x2 x3) (hi : i = 4) (h0 : x1 = 0) {e : Nat} (he : e = b.length - 4) (hbad : (¬ (decSf ((b.take e).drop at_.toNat)).2 = 0 ∨ ¬ (encG ⟨x0, x1, x2, x2 + x3, (decSf ((b.take e).drop at_.toNat)).1, []⟩).2 = 0) ∨ ¬ (encG ⟨x0, x1, x2, x2 + x3, (decSf ((b.take e).drop at_.toNat)).1, []⟩).1 = b) : ∀ d : SegD, d.ok → encG d ≠ (b, 0) := fun d ho hb => by
  have hg := isG_of ho hb
  subst hi; subst he
  obtain ⟨e1, e2, e3, e4, e5⟩ := h.2.2 d hg
  have e2 := e2 (by decide); have e3 := e3 (by decide); have e4 := e4 (by decide); have e5 := e5 (by decide)
  rw [e1, isG_block hg] at hbad
  rcases may_block hg.2.1 with ⟨a0, a1, a2⟩ | ⟨a0, a1, a2⟩
  · rw [block_raw a0, decSf_enc a2 ho.2.2.2.2.1] at hbad
    have es : (⟨x0, x1, x2, x2 + x3, d.Samples, []⟩ : SegD) = d := segD_eq e2 e3 e4 (by show x2 + x3 = d.To; omega) rfl a1.symm
    simp only [es, hb] at hbad
    simp at hbad
  · omega
theorem GI_upF (h : GI b i at_ x0 x1 x2 x3) (hi : i = 4) (h0 : ¬ x1 = 0) {e : Nat} (he : e = b.length - 4) (hbad : (¬ (decAf x1 ((b.take e).drop at_.toNat)).2 = 0 ∨ ¬ (encG ⟨x0, x1, x2, x2 + x3, [], (decAf x1 ((b.take e).drop at_.toNat)).1⟩).2 = 0) ∨ ¬ (encG ⟨x0, x1, x2, x2 + x3, [], (decAf x1 ((b.take e).drop at_.toNat)).1⟩).1 = b) : ∀ d : SegD, d.ok → encG d ≠ (b, 0) := fun d ho hb => by
  have hg := isG_of ho hb
  subst hi; subst he
  obtain ⟨e1, e2, e3, e4, e5⟩ := h.2.2 d hg
  have e2 := e2 (by decide); have e3 := e3 (by decide); have e4 := e4 (by decide); have e5 := e5 (by decide)
  rw [e1, isG_block hg] at hbad
  rcases may_block hg.2.1 with ⟨a0, a1, a2⟩ | ⟨a0, a1, a2⟩
  · omega
  · rw [block_up a0, e3, decAf_enc a2 ho.2.2.2.2.2] at hbad
    have es : (⟨x0, d.Tier, x2, x2 + x3, [], d.Aggs⟩ : SegD) = d := segD_eq e2 rfl e4 (by show x2 + x3 = d.To; omega) a1.symm rfl
    simp only [es, hb] at hbad
    simp at hbad
theorem getG_okS (h : GI b i at_ x0 x1 x2 x3) (y : List UInt8) : (⟨x0, x1, x2, x2 + x3, (decSf y).1, []⟩ : SegD).ok := by
  have hx := h.2.1
  refine ⟨?_, ?_, ?_, ?_, decSf_ok y, fun x hx => nomatch hx⟩ <;> simp only [i64R] <;> omega
theorem getG_okA (h : GI b i at_ x0 x1 x2 x3) (y : List UInt8) : (⟨x0, x1, x2, x2 + x3, [], (decAf x1 y).1⟩ : SegD).ok := by
  have hx := h.2.1
  refine ⟨?_, ?_, ?_, ?_, (by intro x hx; cases hx), decAf_ok x1 y⟩ <;> simp only [i64R] <;> omega
end
end Go.Proofs.YtgibfidebdgffaaDoor
end
section
namespace Go.Proofs.YtgibfidebdgffaaDoor
structure Info where
  Id : Int
  Tier : Int
  From : Int
  To : Int
  Sum : Int
  deriving DecidableEq
def infoE : Enc Info := ⟨5, fun a => [.int .i64 a.Id, .int .i64 a.Tier, .int .i64 a.From, .int .i64 a.To, .int .u32 a.Sum], fun _ => rfl, by decide,
  fun _ u hu => by simp at hu; rcases hu with rfl | rfl | rfl | rfl | rfl <;> rfl⟩
abbrev u32R (n : Int) : Prop := 0 ≤ n ∧ n ≤ 4294967295
abbrev Info.ok (a : Info) : Prop := i64R a.Id ∧ i64R a.Tier ∧ i64R a.From ∧ i64R a.To ∧ u32R a.Sum
theorem u32R_of {n : Int} (h : IntKind.u32.min ≤ n ∧ n ≤ IntKind.u32.max) : u32R n := by
  have h1 : IntKind.u32.min = 0 := by decide
  have h2 : IntKind.u32.max = 4294967295 := by decide
  rw [h1, h2] at h; exact h
section
variable {P : Program}
theorem opens_info {t : TypeId} {fs : Array Field} (ht : P.underlying t = some (.struct fs)) (hf : IntFields P 0 [.i64, .i64, .i64, .i64, .u32] fs.toList) (hC : P.cellsOf t = 5) : Opens P t infoE Info.ok := by
  intro H enc w base spare held fuel cs x h
  have := int_cells ht hf hC h
  obtain ⟨n0, c0, rfl, hn0, h0⟩ := this.cons
  obtain ⟨n1, c1, rfl, hn1, h1⟩ := h0.cons
  obtain ⟨n2, c2, rfl, hn2, h2⟩ := h1.cons
  obtain ⟨n3, c3, rfl, hn3, h3⟩ := h2.cons
  obtain ⟨n4, c4, rfl, hn4, h4⟩ := h3.cons
  obtain rfl := h4.nil
  exact ⟨⟨n0, n1, n2, n3, n4⟩, rfl, i64R_of hn0, i64R_of hn1, i64R_of hn2, i64R_of hn3, u32R_of hn4⟩
theorem eq_info (d : Nat) {t : TypeId} {fs : Array Field} (ht : P.underlying t = some (.struct fs)) (hf : IntFields P 0 [.i64, .i64, .i64, .i64, .u32] fs.toList) (hp : P.stoodInHeld t = false) (a b : Info) (w : World) :
    (Op.equalIn (d + 1 + 1) t (.agg #[.int .i64 a.Id, .int .i64 a.Tier, .int .i64 a.From, .int .i64 a.To, .int .u32 a.Sum]) (.agg #[.int .i64 b.Id, .int .i64 b.Tier, .int .i64 b.From, .int .i64 b.To, .int .u32 b.Sum])).run P w = .ok (decide (a = b)) w := by
  refine (run_equalIn_agg w (d + 1) t _ _ (by rw [fieldsOf_eq ht]; exact ht) hp).trans ?_
  rewrite [fieldsOf_eq ht]
  refine (eqFields_ints [.i64, .i64, .i64, .i64, .u32] _ 0 d _ _ [a.Id, a.Tier, a.From, a.To, a.Sum] [b.Id, b.Tier, b.From, b.To, b.Sum] hf rfl rfl
    (fun i h h1 => by match i, h with | 0, _ => rfl | 1, _ => rfl | 2, _ => rfl | 3, _ => rfl | 4, _ => rfl) (fun i h h1 => by match i, h with | 0, _ => rfl | 1, _ => rfl | 2, _ => rfl | 3, _ => rfl | 4, _ => rfl)).trans ?_
  congr 1
  rw [decide_eq_decide]
  cases a; cases b; simp
end
/-! ### Which comes first -/
/-! ### The reference's way: each is put where it belongs -/
def hasI (l : List Info) (id : Int) : Bool := l.any fun y => decide (y.Id = id)
def left (l r : List Info) : List Info := l.filter fun x => !hasI r x.Id
end Go.Proofs.YtgibfidebdgffaaDoor
end
section
namespace Go.Proofs.YtgibfidebdgffaaDoor
/-! ### Which comes first -/
end Go.Proofs.YtgibfidebdgffaaDoor
end
section
namespace Go.Proofs.YtgibfidebdgffaaDoor
section
variable {p : Info → Bool} {l : List Info} {i : Nat}
end
end Go.Proofs.YtgibfidebdgffaaDoor
end
section
namespace Go.Proofs.YtgibfidebdgffaaDoor
instance : Inhabited Info := ⟨⟨0, 0, 0, 0, 0⟩⟩
section
variable {l ys : List Info} {n : Nat}
end
/-! ### In order -/
end Go.Proofs.YtgibfidebdgffaaDoor
end
section
namespace Go.Proofs.YtgibfidebdgffaaDoor
section
variable {α : Type} {p : α → Bool} {l : List α} {i : Nat}
end
end Go.Proofs.YtgibfidebdgffaaDoor
end
section
namespace Go.Proofs.YtgibfidebdgffaaDoor
structure Win where
  Tier : Int
  Lo : Int
  Hi : Int
  Agg : Agg
  deriving DecidableEq
abbrev Win.ok (w : Win) : Prop := i64R w.Tier ∧ i64R w.Lo ∧ i64R w.Hi ∧ w.Agg.ok
instance : Inhabited Win := ⟨⟨0, 0, 0, default⟩⟩
instance : Inhabited SegD := ⟨⟨0, 0, 0, 0, [], []⟩⟩
instance : Inhabited Seg := ⟨⟨default, nilV, nilV⟩⟩
theorem fst_of {α β : Type} {p : α × β} {a : α} {b : β} (h : p = (a, b)) : a = p.1 := by rw [h]
theorem snd_of {α β : Type} {p : α × β} {a : α} {b : β} (h : p = (a, b)) : b = p.2 := by rw [h]
/-! ### Samples as windows -/
/-! ### Aggregates as windows -/
/-! ### Which segments are asked -/
/-! ### The program's find -/
abbrev ds (l : List Seg) : List SegD := l.map Seg.d
/-! ### What windows come to -/
/-! ### That two notions of a window in the range are one -/
/-! ### Segments that may be -/
theorem aligns_low {k : Int} : ∀ {l : List Agg} {last : Int}, alignsFrom k last l = true → ∀ a ∈ l, last < a.From
  | [], _, _, a, h => nomatch h
  | b :: l, last, h, a, ha => by
    unfold alignsFrom at h
    rw [Bool.and_eq_true, Bool.and_eq_true] at h
    have hc := of_decide_eq_true h.1.2
    rcases List.mem_cons.1 ha with rfl | ha
    · omega
    · have := aligns_low h.2 a ha; omega
theorem aligns_pair {k : Int} : ∀ {l : List Agg} {last : Int}, alignsFrom k last l = true → l.Pairwise fun a b => a.From < b.From
  | [], _, _ => List.Pairwise.nil
  | b :: l, last, h => by
    unfold alignsFrom at h
    rw [Bool.and_eq_true, Bool.and_eq_true] at h
    exact List.pairwise_cons.2 ⟨fun a ha => aligns_low h.2 a ha, aligns_pair h.2⟩
theorem segS_len {s : SegD} (h : mayS s = true) : s.Samples.length ≤ 64 ∧ s.Aggs.length ≤ 64 := by
  rcases (may_iff.1 h).2 with ⟨_, h3⟩ | ⟨_, h3⟩
  · obtain ⟨e, _, g, _⟩ := mayRaw_iff.1 h3
    rw [e]; exact ⟨g, by simp⟩
  · obtain ⟨e, _, g, _⟩ := mayUp_iff.1 h3
    rw [e]; exact ⟨by simp, g⟩
end Go.Proofs.YtgibfidebdgffaaDoor
end
section
namespace Go.Proofs.YtgibfidebdgffaaDoor
abbrev zeroS : SegD := ⟨0, 0, 0, 0, [], []⟩
def rollT (s : SegD) (id k : Int) (r : List Agg × Int) : SegD × Int :=
  if ¬ r.2 = 0 then (zeroS, r.2) else if 64 < r.1.length then (zeroS, 8) else (⟨id, k, s.From, s.To, [], r.1⟩, 0)
def rollS (s : SegD) (id k : Int) : SegD × Int :=
  if id < 1 ∨ 1073741824 < id ∨ k < 1 ∨ 3 < k then (zeroS, 1)
  else if mayS s = true ∧ s.Tier = k - 1 then rollT s id k (if k = 1 then rawA s.Samples 1 else downA s.Aggs k) else (zeroS, 1)
def flatS (l : List Seg) : List Sample := l.flatMap fun s => s.d.Samples
def flatA (l : List Seg) : List Agg := l.flatMap fun s => s.d.Aggs
theorem flatS_snoc {l : List Seg} {i : Nat} (h : i < l.length) : flatS (l.take i) ++ (l[i]'h).d.Samples = flatS (l.take (i + 1)) := by
  unfold flatS; rw [List.take_succ_eq_append_getElem h, List.flatMap_append]; simp
theorem flatA_snoc {l : List Seg} {i j : Nat} (h : i < l.length) (hj : j = (l[i]'h).d.Aggs.length) : flatA (l.take i) ++ (l[i]'h).d.Aggs.take j = flatA (l.take (i + 1)) := by
  subst hj; unfold flatA; rw [List.take_succ_eq_append_getElem h, List.flatMap_append]; simp
theorem flat_ok {l : List Seg} (h : ∀ s ∈ l, s.d.ok) : (∀ x ∈ flatS l, x.ok) ∧ (∀ x ∈ flatA l, x.ok) := by
  constructor
  · intro x hx; obtain ⟨s, hs, hx⟩ := List.mem_flatMap.1 hx; exact (h s hs).2.2.2.2.1 x hx
  · intro x hx; obtain ⟨s, hs, hx⟩ := List.mem_flatMap.1 hx; exact (h s hs).2.2.2.2.2 x hx
end Go.Proofs.YtgibfidebdgffaaDoor
end
section
namespace Go.Proofs.YtgibfidebdgffaaDoor
/-! ### Aggregates that follow: none begins where another does -/
theorem joined_ne {l : List Agg} {i : Nat} (hp : l.Pairwise fun a b => a.From < b.From) (h : i < l.length) (hn : ¬ ((l.take i).length : Int) = 0) : ¬ (gd (l.take i) ((l.take i).length - 1)).From = (l[i]'h).From := by
  have hl : (l.take i).length = i := by rw [List.length_take]; omega
  rw [gd_eq (by omega), List.getElem_take]
  have := List.pairwise_iff_getElem.1 hp ((l.take i).length - 1) i (by omega) h (by omega)
  omega
/-! ### Roll -/
def chainG (k : Int) (l : List Seg) : Nat → Bool
  | 0 => true
  | n + 1 => chainG k l n && ((mayS (gd l n).d && decide ((gd l n).d.Tier = k - 1)) && decide (n = 0 ∨ (gd l n).d.From = (gd l (n - 1)).d.To))
def rollL (l : List Seg) (id k : Int) : SegD × Int :=
  if id < 1 ∨ 1073741824 < id ∨ k < 1 ∨ 3 < k ∨ l.length = 0 then (zeroS, 1)
  else if chainG k l l.length = false then (zeroS, 1)
  else if ¬ (if k = 1 then rawA (flatS l) k else downA (flatA l) k).2 = 0 then (zeroS, (if k = 1 then rawA (flatS l) k else downA (flatA l) k).2)
  else if 64 < (if k = 1 then rawA (flatS l) k else downA (flatA l) k).1.length then (zeroS, 8)
  else (⟨id, k, (gd l 0).d.From, (gd l (l.length - 1)).d.To, [], (if k = 1 then rawA (flatS l) k else downA (flatA l) k).1⟩, 0)
section
variable {l : List Seg} {id k : Int} {i : Nat}
theorem rollL_out (h : id < 1 ∨ 1073741824 < id ∨ k < 1 ∨ 3 < k ∨ l.length = 0) : rollL l id k = (zeroS, 1) := if_pos h
theorem chainG_not : ∀ {n m : Nat}, n ≤ m → chainG k l n = false → chainG k l m = false
  | n, 0, hn, h => by obtain rfl : n = 0 := by omega
                      exact h
  | n, m + 1, hn, h => by
    by_cases e : n = m + 1
    · subst e; exact h
    · rw [chainG, chainG_not (m := m) (by omega) h]; rfl
theorem rollL_no (hr : ¬ (id < 1 ∨ 1073741824 < id ∨ k < 1 ∨ 3 < k ∨ l.length = 0)) (h : chainG k l l.length = false) : rollL l id k = (zeroS, 1) := by
  unfold rollL; rw [if_neg hr, if_pos h]
theorem chain_badG (hi : i < l.length) (c : ((¬ mayS (gd l i).d = true) ∨ ¬ (gd l i).d.Tier = k - 1) ∨ (0 < (i : Int) ∧ ¬ (gd l i).d.From = (gd l (i - 1)).d.To)) : chainG k l l.length = false := by
  refine chainG_not (n := i + 1) (by omega) ?_
  rw [chainG]
  rcases c with (c | c) | c
  · rw [Bool.eq_false_iff.2 c]; simp
  · rw [decide_eq_false c]; simp
  · rw [decide_eq_false (by omega : ¬ (i = 0 ∨ (gd l i).d.From = (gd l (i - 1)).d.To))]; simp
theorem chain_stepG (hC : chainG k l i = true) (h1 : mayS (gd l i).d = true) (h2 : (gd l i).d.Tier = k - 1) (h3 : ¬ (0 < (i : Int) ∧ ¬ (gd l i).d.From = (gd l (i - 1)).d.To)) : chainG k l (i + 1) = true := by
  rw [chainG, hC, h1, decide_eq_true h2, decide_eq_true (by omega : i = 0 ∨ (gd l i).d.From = (gd l (i - 1)).d.To)]; rfl
theorem rollL_bad {r : List Agg × Int} (hr : ¬ (id < 1 ∨ 1073741824 < id ∨ k < 1 ∨ 3 < k ∨ l.length = 0)) (hC : chainG k l i = true) (hi : i = l.length) (he : r = (if k = 1 then rawA (flatS l) k else downA (flatA l) k)) (hc : ¬ r.2 = 0) : rollL l id k = (zeroS, r.2) := by
  subst hi; unfold rollL; rw [if_neg hr, if_neg (by rw [hC]; decide), ← he, if_pos hc]
theorem rollL_full {r : List Agg × Int} (hr : ¬ (id < 1 ∨ 1073741824 < id ∨ k < 1 ∨ 3 < k ∨ l.length = 0)) (hC : chainG k l i = true) (hi : i = l.length) (he : r = (if k = 1 then rawA (flatS l) k else downA (flatA l) k)) (hc : r.2 = 0) (hl : 64 < (r.1.length : Int)) : rollL l id k = (zeroS, 8) := by
  subst hi; unfold rollL; rw [if_neg hr, if_neg (by rw [hC]; decide), ← he, if_neg (fun c => c hc), if_pos (by omega)]
theorem rollL_ok {r : List Agg × Int} (hr : ¬ (id < 1 ∨ 1073741824 < id ∨ k < 1 ∨ 3 < k ∨ l.length = 0)) (hC : chainG k l i = true) (hi : i = l.length) (he : r = (if k = 1 then rawA (flatS l) k else downA (flatA l) k)) (hc : r.2 = 0) (hl : ¬ 64 < (r.1.length : Int)) : rollL l id k = (⟨id, k, (gd l 0).d.From, (gd l (l.length - 1)).d.To, [], r.1⟩, 0) := by
  subst hi; unfold rollL; rw [if_neg hr, if_neg (by rw [hC]; decide), ← he, if_neg (fun c => c hc), if_neg (by omega)]
theorem flatS_gd (h : i < l.length) : flatS (l.take i) ++ (gd l i).d.Samples = flatS (l.take (i + 1)) := by rw [gd_eq h]; exact flatS_snoc h
theorem flatA_gd (h : i < l.length) : flatA (l.take i) ++ (gd l i).d.Aggs = flatA (l.take (i + 1)) := by
  rw [gd_eq h]; have := flatA_snoc h rfl; rw [List.take_length] at this; exact this
theorem flat_bnd (hl : l.length ≤ 2) (hC : chainG k l i = true) (hi : i ≤ l.length) : (flatS (l.take i)).length ≤ 64 * i ∧ (flatA (l.take i)).length ≤ 64 * i := by
  induction i with
  | zero => exact ⟨Nat.le_refl _, Nat.le_refl _⟩
  | succ n ih =>
    rw [chainG] at hC
    simp only [Bool.and_eq_true] at hC
    obtain ⟨h1, h2⟩ := ih hC.1 (by omega)
    have h3 := segS_len hC.2.1.1
    rw [← flatS_gd (by omega), ← flatA_gd (by omega), List.length_append, List.length_append]; omega
theorem flat_up (hl : l.length ≤ 1) (hC : chainG k l i = true) (hi : i = l.length) (hk : 1 ≤ k) : (flatA l).Pairwise fun a b => a.From < b.From := by
  match l, hl with
  | [], _ => exact List.Pairwise.nil
  | [s], _ =>
    subst hi
    have hC : chainG k [s] 1 = true := hC
    rw [chainG] at hC
    simp only [Bool.and_eq_true] at hC
    have hm : mayS s.d = true := hC.2.1.1
    have e : flatA [s] = s.d.Aggs := by simp [flatA]
    rw [e]
    rcases (may_iff.1 hm).2 with ⟨_, h2⟩ | ⟨_, h2⟩
    · rw [(mayRaw_iff.1 h2).1]; exact List.Pairwise.nil
    · have g3 := (mayUp_iff.1 h2).2.2.2.1
      unfold alignedA at g3; rw [Bool.and_eq_true] at g3
      exact aligns_pair g3.2
end
/-! ### What is told of a file -/
def InfoG (b : List UInt8) (o : Info) (c : Int) : Prop := (c = 0 ∧ ∃ d : SegD, d.ok ∧ encG d = (b, 0) ∧ o.Id = d.Id ∧ o.Tier = d.Tier ∧ o.From = d.From ∧ o.To = d.To) ∨ (c = 2 ∧ ∀ d : SegD, d.ok → encG d ≠ (b, 0))
theorem infoG_no {b : List UInt8} {d : SegD} {c : Int} {o : Info} (h : DecG b d c) (hc : ¬ c = 0) : InfoG b o c := by
  rcases h with h | h
  · exact absurd h.1 hc
  · exact Or.inr ⟨h.1, h.2.2⟩
theorem infoG_yes {b : List UInt8} {d : SegD} {c s : Int} (h : DecG b d c) (hc : c = 0) : InfoG b ⟨d.Id, d.Tier, d.From, d.To, s⟩ 0 := by
  rcases h with h | h
  · exact Or.inl ⟨rfl, d, h.2.1, h.2.2, rfl, rfl, rfl, rfl⟩
  · omega
theorem decG_len {b : List UInt8} {d : SegD} {c : Int} (h : DecG b d c) (hc : c = 0) : 10 ≤ b.length := by
  rcases h with h | h
  · exact (isG_len (isG_of h.2.1 h.2.2)).2
  · omega
theorem infoG_enc {s : SegD} {o : Info} {c : Int} (h : InfoG (encG s).1 o c) (he : (encG s).2 = 0) (ho : s.ok) : c = 0 ∧ o.Id = s.Id ∧ o.Tier = s.Tier ∧ o.From = s.From ∧ o.To = s.To := by
  rcases h with ⟨h0, d, h1, h2, h3⟩ | h
  · obtain ⟨e, _⟩ := decG_enc (x := d) (c := 0) (Or.inl ⟨rfl, h1, h2⟩) he ho
    subst e; exact ⟨h0, h3⟩
  · exact absurd (Prod.ext (x := encG s) (y := ((encG s).1, 0)) rfl he) (h.2 s ho)
end Go.Proofs.YtgibfidebdgffaaDoor
end
section
namespace Go.Proofs.YtgibfidebdgffaaDoor
theorem rollL_one (S : Seg) (id k : Int) : rollL [S] id k = rollS S.d id k := by
  have e0 : gd [S] 0 = S := rfl
  have eS : flatS [S] = S.d.Samples := by simp [flatS]
  have eA : flatA [S] = S.d.Aggs := by simp [flatA]
  have eC : chainG k [S] 1 = (mayS S.d && decide (S.d.Tier = k - 1)) := by
    rw [chainG, chainG, e0]; simp
  unfold rollL rollS rollT
  by_cases h : id < 1 ∨ 1073741824 < id ∨ k < 1 ∨ 3 < k
  · rw [if_pos h, if_pos (by omega)]
  · rw [if_neg h, if_neg (by simp only [List.length_cons, List.length_nil]; omega)]
    show (if chainG k [S] 1 = false then _ else _) = _
    rw [eC, eS, eA, e0]
    by_cases hm : mayS S.d = true ∧ S.d.Tier = k - 1
    · have e2 : ((mayS S.d && decide (S.d.Tier = k - 1)) = false) ↔ False := by rw [hm.1, decide_eq_true hm.2]; simp
      rw [if_pos hm, if_neg (by rw [e2]; exact fun c => c)]
      have er : (if k = 1 then rawA S.d.Samples k else downA S.d.Aggs k) = (if k = 1 then rawA S.d.Samples 1 else downA S.d.Aggs k) := by
        by_cases hk : k = 1
        · rw [if_pos hk, if_pos hk, hk]
        · rw [if_neg hk, if_neg hk]
      rw [er]; rfl
    · rw [if_neg hm, if_pos]
      cases h1 : mayS S.d
      · rfl
      · rw [Bool.true_and]; exact decide_eq_false fun c => hm ⟨h1, c⟩
theorem ok_nilG : ∀ s ∈ ([] : List Seg), s.d.ok := fun s h => nomatch h
theorem ok_oneG {S : Seg} (h : S.d.ok) : ∀ s ∈ [S], s.d.ok := fun s hs => by obtain rfl := List.mem_singleton.1 hs; exact h
theorem ok_twoG {S T : Seg} (h : S.d.ok) (h' : T.d.ok) : ∀ s ∈ [S, T], s.d.ok := fun s hs => by
  rcases List.mem_cons.1 hs with rfl | hs
  · exact h
  · obtain rfl := List.mem_singleton.1 hs; exact h'
/-! ### A few -/
abbrev toldG : SegD := ⟨3, 0, 0, 10, [⟨3, 5⟩], []⟩
abbrev toldRG : SegD := ⟨4, 1, 0, 10, [], [⟨0, 1, 5, 5, 5, 5, 5⟩]⟩
theorem toldG_ok : toldG.ok := by decide
theorem toldG_may : mayS toldG = true := by decide +kernel
theorem toldG_code : (encG toldG).2 = 0 := by decide +kernel
theorem toldG_len : (6 : Int) < ((encG toldG).1.length : Int) := by decide +kernel
theorem toldG_pos : 0 < (encG toldG).1.length := by decide +kernel
theorem toldG_first : (((encG toldG).1[0]'toldG_pos).toNat : Int) = 84 := by decide +kernel
theorem toldG_small : (encG toldG).1.length ≤ 1000 := by decide +kernel
theorem toldG_get {x : SegD} {c : Int} (h : DecG (encG toldG).1 x c) : x = toldG ∧ c = 0 := decG_enc h toldG_code toldG_ok
theorem toldG_cut {x : SegD} {c : Int} {k : Nat} (h : DecG ((encG toldG).1.take k) x c) (hk : k < (encG toldG).1.length) : c = 2 := decG_cut h toldG_code toldG_ok hk
theorem toldG_info {o : Info} {c : Int} (h : InfoG (encG toldG).1 o c) : c = 0 ∧ o.Id = 3 ∧ o.Tier = 0 ∧ o.From = 0 ∧ o.To = 10 := infoG_enc h toldG_code toldG_ok
theorem toldG_roll (S : Seg) (h : S.d = toldG) : (rollL [S] 4 1).1 = toldRG ∧ (rollL [S] 4 1).2 = 0 := by
  rw [rollL_one, h]; exact ⟨by decide +kernel, by decide +kernel⟩
theorem toldG_sum {x : SegD} (h : x = toldRG) (hl : 0 < x.Aggs.length) : (x.Aggs[0]'hl).Sum = 5 := by subst h; rfl
theorem toldG_ne : ¬ toldG = toldRG := by decide
theorem toldG_zero : mayS ⟨0, 0, 0, 0, [], []⟩ = false := by decide +kernel
end Go.Proofs.YtgibfidebdgffaaDoor
end
section
namespace Go.Proofs.YtgibfidebdgffaaDoor
theorem ok_one {a : Seg} (h : a.d.ok) : ∀ s ∈ [a], s.d.ok := fun s hs => by obtain rfl := List.mem_singleton.1 hs; exact h
end Go.Proofs.YtgibfidebdgffaaDoor
end
section
namespace Go.Proofs.YtgibfidebdgffaaDoor
theorem rawL_len (k : Int) : ∀ (f : Nat) (l : List Sample) (out : List Agg), (rawL k f l out).1.length ≤ out.length + l.length
  | 0, _, _ => by simp [rawL]
  | _ + 1, [], _ => by simp [rawL]
  | f + 1, s :: l, out => by
    rw [rawL]
    split
    · have := rawL_len k f ((s :: l).drop (winLen k (floorA s.T k) (s :: l))) (out ++ [(allA ((s :: l).take (winLen k (floorA s.T k) (s :: l))) (floorA s.T k)).1])
      have hw := win_pos (k := k) (l := s :: l) (by simp)
      simp only [List.getElem_cons_zero] at hw
      simp only [List.length_append, List.length_cons, List.length_nil, List.length_drop] at this hw ⊢
      omega
    · simp
theorem rawA_len (l : List Sample) (k : Int) : (rawA l k).1.length ≤ l.length := by
  unfold rawA
  split
  · have := rawL_len k l.length l []; simpa using this
  · simp
end Go.Proofs.YtgibfidebdgffaaDoor
end
section
namespace Go.Proofs.YtgibfidebdgffaaDoor
end Go.Proofs.YtgibfidebdgffaaDoor
end
section
namespace Go.Proofs.YtgibfidebdgffaaDoor
def trS (fr : Int) (s : Sample) : Sample := ⟨s.T + fr, Int.tmod s.V 1000000000⟩
def trTo (l : List Sample) (fr : Int) (i : Nat) : List Sample := (l.take i).map (trS fr) ++ l.drop i
theorem trTo_len (l : List Sample) (fr : Int) (i : Nat) : (trTo l fr i).length = l.length := by
  unfold trTo; rw [List.length_append, List.length_map, List.length_take, List.length_drop]; omega
theorem trTo_get {l : List Sample} {fr : Int} {i : Nat} (h : i < l.length) : (trTo l fr i)[i]'(by rw [trTo_len]; exact h) = l[i] := by
  simp only [trTo]
  rw [List.getElem_append_right (by simp; omega)]
  simp [Nat.min_eq_left (Nat.le_of_lt h)]
theorem trTo_zero (l : List Sample) (fr : Int) : l = trTo l fr 0 := by simp [trTo]
theorem trTo_set {l : List Sample} {fr : Int} {i : Nat} (h : i < l.length) : (trTo l fr i).set i (trS fr l[i]) = trTo l fr (i + 1) := by
  have e : trTo l fr i = (l.take i).map (trS fr) ++ l[i] :: l.drop (i + 1) := by unfold trTo; rw [List.drop_eq_getElem_cons h]
  have hl : ((l.take i).map (trS fr)).length = i := by simp; omega
  rw [e, List.set_append, if_neg (by omega), hl, Nat.sub_self, List.set_cons_zero]
  unfold trTo
  rw [List.take_succ_eq_append_getElem h, List.map_append, List.append_assoc]; rfl
theorem trTo_step {l xs : List Sample} {fr : Int} {i : Nat} {a b : Sample} (h : i < l.length) (hx : xs = trTo l fr i) (hb : b = trS fr (xs[i]'(by rw [hx, trTo_len]; exact h))) : (xs.set i a).set i b = trTo l fr (i + 1) := by
  subst hx
  rw [List.set_set, hb, trTo_get h]; exact trTo_set h
theorem trTo_all {l : List Sample} {fr : Int} {i : Nat} (h : i = l.length) : trTo l fr i = l.map (trS fr) := by
  subst h; simp [trTo]
def mkL (nid : Int) (steps values : List Int) : List Sample := riseL (nid :: steps) values (riseN (nid :: steps) 40)
def makeS (nid fr : Int) (steps values : List Int) : SegD :=
  ⟨1 + nid % 18446744073709551616 % 1000, 0, fr, (gd ((mkL nid steps values).map (trS fr)) ((mkL nid steps values).length - 1)).T + 1 + nid % 18446744073709551616 % 7, (mkL nid steps values).map (trS fr), []⟩
theorem mkN (nid : Int) (steps : List Int) : 1 ≤ riseN (nid :: steps) 40 ∧ riseN (nid :: steps) 40 ≤ 40 ∧ riseN (nid :: steps) 40 ≤ steps.length + 1 := by
  unfold riseN; rw [List.length_cons]; omega
theorem mkL_len (nid : Int) (steps values : List Int) : (mkL nid steps values).length = riseN (nid :: steps) 40 := rise_length ..
theorem mkL_ok {nid : Int} {steps values : List Int} (hv : ∀ v ∈ values, i64R v) : ∀ s ∈ mkL nid steps values, s.ok :=
  rise_ok (riseN_le _ _) (by have := mkN nid steps; omega) hv
theorem mkL_T {nid : Int} {steps values : List Int} : ∀ s ∈ mkL nid steps values, 1 ≤ s.T ∧ s.T ≤ 1600 := by
  intro s hs
  obtain ⟨j, hj, rfl⟩ := List.getElem_of_mem hs
  have hn := mkN nid steps
  rw [mkL_len] at hj
  have h1 := tAt_r (steps := nid :: steps) (i := j + 1) (by rw [List.length_cons]; omega)
  have e : (mkL nid steps values)[j] = (⟨tAt (nid :: steps) (j + 1), vAt values j⟩ : Sample) := rise_get ..
  rw [e]; simp only []; omega
theorem getElem_eq {l m : List Sample} {i : Nat} {h : i < l.length} (e : l = m) (h' : i < m.length) : l[i] = m[i] := by subst e; rfl
theorem made_T {l xs : List Sample} {fr : Int} {i : Nat} (hT : ∀ s ∈ l, 1 ≤ s.T ∧ s.T ≤ 1600) (hx : xs = l.map (trS fr)) (h : i < xs.length) : fr + 1 ≤ (xs[i]'h).T ∧ (xs[i]'h).T ≤ fr + 1600 := by
  subst hx
  rw [List.getElem_map]
  have := hT _ (List.getElem_mem (show i < l.length by simpa using h))
  simp only [trS]; omega
theorem make_is {nid fr a b : Int} {steps values : List Int} {xs : List Sample} {n : Nat} {h : n < xs.length} (hx : xs = (mkL nid steps values).map (trS fr)) (hl : (mkL nid steps values).length = riseN (nid :: steps) 40) (hn : n = xs.length - 1) (ha : a = 1 + nid % 18446744073709551616 % 1000) (hb : b = nid % 18446744073709551616 % 7) : (⟨a, 0, fr, (xs[n]'h).T + 1 + b, xs, []⟩ : SegD) = makeS nid fr steps values := by
  subst ha; subst hb; subst hn
  unfold makeS
  have e : (mkL nid steps values).length = xs.length := by rw [hx, List.length_map]
  rw [e, ← hx, gd_eq h]
/-! ### Bits -/
/-! ### Rows that stay as they are -/
def Frz (a b : Nat) (fr : List Item) (l : List Seg) : Prop := ∀ s ∈ l, rowT a sampE s.sv.1 s.d.Samples ∈ fr ∧ rowT b aggE s.av.1 s.d.Aggs ∈ fr
theorem Frz.nil {a b : Nat} {fr : List Item} : Frz a b fr [] := fun s h => nomatch h
theorem Frz.mono {a b : Nat} {fr fr' : List Item} {l : List Seg} (h : Frz a b fr l) (hs : ∀ x ∈ fr, x ∈ fr') : Frz a b fr' l := fun s hm => ⟨hs _ (h s hm).1, hs _ (h s hm).2⟩
theorem Frz.sub {a b : Nat} {fr : List Item} {l l' : List Seg} (h : Frz a b fr l) (hs : ∀ x ∈ l', x ∈ l) : Frz a b fr l' := fun s hm => h s (hs s hm)
theorem Frz.cons {a b : Nat} {fr : List Item} {l : List Seg} {s : Seg} (h : Frz a b fr l) (h1 : rowT a sampE s.sv.1 s.d.Samples ∈ fr) (h2 : rowT b aggE s.av.1 s.d.Aggs ∈ fr) : Frz a b fr (s :: l) := fun x hm => by
  rcases List.mem_cons.1 hm with rfl | hm
  · exact ⟨h1, h2⟩
  · exact h x hm
/-! ### Rows of segments -/
structure RowD where
  l : List SegD
  all : List Sample
  to : Int
theorem make_to {nid fr : Int} {steps values : List Int} : fr + 2 ≤ (makeS nid fr steps values).To ∧ (makeS nid fr steps values).To ≤ fr + 1610 := by
  have hn := mkN nid steps
  have hl := mkL_len nid steps values
  have h := made_T (fr := fr) (mkL_T (nid := nid) (steps := steps) (values := values)) rfl (i := (mkL nid steps values).length - 1) (by rw [List.length_map]; omega)
  rw [← gd_eq] at h
  simp only [makeS]; omega
theorem make_ok {nid fr : Int} {steps values : List Int} (h0 : 0 ≤ fr) (h1 : fr ≤ 1000000000) (hv : ∀ v ∈ values, i64R v) : (makeS nid fr steps values).ok := by
  have ht := make_to (nid := nid) (fr := fr) (steps := steps) (values := values)
  refine ⟨?_, by simp [makeS, i64R], ?_, ?_, ?_, fun x h => nomatch h⟩
  · simp only [makeS, i64R]; omega
  · simp only [makeS, i64R]; omega
  · simp only [i64R]; omega
  · intro x hx
    simp only [makeS, List.mem_map] at hx
    obtain ⟨y, hy, rfl⟩ := hx
    have h2 := mkL_T y hy
    have h3 := (mkL_ok (nid := nid) (steps := steps) hv y hy).2
    refine ⟨?_, ?_⟩
    · simp only [trS]; omega
    · simp only [trS]
      have := tmod_small y.V
      omega
end Go.Proofs.YtgibfidebdgffaaDoor
end
section
namespace Go.Proofs.YtgibfidebdgffaaDoor
end Go.Proofs.YtgibfidebdgffaaDoor
end
section
namespace Go.Proofs.YtgibfidebdgffaaDoor
end Go.Proofs.YtgibfidebdgffaaDoor
end
section
namespace Go.Proofs.YtgibfidebdgffaaDoor
theorem mk_risingL {nid fr : Int} {steps values : List Int} (h0 : 0 ≤ fr) (h1 : fr ≤ 1000000000) : risingA ((mkL nid steps values).map (trS fr)) = true := by
  have hn := mkN nid steps
  have hl := mkL_len nid steps values
  have hg : ∀ j (h : j < ((mkL nid steps values).map (trS fr)).length), (((mkL nid steps values).map (trS fr))[j]'h).T = tAt (nid :: steps) (j + 1) + fr := fun j h => by
    rw [List.getElem_map]
    have : (mkL nid steps values)[j]'(by simpa using h) = (⟨tAt (nid :: steps) (j + 1), vAt values j⟩ : Sample) := rise_get ..
    rw [this]; rfl
  refine rises_of _ _ (fun j h => ?_) (fun i j hi h => ?_)
  · have e := hg j h
    rw [List.length_map, hl] at h
    have h2 := tAt_r (steps := nid :: steps) (i := j + 1) (by rw [List.length_cons]; omega)
    omega
  · rw [hg, hg]
    rw [List.length_map, hl] at h
    have := tAt_lt (steps := nid :: steps) (i := i + 1) (j := j + 1) (by omega) (by rw [List.length_cons]; omega)
    omega
theorem mk_rising {nid fr : Int} {steps values : List Int} (h0 : 0 ≤ fr) (h1 : fr ≤ 1000000000) : risingA (makeS nid fr steps values).Samples = true := mk_risingL h0 h1
theorem mk_small {nid fr : Int} {steps values : List Int} : ∀ s ∈ (makeS nid fr steps values).Samples, smallS s := by
  intro s hs
  simp only [makeS, List.mem_map] at hs
  obtain ⟨y, _, rfl⟩ := hs
  have := tmod_small y.V
  simp only [smallS, trS]; omega
theorem make_may {nid fr : Int} {steps values : List Int} (h0 : 0 ≤ fr) (h1 : fr ≤ 1000000000) : mayS (makeS nid fr steps values) = true := by
  have ht := make_to (nid := nid) (fr := fr) (steps := steps) (values := values)
  have hl := mkL_len nid steps values
  have hn := mkN nid steps
  have hlen : (makeS nid fr steps values).Samples.length = riseN (nid :: steps) 40 := by simp only [makeS, List.length_map, hl]
  have hT : ∀ i (h : i < (makeS nid fr steps values).Samples.length), fr + 1 ≤ (gd (makeS nid fr steps values).Samples i).T ∧ (gd (makeS nid fr steps values).Samples i).T ≤ fr + 1600 := fun i h => by
    rw [gd_eq h]; exact made_T (mkL_T (nid := nid) (steps := steps) (values := values)) rfl h
  refine may_iff.2 ⟨headS_yes ?_, Or.inl ⟨rfl, mayRaw_iff.2 ⟨rfl, by omega, by omega, mk_rising h0 h1, ?_, ?_⟩⟩⟩
  · have e1 : (makeS nid fr steps values).Id = 1 + nid % 18446744073709551616 % 1000 := rfl
    have e2 : (makeS nid fr steps values).Tier = 0 := rfl
    have e3 : (makeS nid fr steps values).From = fr := rfl
    omega
  · have := hT 0 (by omega)
    show fr ≤ _; omega
  · have e : (makeS nid fr steps values).To = (gd (makeS nid fr steps values).Samples ((mkL nid steps values).length - 1)).T + 1 + nid % 18446744073709551616 % 7 := rfl
    rw [hlen, e, hl]; omega
end Go.Proofs.YtgibfidebdgffaaDoor
end
section
namespace Go.Proofs.YtgibfidebdgffaaDoor
/-! ### Samples at 10, 11, .. -/
/-! ### Made ones -/
theorem make_facts {nid fr : Int} {steps values : List Int} {S : SegD} (hd : S = makeS nid fr steps values) (h0 : 0 ≤ fr) (h1 : fr ≤ 1000000000) (hv : ∀ v ∈ values, i64R v) :
    mayS S = true ∧ S.ok ∧ S.Tier = 0 ∧ (encG S).2 = 0 ∧ (7 ≤ (encG S).1.length ∧ (encG S).1.length ≤ 4000) ∧ S.From = fr ∧ (∀ x ∈ S.Samples, smallS x) ∧ (1 ≤ S.Samples.length ∧ S.Samples.length ≤ 41) ∧ (fr + 2 ≤ S.To ∧ S.To ≤ fr + 1610) ∧ S.Aggs = [] ∧ S.Id = 1 + nid % 18446744073709551616 % 1000 := by
  subst hd
  have hm := make_may (nid := nid) (fr := fr) (steps := steps) (values := values) h0 h1
  have hn := mkN nid steps
  have hl : (makeS nid fr steps values).Samples.length = riseN (nid :: steps) 40 := by simp only [makeS, List.length_map]; exact mkL_len ..
  have ht : (makeS nid fr steps values).Tier = 0 := rfl
  have hf : (makeS nid fr steps values).From = fr := rfl
  have hi : (makeS nid fr steps values).Id = 1 + nid % 18446744073709551616 % 1000 := rfl
  have hto := make_to (nid := nid) (fr := fr) (steps := steps) (values := values)
  exact ⟨hm, make_ok h0 h1 hv, ht, (by rw [raw_enc hm ht]), raw_len hm ht, hf, mk_small, ⟨by rw [hl]; omega, by rw [hl]; omega⟩, hto, rfl, hi⟩
/-! ### Rolled up again and again -/
section
variable {s : SegD} (h : mayS s = true) (ht : s.Tier = 0) (hs : ∀ x ∈ s.Samples, smallS x)
include h ht hs
omit ht hs in
end
/-! ### Two, one behind the other -/
theorem two_first {s t : SegD} (hs : mayS s = true) (ht : mayS t = true) (s0 : s.Tier = 0) (t0 : t.Tier = 0) (hft : t.From = s.To) (hn : s.Samples.length + t.Samples.length ≤ 64) : mayS ⟨9, 0, s.From, t.To, s.Samples ++ t.Samples, []⟩ = true := by
  have n1 := may_nums hs
  have n2 := may_nums ht
  have b1 : risingA s.Samples = true ∧ 1 ≤ s.Samples.length ∧ ∀ x ∈ s.Samples, s.From ≤ x.T ∧ x.T < s.To := by
    rcases (may_iff.1 hs).2 with ⟨_, g⟩ | ⟨g, _⟩
    · obtain ⟨_, a1, a2, a3, a4, a5⟩ := mayRaw_iff.1 g
      refine ⟨a3, a1, fun x hx => ?_⟩
      have hasc := (asc_of _ (-1) (by decide) a3).1
      obtain ⟨j, hj, rfl⟩ := List.mem_iff_getElem.1 hx
      have hp := List.pairwise_iff_getElem.1 hasc.1
      rw [gd_eq (by omega)] at a4 a5
      constructor
      · by_cases e : j = 0
        · subst e; exact a4
        · have := hp 0 j (by omega) hj (by omega); omega
      · by_cases e : j = s.Samples.length - 1
        · subst e; exact a5
        · have := hp j (s.Samples.length - 1) hj (by omega) (by omega); omega
    · exact absurd s0 g
  have b2 : risingA t.Samples = true ∧ 1 ≤ t.Samples.length ∧ ∀ x ∈ t.Samples, t.From ≤ x.T ∧ x.T < t.To := by
    rcases (may_iff.1 ht).2 with ⟨_, g⟩ | ⟨g, _⟩
    · obtain ⟨_, a1, a2, a3, a4, a5⟩ := mayRaw_iff.1 g
      refine ⟨a3, a1, fun x hx => ?_⟩
      have hasc := (asc_of _ (-1) (by decide) a3).1
      obtain ⟨j, hj, rfl⟩ := List.mem_iff_getElem.1 hx
      have hp := List.pairwise_iff_getElem.1 hasc.1
      rw [gd_eq (by omega)] at a4 a5
      constructor
      · by_cases e : j = 0
        · subst e; exact a4
        · have := hp 0 j (by omega) hj (by omega); omega
      · by_cases e : j = t.Samples.length - 1
        · subst e; exact a5
        · have := hp j (t.Samples.length - 1) hj (by omega) (by omega); omega
    · exact absurd t0 g
  have p1 := (asc_of _ (-1) (by decide) b1.1).1
  have p2 := (asc_of _ (-1) (by decide) b2.1).1
  have hp : (s.Samples ++ t.Samples).Pairwise (fun a b : Sample => a.T < b.T) := List.pairwise_append.2 ⟨p1.1, p2.1, fun a ha b hb => by
    have h1 := b1.2.2 a ha; have h2 := b2.2.2 b hb; omega⟩
  have hall : ∀ x ∈ s.Samples ++ t.Samples, s.From ≤ x.T ∧ x.T < t.To := fun x hx => by
    rcases List.mem_append.1 hx with hx | hx
    · have := b1.2.2 x hx; omega
    · have := b2.2.2 x hx; omega
  have hl : (s.Samples ++ t.Samples).length = s.Samples.length + t.Samples.length := List.length_append
  have hr : risingA (s.Samples ++ t.Samples) = true := by
    refine rising_of (fun i h => ?_) (fun i h => List.pairwise_iff_getElem.1 hp i (i + 1) (by omega) h (by omega))
    have := hall _ (List.getElem_mem h); omega
  refine may_iff.2 ⟨headS_yes (by simp only []; omega), Or.inl ⟨rfl, mayRaw_iff.2 ⟨rfl, ?_, ?_, hr, ?_, ?_⟩⟩⟩
  · show 1 ≤ (s.Samples ++ t.Samples).length; omega
  · show (s.Samples ++ t.Samples).length ≤ 64; omega
  · show s.From ≤ (gd (s.Samples ++ t.Samples) 0).T
    rw [gd_eq (by omega)]; exact (hall _ (List.getElem_mem _)).1
  · show (gd (s.Samples ++ t.Samples) ((s.Samples ++ t.Samples).length - 1)).T < t.To
    rw [gd_eq (by omega)]; exact (hall _ (List.getElem_mem _)).2
section
variable {S T O : Seg} (hs : mayS S.d = true) (ht : mayS T.d = true) (s0 : S.d.Tier = 0) (t0 : T.d.Tier = 0) (hft : T.d.From = S.d.To) (hO : O.d = ⟨9, 0, S.d.From, T.d.To, S.d.Samples ++ T.d.Samples, []⟩) (hn : S.d.Samples.length + T.d.Samples.length ≤ 64)
  (ss : ∀ x ∈ S.d.Samples, smallS x) (st : ∀ x ∈ T.d.Samples, smallS x)
include hs ht s0 t0 hft hO hn ss st
theorem two_roll : rollL [S, T] 7 1 = (⟨7, 1, S.d.From, T.d.To, [], (rawA (S.d.Samples ++ T.d.Samples) 1).1⟩, 0) ∧ rollL [O] 7 1 = (⟨7, 1, S.d.From, T.d.To, [], (rawA (S.d.Samples ++ T.d.Samples) 1).1⟩, 0) := by
  have hm := two_first hs ht s0 t0 hft hn
  have hr : risingA (S.d.Samples ++ T.d.Samples) = true := by
    rcases (may_iff.1 hm).2 with ⟨_, g⟩ | ⟨g, _⟩
    · exact (mayRaw_iff.1 g).2.2.2.1
    · exact absurd rfl g
  have hl : (S.d.Samples ++ T.d.Samples).length = S.d.Samples.length + T.d.Samples.length := List.length_append
  have hrr := raw_rising (l := S.d.Samples ++ T.d.Samples) (k := 1) (by decide) (by decide) hr (by omega) (fun x hx => by
    rcases List.mem_append.1 hx with hx | hx
    · exact ss x hx
    · exact st x hx)
  have hrl := rawA_len (S.d.Samples ++ T.d.Samples) 1
  constructor
  · have eS : flatS [S, T] = S.d.Samples ++ T.d.Samples := by simp [flatS]
    have g0 : gd [S, T] 0 = S := rfl
    have g1 : gd [S, T] 1 = T := rfl
    have eC : chainG 1 [S, T] 2 = true := by simp [chainG, g0, g1, hs, ht, s0, t0, hft]
    unfold rollL
    rw [if_neg (by simp), if_neg (by rw [show [S, T].length = 2 from rfl, eC]; decide), eS, if_pos rfl, if_neg (fun c => c hrr.1), if_neg (by omega)]
    rfl
  · rw [rollL_one, hO]
    unfold rollS rollT
    rw [if_neg (by decide), if_pos ⟨hm, (show (0 : Int) = 1 - 1 by decide)⟩, if_pos rfl, if_neg (fun c => c hrr.1), if_neg (by show ¬ 64 < (rawA (S.d.Samples ++ T.d.Samples) 1).1.length; omega)]
end
theorem two_wrong {S T : Seg} (h : ¬ S.d.From = T.d.To) : (rollL [T, S] 7 1).2 = 1 := by
  rw [rollL_no (by simp) ?_]
  have g0 : gd [T, S] 0 = T := rfl
  have g1 : gd [T, S] 1 = S := rfl
  show chainG 1 [T, S] 2 = false
  simp [chainG, g0, g1, h]
end Go.Proofs.YtgibfidebdgffaaDoor
end
section
namespace Go.Proofs.YtgibfidebdgffaaDoor
def blkG : Value → Nat
  | .pointer (some ⟨g, _, _⟩) => g
  | _ => 0
end Go.Proofs.YtgibfidebdgffaaDoor
end
section
namespace Go.Proofs.YtgibfidebdgffaaDoor
abbrev iV (x : Int) : Value := .int .i64 x
abbrev nS : Value := .slice none 0 0
abbrev aggC (a : Agg) : List Value := [.int .i64 a.From, .int .i64 a.Count, .int .i64 a.Sum, .int .i64 a.Min, .int .i64 a.Max, .int .i64 a.First, .int .i64 a.Last]
abbrev aggA (a : Agg) : Array Value := #[.int .i64 a.From, .int .i64 a.Count, .int .i64 a.Sum, .int .i64 a.Min, .int .i64 a.Max, .int .i64 a.First, .int .i64 a.Last]
end Go.Proofs.YtgibfidebdgffaaDoor
end
