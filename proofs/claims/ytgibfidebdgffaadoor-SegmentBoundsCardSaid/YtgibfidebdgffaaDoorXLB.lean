/- The library of this proof, part 2: Segments rolled up together; what is told of a file. What the laws of segments need. What the program tells of a few windows. Windows of rising samples fail by a sum alone. Answers without segments. Segments of tier 0 that are made of samples that rise. Windows of windows: small ones never fail; two samples that change places do not rise. Step by step or at once: windows of windows are the windows of the coarser tier. Rows of segments: that they may be, and what they are rolled up to. The laws of segments, in plain numbers. Short names for what walks write often. -/
import Derived.Test.YtgibfidebdgffaaDoorXLA
section
namespace Go.Proofs.YtgibfidebdgffaaDoor
/-! ### Aggregates that follow: none begins where another does -/
theorem joined_ne {l : List Agg} {i : Nat} (hp : l.Pairwise fun a b => a.From < b.From) (h : i < l.length) (hn : ¬ ((l.take i).length : Int) = 0) : ¬ (gd (l.take i) ((l.take i).length - 1)).From = (l[i]'h).From := by
  have hl : (l.take i).length = i := by rw [List.length_take]; omega
  rw [gd_eq (by omega), List.getElem_take]
  have := List.pairwise_iff_getElem.1 hp ((l.take i).length - 1) i (by omega) h (by omega)
  omega
/-! ### Roll -/
def chainG (k : Int) (l : List Seg) : Nat → Bool
  | 0 => true
  | n + 1 => chainG k l n && ((mayS (gd l n).d && decide ((gd l n).d.Tier = k - 1)) && decide (n = 0 ∨ (gd l n).d.From = (gd l (n - 1)).d.To))
def rollL (l : List Seg) (id k : Int) : SegD × Int :=
  if id < 1 ∨ 1073741824 < id ∨ k < 1 ∨ 3 < k ∨ l.length = 0 then (zeroS, 1)
  else if chainG k l l.length = false then (zeroS, 1)
  else if ¬ (if k = 1 then rawA (flatS l) k else downA (flatA l) k).2 = 0 then (zeroS, (if k = 1 then rawA (flatS l) k else downA (flatA l) k).2)
  else if 64 < (if k = 1 then rawA (flatS l) k else downA (flatA l) k).1.length then (zeroS, 8)
  else (⟨id, k, (gd l 0).d.From, (gd l (l.length - 1)).d.To, [], (if k = 1 then rawA (flatS l) k else downA (flatA l) k).1⟩, 0)
section
variable {l : List Seg} {id k : Int} {i : Nat}
theorem rollL_out (h : id < 1 ∨ 1073741824 < id ∨ k < 1 ∨ 3 < k ∨ l.length = 0) : rollL l id k = (zeroS, 1) := if_pos h
theorem chainG_not : ∀ {n m : Nat}, n ≤ m → chainG k l n = false → chainG k l m = false
  | n, 0, hn, h => by obtain rfl : n = 0 := by omega
                      exact h
  | n, m + 1, hn, h => by
    by_cases e : n = m + 1
    · subst e; exact h
    · rw [chainG, chainG_not (m := m) (by omega) h]; rfl
theorem rollL_no (hr : ¬ (id < 1 ∨ 1073741824 < id ∨ k < 1 ∨ 3 < k ∨ l.length = 0)) (h : chainG k l l.length = false) : rollL l id k = (zeroS, 1) := by
  unfold rollL; rw [if_neg hr, if_pos h]
theorem chain_badG (hi : i < l.length) (c : ((¬ mayS (gd l i).d = true) ∨ ¬ (gd l i).d.Tier = k - 1) ∨ (0 < (i : Int) ∧ ¬ (gd l i).d.From = (gd l (i - 1)).d.To)) : chainG k l l.length = false := by
  refine chainG_not (n := i + 1) (by omega) ?_
  rw [chainG]
  rcases c with (c | c) | c
  · rw [Bool.eq_false_iff.2 c]; simp
  · rw [decide_eq_false c]; simp
  · rw [decide_eq_false (by omega : ¬ (i = 0 ∨ (gd l i).d.From = (gd l (i - 1)).d.To))]; simp
theorem chain_stepG (hC : chainG k l i = true) (h1 : mayS (gd l i).d = true) (h2 : (gd l i).d.Tier = k - 1) (h3 : ¬ (0 < (i : Int) ∧ ¬ (gd l i).d.From = (gd l (i - 1)).d.To)) : chainG k l (i + 1) = true := by
  rw [chainG, hC, h1, decide_eq_true h2, decide_eq_true (by omega : i = 0 ∨ (gd l i).d.From = (gd l (i - 1)).d.To)]; rfl
theorem rollL_bad {r : List Agg × Int} (hr : ¬ (id < 1 ∨ 1073741824 < id ∨ k < 1 ∨ 3 < k ∨ l.length = 0)) (hC : chainG k l i = true) (hi : i = l.length) (he : r = (if k = 1 then rawA (flatS l) k else downA (flatA l) k)) (hc : ¬ r.2 = 0) : rollL l id k = (zeroS, r.2) := by
  subst hi; unfold rollL; rw [if_neg hr, if_neg (by rw [hC]; decide), ← he, if_pos hc]
theorem rollL_full {r : List Agg × Int} (hr : ¬ (id < 1 ∨ 1073741824 < id ∨ k < 1 ∨ 3 < k ∨ l.length = 0)) (hC : chainG k l i = true) (hi : i = l.length) (he : r = (if k = 1 then rawA (flatS l) k else downA (flatA l) k)) (hc : r.2 = 0) (hl : 64 < (r.1.length : Int)) : rollL l id k = (zeroS, 8) := by
  subst hi; unfold rollL; rw [if_neg hr, if_neg (by rw [hC]; decide), ← he, if_neg (fun c => c hc), if_pos (by omega)]
theorem rollL_ok {r : List Agg × Int} (hr : ¬ (id < 1 ∨ 1073741824 < id ∨ k < 1 ∨ 3 < k ∨ l.length = 0)) (hC : chainG k l i = true) (hi : i = l.length) (he : r = (if k = 1 then rawA (flatS l) k else downA (flatA l) k)) (hc : r.2 = 0) (hl : ¬ 64 < (r.1.length : Int)) : rollL l id k = (⟨id, k, (gd l 0).d.From, (gd l (l.length - 1)).d.To, [], r.1⟩, 0) := by
  subst hi; unfold rollL; rw [if_neg hr, if_neg (by rw [hC]; decide), ← he, if_neg (fun c => c hc), if_neg (by omega)]
theorem flatS_gd (h : i < l.length) : flatS (l.take i) ++ (gd l i).d.Samples = flatS (l.take (i + 1)) := by rw [gd_eq h]; exact flatS_snoc h
theorem flatA_gd (h : i < l.length) : flatA (l.take i) ++ (gd l i).d.Aggs = flatA (l.take (i + 1)) := by
  rw [gd_eq h]; have := flatA_snoc h rfl; rw [List.take_length] at this; exact this
theorem flat_bnd (hl : l.length ≤ 2) (hC : chainG k l i = true) (hi : i ≤ l.length) : (flatS (l.take i)).length ≤ 64 * i ∧ (flatA (l.take i)).length ≤ 64 * i := by
  induction i with
  | zero => exact ⟨Nat.le_refl _, Nat.le_refl _⟩
  | succ n ih =>
    rw [chainG] at hC
    simp only [Bool.and_eq_true] at hC
    obtain ⟨h1, h2⟩ := ih hC.1 (by omega)
    have h3 := segS_len hC.2.1.1
    rw [← flatS_gd (by omega), ← flatA_gd (by omega), List.length_append, List.length_append]; omega
theorem flat_up (hl : l.length ≤ 1) (hC : chainG k l i = true) (hi : i = l.length) (hk : 1 ≤ k) : (flatA l).Pairwise fun a b => a.From < b.From := by
  match l, hl with
  | [], _ => exact List.Pairwise.nil
  | [s], _ =>
    subst hi
    have hC : chainG k [s] 1 = true := hC
    rw [chainG] at hC
    simp only [Bool.and_eq_true] at hC
    have hm : mayS s.d = true := hC.2.1.1
    have e : flatA [s] = s.d.Aggs := by simp [flatA]
    rw [e]
    rcases (may_iff.1 hm).2 with ⟨_, h2⟩ | ⟨_, h2⟩
    · rw [(mayRaw_iff.1 h2).1]; exact List.Pairwise.nil
    · have g3 := (mayUp_iff.1 h2).2.2.2.1
      unfold alignedA at g3; rw [Bool.and_eq_true] at g3
      exact aligns_pair g3.2
end
/-! ### What is told of a file -/
def InfoG (b : List UInt8) (o : Info) (c : Int) : Prop := (c = 0 ∧ ∃ d : SegD, d.ok ∧ encG d = (b, 0) ∧ o.Id = d.Id ∧ o.Tier = d.Tier ∧ o.From = d.From ∧ o.To = d.To) ∨ (c = 2 ∧ ∀ d : SegD, d.ok → encG d ≠ (b, 0))
theorem infoG_no {b : List UInt8} {d : SegD} {c : Int} {o : Info} (h : DecG b d c) (hc : ¬ c = 0) : InfoG b o c := by
  rcases h with h | h
  · exact absurd h.1 hc
  · exact Or.inr ⟨h.1, h.2.2⟩
theorem infoG_yes {b : List UInt8} {d : SegD} {c s : Int} (h : DecG b d c) (hc : c = 0) : InfoG b ⟨d.Id, d.Tier, d.From, d.To, s⟩ 0 := by
  rcases h with h | h
  · exact Or.inl ⟨rfl, d, h.2.1, h.2.2, rfl, rfl, rfl, rfl⟩
  · omega
theorem decG_len {b : List UInt8} {d : SegD} {c : Int} (h : DecG b d c) (hc : c = 0) : 10 ≤ b.length := by
  rcases h with h | h
  · exact (isG_len (isG_of h.2.1 h.2.2)).2
  · omega
theorem infoG_enc {s : SegD} {o : Info} {c : Int} (h : InfoG (encG s).1 o c) (he : (encG s).2 = 0) (ho : s.ok) : c = 0 ∧ o.Id = s.Id ∧ o.Tier = s.Tier ∧ o.From = s.From ∧ o.To = s.To := by
  rcases h with ⟨h0, d, h1, h2, h3⟩ | h
  · obtain ⟨e, _⟩ := decG_enc (x := d) (c := 0) (Or.inl ⟨rfl, h1, h2⟩) he ho
    subst e; exact ⟨h0, h3⟩
  · exact absurd (Prod.ext (x := encG s) (y := ((encG s).1, 0)) rfl he) (h.2 s ho)
end Go.Proofs.YtgibfidebdgffaaDoor
end
section
namespace Go.Proofs.YtgibfidebdgffaaDoor
theorem rollL_one (S : Seg) (id k : Int) : rollL [S] id k = rollS S.d id k := by
  have e0 : gd [S] 0 = S := rfl
  have eS : flatS [S] = S.d.Samples := by simp [flatS]
  have eA : flatA [S] = S.d.Aggs := by simp [flatA]
  have eC : chainG k [S] 1 = (mayS S.d && decide (S.d.Tier = k - 1)) := by
    rw [chainG, chainG, e0]; simp
  unfold rollL rollS rollT
  by_cases h : id < 1 ∨ 1073741824 < id ∨ k < 1 ∨ 3 < k
  · rw [if_pos h, if_pos (by omega)]
  · rw [if_neg h, if_neg (by simp only [List.length_cons, List.length_nil]; omega)]
    show (if chainG k [S] 1 = false then _ else _) = _
    rw [eC, eS, eA, e0]
    by_cases hm : mayS S.d = true ∧ S.d.Tier = k - 1
    · have e2 : ((mayS S.d && decide (S.d.Tier = k - 1)) = false) ↔ False := by rw [hm.1, decide_eq_true hm.2]; simp
      rw [if_pos hm, if_neg (by rw [e2]; exact fun c => c)]
      have er : (if k = 1 then rawA S.d.Samples k else downA S.d.Aggs k) = (if k = 1 then rawA S.d.Samples 1 else downA S.d.Aggs k) := by
        by_cases hk : k = 1
        · rw [if_pos hk, if_pos hk, hk]
        · rw [if_neg hk, if_neg hk]
      rw [er]; rfl
    · rw [if_neg hm, if_pos]
      cases h1 : mayS S.d
      · rfl
      · rw [Bool.true_and]; exact decide_eq_false fun c => hm ⟨h1, c⟩
theorem ok_nilG : ∀ s ∈ ([] : List Seg), s.d.ok := fun s h => nomatch h
theorem ok_oneG {S : Seg} (h : S.d.ok) : ∀ s ∈ [S], s.d.ok := fun s hs => by obtain rfl := List.mem_singleton.1 hs; exact h
/-! ### A few -/
abbrev toldG : SegD := ⟨3, 0, 0, 10, [⟨3, 5⟩], []⟩
abbrev toldRG : SegD := ⟨4, 1, 0, 10, [], [⟨0, 1, 5, 5, 5, 5, 5⟩]⟩
theorem toldG_ok : toldG.ok := by decide
theorem toldG_may : mayS toldG = true := by decide +kernel
theorem toldG_code : (encG toldG).2 = 0 := by decide +kernel
theorem toldG_len : (6 : Int) < ((encG toldG).1.length : Int) := by decide +kernel
theorem toldG_pos : 0 < (encG toldG).1.length := by decide +kernel
theorem toldG_first : (((encG toldG).1[0]'toldG_pos).toNat : Int) = 84 := by decide +kernel
theorem toldG_small : (encG toldG).1.length ≤ 1000 := by decide +kernel
theorem toldG_get {x : SegD} {c : Int} (h : DecG (encG toldG).1 x c) : x = toldG ∧ c = 0 := decG_enc h toldG_code toldG_ok
theorem toldG_cut {x : SegD} {c : Int} {k : Nat} (h : DecG ((encG toldG).1.take k) x c) (hk : k < (encG toldG).1.length) : c = 2 := decG_cut h toldG_code toldG_ok hk
theorem toldG_info {o : Info} {c : Int} (h : InfoG (encG toldG).1 o c) : c = 0 ∧ o.Id = 3 ∧ o.Tier = 0 ∧ o.From = 0 ∧ o.To = 10 := infoG_enc h toldG_code toldG_ok
theorem toldG_roll (S : Seg) (h : S.d = toldG) : (rollL [S] 4 1).1 = toldRG ∧ (rollL [S] 4 1).2 = 0 := by
  rw [rollL_one, h]; exact ⟨by decide +kernel, by decide +kernel⟩
theorem toldG_sum {x : SegD} (h : x = toldRG) (hl : 0 < x.Aggs.length) : (x.Aggs[0]'hl).Sum = 5 := by subst h; rfl
theorem toldG_ne : ¬ toldG = toldRG := by decide
theorem toldG_zero : mayS ⟨0, 0, 0, 0, [], []⟩ = false := by decide +kernel
end Go.Proofs.YtgibfidebdgffaaDoor
end
section
namespace Go.Proofs.YtgibfidebdgffaaDoor
theorem ok_one {a : Seg} (h : a.d.ok) : ∀ s ∈ [a], s.d.ok := fun s hs => by obtain rfl := List.mem_singleton.1 hs; exact h
end Go.Proofs.YtgibfidebdgffaaDoor
end
section
namespace Go.Proofs.YtgibfidebdgffaaDoor
end Go.Proofs.YtgibfidebdgffaaDoor
end
section
namespace Go.Proofs.YtgibfidebdgffaaDoor
end Go.Proofs.YtgibfidebdgffaaDoor
end
section
namespace Go.Proofs.YtgibfidebdgffaaDoor
/-! ### Bits -/
/-! ### Rows that stay as they are -/
def Frz (a b : Nat) (fr : List Item) (l : List Seg) : Prop := ∀ s ∈ l, rowT a sampE s.sv.1 s.d.Samples ∈ fr ∧ rowT b aggE s.av.1 s.d.Aggs ∈ fr
theorem Frz.nil {a b : Nat} {fr : List Item} : Frz a b fr [] := fun s h => nomatch h
theorem Frz.mono {a b : Nat} {fr fr' : List Item} {l : List Seg} (h : Frz a b fr l) (hs : ∀ x ∈ fr, x ∈ fr') : Frz a b fr' l := fun s hm => ⟨hs _ (h s hm).1, hs _ (h s hm).2⟩
theorem Frz.sub {a b : Nat} {fr : List Item} {l l' : List Seg} (h : Frz a b fr l) (hs : ∀ x ∈ l', x ∈ l) : Frz a b fr l' := fun s hm => h s (hs s hm)
theorem Frz.cons {a b : Nat} {fr : List Item} {l : List Seg} {s : Seg} (h : Frz a b fr l) (h1 : rowT a sampE s.sv.1 s.d.Samples ∈ fr) (h2 : rowT b aggE s.av.1 s.d.Aggs ∈ fr) : Frz a b fr (s :: l) := fun x hm => by
  rcases List.mem_cons.1 hm with rfl | hm
  · exact ⟨h1, h2⟩
  · exact h x hm
/-! ### Rows of segments -/
structure RowD where
  l : List SegD
  all : List Sample
  to : Int
end Go.Proofs.YtgibfidebdgffaaDoor
end
section
namespace Go.Proofs.YtgibfidebdgffaaDoor
end Go.Proofs.YtgibfidebdgffaaDoor
end
section
namespace Go.Proofs.YtgibfidebdgffaaDoor
end Go.Proofs.YtgibfidebdgffaaDoor
end
section
namespace Go.Proofs.YtgibfidebdgffaaDoor
end Go.Proofs.YtgibfidebdgffaaDoor
end
section
namespace Go.Proofs.YtgibfidebdgffaaDoor
/-! ### Samples at 10, 11, .. -/
def ptsL (k : Nat) : List Sample := (List.range k).map fun (i : Nat) => (⟨10 + (i : Int), (i : Int)⟩ : Sample)
theorem ptsL_len (k : Nat) : (ptsL k).length = k := by simp [ptsL]
theorem ptsL_get {k i : Nat} (h : i < (ptsL k).length) : (ptsL k)[i]'h = ⟨10 + (i : Int), (i : Int)⟩ := by simp [ptsL]
theorem ptsL_snoc {i : Nat} : ptsL i ++ [(⟨10 + (i : Int), (i : Int)⟩ : Sample)] = ptsL (i + 1) := by simp [ptsL, List.range_succ]
theorem ptsL_ok {k : Nat} (hk : k ≤ 100) : ∀ s ∈ ptsL k, s.ok := fun s hs => by
  obtain ⟨i, hi, rfl⟩ := List.mem_map.1 hs
  have := List.mem_range.1 hi
  refine ⟨?_, ?_⟩ <;> simp only [i64R] <;> omega
theorem ptsL_rising {k : Nat} (hk : k ≤ 100) : risingA (ptsL k) = true := by
  refine rising_of (fun i h => ?_) (fun i h => ?_)
  · rw [ptsL_get h]
    rw [ptsL_len] at h
    simp only []; omega
  · rw [ptsL_get (by omega), ptsL_get h]
    simp only []; omega
theorem bounds_may {f t : Int} {k : Nat} (hk : k ≤ 67) (hf : 8 ≤ f ∧ f ≤ 12) (ht : 9 + (k : Int) ≤ t ∧ t ≤ 11 + (k : Int)) :
    mayS ⟨1, 0, f, t, ptsL k, []⟩ = (((decide (1 ≤ (k : Int)) && decide ((k : Int) ≤ 64)) && decide (f ≤ 10)) && decide (10 + (k : Int) ≤ t)) := by
  rw [Bool.eq_iff_iff, may_iff]
  simp only [Bool.and_eq_true, decide_eq_true_eq]
  have hl := ptsL_len k
  have hr := ptsL_rising (k := k) (by omega)
  have hg : 0 < k → (gd (ptsL k) 0).T = 10 ∧ (gd (ptsL k) (k - 1)).T = 10 + (k : Int) - 1 := fun h => by
    rw [gd_eq (by omega), gd_eq (by omega), ptsL_get, ptsL_get]
    simp only []; omega
  constructor
  · rintro ⟨h1, ⟨_, h2⟩ | ⟨h2, _⟩⟩
    · have h1 := headS_iff.1 h1
      obtain ⟨_, a1, a2, _, a4, a5⟩ := mayRaw_iff.1 h2
      simp only [] at h1 a1 a2 a4 a5
      rw [hl] at a1 a2 a5
      have := hg (by omega)
      omega
    · exact (h2 trivial).elim
  · rintro ⟨⟨⟨h1, h2⟩, h3⟩, h4⟩
    have := hg (by omega)
    refine ⟨headS_yes (by omega), Or.inl ⟨trivial, mayRaw_iff.2 ⟨rfl, ?_, ?_, hr, ?_, ?_⟩⟩⟩
    · show 1 ≤ (ptsL k).length; omega
    · show (ptsL k).length ≤ 64; omega
    · show f ≤ (gd (ptsL k) 0).T; omega
    · show (gd (ptsL k) ((ptsL k).length - 1)).T < t
      rw [hl]; omega
theorem bounds_ok {f t : Int} {k : Nat} (hk : k ≤ 67) (hf : 8 ≤ f ∧ f ≤ 12) (ht : 9 + (k : Int) ≤ t ∧ t ≤ 11 + (k : Int)) : (⟨1, 0, f, t, ptsL k, []⟩ : SegD).ok := by
  refine ⟨by simp [i64R], by simp [i64R], ?_, ?_, ptsL_ok (by omega), (by intro x hx; cases hx)⟩ <;> simp only [i64R] <;> omega
theorem code_is {s : SegD} (h0 : s.Tier = 0) : decide ((encG s).2 = 0) = mayS s := by
  cases h : mayS s
  · rw [encG_no h]; rfl
  · rw [raw_enc h h0]; rfl
theorem code_one {s : SegD} (h0 : s.Tier = 0) (hc : ¬ (encG s).2 = 0) : (encG s).2 = 1 ∧ ((encG s).1.length : Int) = 0 := by
  cases h : mayS s
  · rw [encG_no h]; exact ⟨rfl, rfl⟩
  · rw [raw_enc h h0] at hc; exact absurd rfl hc
/-! ### Made ones -/
/-! ### Rolled up again and again -/
section
variable {s : SegD} (h : mayS s = true) (ht : s.Tier = 0) (hs : ∀ x ∈ s.Samples, smallS x)
include h ht hs
omit ht hs in
end
/-! ### Two, one behind the other -/
section
variable {S T O : Seg} (hs : mayS S.d = true) (ht : mayS T.d = true) (s0 : S.d.Tier = 0) (t0 : T.d.Tier = 0) (hft : T.d.From = S.d.To) (hO : O.d = ⟨9, 0, S.d.From, T.d.To, S.d.Samples ++ T.d.Samples, []⟩) (hn : S.d.Samples.length + T.d.Samples.length ≤ 64)
  (ss : ∀ x ∈ S.d.Samples, smallS x) (st : ∀ x ∈ T.d.Samples, smallS x)
include hs ht s0 t0 hft hO hn ss st
end
end Go.Proofs.YtgibfidebdgffaaDoor
end
section
namespace Go.Proofs.YtgibfidebdgffaaDoor
abbrev iV (x : Int) : Value := .int .i64 x
abbrev nS : Value := .slice none 0 0
abbrev aggC (a : Agg) : List Value := [.int .i64 a.From, .int .i64 a.Count, .int .i64 a.Sum, .int .i64 a.Min, .int .i64 a.Max, .int .i64 a.First, .int .i64 a.Last]
abbrev aggA (a : Agg) : Array Value := #[.int .i64 a.From, .int .i64 a.Count, .int .i64 a.Sum, .int .i64 a.Min, .int .i64 a.Max, .int .i64 a.First, .int .i64 a.Last]
end Go.Proofs.YtgibfidebdgffaaDoor
end
