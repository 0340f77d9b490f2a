/- The library of this proof, part 2: A segment rolled up. What the program tells of a few windows. -/
import Derived.Test.YthanfecefjfbjaaXLA
section
namespace Go.Proofs.Ythanfecefjfbjaa
abbrev zeroS : SegD := ⟨0, 0, 0, 0, [], []⟩
def rollT (s : SegD) (id k : Int) (r : List Agg × Int) : SegD × Int :=
  if ¬ r.2 = 0 then (zeroS, r.2) else if 64 < r.1.length then (zeroS, 8) else (⟨id, k, s.From, s.To, [], r.1⟩, 0)
def rollS (s : SegD) (id k : Int) : SegD × Int :=
  if id < 1 ∨ 1073741824 < id ∨ k < 1 ∨ 3 < k then (zeroS, 1)
  else if mayS s = true ∧ s.Tier = k - 1 then rollT s id k (if k = 1 then rawA s.Samples 1 else downA s.Aggs k) else (zeroS, 1)
theorem roll_out {s : SegD} {id k : Int} (h : id < 1 ∨ 1073741824 < id ∨ k < 1 ∨ 3 < k) : rollS s id k = (zeroS, 1) := by unfold rollS; rw [if_pos h]
theorem gd0 {l : List Seg} {i : Nat} (h : i < l.length) (h1 : l.length = 1) : (l[i]'h) = gd l 0 := by
  obtain rfl : i = 0 := by omega
  exact (gd_eq h).symm
theorem roll_no1 {l : List Seg} {id k : Int} {i : Nat} (h : i < l.length) (h1 : l.length = 1) (hm : mayS (l[i]'h).d = false) (hr : ¬ (id < 1 ∨ 1073741824 < id ∨ k < 1 ∨ 3 < k)) : rollS (gd l 0).d id k = (zeroS, 1) := by
  rw [gd0 h h1] at hm; unfold rollS; rw [if_neg hr, if_neg (by rw [hm]; simp)]
theorem roll_no2 {l : List Seg} {id k : Int} {i : Nat} (h : i < l.length) (h1 : l.length = 1) (hm : ¬ (l[i]'h).d.Tier = k - 1) (hr : ¬ (id < 1 ∨ 1073741824 < id ∨ k < 1 ∨ 3 < k)) : rollS (gd l 0).d id k = (zeroS, 1) := by
  rw [gd0 h h1] at hm; unfold rollS; rw [if_neg hr, if_neg (fun c => hm c.2)]
theorem roll_may {l : List Seg} {k : Int} {i : Nat} (h : i < l.length) (h1 : l.length = 1) (hm : mayS (l[i]'h).d = true) (ht : (l[i]'h).d.Tier = k - 1) : mayS (gd l 0).d = true ∧ (gd l 0).d.Tier = k - 1 := by
  rw [gd0 h h1] at hm ht; exact ⟨hm, ht⟩
def flatS (l : List Seg) : List Sample := l.flatMap fun s => s.d.Samples
def flatA (l : List Seg) : List Agg := l.flatMap fun s => s.d.Aggs
theorem flatS_snoc {l : List Seg} {i : Nat} (h : i < l.length) : flatS (l.take i) ++ (l[i]'h).d.Samples = flatS (l.take (i + 1)) := by
  unfold flatS; rw [List.take_succ_eq_append_getElem h, List.flatMap_append]; simp
theorem flatA_snoc {l : List Seg} {i j : Nat} (h : i < l.length) (hj : j = (l[i]'h).d.Aggs.length) : flatA (l.take i) ++ (l[i]'h).d.Aggs.take j = flatA (l.take (i + 1)) := by
  subst hj; unfold flatA; rw [List.take_succ_eq_append_getElem h, List.flatMap_append]; simp
theorem flatA_go {l : List Seg} {i j : Nat} (h : i < l.length) (hj : j < (l[i]'h).d.Aggs.length) : (flatA (l.take i) ++ (l[i]'h).d.Aggs.take j) ++ [(l[i]'h).d.Aggs[j]'hj] = flatA (l.take i) ++ (l[i]'h).d.Aggs.take (j + 1) := by
  rw [List.append_assoc, List.take_succ_eq_append_getElem hj]
theorem flat_one {l : List Seg} (h1 : l.length = 1) : flatS l = (gd l 0).d.Samples ∧ flatA l = (gd l 0).d.Aggs := by
  match l, h1 with
  | [s], _ => exact ⟨by simp [flatS, gd], by simp [flatA, gd]⟩
theorem flatS_all {l : List Seg} {i : Nat} (h1 : l.length = 1) (h : i = l.length) : flatS (l.take i) = (gd l 0).d.Samples := by rw [List.take_of_length_le (by omega)]; exact (flat_one h1).1
theorem flatA_all {l : List Seg} {i : Nat} (h1 : l.length = 1) (h : i = l.length) : flatA (l.take i) = (gd l 0).d.Aggs := by rw [List.take_of_length_le (by omega)]; exact (flat_one h1).2
theorem roll_fresh {l : List Seg} {n j m : Nat} {k : Int} (h1 : l.length = 1) (hn : n < l.length) (hm : mayS (gd l 0).d = true ∧ (gd l 0).d.Tier = k - 1) (hj : j < (l[n]'hn).d.Aggs.length) (hk : m < (flatA (l.take n) ++ (l[n]'hn).d.Aggs.take j).length) :
    ¬ ((flatA (l.take n) ++ (l[n]'hn).d.Aggs.take j)[m]'hk).From = ((l[n]'hn).d.Aggs[j]'hj).From := by
  obtain rfl : n = 0 := by omega
  have e : (l[0]'hn) = gd l 0 := gd0 hn h1
  have hm := hm.1
  rw [← e] at hm
  obtain ⟨_, h2⟩ := may_iff.1 hm
  rcases h2 with ⟨_, h2⟩ | ⟨h0, h2⟩
  · have := (mayRaw_iff.1 h2).1; rw [this] at hj; cases hj
  · obtain ⟨_, g1, _, g3, g4, g5⟩ := mayUp_iff.1 h2
    have hal : alignsFrom (l[0]'hn).d.Tier (-1) (l[0]'hn).d.Aggs = true := by unfold alignedA at g3; rw [Bool.and_eq_true] at g3; exact g3.2
    have hp := List.pairwise_iff_getElem.1 (aligns_pair hal)
    have e2 : flatA (l.take 0) ++ (l[0]'hn).d.Aggs.take j = (l[0]'hn).d.Aggs.take j := by simp [flatA]
    have hk2 := hk
    rw [e2, List.length_take] at hk2
    have := hp m j (by omega) hj (by omega)
    simp only [e2, List.getElem_take]
    omega
theorem gd0_mem {l : List Seg} (h1 : l.length = 1) : gd l 0 ∈ l := by rw [gd_eq (show 0 < l.length by omega)]; exact List.getElem_mem _
theorem roll_bad {l : List Seg} {id k : Int} {r : List Agg × Int} (h1 : l.length = 1) (hr : ¬ (id < 1 ∨ 1073741824 < id ∨ k < 1 ∨ 3 < k)) (hm : mayS (gd l 0).d = true ∧ (gd l 0).d.Tier = k - 1) (he : r = (if k = 1 then rawA (gd l 0).d.Samples 1 else downA (gd l 0).d.Aggs k)) (hc : ¬ r.2 = 0) : rollS (gd l 0).d id k = (zeroS, r.2) := by
  unfold rollS rollT; rw [if_neg hr, if_pos hm, ← he, if_pos hc]
theorem roll_full {l : List Seg} {id k : Int} {r : List Agg × Int} (h1 : l.length = 1) (hr : ¬ (id < 1 ∨ 1073741824 < id ∨ k < 1 ∨ 3 < k)) (hm : mayS (gd l 0).d = true ∧ (gd l 0).d.Tier = k - 1) (he : r = (if k = 1 then rawA (gd l 0).d.Samples 1 else downA (gd l 0).d.Aggs k)) (hc : r.2 = 0) (hf : 64 < (r.1.length : Int)) : rollS (gd l 0).d id k = (zeroS, 8) := by
  unfold rollS rollT; rw [if_neg hr, if_pos hm, ← he, if_neg (fun c => c hc), if_pos (by omega)]
theorem roll_ok {l : List Seg} {id k : Int} {i : Nat} {r : List Agg × Int} (hi : i < l.length) (h1 : l.length = 1) (hr : ¬ (id < 1 ∨ 1073741824 < id ∨ k < 1 ∨ 3 < k)) (hm : mayS (gd l 0).d = true ∧ (gd l 0).d.Tier = k - 1) (he : r = (if k = 1 then rawA (gd l 0).d.Samples 1 else downA (gd l 0).d.Aggs k)) (hc : r.2 = 0) (hf : ¬ 64 < (r.1.length : Int)) :
    rollS (gd l 0).d id k = (⟨id, k, (l[0]'(by omega)).d.From, (l[i]'hi).d.To, [], r.1⟩, 0) := by
  unfold rollS rollT; rw [if_neg hr, if_pos hm, ← he, if_neg (fun c => c hc), if_neg (by omega), gd0 hi h1, gd0 (by omega) h1]
end Go.Proofs.Ythanfecefjfbjaa
end
section
namespace Go.Proofs.Ythanfecefjfbjaa
def toldS : SegD := ⟨1, 0, 0, 7, [⟨3, 5⟩, ⟨6, 2⟩], []⟩
def toldR : SegD := ⟨2, 1, 0, 7, [], [⟨0, 1, 5, 5, 5, 5, 5⟩, ⟨5, 1, 2, 2, 2, 2, 2⟩]⟩
def toldA : List Win := [⟨0, 6, 7, ⟨6, 1, 2, 2, 2, 2, 2⟩⟩, ⟨0, 9, 10, ⟨9, 1, 1, 1, 1, 1, 1⟩⟩]
def toldB : List Win := [⟨1, 5, 7, ⟨5, 1, 2, 2, 2, 2, 2⟩⟩]
theorem toldS_ok : toldS.ok := by decide
theorem toldR_ok : toldR.ok := by decide
theorem told_roll : (rollS toldS 2 1).1 = toldR := by decide +kernel
theorem told_A : rangeW [toldS, toldR] [⟨9, 1⟩] 4 20 = (toldA, 0) := by decide +kernel
theorem told_B : rangeW [toldR] [] 6 7 = (toldB, 0) := by decide +kernel
theorem told_C : rangeW [] [] 3 3 = ([], 5) := by decide +kernel
theorem told_D : rangeW [toldS, toldS] [] 0 3 = ([], 1) := by decide +kernel
theorem ok_nil : ∀ s ∈ ([] : List Seg), s.d.ok := fun s h => nomatch h
theorem ok_one {a : Seg} (h : a.d.ok) : ∀ s ∈ [a], s.d.ok := fun s hs => by obtain rfl := List.mem_singleton.1 hs; exact h
theorem ok_two {a b : Seg} (h : a.d.ok) (h' : b.d.ok) : ∀ s ∈ [a, b], s.d.ok := fun s hs => by
  rcases List.mem_cons.1 hs with rfl | hs
  · exact h
  · obtain rfl := List.mem_singleton.1 hs; exact h'
end Go.Proofs.Ythanfecefjfbjaa
end
