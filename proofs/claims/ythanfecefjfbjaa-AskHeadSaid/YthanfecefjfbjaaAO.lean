/- Sorting notes by their span: the insertion sort. -/
import Derived.Test.YthanfecefjfbjaaOI
namespace Go.Proofs.Ythanfecefjfbjaa
/-! ### Which comes first -/
def aheadF (a b : Info) : Bool := decide (a.From < b.From ∨ (a.From = b.From ∧ a.To < b.To))
theorem aheadF_iff {a b : Info} : aheadF a b = true ↔ (a.From < b.From ∨ (a.From = b.From ∧ a.To < b.To)) := decide_eq_true_iff
/-- a may stand before b. -/
def leF (a b : Info) : Prop := aheadF b a = false
theorem leF_iff {a b : Info} : leF a b ↔ (a.From < b.From ∨ (a.From = b.From ∧ a.To ≤ b.To)) := by
  unfold leF aheadF; rw [decide_eq_false_iff_not]; omega
theorem leF_trans {a b c : Info} (h : leF a b) (h' : leF b c) : leF a c := by rw [leF_iff] at *; omega
theorem leF_refl (a : Info) : leF a a := by rw [leF_iff]; omega
theorem aheadF_le {a b : Info} (h : aheadF a b = true) : leF a b := by rw [aheadF_iff] at h; rw [leF_iff]; omega
def SortedF (l : List Info) : Prop := l.Pairwise leF
def cmpF (a b : Info) : Int := orI [cmpI a.From b.From, cmpI a.To b.To]
theorem cmpF_lt {a b : Info} : cmpF a b < 0 ↔ aheadF a b = true := by
  rw [aheadF_iff]; unfold cmpF
  simp only [orI, cmpI]
  repeat' split
  all_goals omega
/-- Between a and b the notes stand in order. -/
def SrtR (l : List Info) (a b : Nat) : Prop := ∀ (p q : Nat) (hp : p < l.length) (hq : q < l.length), a ≤ p → p < q → q < b → leF (l[p]'hp) (l[q]'hq)
/-- What has been turned of xs lies between a and b. -/
def TurnF (xs ys : List Info) (a b : Nat) : Prop := ys.length = xs.length ∧ ys.Perm xs ∧ ys.take a = xs.take a ∧ ys.drop b = xs.drop b
theorem turnF_refl (xs : List Info) (a b : Nat) : TurnF xs xs a b := ⟨rfl, List.Perm.refl _, rfl, rfl⟩
theorem turnF_more {xs ys : List Info} {a b b' : Nat} (h : TurnF xs ys a b) (hb : b ≤ b') : TurnF xs ys a b' := by
  obtain ⟨h1, h2, h3, h4⟩ := h
  refine ⟨h1, h2, h3, ?_⟩
  have e : ∀ l : List Info, l.drop b' = (l.drop b).drop (b' - b) := fun l => by rw [List.drop_drop]; congr 1; omega
  rw [e ys, e xs, h4]
theorem turnF_trans {xs ys zs : List Info} {a b : Nat} (h : TurnF xs ys a b) (h' : TurnF ys zs a b) : TurnF xs zs a b :=
  ⟨h'.1.trans h.1, h'.2.1.trans h.2.1, h'.2.2.1.trans h.2.2.1, h'.2.2.2.trans h.2.2.2⟩
abbrev swp (l : List Info) (i j : Nat) (hi : i < l.length) (hj : j < l.length) : List Info := (l.set i (l[j]'hj)).set j (l[i]'hi)
theorem swp_turnF {l : List Info} {i j a b : Nat} (hi : i < l.length) (hj : j < l.length) (ha : a ≤ i ∧ a ≤ j) (hb : i < b ∧ j < b) : TurnF l (swp l i j hi hj) a b := by
  refine ⟨by simp [swp], List.set_set_perm hi hj, ?_, ?_⟩
  · unfold swp; rw [List.take_set_of_le (by omega), List.take_set_of_le (by omega)]
  · unfold swp; rw [List.drop_set_of_lt (by omega), List.drop_set_of_lt (by omega)]
/-- The insertion at work: the note at j is on its way down; else all between a and i stands in order. -/
def Down1 (l : List Info) (a i j : Nat) : Prop :=
  (∀ (p q : Nat) (hp : p < l.length) (hq : q < l.length), a ≤ p → p < q → q ≤ i → p ≠ j → q ≠ j → leF (l[p]'hp) (l[q]'hq)) ∧
  (∀ (q : Nat) (hj : j < l.length) (hq : q < l.length), j < q → q ≤ i → leF (l[j]'hj) (l[q]'hq))
theorem down1_start {l : List Info} {a i : Nat} (h : SrtR l a i) : Down1 l a i i :=
  ⟨fun p q hp hq h1 h2 h3 h4 h5 => h p q hp hq h1 h2 (by omega), fun q hj hq h1 h2 => by omega⟩
theorem swp_get {l : List Info} {i j k : Nat} (hi : i < l.length) (hj : j < l.length) (hk : k < (swp l i j hi hj).length) : (swp l i j hi hj)[k]'hk = if k = j then l[i]'hi else if k = i then l[j]'hj else l[k]'(by simpa [swp] using hk) := by
  rw [List.getElem_set]
  split
  · rename_i h; rw [if_pos h.symm]
  · rename_i h
    rw [if_neg (fun e => h e.symm), List.getElem_set]
    split
    · rename_i h2; rw [if_pos h2.symm]
    · rename_i h2; rw [if_neg (fun e => h2 e.symm)]
theorem down1_swap {l : List Info} {a i j : Nat} (h : Down1 l a i j) (ha : a < j) (hji : j ≤ i) (hi : i < l.length) (hh : aheadF (l[j]'(by omega)) (l[j - 1]'(by omega)) = true) : Down1 (swp l j (j - 1) (by omega) (by omega)) a i (j - 1) := by
  obtain ⟨h1, h2⟩ := h
  have hl : (swp l j (j - 1) (by omega) (by omega)).length = l.length := by simp [swp]
  have hle := aheadF_le hh
  refine ⟨fun p q hp hq k1 k2 k3 k4 k5 => ?_, fun q hj hq k1 k2 => ?_⟩
  · rw [hl] at hp hq
    rw [swp_get, swp_get, if_neg k4, if_neg k5]
    by_cases e1 : p = j
    · rw [if_pos e1, if_neg (by omega)]
      exact h1 (j - 1) q (by omega) hq (by omega) (by omega) k3 (by omega) (by omega)
    · rw [if_neg e1]
      by_cases e2 : q = j
      · rw [if_pos e2]
        exact h1 p (j - 1) hp (by omega) k1 (by omega) (by omega) e1 (by omega)
      · rw [if_neg e2]
        exact h1 p q hp hq k1 k2 k3 e1 e2
  · rw [hl] at hq
    rw [swp_get, swp_get, if_pos rfl, if_neg (by omega)]
    by_cases e2 : q = j
    · rw [if_pos e2]; exact hle
    · rw [if_neg e2]; exact h2 q (by omega) hq (by omega) k2
theorem down1_end {l : List Info} {a i j : Nat} (h : Down1 l a i j) (hji : j ≤ i) (hi : i < l.length) (hx : j = a ∨ (a < j ∧ aheadF (l[j]'(by omega)) (l[j - 1]'(by omega)) = false)) : SrtR l a (i + 1) := by
  obtain ⟨h1, h2⟩ := h
  intro p q hp hq k1 k2 k3
  by_cases e1 : p = j
  · subst e1; exact h2 q hp hq k2 (by omega)
  · by_cases e2 : q = j
    · subst e2
      rcases hx with hx | ⟨hx, hy⟩
      · omega
      · by_cases e3 : p = q - 1
        · subst e3; exact hy
        · exact leF_trans (h1 p (q - 1) hp (by omega) k1 (by omega) (by omega) e1 (by omega)) hy
    · exact h1 p q hp hq k1 k2 (by omega) e1 e2
theorem srt_less {l : List Info} {a b b' : Nat} (h : SrtR l a b) (hb : b' ≤ b) : SrtR l a b' := fun p q hp hq h1 h2 h3 => h p q hp hq h1 h2 (by omega)
theorem cmp_ge {a b : Info} (h : ¬ cmpF a b < 0) : aheadF a b = false := by
  cases hh : aheadF a b with
  | false => rfl
  | true => exact absurd (cmpF_lt.2 hh) h
theorem cmp_lt {a b : Info} (h : cmpF a b < 0) : aheadF a b = true := cmpF_lt.1 h
theorem srt_one (l : List Info) (a : Nat) : SrtR l a (a + 1) := fun p q hp hq h1 h2 h3 => by omega
theorem srt_all {l : List Info} (h : SrtR l 0 l.length) : SortedF l := List.pairwise_iff_getElem.2 fun i j hi hj hij => h i j hi hj (Nat.zero_le _) hij hj
end Go.Proofs.Ythanfecefjfbjaa
