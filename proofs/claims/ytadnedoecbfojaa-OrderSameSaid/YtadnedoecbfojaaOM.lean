/- Merging two sorted ranges (symMerge): what stands where behind the rotation. -/
import Derived.Test.YtadnedoecbfojaaOR
namespace Go.Proofs.Ytadnedoecbfojaa
theorem srt_le {l : List Info} {a b : Nat} (h : SrtR l a b) {p q : Nat} (hp : p < l.length) (hq : q < l.length) (h1 : a ≤ p) (h2 : p ≤ q) (h3 : q < b) : leI (l[p]'hp) (l[q]'hq) := by
  by_cases e : p = q
  · subst e; exact leI_refl _
  · exact h p q hp hq h1 (by omega) h3
theorem cross_of {xs : List Info} {a s m e b : Nat} (h1 : SrtR xs a m) (h2 : SrtR xs m b) (hs : s ≤ m) (he : m ≤ e)
    (hA : s = a ∨ e = b ∨ ∃ (h : s - 1 < xs.length) (h' : e < xs.length), leI (xs[s - 1]'h) (xs[e]'h')) (hB : e = m ∨ s = m ∨ ∃ (h : e - 1 < xs.length) (h' : s < xs.length), leI (xs[e - 1]'h) (xs[s]'h'))
    (ha : a ≤ s) (hb : e ≤ b) : ∀ (i j : Nat) (hi : i < xs.length) (hj : j < xs.length), (a ≤ i ∧ i < s ∨ m ≤ i ∧ i < e) → (s ≤ j ∧ j < m ∨ e ≤ j ∧ j < b) → leI (xs[i]'hi) (xs[j]'hj) := by
  rintro i j hi hj (⟨k1, k2⟩ | ⟨k1, k2⟩) (⟨k3, k4⟩ | ⟨k3, k4⟩)
  · exact srt_le h1 hi hj k1 (by omega) k4
  · rcases hA with hA | hA | ⟨q1, q2, hA⟩
    · omega
    · omega
    · exact leI_trans (srt_le h1 hi q1 k1 (by omega) (by omega)) (leI_trans hA (srt_le h2 q2 hj (by omega) k3 k4))
  · rcases hB with hB | hB | ⟨q1, q2, hB⟩
    · omega
    · omega
    · exact leI_trans (srt_le h2 hi q1 k1 (by omega) (by omega)) (leI_trans hB (srt_le h1 q2 hj (by omega) k3 k4))
  · exact srt_le h2 hi hj k1 (by omega) k4
theorem rot_get {xs ys : List Info} {a m b k : Nat} (h : RotR xs ys a m b) (h1 : a ≤ m) (h2 : m ≤ b) (h3 : b ≤ xs.length) (hk : k < ys.length) : ∃ hr : rtI a m b k < xs.length, ys[k]'hk = xs[rtI a m b k]'hr := by
  have hl := h.1
  have hr := rt_lt h1 h2 h3 (k := k) (by omega)
  refine ⟨hr, ?_⟩
  have := h.2 k (by omega)
  rw [List.getElem?_eq_getElem hk, List.getElem?_eq_getElem hr] at this
  exact Option.some.inj this
/-- Behind the rotation: both halves are two sorted ranges each, and all of the first half may stand before all of the second. -/
theorem rot_halves {xs ys : List Info} {a s m e b mid : Nat} (h1 : SrtR xs a m) (h2 : SrtR xs m b) (ha : a ≤ s) (hs : s ≤ m) (he : m ≤ e) (hb : e ≤ b) (hbl : b ≤ xs.length) (hm : mid = s + (e - m))
    (hA : s = a ∨ e = b ∨ ∃ (h : s - 1 < xs.length) (h' : e < xs.length), leI (xs[s - 1]'h) (xs[e]'h')) (hB : e = m ∨ s = m ∨ ∃ (h : e - 1 < xs.length) (h' : s < xs.length), leI (xs[e - 1]'h) (xs[s]'h'))
    (hR : RotR xs ys s m e) : SrtR ys a s ∧ SrtR ys s mid ∧ SrtR ys mid e ∧ SrtR ys e b ∧ ∀ (i j : Nat) (hi : i < ys.length) (hj : j < ys.length), a ≤ i → i < mid → mid ≤ j → j < b → leI (ys[i]'hi) (ys[j]'hj) := by
  have hc := cross_of h1 h2 hs he hA hB ha hb
  have hl := hR.1
  refine ⟨fun p q hp hq k1 k2 k3 => ?_, fun p q hp hq k1 k2 k3 => ?_, fun p q hp hq k1 k2 k3 => ?_, fun p q hp hq k1 k2 k3 => ?_, fun p q hp hq k1 k2 k3 k4 => ?_⟩
  all_goals
    obtain ⟨r1, e1⟩ := rot_get hR hs he (by omega) hp
    obtain ⟨r2, e2⟩ := rot_get hR hs he (by omega) hq
    rw [e1, e2]
    have A := rt_cases s m e p
    have B := rt_cases s m e q
  · exact h1 _ _ r1 r2 (by omega) (by omega) (by omega)
  · exact h2 _ _ r1 r2 (by omega) (by omega) (by omega)
  · exact h1 _ _ r1 r2 (by omega) (by omega) (by omega)
  · exact h2 _ _ r1 r2 (by omega) (by omega) (by omega)
  · exact hc _ _ r1 r2 (by omega) (by omega)
/-! ### What is turned inside a half keeps the order across -/
theorem parts3 (l : List Info) {a b : Nat} (h : a ≤ b) : l = l.take a ++ ((l.take b).drop a ++ l.drop b) := by
  have e1 : (l.take b).take a = l.take a := by rw [List.take_take, Nat.min_eq_left h]
  calc l = l.take b ++ l.drop b := (List.take_append_drop b l).symm
    _ = ((l.take b).take a ++ (l.take b).drop a) ++ l.drop b := by rw [List.take_append_drop a (l.take b)]
    _ = _ := by rw [e1, List.append_assoc]
theorem seg_perm {xs ys : List Info} {a b : Nat} (h : Turned xs ys a b) (hab : a ≤ b) : ((ys.take b).drop a).Perm ((xs.take b).drop a) := by
  obtain ⟨_, h2, h3, h4⟩ := h
  rw [parts3 xs hab, parts3 ys hab, h3, h4] at h2
  exact (List.perm_append_right_iff _).1 ((List.perm_append_left_iff _).1 h2)
theorem seg_get {xs ys : List Info} {a b i : Nat} (h : Turned xs ys a b) (hi : i < ys.length) (ha : a ≤ i) (hb : i < b) : ∃ (j : Nat) (hj : j < xs.length), a ≤ j ∧ j < b ∧ ys[i]'hi = xs[j]'hj := by
  have hm : ys[i]'hi ∈ (ys.take b).drop a := by
    refine List.mem_iff_getElem.2 ⟨i - a, by rw [List.length_drop, List.length_take]; omega, ?_⟩
    rw [List.getElem_drop, List.getElem_take]
    congr 1; omega
  obtain ⟨j, hj, e⟩ := List.mem_iff_getElem.1 ((seg_perm h (by omega)).mem_iff.1 hm)
  rw [List.length_drop, List.length_take] at hj
  rw [List.getElem_drop, List.getElem_take] at e
  exact ⟨a + j, by omega, by omega, by omega, e.symm⟩
theorem out_get {xs ys : List Info} {a b i : Nat} (h : Turned xs ys a b) (hi : i < ys.length) (hx : i < a ∨ b ≤ i) : ∃ hj : i < xs.length, ys[i]'hi = xs[i]'hj := by
  obtain ⟨h1, _, h3, h4⟩ := h
  refine ⟨by omega, ?_⟩
  have : ys[i]? = xs[i]? := by
    rcases hx with hx | hx
    · have := congrArg (fun l => l[i]?) h3
      simpa [List.getElem?_take, hx] using this
    · have := congrArg (fun l => l[i - b]?) h4
      simp only [List.getElem?_drop] at this
      rwa [show b + (i - b) = i from by omega] at this
  rw [List.getElem?_eq_getElem hi, List.getElem?_eq_getElem (by omega)] at this
  exact Option.some.inj this
def Cross (l : List Info) (a mid b : Nat) : Prop := ∀ (i j : Nat) (hi : i < l.length) (hj : j < l.length), a ≤ i → i < mid → mid ≤ j → j < b → leI (l[i]'hi) (l[j]'hj)
theorem cross_left {xs ys : List Info} {a mid b : Nat} (h : Cross xs a mid b) (hT : Turned xs ys a mid) : Cross ys a mid b := by
  intro i j hi hj k1 k2 k3 k4
  obtain ⟨i', q1, q2, q3, q4⟩ := seg_get hT hi k1 k2
  obtain ⟨q5, q6⟩ := out_get hT hj (Or.inr k3)
  rw [q4, q6]; exact h _ _ q1 q5 q2 q3 k3 k4
theorem cross_right {xs ys : List Info} {a mid b : Nat} (h : Cross xs a mid b) (hT : Turned xs ys mid b) : Cross ys a mid b := by
  intro i j hi hj k1 k2 k3 k4
  obtain ⟨q5, q6⟩ := out_get hT hi (Or.inl k2)
  obtain ⟨j', q1, q2, q3, q4⟩ := seg_get hT hj k3 k4
  rw [q4, q6]; exact h _ _ q5 q1 k1 k2 q2 q3
theorem srt_out {xs ys : List Info} {a b c d : Nat} (h : SrtR xs c d) (hT : Turned xs ys a b) (hx : d ≤ a ∨ b ≤ c) : SrtR ys c d := by
  intro p q hp hq k1 k2 k3
  obtain ⟨q1, q2⟩ := out_get hT hp (by omega)
  obtain ⟨q3, q4⟩ := out_get hT hq (by omega)
  rw [q2, q4]; exact h p q q1 q3 k1 k2 k3
theorem srt_join {l : List Info} {a mid b : Nat} (h1 : SrtR l a mid) (h2 : SrtR l mid b) (hc : Cross l a mid b) : SrtR l a b := by
  intro p q hp hq k1 k2 k3
  by_cases c1 : q < mid
  · exact h1 p q hp hq k1 k2 c1
  · by_cases c2 : mid ≤ p
    · exact h2 p q hp hq c2 k2 k3
    · exact hc p q hp hq k1 (by omega) (by omega) k3
end Go.Proofs.Ytadnedoecbfojaa
