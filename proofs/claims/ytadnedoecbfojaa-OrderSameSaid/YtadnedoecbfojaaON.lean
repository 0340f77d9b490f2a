/- Merging two sorted ranges (symMerge): the binary searches, the short cases, the long one. -/
import Derived.Test.YtadnedoecbfojaaOM
namespace Go.Proofs.Ytadnedoecbfojaa
theorem half_nat {i j : Nat} : ((i : Int) + (j : Int)) / 2 ^ (1 : Int).toNat = (((i + j) / 2 : Nat) : Int) := by
  rw [show (2 : Int) ^ (1 : Int).toNat = 2 from rfl]; omega
theorem half_eq {i j h : Nat} (e : h = (i + j) / 2) : ((i : Int) + (j : Int)) / 2 ^ (1 : Int).toNat = (h : Int) := e ▸ half_nat
/-- The note at p goes ahead of the one at q. -/
def AhI (l : List Info) (p q : Nat) : Prop := ∀ (hp : p < l.length) (hq : q < l.length), ahead (l[p]'hp) (l[q]'hq) = true
def LeI (l : List Info) (p q : Nat) : Prop := ∀ (hp : p < l.length) (hq : q < l.length), leI (l[p]'hp) (l[q]'hq)
theorem ahI_at {l : List Info} {p q p' q' : Nat} {hp : p < l.length} {hq : q < l.length} (h : cmpB (l[p]'hp) (l[q]'hq) < 0) (e : p' = p) (e' : q' = q) : AhI l p' q' := by subst e e'; exact fun _ _ => cmp_lt h
theorem leI_at {l : List Info} {p q p' q' : Nat} {hp : p < l.length} {hq : q < l.length} (h : ¬ cmpB (l[p]'hp) (l[q]'hq) < 0) (e : q' = q) (e' : p' = p) : LeI l q' p' := by subst e e'; exact fun _ _ => cmp_ge h
theorem or_at2 {Q : Nat → Prop} {i j b : Nat} (h : j = b ∨ Q j) (e : i = j) : i = b ∨ Q i := e ▸ h
theorem AhI.le {l : List Info} {p q : Nat} (h : AhI l p q) : LeI l p q := fun hp hq => ahead_le (h hp hq)
/-- All between a and b stands in order but the note at k, which is on its way to i. -/
def Way (l : List Info) (a b k i : Nat) : Prop :=
  (∀ (p q : Nat) (hp : p < l.length) (hq : q < l.length), a ≤ p → p < q → q < b → p ≠ k → q ≠ k → leI (l[p]'hp) (l[q]'hq)) ∧
  (∀ (p : Nat) (hk : k < l.length) (hp : p < l.length), a ≤ p → p < b → p ≠ k → (p < i → leI (l[p]'hp) (l[k]'hk)) ∧ (i ≤ p → leI (l[k]'hk) (l[p]'hp)))
theorem way_up {l : List Info} {a m b i : Nat} (hm : m = a + 1) (h : SrtR l m b) (hmi : m ≤ i) (hib : i ≤ b) (hbl : b ≤ l.length) (hL : i = m ∨ AhI l (i - 1) a) (hR : i = b ∨ LeI l a i) : Way l a b a i := by
  refine ⟨fun p q hp hq k1 k2 k3 k4 k5 => h p q hp hq (by omega) k2 k3, fun p hk hp k1 k2 k3 => ⟨fun k4 => ?_, fun k4 => ?_⟩⟩
  · rcases hL with hL | hL
    · omega
    · exact leI_trans (srt_le h hp (show i - 1 < l.length by omega) (by omega) (by omega) (by omega)) (hL.le (by omega) (by omega))
  · rcases hR with hR | hR
    · omega
    · exact leI_trans (hR (by omega) (by omega)) (srt_le h (show i < l.length by omega) hp (by omega) k4 k2)
theorem way_down {l : List Info} {a m b i : Nat} (hm : b = m + 1) (h : SrtR l a m) (hai : a ≤ i) (him : i ≤ m) (hbl : b ≤ l.length) (hL : i = a ∨ LeI l (i - 1) m) (hR : i = m ∨ AhI l m i) : Way l a b m i := by
  refine ⟨fun p q hp hq k1 k2 k3 k4 k5 => h p q hp hq (by omega) k2 (by omega), fun p hk hp k1 k2 k3 => ⟨fun k4 => ?_, fun k4 => ?_⟩⟩
  · rcases hL with hL | hL
    · omega
    · exact leI_trans (srt_le h hp (show i - 1 < l.length by omega) (by omega) (by omega) (by omega)) (hL (by omega) (by omega))
  · rcases hR with hR | hR
    · omega
    · exact leI_trans (hR.le (by omega) (by omega)) (srt_le h (show i < l.length by omega) hp (by omega) k4 (by omega))
theorem way_swap {l : List Info} {a b k k' i : Nat} (h : Way l a b k i) (hk : k < l.length) (hk' : k' < l.length) (ha : a ≤ k ∧ a ≤ k') (hb : k < b ∧ k' < b) (hx : (k' = k + 1 ∧ k' < i) ∨ (k = k' + 1 ∧ i ≤ k')) : Way (swp l k k' hk hk') a b k' i := by
  obtain ⟨h1, h2⟩ := h
  have hl : (swp l k k' hk hk').length = l.length := by simp [swp]
  refine ⟨fun p q hp hq k1 k2 k3 k4 k5 => ?_, fun p hk2 hp k1 k2 k3 => ?_⟩
  · rw [hl] at hp hq
    rw [swp_get, swp_get, if_neg k4, if_neg k5]
    by_cases e1 : p = k
    · rw [if_pos e1, if_neg (by omega)]
      exact h1 k' q hk' hq (by omega) (by omega) k3 (by omega) (by omega)
    · rw [if_neg e1]
      by_cases e2 : q = k
      · rw [if_pos e2]
        exact h1 p k' hp hk' k1 (by omega) (by omega) e1 (by omega)
      · rw [if_neg e2]
        exact h1 p q hp hq k1 k2 k3 e1 e2
  · rw [hl] at hp
    rw [swp_get, swp_get, if_neg k3, if_pos rfl]
    by_cases e1 : p = k
    · rw [if_pos e1]
      have := h2 k' hk hk' (by omega) (by omega) (by omega)
      exact ⟨fun k4 => this.1 (by omega), fun k4 => this.2 (by omega)⟩
    · rw [if_neg e1]
      exact h2 p hk hp k1 k2 e1
theorem way_end {l : List Info} {a b k i : Nat} (h : Way l a b k i) (hx : k = i ∨ k + 1 = i) : SrtR l a b := by
  obtain ⟨h1, h2⟩ := h
  intro p q hp hq k1 k2 k3
  by_cases e1 : p = k
  · subst e1; exact (h2 q hp hq (by omega) k3 (by omega)).2 (by omega)
  · by_cases e2 : q = k
    · subst e2; exact (h2 p hq hp k1 (by omega) (by omega)).1 (by omega)
    · exact h1 p q hp hq k1 k2 k3 e1 e2
/-- What the rotation of the two inner ranges leaves; where one of them is empty it is not called. -/
theorem rot_none {xs : List Info} {s m e : Nat} (h : s = m ∨ e = m) : RotR xs xs s m e := by
  refine ⟨rfl, fun k _ => ?_⟩
  congr 1
  have := rt_cases s m e k
  omega
/-- The state behind the search and the rotation. -/
def Halves (ys : List Info) (a s mid e b : Nat) : Prop := SrtR ys a s ∧ SrtR ys s mid ∧ SrtR ys mid e ∧ SrtR ys e b ∧ Cross ys a mid b
theorem halves_of {xs ys : List Info} {a s m e b mid lo hi : Nat} (h1 : SrtR xs a m) (h2 : SrtR xs m b) (ha : a ≤ s) (hs : s ≤ m) (he : m ≤ e) (hb : e ≤ b) (hbl : b ≤ xs.length) (hm : mid = s + (e - m))
    (hlo : lo = a ∨ (s = lo → e = b)) (hhi : hi = m ∨ (s = hi → e = m)) (hA : s = lo ∨ LeI xs (s - 1) e) (hB : s = hi ∨ AhI xs (e - 1) s) (h0 : e = b ∨ e < b) (hR : RotR xs ys s m e) : Halves ys a s mid e b := by
  refine rot_halves h1 h2 ha hs he hb hbl hm ?_ ?_ hR
  · rcases hA with hA | hA
    · rcases hlo with h | h
      · exact Or.inl (hA.trans h)
      · exact Or.inr (Or.inl (h hA))
    · by_cases c1 : s = a
      · exact Or.inl c1
      · by_cases c2 : e = b
        · exact Or.inr (Or.inl c2)
        · exact Or.inr (Or.inr ⟨by omega, by omega, hA _ _⟩)
  · rcases hB with hB | hB
    · rcases hhi with h | h
      · exact Or.inr (Or.inl (hB.trans h))
      · exact Or.inl (h hB)
    · by_cases c1 : e = m
      · exact Or.inl c1
      · by_cases c2 : s = m
        · exact Or.inr (Or.inl c2)
        · exact Or.inr (Or.inr ⟨by omega, by omega, (hB.le) _ _⟩)
theorem halves_of2 {xs ys : List Info} {a s m e b mid lo hi r e1 e2 : Nat} (h1 : SrtR xs a m) (h2 : SrtR xs m b) (hA : s = lo ∨ LeI xs (s - 1) e1) (hB : r = hi ∨ AhI xs e2 r) (hR : RotR xs ys s m e) (hr : r = s) (he1 : e1 = e) (he2 : e2 = e - 1) (ha : a ≤ s) (hs : s ≤ m) (he : m ≤ e) (hb : e ≤ b) (hbl : b ≤ xs.length) (hm : mid = s + (e - m))
    (hlo : lo = a ∨ (s = lo → e = b)) (hhi : hi = m ∨ (s = hi → e = m)) : Halves ys a s mid e b := by
  subst hr he1 he2
  exact halves_of h1 h2 ha hs he hb hbl hm hlo hhi hA hB (by omega) hR
theorem halves_left {ys : List Info} {a s mid e b : Nat} (h : Halves ys a s mid e b) (hx : ¬ (a < s ∧ s < mid)) (ha : a ≤ s) (hs : s ≤ mid) : SrtR ys a mid := by
  by_cases c : s = mid
  · subst c; exact h.1
  · have : a = s := by omega
    subst this; exact h.2.1
theorem halves_right {ys : List Info} {a s mid e b : Nat} (h : Halves ys a s mid e b) (hx : ¬ (mid < e ∧ e < b)) (he : mid ≤ e) (hb : e ≤ b) : SrtR ys mid b := by
  by_cases c : e = b
  · subst c; exact h.2.2.1
  · have : mid = e := by omega
    subst this; exact h.2.2.2.1
theorem halves_right2 {zs : List Info} {a mid e b : Nat} (h : SrtR zs a mid ∧ SrtR zs mid e ∧ SrtR zs e b ∧ Cross zs a mid b) (hx : ¬ (mid < e ∧ e < b)) (he : mid ≤ e) (hb : e ≤ b) : SrtR zs mid b := by
  by_cases c : e = b
  · subst c; exact h.2.1
  · have : mid = e := by omega
    subst this; exact h.2.2.1
theorem halves_turn {ys zs : List Info} {a s mid e b : Nat} (h : Halves ys a s mid e b) (hT : Turned ys zs a mid) (hm : mid ≤ e) (hS : SrtR zs a mid) : SrtR zs a mid ∧ SrtR zs mid e ∧ SrtR zs e b ∧ Cross zs a mid b :=
  ⟨hS, srt_out h.2.2.1 hT (Or.inr (Nat.le_refl _)), srt_out h.2.2.2.1 hT (Or.inr hm), cross_left h.2.2.2.2 hT⟩
theorem merged {zs us : List Info} {a mid b : Nat} (h : SrtR zs a mid) (hc : Cross zs a mid b) (hT : Turned zs us mid b) (hS : SrtR us mid b) : SrtR us a b :=
  srt_join (srt_out h hT (Or.inl (Nat.le_refl _))) hS (cross_right hc hT)
end Go.Proofs.Ytadnedoecbfojaa
