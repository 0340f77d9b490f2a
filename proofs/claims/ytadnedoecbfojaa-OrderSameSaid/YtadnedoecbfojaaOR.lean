/- Sorting notes: ranges swapped, ranges turned. -/
import Derived.Test.YtadnedoecbfojaaOS
namespace Go.Proofs.Ytadnedoecbfojaa
theorem turned_wide {xs ys : List Info} {a b a' b' : Nat} (h : Turned xs ys a b) (ha : a' ≤ a) (hb : b ≤ b') : Turned xs ys a' b' := by
  have h1 := turned_more h hb
  refine ⟨h1.1, h1.2.1, ?_, h1.2.2.2⟩
  have e : ∀ l : List Info, l.take a' = (l.take a).take a' := fun l => by rw [List.take_take, Nat.min_eq_left ha]
  rw [e ys, e xs, h.2.2.1]
def swI (a b n k : Nat) : Nat := if a ≤ k ∧ k < a + n then b + (k - a) else if b ≤ k ∧ k < b + n then a + (k - b) else k
def SwR (xs ys : List Info) (a b n : Nat) : Prop := ys.length = xs.length ∧ ∀ k, k < xs.length → ys[k]? = xs[swI a b n k]?
theorem swr_zero (xs : List Info) (a b : Nat) : SwR xs xs a b 0 := ⟨rfl, fun k _ => by unfold swI; rw [if_neg (by omega), if_neg (by omega)]⟩
theorem swp_get? {l : List Info} {i j : Nat} (hi : i < l.length) (hj : j < l.length) (k : Nat) (hk : k < l.length) : (swp l i j hi hj)[k]? = if k = j then l[i]? else if k = i then l[j]? else l[k]? := by
  have hk' : k < (swp l i j hi hj).length := by simpa [swp] using hk
  rw [List.getElem?_eq_getElem hk', swp_get hi hj hk', List.getElem?_eq_getElem hi, List.getElem?_eq_getElem hj, List.getElem?_eq_getElem hk]
  split
  · rfl
  · split <;> rfl
theorem swr_step {xs ys : List Info} {a b i : Nat} (h : SwR xs ys a b i) (hab : a + i < b) (hi : a + i < ys.length) (hj : b + i < ys.length) : SwR xs (swp ys (a + i) (b + i) hi hj) a b (i + 1) := by
  obtain ⟨h1, h2⟩ := h
  refine ⟨by simp [swp, h1], fun k hk => ?_⟩
  rw [swp_get? hi hj k (by omega)]
  split
  · rename_i e
    rw [h2 _ (by omega)]
    congr 1
    unfold swI; rw [if_neg (by omega), if_neg (by omega), if_neg (by omega), if_pos (by omega)]; omega
  · split
    · rename_i e1 e2
      rw [h2 _ (by omega)]
      congr 1
      unfold swI; rw [if_neg (by omega), if_neg (by omega), if_pos (by omega)]; omega
    · rename_i e1 e2
      rw [h2 _ hk]
      congr 1
      unfold swI
      by_cases c1 : a ≤ k ∧ k < a + i
      · rw [if_pos c1, if_pos (by omega)]
      · rw [if_neg c1]
        by_cases c2 : b ≤ k ∧ k < b + i
        · rw [if_pos c2, if_neg (by omega), if_pos (by omega)]
        · rw [if_neg c2, if_neg (by omega), if_neg (by omega)]
theorem swr_at {xs ys : List Info} {a b n n' : Nat} (h : SwR xs ys a b n) (e : n = n') : SwR xs ys a b n' := e ▸ h
theorem nat_add {a i : Nat} (h : a + i ≤ 4000000000) : IntKind.i64.wrap ((a : Int) + (i : Int)) = ((a + i : Nat) : Int) := by rw [IntKind.wrap_i64]; omega
def rtI (a m b k : Nat) : Nat := if a ≤ k ∧ k < a + (b - m) then k - a + m else if a + (b - m) ≤ k ∧ k < b then k - (b - m) else k
def RotR (xs zs : List Info) (a m b : Nat) : Prop := zs.length = xs.length ∧ ∀ k, k < xs.length → zs[k]? = xs[rtI a m b k]?
theorem sw_cases (a b n k : Nat) : (a ≤ k ∧ k < a + n ∧ swI a b n k = b + (k - a)) ∨ ((k < a ∨ a + n ≤ k) ∧ b ≤ k ∧ k < b + n ∧ swI a b n k = a + (k - b)) ∨ ((k < a ∨ a + n ≤ k) ∧ (k < b ∨ b + n ≤ k) ∧ swI a b n k = k) := by
  unfold swI; split
  · left; omega
  · split
    · right; left; omega
    · right; right; omega
theorem rt_cases (a m b k : Nat) : (a ≤ k ∧ k < a + (b - m) ∧ rtI a m b k = k - a + m) ∨ ((k < a ∨ a + (b - m) ≤ k) ∧ a + (b - m) ≤ k ∧ k < b ∧ rtI a m b k = k - (b - m)) ∨ ((k < a ∨ a + (b - m) ≤ k) ∧ (k < a + (b - m) ∨ b ≤ k) ∧ rtI a m b k = k) := by
  unfold rtI; split
  · left; omega
  · split
    · right; left; omega
    · right; right; omega
theorem rt_lt {a m b k n : Nat} (h1 : a ≤ m) (h2 : m ≤ b) (h3 : b ≤ n) (hk : k < n) : rtI a m b k < n := by unfold rtI; split <;> (try split) <;> omega
theorem rot_big {ys ws zs : List Info} {m i j : Nat} (hij : j < i) (him : i ≤ m) (hl : m + j ≤ ys.length) (h : SwR ys ws (m - i) m j) (h' : RotR ws zs (m - i + j) m (m + j)) : RotR ys zs (m - i) m (m + j) := by
  obtain ⟨h1, h2⟩ := h
  obtain ⟨k1, k2⟩ := h'
  refine ⟨by omega, fun k hk => ?_⟩
  rw [k2 k (by omega), h2 _ (rt_lt (by omega) (by omega) hl hk)]
  congr 1
  have A := rt_cases (m - i + j) m (m + j) k
  have B := sw_cases (m - i) m j (rtI (m - i + j) m (m + j) k)
  have C := rt_cases (m - i) m (m + j) k
  omega
theorem rot_small {ys ws zs : List Info} {m i j : Nat} (hij : i < j) (him : i ≤ m) (hl : m + j ≤ ys.length) (h : SwR ys ws (m - i) (m + j - i) i) (h' : RotR ws zs (m - i) m (m + (j - i))) : RotR ys zs (m - i) m (m + j) := by
  obtain ⟨h1, h2⟩ := h
  obtain ⟨k1, k2⟩ := h'
  refine ⟨by omega, fun k hk => ?_⟩
  rw [k2 k (by omega), h2 _ (rt_lt (by omega) (by omega) (by omega) hk)]
  congr 1
  have A := rt_cases (m - i) m (m + (j - i)) k
  have B := sw_cases (m - i) (m + j - i) i (rtI (m - i) m (m + (j - i)) k)
  have C := rt_cases (m - i) m (m + j) k
  omega
theorem rot_end {ys zs : List Info} {m i : Nat} (him : i ≤ m) (h : SwR ys zs (m - i) m i) : RotR ys zs (m - i) m (m + i) := by
  refine ⟨h.1, fun k hk => ?_⟩
  rw [h.2 k hk]
  congr 1
  have B := sw_cases (m - i) m i k
  have C := rt_cases (m - i) m (m + i) k
  omega
theorem rot_init {xs : List Info} {a m b : Nat} (h1 : a ≤ m) (h2 : m ≤ b) : ∀ zs, RotR xs zs (m - (m - a)) m (m + (b - m)) → RotR xs zs a m b := by
  intro zs h
  rwa [show m - (m - a) = a from by omega, show m + (b - m) = b from by omega] at h
theorem rot_cast {xs zs : List Info} {a a' m b : Nat} (e : a = a') (h : RotR xs zs a m b) : RotR xs zs a' m b := e ▸ h
theorem rot_fin {ys zs : List Info} {m i j : Nat} (him : i ≤ m) (e : i = j) (h : SwR ys zs (m - i) m i) : RotR ys zs (m - i) m (m + j) := by subst e; exact rot_end him h
end Go.Proofs.Ytadnedoecbfojaa
