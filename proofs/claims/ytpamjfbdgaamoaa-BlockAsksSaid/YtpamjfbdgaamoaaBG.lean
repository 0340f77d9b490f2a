/- What the laws of blocks need. -/
import Derived.Test.YtpamjfbdgaamoaaBA
namespace Go.Proofs.Ytpamjfbdgaamoaa
theorem decS_enc {l l' : List Sample} {c : Int} (h : DecS (encS l).1 l' c) (hl : okS l = true) (ho : ∀ s ∈ l, s.ok) : l' = l ∧ c = 0 := by
  rw [encS_yes hl] at h; exact decS_put h hl ho
theorem decS_encmore {l l' : List Sample} {c : Int} {x : List UInt8} (h : DecS ((encS l).1 ++ x) l' c) (hl : okS l = true) (ho : ∀ s ∈ l, s.ok) (hx : x ≠ []) : c = 2 := by
  rw [encS_yes hl] at h; exact (decS_more h hl ho hx).1
theorem decS_enccut {l l' : List Sample} {c : Int} {n : Nat} (h : DecS ((encS l).1.take n) l' c) (hl : okS l = true) (ho : ∀ s ∈ l, s.ok) (hn : n < (encS l).1.length) : c = 2 := by
  rw [encS_yes hl] at h hn; exact (decS_cut h hl ho hn).1
theorem decA_enc {k : Int} {l l' : List Agg} {c : Int} (h : DecA k (encA k l).1 l' c) (hl : okA k l = true) (ho : ∀ a ∈ l, a.ok) : l' = l ∧ c = 0 := by
  rw [encA_yes hl] at h; exact decA_put h hl ho
theorem decA_encmore {k : Int} {l l' : List Agg} {c : Int} {x : List UInt8} (h : DecA k ((encA k l).1 ++ x) l' c) (hl : okA k l = true) (ho : ∀ a ∈ l, a.ok) (hx : x ≠ []) : c = 2 := by
  rw [encA_yes hl] at h; exact (decA_more h hl ho hx).1
theorem decA_out {k : Int} {b : List UInt8} {l : List Agg} {c : Int} (h : DecA k b l c) (hk : coarseA k = false) : c = 1 := by
  obtain ⟨_, h | h | h⟩ := h
  · rw [h.2.1] at hk; cases hk
  · rw [h.2.2.1] at hk; cases hk
  · exact h.1
theorem decS_again {b : List UInt8} {l : List Sample} {c : Int} (h : DecS b l c) (hc : c = 0) : encS l = (b, 0) := by
  obtain ⟨_, h | h⟩ := h
  · rw [encS_yes h.2.1, h.2.2]
  · omega
theorem decS_or {b : List UInt8} {l : List Sample} {c : Int} (h : DecS b l c) : c = 0 ∨ (c = 2 ∧ l = []) := by
  obtain ⟨_, h | h⟩ := h
  · exact Or.inl h.1
  · exact Or.inr ⟨h.1, h.2.1⟩
theorem decA_again {k : Int} {b : List UInt8} {l : List Agg} {c : Int} (h : DecA k b l c) (hc : c = 0) : encA k l = (b, 0) := by
  obtain ⟨_, h | h | h⟩ := h
  · rw [encA_yes h.2.2.1, h.2.2.2]
  · omega
  · omega
theorem decA_or {k : Int} {b : List UInt8} {l : List Agg} {c : Int} (h : DecA k b l c) : c = 0 ∨ l = [] := by
  obtain ⟨_, h | h | h⟩ := h
  · exact Or.inl h.1
  · exact Or.inr h.2.1
  · exact Or.inr h.2.1
theorem decS_ok {b : List UInt8} {l : List Sample} {c : Int} (h : DecS b l c) : ∀ s ∈ l, s.ok := h.1
theorem decA_okk {k : Int} {b : List UInt8} {l : List Agg} {c : Int} (h : DecA k b l c) : ∀ a ∈ l, a.ok := h.1
/-! ### Rising samples by their places -/
theorem risesB_of {l : List Sample} (h1 : ∀ (i : Nat) (h : i < l.length), 0 ≤ (l[i]'h).T ∧ (l[i]'h).T ≤ 1099511627776) (h2 : ∀ (i : Nat) (h : i + 1 < l.length), (l[i]'(by omega)).T < (l[i + 1]'h).T) :
    ∀ (n i : Nat) (last : Int), l.length - i = n → i ≤ l.length → (i = 0 ∧ last = -1 ∨ ∃ h : i - 1 < l.length, 0 < i ∧ last = (l[i - 1]'h).T) → risesFrom last (l.drop i) = true
  | 0, i, last, hn, hi, _ => rises_end (by omega)
  | n + 1, i, last, hn, hi, hl => by
    have hlt : i < l.length := by omega
    have e1 : l.length - (i + 1) = n := by clear hl; omega
    have e2 : i + 1 ≤ l.length := hlt
    have a := h1 i hlt
    rw [rises_go hlt ?_ (by omega)]
    · exact risesB_of h1 h2 n (i + 1) (l[i]'hlt).T e1 e2 (Or.inr ⟨hlt, Nat.succ_pos i, rfl⟩)
    · rcases hl with ⟨rfl, rfl⟩ | ⟨h, h0, rfl⟩
      · omega
      · obtain ⟨j, rfl⟩ : ∃ j, i = j + 1 := ⟨i - 1, by omega⟩
        have b := h2 j hlt
        show ¬ _ ≤ (l[j]'(by omega)).T
        omega
theorem rising_of {l : List Sample} (h1 : ∀ (i : Nat) (h : i < l.length), 0 ≤ (l[i]'h).T ∧ (l[i]'h).T ≤ 1099511627776) (h2 : ∀ (i : Nat) (h : i + 1 < l.length), (l[i]'(by omega)).T < (l[i + 1]'h).T) : risingA l = true :=
  risesB_of h1 h2 l.length 0 (-1) (by omega) (by omega) (Or.inl ⟨rfl, rfl⟩)
/-! ### Samples in even steps -/
def steadyL (st v : Int) (n : Nat) : List Sample := (List.range n).map fun (i : Nat) => (⟨(i : Int) * st, v⟩ : Sample)
theorem steady_length (st v : Int) (n : Nat) : (steadyL st v n).length = n := by simp [steadyL]
theorem steady_get {st v : Int} {n i : Nat} (h : i < (steadyL st v n).length) : (steadyL st v n)[i]'h = ⟨(i : Int) * st, v⟩ := by simp [steadyL]
theorem steady_succ {st v : Int} {n : Nat} : steadyL st v n ++ [(⟨(n : Int) * st, v⟩ : Sample)] = steadyL st v (n + 1) := by simp [steadyL, List.range_succ]
theorem steady_ok {st v : Int} {n : Nat} (hs : 0 ≤ st ∧ st ≤ 60) (hn : n ≤ 64) (hv : i64R v) : ∀ s ∈ steadyL st v n, s.ok := by
  intro s h
  obtain ⟨i, hi, rfl⟩ := List.mem_map.1 h
  have hi := List.mem_range.1 hi
  have h1 : 0 ≤ (i : Int) * st := Int.mul_nonneg (by omega) hs.1
  have h2 : (i : Int) * st ≤ 64 * 60 := Int.mul_le_mul (by omega) hs.2 hs.1 (by omega)
  exact ⟨by simp only [i64R]; omega, hv⟩
theorem steady_rising {st v : Int} {n : Nat} (hs : 0 < st ∧ st ≤ 60) (hn : n ≤ 64) : risingA (steadyL st v n) = true := by
  refine rising_of (fun i h => ?_) (fun i h => ?_)
  · rw [steady_get h]
    have h' := h
    rw [steady_length] at h'
    have h1 : 0 ≤ (i : Int) * st := Int.mul_nonneg (by omega) (by omega)
    have h2 : (i : Int) * st ≤ 64 * 60 := Int.mul_le_mul (by omega) hs.2 (by omega) (by omega)
    exact ⟨h1, by simp only []; omega⟩
  · rw [steady_get (by omega), steady_get h]
    show (i : Int) * st < ((i + 1 : Nat) : Int) * st
    rw [Int.natCast_add, Int.add_mul]; omega
theorem steady_okS {st v : Int} {n : Nat} (hs : 0 < st ∧ st ≤ 60) (hn : n ≤ 64) : okS (steadyL st v n) = true := okS_iff.2 ⟨steady_rising hs hn, by rw [steady_length]; exact hn⟩
theorem put_zero : put 0 = [0] := by decide +kernel
theorem zz_zero : zz 0 = [0] := by decide +kernel
theorem steady_rest {st v : Int} {n : Nat} : ∀ (m i : Nat), n - i = m → 2 ≤ i → i ≤ n → (restS (steadyL st v n) i st).length = 2 * m
  | 0, i, hm, h2, hi => by rw [restS_end (by rw [steady_length]; omega)]; rfl
  | m + 1, i, hm, h2, hi => by
    have hlt : i < (steadyL st v n).length := by rw [steady_length]; omega
    rw [restS_next (by omega) hlt, steady_get hlt, steady_get]
    have e1 : (i : Int) * st - ((i - 1 : Nat) : Int) * st = st := by
      rw [show ((i : Nat) : Int) = ((i - 1 : Nat) : Int) + 1 from by omega, Int.add_mul]; omega
    simp only []
    rw [e1, show st - st = 0 from by omega, show v - v = 0 from by omega, show wr 0 = 0 from by decide +kernel, zz_zero]
    have ih := steady_rest (st := st) (v := v) (n := n) m (i + 1) (by omega) (by omega) (by omega)
    simp only [List.length_append, List.length_cons, List.length_nil]; omega
theorem put_len_leB {n : Int} (h : n < 128) : (put n).length = 1 := by
  unfold put
  have : n.toNat < 128 := by omega
  generalize n.toNat = m at this
  unfold putF; rw [if_pos this]; rfl
theorem put_small {n : Nat} (h : n < 128) : (put (n : Int)).length = 1 := by
  have := put_len_leB (n := (n : Int)) (by omega)
  exact this
theorem steady_len {st v : Int} {n : Nat} (hs : 0 < st ∧ st ≤ 60) (h2 : 2 ≤ n) (hn : n ≤ 64) : (putS (steadyL st v n)).length = (putS (steadyL st v 2)).length + 2 * (n - 2) := by
  have two : ∀ m, 2 ≤ m → m ≤ 64 → (putS (steadyL st v m)).length = 1 + ((put 0).length + ((zz v).length + ((zz st).length + (1 + 2 * (m - 2))))) := by
    intro m h2 hm
    have h0 : 0 < (steadyL st v m).length := by rw [steady_length]; omega
    have h1 : 1 < (steadyL st v m).length := by rw [steady_length]; omega
    have r := steady_rest (st := st) (v := v) (n := m) (m - 2) 2 (by omega) (by omega) (by omega)
    unfold putS
    rw [← restS_zero (st := 0), restS_first rfl h0, restS_next (by omega) h1]
    simp only [steady_get, Nat.add_sub_cancel, steady_length]
    have e1 : ((0 : Nat) : Int) * st = 0 := by rw [Int.natCast_zero, Int.zero_mul]
    have e2 : ((0 + 1 : Nat) : Int) * st - ((0 : Nat) : Int) * st - 0 = st := by rw [e1, Int.natCast_add, Int.natCast_zero, Int.natCast_one, Int.zero_add, Int.one_mul]; omega
    have e3 : ((0 + 1 : Nat) : Int) * st - ((0 : Nat) : Int) * st = st := by omega
    rw [e1] at *
    rw [e2, e3, show v - v = 0 from by omega, show wr 0 = 0 from by decide +kernel, zz_zero]
    simp only [List.length_append, List.length_cons, List.length_nil, put_small (n := m) (by omega)]
    have r' : (restS (steadyL st v m) (0 + 1 + 1) st).length = 2 * (m - 2) := r
    have r'' : (restS (steadyL st v m) (1 + 1) st).length = 2 * (m - 2) := r
    omega
  rw [two n h2 hn, two 2 (by omega) (by omega)]; omega
theorem steady_take {st v : Int} {n : Nat} (h : 2 ≤ n) : (steadyL st v n).take 2 = steadyL st v 2 := by
  unfold steadyL
  rw [← List.map_take, List.take_range, Nat.min_eq_left h]
theorem steady_enc {st v : Int} {n : Nat} (hs : 0 < st ∧ st ≤ 60) (h2 : 2 ≤ n) (hn : n ≤ 64) : ((encS (steadyL st v n)).1.length : Int) = ((encS ((steadyL st v n).take 2)).1.length : Int) + 2 * ((n : Int) - 2) := by
  rw [steady_take h2, encS_yes (steady_okS hs hn), encS_yes (steady_okS hs (by omega))]
  have := steady_len (v := v) hs h2 hn
  simp only []; omega
theorem steady_oktake {st v : Int} {n m : Nat} (hs : 0 ≤ st ∧ st ≤ 60) (hn : n ≤ 64) (hv : i64R v) : ∀ s ∈ (steadyL st v n).take m, s.ok := fun s h => steady_ok hs hn hv s (List.mem_of_mem_take h)
theorem mul_r {i : Nat} {m : Int} (hi : i ≤ 64) (hm : 0 ≤ m ∧ m ≤ 60) : 0 ≤ (i : Int) * m ∧ (i : Int) * m ≤ 3840 :=
  ⟨Int.mul_nonneg (by omega) hm.1, Int.mul_le_mul (by omega : (i : Int) ≤ 64) hm.2 hm.1 (by omega)⟩
theorem putS_length64 {l : List Sample} (h : l.length ≤ 64) : (putS l).length ≤ 1300 := by
  have h1 := putS_len l 0 0
  have h2 := put_length (l.length : Int)
  rw [restS_zero] at h1
  unfold putS
  rw [List.length_append]; omega
theorem decS_two {b : List UInt8} {l : List Sample} {c : Int} (h : DecS b l c) (hc : ¬ c = 0) : c = 2 := by
  have := decS_or h
  omega
theorem decS_nil {b : List UInt8} {l : List Sample} {c : Int} (h : DecS b l c) (hc : ¬ c = 0) : (l.length : Int) = 0 := by
  rcases decS_or h with e | e
  · exact absurd e hc
  · rw [e.2]; rfl
theorem decA_nil {k : Int} {b : List UInt8} {l : List Agg} {c : Int} (h : DecA k b l c) (hc : ¬ c = 0) : (l.length : Int) = 0 := by
  rcases decA_or h with e | e
  · exact absurd e hc
  · rw [e]; rfl
/-! ### Samples at squares -/
def PB (out : List Sample) (i : Nat) : Prop := out.length = i ∧ ∀ (j : Nat) (h : j < out.length), (out[j]'h).T = (j : Int) * (j : Int) * 1000000 ∧ i64R (out[j]'h).V
theorem PB_nil : PB [] 0 := ⟨rfl, fun j h => by simp at h⟩
theorem PB_snoc {out : List Sample} {i : Nat} {v : Int} (h : PB out i) (hv : i64R v) : PB (out ++ [⟨(i : Int) * (i : Int) * 1000000, v⟩]) (i + 1) := by
  obtain ⟨h1, h2⟩ := h
  refine ⟨by simp [h1], fun j hj => ?_⟩
  by_cases hlt : j < out.length
  · rw [List.getElem_append_left hlt]; exact h2 j hlt
  · have : j = i := by simp at hj; omega
    subst this
    rw [List.getElem_append_right (by omega)]
    simp only [h1, Nat.sub_self, List.getElem_cons_zero]
    exact ⟨trivial, hv⟩
theorem sq_r {i : Nat} (h : i ≤ 67) : 0 ≤ (i : Int) * (i : Int) ∧ (i : Int) * (i : Int) ≤ 4489 :=
  ⟨Int.mul_nonneg (by omega) (by omega), Int.le_trans (Int.mul_le_mul (by omega : (i : Int) ≤ 67) (by omega : (i : Int) ≤ 67) (by omega) (by omega)) (by decide)⟩
theorem PB_ok {out : List Sample} {i : Nat} (h : PB out i) (hi : i ≤ 67) : ∀ s ∈ out, s.ok := by
  intro s hs
  obtain ⟨j, hj, rfl⟩ := List.mem_iff_getElem.1 hs
  obtain ⟨e1, e2⟩ := h.2 j hj
  have := h.1
  have q := sq_r (i := j) (by omega)
  exact ⟨by simp only [i64R]; omega, e2⟩
theorem PB_rising {out : List Sample} {i : Nat} (h : PB out i) (hi : i ≤ 67) : risingA out = true := by
  have hl := h.1
  refine rising_of (fun j hj => ?_) (fun j hj => ?_)
  · have q := sq_r (i := j) (by omega)
    rw [(h.2 j hj).1]; omega
  · rw [(h.2 j (by omega)).1, (h.2 (j + 1) hj).1]
    have : ((j + 1 : Nat) : Int) * ((j + 1 : Nat) : Int) = (j : Int) * (j : Int) + 2 * (j : Int) + 1 := by
      rw [Int.natCast_add, Int.add_mul, Int.mul_add]; simp; omega
    omega
end Go.Proofs.Ytpamjfbdgaamoaa
