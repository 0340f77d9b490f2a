/- The reference's ways to the same windows: by place. -/
import Derived.Test.YthanfecefjfbjaaH
namespace Go.Proofs.Ythanfecefjfbjaa
/-! ### Sums -/
theorem add_wrap {a b : Int} (ha : i64R a) (hb : i64R b) : IntKind.i64.wrap ((a % 18446744073709551616 + b % 18446744073709551616) % 18446744073709551616) = IntKind.i64.wrap (a + b) := by
  rw [IntKind.wrap_i64, IntKind.wrap_i64]; omega
def wsum (a b : Int) : Int := IntKind.i64.wrap (a + b)
theorem wsum_cases {a b : Int} (ha : i64R a) (hb : i64R b) : (i64R (a + b) ∧ wsum a b = a + b) ∨ (9223372036854775807 < a + b ∧ wsum a b = a + b - 18446744073709551616) ∨ (a + b < -9223372036854775808 ∧ wsum a b = a + b + 18446744073709551616) := by
  unfold wsum; rw [IntKind.wrap_i64]; omega
/-! ### All, in the reference's order of questions -/
theorem go_of {fr : Int} (f0 : 0 ≤ fr) (f1 : fr ≤ 1099511627776) {l : List Sample} {acc : Agg} {i : Nat} (h : i < l.length) (hc : (joinA acc (oneA (l[i]'h).V fr)).2 = 0) : goA acc (l.drop i) fr = goA (joinA acc (oneA (l[i]'h).V fr)).1 (l.drop (i + 1)) fr := by
  rw [List.drop_eq_getElem_cons h, goA, if_pos hc]
theorem go_stop {fr : Int} {l : List Sample} {acc : Agg} {i : Nat} (h : i < l.length) (hc : ¬ (joinA acc (oneA (l[i]'h).V fr)).2 = 0) : goA acc (l.drop i) fr = (zeroA, (joinA acc (oneA (l[i]'h).V fr)).2) := by
  rw [List.drop_eq_getElem_cons h, goA, if_neg hc]
theorem go_end {fr : Int} {l : List Sample} {acc : Agg} {i : Nat} (h : i = l.length) (hm : mayP acc) : goA acc (l.drop i) fr = (acc, 0) := by
  rw [List.drop_eq_nil_of_le (by omega), goA, if_pos (mayA_iff.2 hm)]
theorem all_one {l : List Sample} {fr : Int} (h : 0 < l.length) : allA l fr = goA (oneA (l[0]'h).V fr) (l.drop 1) fr := by
  cases l with
  | nil => simp at h
  | cons s l => rfl
theorem all_out {l : List Sample} {fr : Int} (h : l.length = 0 ∨ fr < 0 ∨ 1099511627776 < fr) : allA l fr = (zeroA, 1) := by
  cases l with
  | nil => rfl
  | cons s l =>
    have hf : fr < 0 ∨ 1099511627776 < fr := by simpa using h
    have hm : mayA (oneA s.V fr) = false := by
      cases hm : mayA (oneA s.V fr) with
      | false => rfl
      | true => have := mayA_true hm; simp only [mayP] at this; omega
    cases l with
    | nil => show goA _ [] fr = _; rw [goA, hm]; rfl
    | cons t l =>
      have hj : joinA (oneA s.V fr) (oneA t.V fr) = (zeroA, 1) := by unfold joinA; rw [if_neg (by rw [hm]; simp)]
      show goA _ (t :: l) fr = _
      rw [goA, hj, if_neg (by decide)]
theorem join_may {a b : Agg} (h : (joinA a b).2 = 0) : mayP (joinA a b).1 := by
  obtain ⟨h1, h2, h3, h4, _⟩ := joinA_zero h
  rw [h1]; exact J_may h2 h3 h4
/-! ### Rising, aligned -/
def lastT (l : List Sample) : Nat → Int
  | 0 => -1
  | i + 1 => (l.getD i ⟨0, 0⟩).T
theorem lastT_succ {l : List Sample} {i : Nat} (h : i < l.length) : lastT l (i + 1) = (l[i]'h).T := by
  show (l.getD i ⟨0, 0⟩).T = _
  rw [List.getD_eq_getElem?_getD, List.getElem?_eq_getElem h]; rfl
theorem lastT_pred {l : List Sample} {i : Nat} (h0 : 0 < i) (h : i - 1 < l.length) : lastT l i = (l[i - 1]'h).T := by
  cases i with
  | zero => omega
  | succ i => exact lastT_succ (by simpa using h)
theorem rr_go {l : List Sample} {i : Nat} (h : i < l.length) (h0 : ¬ ((l[i]'h).T < 0)) (h1 : ¬ (1099511627776 < (l[i]'h).T)) (h2 : ¬ (0 < (i : Int)) ∨ ¬ ((l[i]'h).T ≤ lastT l i)) : risesFrom (lastT l i) (l.drop i) = risesFrom (lastT l (i + 1)) (l.drop (i + 1)) := by
  rw [lastT_succ h]
  refine rises_go h ?_ h1
  rcases h2 with h2 | h2
  · obtain rfl : i = 0 := by omega
    show ¬ (_ ≤ (-1 : Int)); omega
  · exact h2
theorem rr_no {l : List Sample} {i : Nat} (h : i < l.length) (h0 : (l[i]'h).T < 0 ∨ 1099511627776 < (l[i]'h).T ∨ (0 < (i : Int) ∧ (l[i]'h).T ≤ lastT l i)) (hl : -1 ≤ lastT l i) : risesFrom (lastT l i) (l.drop i) = false := by
  refine rises_no h ?_
  rcases h0 with h0 | h0 | h0
  · left; omega
  · right; exact h0
  · left; exact h0.2
def lastF (l : List Agg) : Nat → Int
  | 0 => -1
  | i + 1 => (l.getD i zeroA).From
theorem lastF_succ {l : List Agg} {i : Nat} (h : i < l.length) : lastF l (i + 1) = (l[i]'h).From := by
  show (l.getD i zeroA).From = _
  rw [List.getD_eq_getElem?_getD, List.getElem?_eq_getElem h]; rfl
theorem lastF_pred {l : List Agg} {i : Nat} (h0 : 0 < i) (h : i - 1 < l.length) : lastF l i = (l[i - 1]'h).From := by
  cases i with
  | zero => omega
  | succ i => exact lastF_succ (by simpa using h)
theorem ra_go {l : List Agg} {k : Int} {i : Nat} (h : i < l.length) (hm : mayA (l[i]'h) = true) (h0 : floorA (l[i]'h).From k = (l[i]'h).From) (h2 : ¬ (0 < (i : Int)) ∨ ¬ ((l[i]'h).From ≤ lastF l i)) : alignsFrom k (lastF l i) (l.drop i) = alignsFrom k (lastF l (i + 1)) (l.drop (i + 1)) := by
  rw [lastF_succ h]
  refine aligns_go h hm h0.symm ?_
  rcases h2 with h2 | h2
  · obtain rfl : i = 0 := by omega
    have := mayA_true hm
    show ¬ (_ ≤ (-1 : Int)); simp only [mayP] at this; omega
  · exact h2
theorem ra_no {l : List Agg} {k : Int} {i : Nat} (h : i < l.length) (h0 : mayA (l[i]'h) = false ∨ ¬ floorA (l[i]'h).From k = (l[i]'h).From ∨ (l[i]'h).From ≤ lastF l i) : alignsFrom k (lastF l i) (l.drop i) = false := by
  refine aligns_no h ?_
  rcases h0 with h0 | h0 | h0
  · exact Or.inl h0
  · exact Or.inr (Or.inl fun e => h0 e.symm)
  · exact Or.inr (Or.inr h0)
theorem coarse_yes {k : Int} (h0 : ¬ (k < 1)) (h1 : ¬ (3 < k)) : coarseA k = true := decide_eq_true (by omega)
theorem coarse_no {k : Int} (h : k < 1 ∨ 3 < k) : coarseA k = false := decide_eq_false (by omega)
/-! ### Windows, by place -/
theorem rrw_go {k : Int} {f i n : Nat} {l : List Sample} {out : List Agg} (h : i < l.length) (hf : l.length - i ≤ f) (hw : winLen k (floorA (l[i]'h).T k) (l.drop i) = n - i) (hc : (allA ((l.take n).drop i) (floorA (l[i]'h).T k)).2 = 0) (hin : i ≤ n) :
    rawL k f (l.drop i) out = rawL k (f - 1) (l.drop n) (out ++ [(allA ((l.take n).drop i) (floorA (l[i]'h).T k)).1]) := by
  have e : (l.drop i)[0]'(by simp; omega) = l[i] := by simp
  rw [List.drop_take] at hc ⊢
  have := raw_go (k := k) (f := f) (l := l.drop i) (out := out) (by simp; omega) (by simp; omega) (n := n - i) (by rw [e]; exact hw) (by rw [e]; exact hc)
  rw [this, e, List.drop_drop, Nat.add_sub_cancel' hin]
theorem rrw_stop {k : Int} {f i n : Nat} {l : List Sample} {out : List Agg} (h : i < l.length) (hf : l.length - i ≤ f) (hw : winLen k (floorA (l[i]'h).T k) (l.drop i) = n - i) (hc : ¬ (allA ((l.take n).drop i) (floorA (l[i]'h).T k)).2 = 0) :
    rawL k f (l.drop i) out = ([], (allA ((l.take n).drop i) (floorA (l[i]'h).T k)).2) := by
  have e : (l.drop i)[0]'(by simp; omega) = l[i] := by simp
  rw [List.drop_take] at hc ⊢
  have := raw_stop (k := k) (f := f) (l := l.drop i) (out := out) (by simp; omega) (by simp; omega) (n := n - i) (by rw [e]; exact hw) (by rw [e]; exact hc)
  rw [this, e]
theorem rrw_end {k : Int} {f i : Nat} {l : List Sample} {out : List Agg} (h : ¬ i < l.length) : rawL k f (l.drop i) out = (out, 0) := by
  rw [List.drop_eq_nil_of_le (by omega)]; exact raw_end (by simp)
theorem win_pos' {k : Int} {l : List Sample} {i : Nat} (h : i < l.length) : 0 < winLen k (floorA (l[i]'h).T k) (l.drop i) := by
  rw [List.drop_eq_getElem_cons h, winLen, if_pos rfl]; omega
/-! ### Windows of windows, by place -/
theorem join_at {x b : Agg} {k : Int} (hb : mayA b = true) (hk : mayA (atK b k) = true) : joinA x (atK b k) = joinA x b := by
  unfold joinA; rw [hb, hk]; rfl
theorem aligned_may {l : List Agg} {k : Int} (h : alignedA l k = true) : ∀ a ∈ l, mayA a = true := by
  have h2 : alignsFrom k (-1) l = true := by unfold alignedA at h; simp only [Bool.and_eq_true] at h; exact h.2
  clear h
  generalize (-1 : Int) = last at h2
  induction l generalizing last with
  | nil => intro a ha; cases ha
  | cons b l ih =>
    rw [alignsFrom] at h2
    simp only [Bool.and_eq_true] at h2
    intro a ha
    rcases List.mem_cons.1 ha with rfl | ha
    · exact h2.1.1
    · exact ih _ h2.2 a ha
theorem at_may {b : Agg} {k : Int} (hb : mayA b = true) (h0 : coarseA k = true) : mayA (atK b k) = true := by
  have h := mayA_true hb
  have hk := of_decide_eq_true h0
  rw [mayA_iff]
  obtain ⟨c1, c2, c3, c4, c5⟩ := h
  have hw : 0 < widthA k := by
    have : k = 1 ∨ k = 2 ∨ k = 3 := by omega
    rcases this with rfl | rfl | rfl <;> decide
  have hm := Int.emod_nonneg b.From (b := widthA k) (by omega)
  have hf : floorA b.From k = b.From - b.From % widthA k := floor_some (by omega) (by omega) (by omega)
  have hle : b.From % widthA k ≤ b.From := (emod_w (by omega) (by omega) (by omega)).2
  exact ⟨c1, c2, by show 0 ≤ floorA b.From k; omega, by show floorA b.From k ≤ _; omega, c5⟩
/-- No window of `out` goes on with the place i. -/
def Fresh (l out : List Agg) (k : Int) (i : Nat) : Prop := ∀ x, out.getLast? = some x → ∀ h : i < l.length, ¬ x.From = floorA (l[i]'h).From k
theorem fresh_nil {l : List Agg} {k : Int} : Fresh l [] k 0 := fun x hx => by cases hx
theorem down_fresh {l : List Agg} {k : Int} {i : Nat} {out : List Agg} (h : i < l.length) (hf : Fresh l out k i) : downL k (l.drop i) out = downL k (l.drop (i + 1)) (out ++ [atK (l[i]'h) k]) := by
  rw [List.drop_eq_getElem_cons h, downL]
  cases hg : out.getLast? with
  | none => rfl
  | some x => simp only [if_neg (hf x hg h)]
theorem rd_join {l : List Agg} {k : Int} {n : Nat} {out : List Agg} {a : Agg} (h : n < l.length) (he : floorA (l[n]'h).From k = a.From) (hm : mayA (l[n]'h) = true) (hk : coarseA k = true) (hc : (joinA a (l[n]'h)).2 = 0) :
    downL k (l.drop n) (out ++ [a]) = downL k (l.drop (n + 1)) (out ++ [(joinA a (l[n]'h)).1]) := by
  rw [List.drop_eq_getElem_cons h, downL, List.getLast?_concat]
  simp only [if_pos he.symm, join_at hm (at_may hm hk), if_pos hc]
  congr 1
  simp
theorem rd_stop {l : List Agg} {k : Int} {n : Nat} {out : List Agg} {a : Agg} (h : n < l.length) (he : floorA (l[n]'h).From k = a.From) (hm : mayA (l[n]'h) = true) (hk : coarseA k = true) (hc : ¬ (joinA a (l[n]'h)).2 = 0) :
    downL k (l.drop n) (out ++ [a]) = ([], (joinA a (l[n]'h)).2) := by
  rw [List.drop_eq_getElem_cons h, downL, List.getLast?_concat]
  simp only [if_pos he.symm, join_at hm (at_may hm hk), if_neg hc]
theorem fresh_next {l : List Agg} {k : Int} {n : Nat} {out : List Agg} {a : Agg} (h : ¬ (n < l.length) ∨ ∃ h : n < l.length, ¬ floorA (l[n]'h).From k = a.From) : Fresh l (out ++ [a]) k n := by
  intro x hx hn
  rw [List.getLast?_concat] at hx
  obtain rfl := Option.some.inj hx
  rcases h with h | ⟨_, h⟩
  · omega
  · exact fun e => h e.symm
theorem join_from {a b : Agg} (h : (joinA a b).2 = 0) : (joinA a b).1.From = a.From := by rw [(joinA_zero h).1]; rfl
end Go.Proofs.Ythanfecefjfbjaa
