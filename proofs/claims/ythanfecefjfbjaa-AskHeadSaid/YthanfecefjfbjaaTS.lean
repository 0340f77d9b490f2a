/- Windows of rising samples fail by a sum alone. -/
import Derived.Test.YthanfecefjfbjaaTR
namespace Go.Proofs.Ythanfecefjfbjaa
theorem rises_range : ∀ (l : List Sample) (last : Int), -1 ≤ last → risesFrom last l = true → ∀ s ∈ l, 0 ≤ s.T ∧ s.T ≤ 1099511627776
  | [], _, _, _, s, hs => by cases hs
  | t :: l, last, hl, h, s, hs => by
    rw [risesFrom] at h
    simp only [Bool.and_eq_true, decide_eq_true_eq] at h
    rcases List.mem_cons.1 hs with rfl | hs
    · omega
    · exact rises_range l t.T (by omega) h.2 s hs
theorem floor_in {t k : Int} (h0 : 0 < k) (h4 : k < 4) (ht : 0 ≤ t) (ht1 : t ≤ 1099511627776) : 0 ≤ floorA t k ∧ floorA t k ≤ 1099511627776 := by
  have hw : 0 < widthA k := by
    have : k = 1 ∨ k = 2 ∨ k = 3 := by omega
    rcases this with rfl | rfl | rfl <;> decide
  have e := floor_some (t := t) (k := k) (by omega) (by omega) (by omega)
  have hm := emod_w (t := t) (w := widthA k) (by omega) (by omega) (by omega)
  omega
theorem rawL_code {k : Int} (h0 : 0 < k) (h4 : k < 4) : ∀ (f : Nat) (l : List Sample) (out : List Agg), (∀ s ∈ l, 0 ≤ s.T ∧ s.T ≤ 1099511627776) → l.length ≤ 1000000 → (rawL k f l out).2 = 0 ∨ (rawL k f l out).2 = 3
  | 0, _, _, _, _ => Or.inl rfl
  | _ + 1, [], _, _, _ => Or.inl rfl
  | f + 1, s :: l, out, hl, hn => by
    have hs := hl s (List.mem_cons_self ..)
    have hf := floor_in h0 h4 hs.1 hs.2
    have hw := win_pos (k := k) (l := s :: l) (by simp)
    simp only [List.getElem_cons_zero] at hw
    have hcode := all_code hf.1 hf.2 (l := (s :: l).take (winLen k (floorA s.T k) (s :: l))) (by simp only [List.length_take, List.length_cons] at hn ⊢; omega) (by simp only [List.length_take, List.length_cons] at hn ⊢; omega)
    rw [rawL]
    split
    · exact rawL_code h0 h4 f _ _ (fun x hx => hl x (List.mem_of_mem_drop hx)) (by rw [List.length_drop]; omega)
    · rename_i hne
      rcases hcode with hc | hc
      · exact absurd hc hne
      · exact Or.inr hc
theorem raw_code {l : List Sample} {k : Int} (h0 : 0 < k) (h4 : k < 4) (hr : risingA l = true) (hn : l.length ≤ 1000000) : (rawA l k).2 = 0 ∨ (rawA l k).2 = 3 := by
  unfold rawA
  rw [if_pos ⟨hr, decide_eq_true ⟨h0, h4⟩⟩]
  exact rawL_code h0 h4 _ _ _ (rises_range l (-1) (by decide) hr) hn
theorem winLen_len (k fr : Int) : ∀ l : List Sample, winLen k fr l ≤ l.length
  | [] => Nat.le_refl _
  | s :: l => by rw [winLen]; split <;> simp; have := winLen_len k fr l; omega
theorem rawL_len (k : Int) : ∀ (f : Nat) (l : List Sample) (out : List Agg), (rawL k f l out).1.length ≤ out.length + l.length
  | 0, _, _ => by simp [rawL]
  | _ + 1, [], _ => by simp [rawL]
  | f + 1, s :: l, out => by
    rw [rawL]
    split
    · have := rawL_len k f ((s :: l).drop (winLen k (floorA s.T k) (s :: l))) (out ++ [(allA ((s :: l).take (winLen k (floorA s.T k) (s :: l))) (floorA s.T k)).1])
      have hw := win_pos (k := k) (l := s :: l) (by simp)
      simp only [List.getElem_cons_zero] at hw
      simp only [List.length_append, List.length_cons, List.length_nil, List.length_drop] at this hw ⊢
      omega
    · simp
theorem rawA_len (l : List Sample) (k : Int) : (rawA l k).1.length ≤ l.length := by
  unfold rawA
  split
  · have := rawL_len k l.length l []; simpa using this
  · simp
theorem downL_len (k : Int) : ∀ (l out : List Agg), (downL k l out).1.length ≤ out.length + l.length
  | [], out => by simp [downL]
  | a :: l, out => by
    rw [downL]
    cases hg : out.getLast? with
    | none => have := downL_len k l (out ++ [atK a k]); simp at this ⊢; omega
    | some x =>
      simp only []
      split
      · split
        · have := downL_len k l (out.set (out.length - 1) (joinA x (atK a k)).1); simp at this ⊢; omega
        · simp
      · have := downL_len k l (out ++ [atK a k]); simp at this ⊢; omega
theorem downA_len (l : List Agg) (k : Int) : (downA l k).1.length ≤ l.length := by
  unfold downA
  split
  · have := downL_len k l []; simpa using this
  · simp
end Go.Proofs.Ythanfecefjfbjaa
