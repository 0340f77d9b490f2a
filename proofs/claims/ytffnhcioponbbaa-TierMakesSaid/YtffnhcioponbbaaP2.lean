/- Step by step or at once: windows of windows are the windows of the coarser tier. -/
import Derived.Test.YtffnhcioponbbaaN
namespace Go.Proofs.Ytffnhcioponbbaa
theorem atK_agg (fr k : Int) {l : List Sample} (h : 0 < l.length) : atK (aggL fr l) k = aggL (floorA fr k) l := by
  have key : ∀ (l : List Sample) (a b : Agg), a.Count = b.Count → a.Sum = b.Sum → a.Min = b.Min → a.Max = b.Max → a.First = b.First → a.Last = b.Last →
      (accL a l).Count = (accL b l).Count ∧ (accL a l).Sum = (accL b l).Sum ∧ (accL a l).Min = (accL b l).Min ∧ (accL a l).Max = (accL b l).Max ∧ (accL a l).First = (accL b l).First ∧ (accL a l).Last = (accL b l).Last := by
    intro l
    induction l with
    | nil => intro a b h1 h2 h3 h4 h5 h6; exact ⟨h1, h2, h3, h4, h5, h6⟩
    | cons s l ih =>
      intro a b h1 h2 h3 h4 h5 h6
      rw [accL, accL]
      exact ih _ _ (by simp only [stepA]; omega) (by simp only [stepA]; omega) (by simp only [stepA]; omega) (by simp only [stepA]; omega) h5 rfl
  cases l with
  | nil => simp at h
  | cons s l =>
    obtain ⟨h1, h2, h3, h4, h5, h6⟩ := key l (oneA s.V fr) (oneA s.V (floorA fr k)) rfl rfl rfl rfl rfl rfl
    have f1 := (accL_facts l (oneA s.V fr)).1
    have f2 := (accL_facts l (oneA s.V (floorA fr k))).1
    rw [agg_iff]
    simp only [atK, aggL]
    exact ⟨by rw [f1, f2], h1, h2, h3, h4, h5, h6⟩
theorem J_at (a b : Agg) (k : Int) : J a (atK b k) = J a b := rfl
theorem winLen_all {k F : Int} : ∀ (p l : List Sample), (∀ s ∈ p, floorA s.T k = F) → (∀ s r, l = s :: r → ¬ floorA s.T k = F) → winLen k F (p ++ l) = p.length
  | [], [], _, _ => rfl
  | [], s :: r, _, hl => by rw [List.nil_append, winLen, if_neg (hl s r rfl)]; rfl
  | s :: p, l, hp, hl => by
    rw [List.cons_append, winLen, if_pos (hp s (List.mem_cons_self ..)), winLen_all p l (fun x hx => hp x (List.mem_cons_of_mem _ hx)) hl]; rfl
theorem win_floor {k F : Int} : ∀ (l : List Sample), ∀ s ∈ l.take (winLen k F l), floorA s.T k = F
  | [], s, h => by simp at h
  | x :: l, s, h => by
    rw [winLen] at h
    split at h
    · rename_i hx
      rw [List.take_succ_cons] at h
      rcases List.mem_cons.1 h with rfl | h
      · exact hx
      · exact win_floor l s h
    · simp at h
theorem wins_cut {k F : Int} {f : Nat} {p l : List Sample} (hp : 0 < p.length) (hf : (p ++ l).length ≤ f) (hF : ∀ s ∈ p, floorA s.T k = F) (hl : ∀ s r, l = s :: r → ¬ floorA s.T k = F) : wins k f (p ++ l) = aggL F p :: wins k (f - 1) l := by
  cases p with
  | nil => simp at hp
  | cons s p =>
    cases f with
    | zero => simp at hf
    | succ f =>
      have e := hF s (List.mem_cons_self ..)
      have hw := winLen_all (s :: p) l hF hl
      rw [List.cons_append] at hw ⊢
      rw [wins, e, hw]
      simp
theorem wins_fuel {k : Int} : ∀ (f g : Nat) (l : List Sample), l.length ≤ f → l.length ≤ g → wins k f l = wins k g l
  | 0, g, l, hf, _ => by
    obtain rfl := List.length_eq_zero_iff.1 (by omega : l.length = 0)
    cases g <;> rfl
  | f + 1, 0, l, _, hg => by
    obtain rfl := List.length_eq_zero_iff.1 (by omega : l.length = 0)
    rfl
  | f + 1, g + 1, [], _, _ => rfl
  | f + 1, g + 1, s :: l, hf, hg => by
    have hp : 0 < winLen k (floorA s.T k) (s :: l) := by simp [winLen]
    rw [wins, wins, wins_fuel f g _ (by rw [List.length_drop]; omega) (by rw [List.length_drop]; omega)]
/-- The coarser tier holds the finer one whole. -/
abbrev Up (k k' : Int) : Prop := ∀ t, 0 ≤ t → t ≤ 1099511627776 → floorA (floorA t k) k' = floorA t k'
theorem up_w {k k' : Int} (h : (k = 1 ∧ k' = 2) ∨ (k = 2 ∧ k' = 3)) : Up k k' := by
  intro t h0 h1
  rcases h with ⟨rfl, rfl⟩ | ⟨rfl, rfl⟩
  · rw [floor_eq (t := t) (k := 1) (w := 5) rfl (by decide) h0 h1, floor_eq (t := t) (k := 2) (w := 60) rfl (by decide) h0 h1, floor_eq (t := t - t % 5) (k := 2) (w := 60) rfl (by decide) (by omega) (by omega)]; omega
  · rw [floor_eq (t := t) (k := 2) (w := 60) rfl (by decide) h0 h1, floor_eq (t := t) (k := 3) (w := 1440) rfl (by decide) h0 h1, floor_eq (t := t - t % 60) (k := 3) (w := 1440) rfl (by decide) (by omega) (by omega)]; omega
theorem fine_agg {fr : Int} {p : List Sample} (f0 : 0 ≤ fr) (f1 : fr ≤ 1099511627776) (h : 0 < p.length) (hn : p.length ≤ 1000000) (hs : ∀ s ∈ p, smallS s) : Fine (aggL fr p) := by
  refine ⟨(all_fine f0 f1 h hn hs).2, ?_⟩
  have hb := sumS_bound p hs
  unfold Wn
  rw [aggL_count, aggL_sum]
  omega
theorem down_wins {k k' : Int} (h0 : 0 < k) (h4 : k < 4) (h0' : 0 < k') (h4' : k' < 4) (hup : Up k k') : ∀ (f : Nat) (l p : List Sample) (F : Int) (out : List Agg) (g : Nat), l.length ≤ f → (p ++ l).length ≤ g → (p ++ l).length ≤ 1000000 → 0 < p.length →
    (∀ s ∈ p, floorA s.T k' = F) → (∀ s ∈ p ++ l, 0 ≤ s.T ∧ s.T ≤ 1099511627776) → (∀ s ∈ p ++ l, smallS s) → downL k' (wins k f l) (out ++ [aggL F p]) = (out ++ wins k' g (p ++ l), 0)
  | 0, l, p, F, out, g, hf, hg, hn, hp, hF, hT, hs => by
    obtain rfl := List.length_eq_zero_iff.1 (by omega : l.length = 0)
    rw [wins_cut hp hg hF (by intro s r h; cases h)]
    have : wins k' (g - 1) [] = [] := by cases g - 1 <;> rfl
    rw [this]; rfl
  | f + 1, [], p, F, out, g, hf, hg, hn, hp, hF, hT, hs => by
    rw [wins_cut hp hg hF (by intro s r h; cases h)]
    have : wins k' (g - 1) [] = [] := by cases g - 1 <;> rfl
    rw [this]; rfl
  | f + 1, s :: l, p, F, out, g, hf, hg, hn, hp, hF, hT, hs => by
    have hsT := hT s (List.mem_append_right _ (List.mem_cons_self ..))
    have hfl := floor_nn h0 h4 hsT.1 hsT.2
    have hpn : 0 < winLen k (floorA s.T k) (s :: l) := by simp [winLen]
    have hle := winLen_le k (floorA s.T k) (s :: l)
    have hwf := win_floor (k := k) (F := floorA s.T k) (s :: l)
    rw [wins]
    generalize winLen k (floorA s.T k) (s :: l) = n at *
    have e := List.take_append_drop n (s :: l)
    have e1 : ((s :: l).take n).length = n := by rw [List.length_take]; omega
    have e2 : ((s :: l).drop n).length = (s :: l).length - n := List.length_drop
    have hl1 : (p ++ s :: l).length = p.length + (s :: l).length := List.length_append
    have hG : floorA (floorA s.T k) k' = floorA s.T k' := hup s.T hsT.1 hsT.2
    have hwG : ∀ x ∈ (s :: l).take n, floorA x.T k' = floorA s.T k' := by
      intro x hx
      have hxT := hT x (List.mem_append_right _ (List.mem_of_mem_take hx))
      rw [← hup x.T hxT.1 hxT.2, hwf x hx, hG]
    have hgt : (out ++ [aggL F p]).getLast? = some (aggL F p) := by simp
    have hFp : F = floorA (p[0]'hp).T k' := (hF _ (List.getElem_mem hp)).symm
    have hp0 := hT _ (List.mem_append_left _ (List.getElem_mem hp))
    have hFr := floor_nn h0' h4' hp0.1 hp0.2
    rw [downL, hgt]
    simp only []
    rw [aggL_from F hp, aggL_from (floorA s.T k) (l := (s :: l).take n) (by omega), hG]
    by_cases hc : F = floorA s.T k'
    · rw [if_pos hc]
      have hfa : Fine (aggL F p) := fine_agg (by omega) (by omega) hp (by omega) fun x hx => hs x (List.mem_append_left _ hx)
      have hfb : Fine (aggL (floorA s.T k) ((s :: l).take n)) := fine_agg hfl.1 (by omega) (by omega) (by omega) fun x hx => hs x (List.mem_append_right _ (List.mem_of_mem_take hx))
      have hfb' := fine_at h0' h4' hfb
      have c1 : (aggL F p).Count = (p.length : Int) := aggL_count F
      have c2 : (atK (aggL (floorA s.T k) ((s :: l).take n)) k').Count = (n : Int) := by
        show (aggL (floorA s.T k) ((s :: l).take n)).Count = _
        rw [aggL_count, e1]
      obtain ⟨j1, _⟩ := fine_J hfa hfb' (by rw [c1, c2]; omega)
      rw [j1, if_pos rfl]
      simp only []
      have hset : (out ++ [aggL F p]).set ((out ++ [aggL F p]).length - 1) (J (aggL F p) (atK (aggL (floorA s.T k) ((s :: l).take n)) k')) = out ++ [aggL F (p ++ (s :: l).take n)] := by
        rw [J_at, ← aggL_append F (floorA s.T k) (by intro h; rw [h] at hp; simp at hp) (by intro h; rw [h] at e1; simp at e1; omega)]
        simp
      rw [hset, down_wins h0 h4 h0' h4' hup f ((s :: l).drop n) (p ++ (s :: l).take n) F out g (by rw [e2]; simp only [List.length_cons] at hf ⊢; omega) (by rw [List.append_assoc, e]; exact hg) (by rw [List.append_assoc, e]; exact hn) (by rw [List.length_append]; omega)
        (fun x hx => (List.mem_append.1 hx).elim (fun h => hF x h) (fun h => by rw [hwG x h, hc])) (by rw [List.append_assoc, e]; exact hT) (by rw [List.append_assoc, e]; exact hs), List.append_assoc, e]
    · rw [if_neg hc, atK_agg _ _ (by omega), hG]
      rw [down_wins h0 h4 h0' h4' hup f ((s :: l).drop n) ((s :: l).take n) (floorA s.T k') (out ++ [aggL F p]) (g - 1) (by rw [e2]; simp only [List.length_cons] at hf ⊢; omega) (by rw [e]; omega) (by rw [e]; omega) (by omega) hwG
        (by rw [e]; exact fun x hx => hT x (List.mem_append_right _ hx)) (by rw [e]; exact fun x hx => hs x (List.mem_append_right _ hx)), e]
      rw [wins_cut hp hg hF (by intro y r h; simp only [List.cons.injEq] at h; rw [← h.1]; exact fun q => hc q.symm), List.append_assoc]; rfl
theorem steps_once {l : List Sample} {k k' : Int} (hk : (k = 1 ∧ k' = 2) ∨ (k = 2 ∧ k' = 3)) (hr : risingA l = true) (hn : l.length ≤ 1000000) (hs : ∀ s ∈ l, smallS s) : downA (rawA l k).1 k' = rawA l k' ∧ (rawA l k').2 = 0 := by
  have ha := asc_of l (-1) (by omega) hr
  have r1 := raw_rising (k := k) (by omega) (by omega) hr hn hs
  have r2 := raw_rising (k := k') (by omega) (by omega) hr hn hs
  refine ⟨?_, r2.1⟩
  have hc : coarseA k = true := by simp only [coarseA, decide_eq_true_eq]; omega
  have hc' : coarseA k' = true := by simp only [coarseA, decide_eq_true_eq]; omega
  have hkk : k' - 1 = k := by omega
  obtain ⟨i1, _⟩ := wins_all (k := k) (by omega) (by omega) l.length l (-1) (Nat.le_refl _) hn ha.1 hs (fun s h => by have := floor_nn (t := s.T) (k := k) (by omega) (by omega) (ha.1.2 s h).1 (ha.1.2 s h).2; omega)
  obtain ⟨i2, _⟩ := wins_all (k := k') (by omega) (by omega) l.length l (-1) (Nat.le_refl _) hn ha.1 hs (fun s h => by have := floor_nn (t := s.T) (k := k') (by omega) (by omega) (ha.1.2 s h).1 (ha.1.2 s h).2; omega)
  have e1 : rawA l k = (wins k l.length l, 0) := by unfold rawA; rw [if_pos ⟨hr, hc⟩, i1]; rfl
  have e2 : rawA l k' = (wins k' l.length l, 0) := by unfold rawA; rw [if_pos ⟨hr, hc'⟩, i2]; rfl
  have hal := r1.2.1
  rw [e1] at hal ⊢
  rw [e2]
  unfold downA
  rw [hkk, if_pos ⟨by omega, hal, hc'⟩]
  cases l with
  | nil => rfl
  | cons s l =>
    have hsT := ha.1.2 s (List.mem_cons_self ..)
    have hfl := floor_nn (k := k) (by omega) (by omega) hsT.1 hsT.2
    have hup := up_w hk
    have hpn : 0 < winLen k (floorA s.T k) (s :: l) := by simp [winLen]
    have hle := winLen_le k (floorA s.T k) (s :: l)
    have hwf := win_floor (k := k) (F := floorA s.T k) (s :: l)
    simp only [List.length_cons] at hle hn ⊢
    rw [wins]
    generalize winLen k (floorA s.T k) (s :: l) = n at *
    have e := List.take_append_drop n (s :: l)
    have el : ((s :: l).take n).length = n := by rw [List.length_take]; simp only [List.length_cons]; omega
    have ed : ((s :: l).drop n).length = (s :: l).length - n := List.length_drop
    simp only [List.length_cons] at ed
    have hG : floorA (floorA s.T k) k' = floorA s.T k' := hup s.T hsT.1 hsT.2
    have hwG : ∀ x ∈ (s :: l).take n, floorA x.T k' = floorA s.T k' := by
      intro x hx
      have hxT := ha.1.2 x (List.mem_of_mem_take hx)
      rw [← hup x.T hxT.1 hxT.2, hwf x hx, hG]
    have hd := down_wins (k := k) (k' := k') (by omega) (by omega) (by omega) (by omega) hup l.length ((s :: l).drop n) ((s :: l).take n) (floorA s.T k') [] (l.length + 1) (by omega) (by rw [e]; simp) (by rw [e]; simp only [List.length_cons]; omega) (by omega) hwG (by rw [e]; exact ha.1.2) (by rw [e]; exact hs)
    rw [e] at hd
    rw [downL]
    simp only [List.getLast?_nil]
    rw [atK_agg _ _ (by omega), hG]
    simpa using hd
end Go.Proofs.Ytffnhcioponbbaa
