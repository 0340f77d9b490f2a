/- The library of this proof, part 2: Windows of windows: small ones never fail; two samples that change places do not rise. Step by step or at once: windows of windows are the windows of the coarser tier. Rows of segments: that they may be, and what they are rolled up to. Rows of segments: which of them are asked. Rows of segments with all of tier 0. A row: its end; what it answers when a range is cut in two. A wider range answers at least as much, in order. Rows with all segments of tier 0, and others beside them. Asked for all its time, a row answers windows that do not overlap and come to all its samples. A head behind a row. Short names for what walks write often. The reference's picking, by places. The document's answer: which segments are asked, by their places. How two windows are compared. Two lists, place by place. -/
import Derived.Test.YthanfecefjfbjaaXLA
section
namespace Go.Proofs.Ythanfecefjfbjaa
abbrev Fine (a : Agg) : Prop := mayP a ∧ Wn a
theorem fine_J {a b : Agg} (ha : Fine a) (hb : Fine b) (h : a.Count + b.Count ≤ 1000000) : joinA a b = (J a b, 0) ∧ Fine (J a b) := by
  have h1 := J_may ha.1 hb.1 (by omega)
  obtain ⟨_, a1, a2, a3⟩ := ha
  obtain ⟨_, b1, b2, b3⟩ := hb
  rcases joinA_may (a := a) (b := b) (by assumption) (by assumption) (by omega) with ⟨h2, _⟩ | ⟨_, h2⟩
  · refine ⟨h2, h1, ?_⟩
    simp only [Wn, J]; omega
  · exfalso; simp only [i64R] at h2; omega
theorem fine_at {a : Agg} {k : Int} (h0 : 0 < k) (h4 : k < 4) (h : Fine a) : Fine (atK a k) := by
  have hf := floor_nn (t := a.From) h0 h4 (by have := h.1; omega) (by have := h.1; omega)
  obtain ⟨⟨c1, c2, c3, c4, c5⟩, hw⟩ := h
  exact ⟨⟨c1, c2, hf.1, by simp only [atK]; omega, c5⟩, hw⟩
theorem len_pos_of_cnt {A : List Agg} (h : 0 < cntA A) : 0 < A.length := by
  cases A with
  | nil => simp [cntA] at h
  | cons a A => simp
end Go.Proofs.Ythanfecefjfbjaa
end
section
namespace Go.Proofs.Ythanfecefjfbjaa
theorem atK_agg (fr k : Int) {l : List Sample} (h : 0 < l.length) : atK (aggL fr l) k = aggL (floorA fr k) l := by
  have key : ∀ (l : List Sample) (a b : Agg), a.Count = b.Count → a.Sum = b.Sum → a.Min = b.Min → a.Max = b.Max → a.First = b.First → a.Last = b.Last →
      (accL a l).Count = (accL b l).Count ∧ (accL a l).Sum = (accL b l).Sum ∧ (accL a l).Min = (accL b l).Min ∧ (accL a l).Max = (accL b l).Max ∧ (accL a l).First = (accL b l).First ∧ (accL a l).Last = (accL b l).Last := by
    intro l
    induction l with
    | nil => intro a b h1 h2 h3 h4 h5 h6; exact ⟨h1, h2, h3, h4, h5, h6⟩
    | cons s l ih =>
      intro a b h1 h2 h3 h4 h5 h6
      rw [accL, accL]
      exact ih _ _ (by simp only [stepA]; omega) (by simp only [stepA]; omega) (by simp only [stepA]; omega) (by simp only [stepA]; omega) h5 rfl
  cases l with
  | nil => simp at h
  | cons s l =>
    obtain ⟨h1, h2, h3, h4, h5, h6⟩ := key l (oneA s.V fr) (oneA s.V (floorA fr k)) rfl rfl rfl rfl rfl rfl
    have f1 := (accL_facts l (oneA s.V fr)).1
    have f2 := (accL_facts l (oneA s.V (floorA fr k))).1
    rw [agg_iff]
    simp only [atK, aggL]
    exact ⟨by rw [f1, f2], h1, h2, h3, h4, h5, h6⟩
theorem J_at (a b : Agg) (k : Int) : J a (atK b k) = J a b := rfl
theorem winLen_all {k F : Int} : ∀ (p l : List Sample), (∀ s ∈ p, floorA s.T k = F) → (∀ s r, l = s :: r → ¬ floorA s.T k = F) → winLen k F (p ++ l) = p.length
  | [], [], _, _ => rfl
  | [], s :: r, _, hl => by rw [List.nil_append, winLen, if_neg (hl s r rfl)]; rfl
  | s :: p, l, hp, hl => by
    rw [List.cons_append, winLen, if_pos (hp s (List.mem_cons_self ..)), winLen_all p l (fun x hx => hp x (List.mem_cons_of_mem _ hx)) hl]; rfl
theorem win_floor {k F : Int} : ∀ (l : List Sample), ∀ s ∈ l.take (winLen k F l), floorA s.T k = F
  | [], s, h => by simp at h
  | x :: l, s, h => by
    rw [winLen] at h
    split at h
    · rename_i hx
      rw [List.take_succ_cons] at h
      rcases List.mem_cons.1 h with rfl | h
      · exact hx
      · exact win_floor l s h
    · simp at h
theorem wins_cut {k F : Int} {f : Nat} {p l : List Sample} (hp : 0 < p.length) (hf : (p ++ l).length ≤ f) (hF : ∀ s ∈ p, floorA s.T k = F) (hl : ∀ s r, l = s :: r → ¬ floorA s.T k = F) : wins k f (p ++ l) = aggL F p :: wins k (f - 1) l := by
  cases p with
  | nil => simp at hp
  | cons s p =>
    cases f with
    | zero => simp at hf
    | succ f =>
      have e := hF s (List.mem_cons_self ..)
      have hw := winLen_all (s :: p) l hF hl
      rw [List.cons_append] at hw ⊢
      rw [wins, e, hw]
      simp
abbrev Up (k k' : Int) : Prop := ∀ t, 0 ≤ t → t ≤ 1099511627776 → floorA (floorA t k) k' = floorA t k'
theorem up_w {k k' : Int} (h : (k = 1 ∧ k' = 2) ∨ (k = 2 ∧ k' = 3)) : Up k k' := by
  intro t h0 h1
  rcases h with ⟨rfl, rfl⟩ | ⟨rfl, rfl⟩
  · rw [floor_eq (t := t) (k := 1) (w := 5) rfl (by decide) h0 h1, floor_eq (t := t) (k := 2) (w := 60) rfl (by decide) h0 h1, floor_eq (t := t - t % 5) (k := 2) (w := 60) rfl (by decide) (by omega) (by omega)]; omega
  · rw [floor_eq (t := t) (k := 2) (w := 60) rfl (by decide) h0 h1, floor_eq (t := t) (k := 3) (w := 1440) rfl (by decide) h0 h1, floor_eq (t := t - t % 60) (k := 3) (w := 1440) rfl (by decide) (by omega) (by omega)]; omega
theorem fine_agg {fr : Int} {p : List Sample} (f0 : 0 ≤ fr) (f1 : fr ≤ 1099511627776) (h : 0 < p.length) (hn : p.length ≤ 1000000) (hs : ∀ s ∈ p, smallS s) : Fine (aggL fr p) := by
  refine ⟨(all_fine f0 f1 h hn hs).2, ?_⟩
  have hb := sumS_bound p hs
  unfold Wn
  rw [aggL_count, aggL_sum]
  omega
theorem down_wins {k k' : Int} (h0 : 0 < k) (h4 : k < 4) (h0' : 0 < k') (h4' : k' < 4) (hup : Up k k') : ∀ (f : Nat) (l p : List Sample) (F : Int) (out : List Agg) (g : Nat), l.length ≤ f → (p ++ l).length ≤ g → (p ++ l).length ≤ 1000000 → 0 < p.length →
    (∀ s ∈ p, floorA s.T k' = F) → (∀ s ∈ p ++ l, 0 ≤ s.T ∧ s.T ≤ 1099511627776) → (∀ s ∈ p ++ l, smallS s) → downL k' (wins k f l) (out ++ [aggL F p]) = (out ++ wins k' g (p ++ l), 0)
  | 0, l, p, F, out, g, hf, hg, hn, hp, hF, hT, hs => by
    obtain rfl := List.length_eq_zero_iff.1 (by omega : l.length = 0)
    rw [wins_cut hp hg hF (by intro s r h; cases h)]
    have : wins k' (g - 1) [] = [] := by cases g - 1 <;> rfl
    rw [this]; rfl
  | f + 1, [], p, F, out, g, hf, hg, hn, hp, hF, hT, hs => by
    rw [wins_cut hp hg hF (by intro s r h; cases h)]
    have : wins k' (g - 1) [] = [] := by cases g - 1 <;> rfl
    rw [this]; rfl
  | f + 1, s :: l, p, F, out, g, hf, hg, hn, hp, hF, hT, hs => by
    have hsT := hT s (List.mem_append_right _ (List.mem_cons_self ..))
    have hfl := floor_nn h0 h4 hsT.1 hsT.2
    have hpn : 0 < winLen k (floorA s.T k) (s :: l) := by simp [winLen]
    have hle := winLen_le k (floorA s.T k) (s :: l)
    have hwf := win_floor (k := k) (F := floorA s.T k) (s :: l)
    rw [wins]
    generalize winLen k (floorA s.T k) (s :: l) = n at *
    have e := List.take_append_drop n (s :: l)
    have e1 : ((s :: l).take n).length = n := by rw [List.length_take]; omega
    have e2 : ((s :: l).drop n).length = (s :: l).length - n := List.length_drop
    have hl1 : (p ++ s :: l).length = p.length + (s :: l).length := List.length_append
    have hG : floorA (floorA s.T k) k' = floorA s.T k' := hup s.T hsT.1 hsT.2
    have hwG : ∀ x ∈ (s :: l).take n, floorA x.T k' = floorA s.T k' := by
      intro x hx
      have hxT := hT x (List.mem_append_right _ (List.mem_of_mem_take hx))
      rw [← hup x.T hxT.1 hxT.2, hwf x hx, hG]
    have hgt : (out ++ [aggL F p]).getLast? = some (aggL F p) := by simp
    have hFp : F = floorA (p[0]'hp).T k' := (hF _ (List.getElem_mem hp)).symm
    have hp0 := hT _ (List.mem_append_left _ (List.getElem_mem hp))
    have hFr := floor_nn h0' h4' hp0.1 hp0.2
    rw [downL, hgt]
    simp only []
    rw [aggL_from F hp, aggL_from (floorA s.T k) (l := (s :: l).take n) (by omega), hG]
    by_cases hc : F = floorA s.T k'
    · rw [if_pos hc]
      have hfa : Fine (aggL F p) := fine_agg (by omega) (by omega) hp (by omega) fun x hx => hs x (List.mem_append_left _ hx)
      have hfb : Fine (aggL (floorA s.T k) ((s :: l).take n)) := fine_agg hfl.1 (by omega) (by omega) (by omega) fun x hx => hs x (List.mem_append_right _ (List.mem_of_mem_take hx))
      have hfb' := fine_at h0' h4' hfb
      have c1 : (aggL F p).Count = (p.length : Int) := aggL_count F
      have c2 : (atK (aggL (floorA s.T k) ((s :: l).take n)) k').Count = (n : Int) := by
        show (aggL (floorA s.T k) ((s :: l).take n)).Count = _
        rw [aggL_count, e1]
      obtain ⟨j1, _⟩ := fine_J hfa hfb' (by rw [c1, c2]; omega)
      rw [j1, if_pos rfl]
      simp only []
      have hset : (out ++ [aggL F p]).set ((out ++ [aggL F p]).length - 1) (J (aggL F p) (atK (aggL (floorA s.T k) ((s :: l).take n)) k')) = out ++ [aggL F (p ++ (s :: l).take n)] := by
        rw [J_at, ← aggL_append F (floorA s.T k) (by intro h; rw [h] at hp; simp at hp) (by intro h; rw [h] at e1; simp at e1; omega)]
        simp
      rw [hset, down_wins h0 h4 h0' h4' hup f ((s :: l).drop n) (p ++ (s :: l).take n) F out g (by rw [e2]; simp only [List.length_cons] at hf ⊢; omega) (by rw [List.append_assoc, e]; exact hg) (by rw [List.append_assoc, e]; exact hn) (by rw [List.length_append]; omega)
        (fun x hx => (List.mem_append.1 hx).elim (fun h => hF x h) (fun h => by rw [hwG x h, hc])) (by rw [List.append_assoc, e]; exact hT) (by rw [List.append_assoc, e]; exact hs), List.append_assoc, e]
    · rw [if_neg hc, atK_agg _ _ (by omega), hG]
      rw [down_wins h0 h4 h0' h4' hup f ((s :: l).drop n) ((s :: l).take n) (floorA s.T k') (out ++ [aggL F p]) (g - 1) (by rw [e2]; simp only [List.length_cons] at hf ⊢; omega) (by rw [e]; omega) (by rw [e]; omega) (by omega) hwG
        (by rw [e]; exact fun x hx => hT x (List.mem_append_right _ hx)) (by rw [e]; exact fun x hx => hs x (List.mem_append_right _ hx)), e]
      rw [wins_cut hp hg hF (by intro y r h; simp only [List.cons.injEq] at h; rw [← h.1]; exact fun q => hc q.symm), List.append_assoc]; rfl
theorem steps_once {l : List Sample} {k k' : Int} (hk : (k = 1 ∧ k' = 2) ∨ (k = 2 ∧ k' = 3)) (hr : risingA l = true) (hn : l.length ≤ 1000000) (hs : ∀ s ∈ l, smallS s) : downA (rawA l k).1 k' = rawA l k' ∧ (rawA l k').2 = 0 := by
  have ha := asc_of l (-1) (by omega) hr
  have r1 := raw_rising (k := k) (by omega) (by omega) hr hn hs
  have r2 := raw_rising (k := k') (by omega) (by omega) hr hn hs
  refine ⟨?_, r2.1⟩
  have hc : coarseA k = true := by simp only [coarseA, decide_eq_true_eq]; omega
  have hc' : coarseA k' = true := by simp only [coarseA, decide_eq_true_eq]; omega
  have hkk : k' - 1 = k := by omega
  obtain ⟨i1, _⟩ := wins_all (k := k) (by omega) (by omega) l.length l (-1) (Nat.le_refl _) hn ha.1 hs (fun s h => by have := floor_nn (t := s.T) (k := k) (by omega) (by omega) (ha.1.2 s h).1 (ha.1.2 s h).2; omega)
  obtain ⟨i2, _⟩ := wins_all (k := k') (by omega) (by omega) l.length l (-1) (Nat.le_refl _) hn ha.1 hs (fun s h => by have := floor_nn (t := s.T) (k := k') (by omega) (by omega) (ha.1.2 s h).1 (ha.1.2 s h).2; omega)
  have e1 : rawA l k = (wins k l.length l, 0) := by unfold rawA; rw [if_pos ⟨hr, hc⟩, i1]; rfl
  have e2 : rawA l k' = (wins k' l.length l, 0) := by unfold rawA; rw [if_pos ⟨hr, hc'⟩, i2]; rfl
  have hal := r1.2.1
  rw [e1] at hal ⊢
  rw [e2]
  unfold downA
  rw [hkk, if_pos ⟨by omega, hal, hc'⟩]
  cases l with
  | nil => rfl
  | cons s l =>
    have hsT := ha.1.2 s (List.mem_cons_self ..)
    have hfl := floor_nn (k := k) (by omega) (by omega) hsT.1 hsT.2
    have hup := up_w hk
    have hpn : 0 < winLen k (floorA s.T k) (s :: l) := by simp [winLen]
    have hle := winLen_le k (floorA s.T k) (s :: l)
    have hwf := win_floor (k := k) (F := floorA s.T k) (s :: l)
    simp only [List.length_cons] at hle hn ⊢
    rw [wins]
    generalize winLen k (floorA s.T k) (s :: l) = n at *
    have e := List.take_append_drop n (s :: l)
    have el : ((s :: l).take n).length = n := by rw [List.length_take]; simp only [List.length_cons]; omega
    have ed : ((s :: l).drop n).length = (s :: l).length - n := List.length_drop
    simp only [List.length_cons] at ed
    have hG : floorA (floorA s.T k) k' = floorA s.T k' := hup s.T hsT.1 hsT.2
    have hwG : ∀ x ∈ (s :: l).take n, floorA x.T k' = floorA s.T k' := by
      intro x hx
      have hxT := ha.1.2 x (List.mem_of_mem_take hx)
      rw [← hup x.T hxT.1 hxT.2, hwf x hx, hG]
    have hd := down_wins (k := k) (k' := k') (by omega) (by omega) (by omega) (by omega) hup l.length ((s :: l).drop n) ((s :: l).take n) (floorA s.T k') [] (l.length + 1) (by omega) (by rw [e]; simp) (by rw [e]; simp only [List.length_cons]; omega) (by omega) hwG (by rw [e]; exact ha.1.2) (by rw [e]; exact hs)
    rw [e] at hd
    rw [downL]
    simp only [List.getLast?_nil]
    rw [atK_agg _ _ (by omega), hG]
    simpa using hd
end Go.Proofs.Ythanfecefjfbjaa
end
section
namespace Go.Proofs.Ythanfecefjfbjaa
theorem mk_risingL {nid fr : Int} {steps values : List Int} (h0 : 0 ≤ fr) (h1 : fr ≤ 1000000000) : risingA ((mkL nid steps values).map (trS fr)) = true := by
  have hn := mkN nid steps
  have hl := mkL_len nid steps values
  have hg : ∀ j (h : j < ((mkL nid steps values).map (trS fr)).length), (((mkL nid steps values).map (trS fr))[j]'h).T = tAt (nid :: steps) (j + 1) + fr := fun j h => by
    rw [List.getElem_map]
    have : (mkL nid steps values)[j]'(by simpa using h) = (⟨tAt (nid :: steps) (j + 1), vAt values j⟩ : Sample) := rise_get ..
    rw [this]; rfl
  refine rises_of _ _ (fun j h => ?_) (fun i j hi h => ?_)
  · have e := hg j h
    rw [List.length_map, hl] at h
    have h2 := tAt_r (steps := nid :: steps) (i := j + 1) (by rw [List.length_cons]; omega)
    omega
  · rw [hg, hg]
    rw [List.length_map, hl] at h
    have := tAt_lt (steps := nid :: steps) (i := i + 1) (j := j + 1) (by omega) (by rw [List.length_cons]; omega)
    omega
theorem mk_rising {nid fr : Int} {steps values : List Int} (h0 : 0 ≤ fr) (h1 : fr ≤ 1000000000) : risingA (makeS nid fr steps values).Samples = true := mk_risingL h0 h1
theorem mk_small {nid fr : Int} {steps values : List Int} : ∀ s ∈ (makeS nid fr steps values).Samples, smallS s := by
  intro s hs
  simp only [makeS, List.mem_map] at hs
  obtain ⟨y, _, rfl⟩ := hs
  have := tmod_small y.V
  simp only [smallS, trS]; omega
theorem wins_from {k : Int} : ∀ (f : Nat) (l : List Sample), ∀ a ∈ wins k f l, ∃ s ∈ l, a.From = floorA s.T k
  | 0, _, a, h => nomatch h
  | f + 1, [], a, h => nomatch h
  | f + 1, s :: l, a, h => by
    rw [wins] at h
    rcases List.mem_cons.1 h with rfl | h
    · have hp := win_pos (k := k) (l := s :: l) (by simp)
      simp only [List.getElem_cons_zero] at hp
      exact ⟨s, List.mem_cons_self .., aggL_from _ (by rw [List.length_take, List.length_cons]; omega)⟩
    · obtain ⟨x, hx, e⟩ := wins_from f _ a h
      exact ⟨x, List.mem_of_mem_drop hx, e⟩
theorem raw_wins {l : List Sample} {k : Int} (h0 : 0 < k) (h4 : k < 4) (hr : risingA l = true) (hn : l.length ≤ 1000000) (hs : ∀ s ∈ l, smallS s) : (rawA l k).1 = wins k l.length l := by
  have ha := asc_of l (-1) (by omega) hr
  obtain ⟨i1, _⟩ := wins_all h0 h4 l.length l (-1) (Nat.le_refl _) hn ha.1 hs (fun s h => by have := floor_nn h0 h4 (ha.1.2 s h).1 (ha.1.2 s h).2; omega)
  have hc : coarseA k = true := by simp only [coarseA, decide_eq_true_eq]; omega
  unfold rawA
  rw [if_pos ⟨hr, hc⟩, i1]; simp
theorem raw_from {l : List Sample} {k : Int} (h0 : 0 < k) (h4 : k < 4) (hr : risingA l = true) (hn : l.length ≤ 1000000) (hs : ∀ s ∈ l, smallS s) : ∀ a ∈ (rawA l k).1, ∃ s ∈ l, a.From = floorA s.T k := by
  rw [raw_wins h0 h4 hr hn hs]; exact wins_from _ _
theorem make_may {nid fr : Int} {steps values : List Int} (h0 : 0 ≤ fr) (h1 : fr ≤ 1000000000) : mayS (makeS nid fr steps values) = true := by
  have ht := make_to (nid := nid) (fr := fr) (steps := steps) (values := values)
  have hl := mkL_len nid steps values
  have hn := mkN nid steps
  have hlen : (makeS nid fr steps values).Samples.length = riseN (nid :: steps) 40 := by simp only [makeS, List.length_map, hl]
  have hT : ∀ i (h : i < (makeS nid fr steps values).Samples.length), fr + 1 ≤ (gd (makeS nid fr steps values).Samples i).T ∧ (gd (makeS nid fr steps values).Samples i).T ≤ fr + 1600 := fun i h => by
    rw [gd_eq h]; exact made_T (mkL_T (nid := nid) (steps := steps) (values := values)) rfl h
  refine may_iff.2 ⟨headS_yes ?_, Or.inl ⟨rfl, mayRaw_iff.2 ⟨rfl, by omega, by omega, mk_rising h0 h1, ?_, ?_⟩⟩⟩
  · have e1 : (makeS nid fr steps values).Id = 1 + nid % 18446744073709551616 % 1000 := rfl
    have e2 : (makeS nid fr steps values).Tier = 0 := rfl
    have e3 : (makeS nid fr steps values).From = fr := rfl
    omega
  · have := hT 0 (by omega)
    show fr ≤ _; omega
  · have e : (makeS nid fr steps values).To = (gd (makeS nid fr steps values).Samples ((mkL nid steps values).length - 1)).T + 1 + nid % 18446744073709551616 % 7 := rfl
    rw [hlen, e, hl]; omega
def atT (s : SegD) (i k : Nat) : SegD := if k = 0 then s else ⟨10 * (i : Int) + (k : Int) + 1, (k : Int), s.From, s.To, [], (rawA s.Samples (k : Int)).1⟩
theorem atT_may {s : SegD} {i k : Nat} (h : mayS s = true) (ht : s.Tier = 0) (hs : ∀ x ∈ s.Samples, smallS x) (hi : i < 1000) (hk : k < 4) : mayS (atT s i k) = true := by
  unfold atT
  split
  · exact h
  rename_i h0
  obtain ⟨g1, g2⟩ := may_iff.1 h
  have g1 := headS_iff.1 g1
  rcases g2 with ⟨_, g2⟩ | ⟨g2, _⟩
  · obtain ⟨_, a1, a2, a3, a4, a5⟩ := mayRaw_iff.1 g2
    have hr := raw_rising (l := s.Samples) (k := (k : Int)) (by omega) (by omega) a3 (by omega) hs
    have hf := raw_from (l := s.Samples) (k := (k : Int)) (by omega) (by omega) a3 (by omega) hs
    have hlen := rawA_len s.Samples (k : Int)
    have hpos : 0 < (rawA s.Samples (k : Int)).1.length := len_pos_of_cnt (by unfold cntA; rw [hr.2.2.1]; omega)
    have hasc := (asc_of s.Samples (-1) (by decide) a3).1
    have hb : ∀ x ∈ s.Samples, s.From ≤ x.T ∧ x.T < s.To := fun x hx => by
      obtain ⟨j, hj, rfl⟩ := List.mem_iff_getElem.1 hx
      have hp := List.pairwise_iff_getElem.1 hasc.1
      rw [gd_eq (by omega)] at a4 a5
      constructor
      · by_cases e : j = 0
        · subst e; exact a4
        · have := hp 0 j (by omega) hj (by omega); omega
      · by_cases e : j = s.Samples.length - 1
        · subst e; exact a5
        · have := hp j (s.Samples.length - 1) hj (by omega) (by omega); omega
    refine may_iff.2 ⟨headS_yes (by simp only []; omega), Or.inr ⟨by simp only []; omega, mayUp_iff.2 ⟨rfl, hpos, by simp only []; omega, hr.2.1, ?_, ?_⟩⟩⟩
    · simp only []
      rw [gd_eq hpos]
      obtain ⟨x, hx, e⟩ := hf _ (List.getElem_mem hpos)
      rw [e]
      have := hb x hx
      exact floor_mono (by omega) (by omega) (by omega) this.1 (by omega)
    · simp only []
      rw [gd_eq (by omega)]
      obtain ⟨x, hx, e⟩ := hf _ (List.getElem_mem (show (rawA s.Samples (k : Int)).1.length - 1 < (rawA s.Samples (k : Int)).1.length by omega))
      rw [e]
      have := hb x hx
      have := floor_nn (t := x.T) (k := (k : Int)) (by omega) (by omega) (by omega) (by omega)
      omega
  · exact absurd ht g2
theorem up_is {s : SegD} {i : Nat} (h : mayS s = true) (ht : s.Tier = 0) (hs : ∀ x ∈ s.Samples, smallS x) (hi : i < 1000) : ∀ {k : Nat}, k < 4 → upS s i k = atT s i k
  | 0, _ => rfl
  | k + 1, hk => by
    have ih := up_is h ht hs hi (k := k) (by omega)
    have hm := atT_may h ht hs hi (k := k) (by omega)
    obtain ⟨_, g2⟩ := may_iff.1 h
    rcases g2 with ⟨_, g2⟩ | ⟨g2, _⟩
    · obtain ⟨_, a1, a2, a3, _, _⟩ := mayRaw_iff.1 g2
      have hr := raw_rising (l := s.Samples) (k := ((k + 1 : Nat) : Int)) (by omega) (by omega) a3 (by omega) hs
      have hlen := rawA_len s.Samples ((k + 1 : Nat) : Int)
      have htk : (atT s i k).Tier = ((k : Int) + 1) - 1 := by
        unfold atT; split
        · rw [ht]; omega
        · simp only []; omega
      have hx : (if (k : Int) + 1 = 1 then rawA (atT s i k).Samples 1 else downA (atT s i k).Aggs ((k : Int) + 1)) = rawA s.Samples ((k + 1 : Nat) : Int) := by
        by_cases e : k = 0
        · subst e; rfl
        · rw [if_neg (by omega)]
          unfold atT; rw [if_neg e]
          have := (steps_once (l := s.Samples) (k := (k : Int)) (k' := ((k + 1 : Nat) : Int)) (by omega) a3 (by omega) hs).1
          exact this
      have hft : (atT s i k).From = s.From ∧ (atT s i k).To = s.To := by unfold atT; split <;> exact ⟨rfl, rfl⟩
      show (rollS (upS s i k) _ _).1 = _
      rw [ih]
      unfold rollS rollT
      rw [if_neg (by omega), if_pos ⟨hm, htk⟩, hx, if_neg (fun c => c hr.1), if_neg (by omega), hft.1, hft.2]
      unfold atT
      rw [if_neg (by omega)]
      congr 1 <;> first | rfl | omega
    · exact absurd ht g2
end Go.Proofs.Ythanfecefjfbjaa
end
section
namespace Go.Proofs.Ythanfecefjfbjaa
theorem step_new {best : List Info} {i : Info} (h : ∀ x ∈ best, ¬ (x.From = i.From ∧ x.To = i.To)) : stepP best i = best ++ [i] := by
  unfold stepP
  rw [if_pos]
  by_cases c : idxI (fun y => decide (y.From = i.From ∧ y.To = i.To)) best < 0
  · exact c
  · obtain ⟨hk, hp⟩ := idx_some c
    exact absurd (of_decide_eq_true hp) (h _ (List.getElem_mem hk))
theorem step_keep {best : List Info} {i : Info} (h : ∃ x ∈ best, x.From = i.From ∧ x.To = i.To) (hf : ∀ x ∈ best, x.From = i.From ∧ x.To = i.To → fineI i x = false) : stepP best i = best := by
  obtain ⟨x, hx, he⟩ := h
  unfold stepP
  by_cases c : idxI (fun y => decide (y.From = i.From ∧ y.To = i.To)) best < 0
  · have := idx_none_iff c x hx
    rw [decide_eq_true he] at this; cases this
  · obtain ⟨hk, hp⟩ := idx_some c
    rw [if_neg c, if_neg]
    rw [gd_eq hk, hf _ (List.getElem_mem hk) (of_decide_eq_true hp)]; decide
theorem best_append (l r : List Info) : bestP (l ++ r) = r.foldl stepP (bestP l) := by unfold bestP; rw [List.foldl_append]
def firstM (mask : Int) (i : Nat) : Nat → Option Nat
  | 0 => none
  | k + 1 => match firstM mask i k with
    | some j => some j
    | none => if bitM mask i k = true then some k else none
theorem firstM_lt {mask : Int} {i : Nat} : ∀ {k j : Nat}, firstM mask i k = some j → j < k ∧ bitM mask i j = true
  | 0, j, h => by simp [firstM] at h
  | k + 1, j, h => by
    rw [firstM] at h
    cases e : firstM mask i k with
    | some x => rw [e] at h; obtain rfl := Option.some.inj h; have := firstM_lt e; exact ⟨by omega, this.2⟩
    | none =>
      rw [e] at h
      simp only [] at h
      split at h
      · obtain rfl := Option.some.inj h; exact ⟨by omega, by assumption⟩
      · cases h
abbrev firstL (s : SegD) (mask : Int) (i k : Nat) : List SegD := match firstM mask i k with
  | some j => [atT s i j]
  | none => []
theorem atT_info {s : SegD} {i k : Nat} (hid : s.Id = 10 * (i : Int) + 1) (ht : s.Tier = 0) : infoOf (atT s i k) = ⟨10 * (i : Int) + (k : Int) + 1, (k : Int), s.From, s.To, 0⟩ := by
  unfold atT infoOf
  split
  · rename_i h; subst h; rw [hid, ht]; simp
  · rfl
theorem tiers_best {s : SegD} {mask : Int} {i : Nat} {B : List Info} (h : mayS s = true) (ht : s.Tier = 0) (hid : s.Id = 10 * (i : Int) + 1) (hs : ∀ x ∈ s.Samples, smallS x) (hi : i < 1000) (hB : ∀ x ∈ B, ¬ (x.From = s.From ∧ x.To = s.To)) :
    ∀ {k : Nat}, k ≤ 4 → (infosOf (tiersM mask s i k)).foldl stepP B = B ++ infosOf (firstL s mask i k)
  | 0, _ => by simp [tiersM, infosOf, firstL, firstM]
  | k + 1, hk => by
    have ih := tiers_best (mask := mask) h ht hid hs hi hB (k := k) (by omega)
    have hu := up_is h ht hs hi (k := k) (by omega)
    rw [tiersM]
    unfold infosOf at ih ⊢
    rw [List.map_append, List.foldl_append, ih]
    by_cases hb : bitM mask i k = true
    · rw [if_pos hb, hu]
      simp only [List.map_cons, List.map_nil, List.foldl_cons, List.foldl_nil, firstL, firstM]
      have hin := atT_info (i := i) (k := k) hid ht
      cases e : firstM mask i k with
      | none =>
        simp only [if_pos hb, List.map_nil, List.append_nil, List.map_cons]
        exact step_new (by rw [hin]; exact hB)
      | some j =>
        have hj := (firstM_lt e).1
        have hjn := atT_info (i := i) (k := j) hid ht
        simp only [List.map_cons, List.map_nil]
        refine step_keep ⟨infoOf (atT s i j), List.mem_append_right _ (List.mem_singleton.2 rfl), by rw [hin, hjn]; exact ⟨rfl, rfl⟩⟩ fun x hx he => ?_
        rcases List.mem_append.1 hx with hx | hx
        · rw [hin] at he; exact absurd he (hB x hx)
        · obtain rfl := List.mem_singleton.1 hx
          rw [hin, hjn]
          refine Bool.eq_false_iff.2 fun c => ?_
          have := fineI_iff.1 c
          simp only [] at this
          omega
    · rw [if_neg hb]
      simp only [List.map_nil, List.foldl_nil, firstL, firstM]
      cases e : firstM mask i k with
      | none => simp only [if_neg hb]
      | some j => rfl
/-! ### Rows -/
section
variable (steps values : List Int) (mask : Int)
abbrev toM (i : Nat) : Int := (rowM steps values mask i).to
abbrev baseM (i : Nat) : SegD := mk0 steps values i (toM steps values mask i)
theorem base_facts {i : Nat} (hi : i < 4) : mayS (baseM steps values mask i) = true ∧ (baseM steps values mask i).Tier = 0 ∧ (baseM steps values mask i).Id = 10 * (i : Int) + 1 ∧ (∀ x ∈ (baseM steps values mask i).Samples, smallS x) ∧ (baseM steps values mask i).From = toM steps values mask i ∧ (baseM steps values mask i).To = toM steps values mask (i + 1) := by
  have ht : 0 ≤ toM steps values mask i ∧ toM steps values mask i ≤ 2000 * (i : Int) := rowM_to steps values mask (i := i) (by omega)
  have hm : mayS (baseM steps values mask i) = true := make_may ht.1 (by omega)
  refine ⟨hm, rfl, ?_, mk_small, rfl, ?_⟩
  · show 1 + (10 * (i : Int)) % 18446744073709551616 % 1000 = _
    rw [Int.emod_eq_of_lt (a := 10 * (i : Int)) (by omega) (by omega), Int.emod_eq_of_lt (by omega) (by omega)]; omega
  · have hu := up_is (i := i) hm rfl mk_small (by omega) (k := 3) (by omega)
    show _ = (upS (baseM steps values mask i) i 3).To
    rw [hu]; rfl
def finL : Nat → List SegD
  | 0 => []
  | i + 1 => finL i ++ firstL (baseM steps values mask i) mask i 4
theorem fin_to : ∀ {i : Nat}, i ≤ 4 → ∀ x ∈ finL steps values mask i, x.From < x.To ∧ x.To ≤ toM steps values mask i
  | 0, _, x, h => nomatch h
  | i + 1, hi, x, h => by
    obtain ⟨hm, h0, hid, hs, hf, ht⟩ := base_facts steps values mask (i := i) (by omega)
    have hlt : toM steps values mask i < toM steps values mask (i + 1) := by
      have := headS_iff.1 (may_iff.1 hm).1
      omega
    rw [finL] at h
    rcases List.mem_append.1 h with h | h
    · have := fin_to (i := i) (by omega) x h; omega
    · have hx : x.From = toM steps values mask i ∧ x.To = toM steps values mask (i + 1) := by
        unfold firstL at h
        split at h
        · obtain rfl := List.mem_singleton.1 h
          unfold atT; split
          · exact ⟨hf, ht⟩
          · exact ⟨hf, ht⟩
        · cases h
      omega
theorem best_row : ∀ {i : Nat}, i ≤ 4 → bestP (infosOf (rowM steps values mask i).l) = infosOf (finL steps values mask i)
  | 0, _ => rfl
  | i + 1, hi => by
    obtain ⟨hm, h0, hid, hs, hf, ht⟩ := base_facts steps values mask (i := i) (by omega)
    have ih := best_row (i := i) (by omega)
    have hB : ∀ x ∈ infosOf (finL steps values mask i), ¬ (x.From = (baseM steps values mask i).From ∧ x.To = (baseM steps values mask i).To) := fun x hx => by
      obtain ⟨y, hy, rfl⟩ := List.mem_map.1 hx
      have := fin_to steps values mask (i := i) (by omega) y hy
      rw [hf]
      simp only [infoOf]; omega
    have := tiers_best (mask := mask) hm h0 hid hs (by omega) hB (k := 4) (Nat.le_refl _)
    show bestP (infosOf ((rowM steps values mask i).l ++ tiersM mask (baseM steps values mask i) i 4)) = _
    unfold infosOf at this ih ⊢
    rw [List.map_append, best_append, ih, this, finL, List.map_append]
theorem tiers_mem {s : SegD} {i : Nat} (h : mayS s = true) (ht : s.Tier = 0) (hs : ∀ x ∈ s.Samples, smallS x) (hi : i < 1000) : ∀ {k : Nat}, k ≤ 4 → ∀ x ∈ tiersM mask s i k, ∃ j, j < k ∧ x = atT s i j
  | 0, _, x, hx => nomatch hx
  | k + 1, hk, x, hx => by
    rw [tiersM] at hx
    rcases List.mem_append.1 hx with hx | hx
    · obtain ⟨j, hj, e⟩ := tiers_mem h ht hs hi (k := k) (by omega) x hx
      exact ⟨j, by omega, e⟩
    · split at hx
      · obtain rfl := List.mem_singleton.1 hx
        exact ⟨k, by omega, up_is h ht hs hi (by omega)⟩
      · cases hx
theorem tiers_has {s : SegD} {i j : Nat} (h : mayS s = true) (ht : s.Tier = 0) (hs : ∀ x ∈ s.Samples, smallS x) (hi : i < 1000) : ∀ {k : Nat}, k ≤ 4 → j < k → bitM mask i j = true → atT s i j ∈ tiersM mask s i k
  | 0, _, hj, _ => by omega
  | k + 1, hk, hj, hb => by
    rw [tiersM]
    by_cases e : j = k
    · subst e
      rw [if_pos hb, up_is h ht hs hi (by omega)]
      exact List.mem_append_right _ (List.mem_singleton.2 rfl)
    · exact List.mem_append_left _ (tiers_has h ht hs hi (by omega) (by omega) hb)
end
section
variable (steps values : List Int) (mask : Int)
theorem row_best {i : Nat} (hi : i ≤ 4) : (bestP (infosOf (rowM steps values mask i).l)).length ≤ 12 := by
  rw [best_row steps values mask hi]
  unfold infosOf; rw [List.length_map]
  have : ∀ {n : Nat}, (finL steps values mask n).length ≤ n := by
    intro n
    induction n with
    | zero => exact Nat.le_refl _
    | succ n ih =>
      rw [finL, List.length_append]
      have : (firstL (baseM steps values mask n) mask n 4).length ≤ 1 := by unfold firstL; split <;> simp
      omega
  have := this (n := i)
  omega
end
end Go.Proofs.Ythanfecefjfbjaa
end
section
namespace Go.Proofs.Ythanfecefjfbjaa
section
variable (steps values : List Int) (mask : Int)
end
end Go.Proofs.Ythanfecefjfbjaa
end
section
namespace Go.Proofs.Ythanfecefjfbjaa
theorem bit_some (mask : Int) (i : Nat) : ∃ k, k < 4 ∧ bitM mask i k = true := by
  unfold bitM
  by_cases h0 : (mask / 2 ^ (4 * i)) % 16 = 0
  · exact ⟨0, by decide, by simp [h0]⟩
  · have h : (mask / 2 ^ (4 * i)) % 16 / 2 ^ 0 % 2 = 1 ∨ (mask / 2 ^ (4 * i)) % 16 / 2 ^ 1 % 2 = 1 ∨ (mask / 2 ^ (4 * i)) % 16 / 2 ^ 2 % 2 = 1 ∨ (mask / 2 ^ (4 * i)) % 16 / 2 ^ 3 % 2 = 1 := by
      generalize mask / 2 ^ (4 * i) = m at h0 ⊢
      omega
    rcases h with h | h | h | h
    · exact ⟨0, by decide, by rw [decide_eq_true h]; rfl⟩
    · exact ⟨1, by decide, by rw [decide_eq_true h]; rfl⟩
    · exact ⟨2, by decide, by rw [decide_eq_true h]; rfl⟩
    · exact ⟨3, by decide, by rw [decide_eq_true h]; rfl⟩
theorem up_ok {s : SegD} {i : Nat} (h : s.ok) (hi : i < 1000) : ∀ {k : Nat}, k < 1000 → (upS s i k).ok
  | 0, _ => h
  | k + 1, hk => roll_ok2 (up_ok h hi (k := k) (by omega)) ⟨by omega, by omega⟩ ⟨by omega, by omega⟩
theorem tiers_ok {mask : Int} {s : SegD} {i : Nat} (h : s.ok) (hi : i < 1000) : ∀ {k : Nat}, k < 1000 → ∀ x ∈ tiersM mask s i k, x.ok
  | 0, _, x, hx => nomatch hx
  | k + 1, hk, x, hx => by
    rw [tiersM] at hx
    rcases List.mem_append.1 hx with hx | hx
    · exact tiers_ok h hi (k := k) (by omega) x hx
    · split at hx
      · obtain rfl := List.mem_singleton.1 hx
        exact up_ok h hi (by omega)
      · cases hx
section
variable (steps values : List Int) (mask : Int)
theorem row_ok (hv : ∀ v ∈ values, i64R v) : ∀ {i : Nat}, i ≤ 4 → ∀ x ∈ (rowM steps values mask i).l, x.ok
  | 0, _, x, hx => nomatch hx
  | i + 1, hi, x, hx => by
    have hx : x ∈ (rowM steps values mask i).l ++ tiersM mask (baseM steps values mask i) i 4 := hx
    have hto := rowM_to steps values mask (i := i) (by omega)
    rcases List.mem_append.1 hx with hx | hx
    · exact row_ok hv (by omega) x hx
    · exact tiers_ok (make_ok hto.1 (Int.le_trans hto.2 (by omega)) hv) (by omega) (by decide) x hx
theorem tiers_ne {i : Nat} (hi : i < 4) : 0 < (tiersM mask (baseM steps values mask i) i 4).length := by
  obtain ⟨hm, h0, _, hs, _⟩ := base_facts steps values mask hi
  obtain ⟨k, hk, hb⟩ := bit_some mask i
  exact List.length_pos_of_mem (tiers_has (mask := mask) hm h0 hs (by omega) (by decide) hk hb)
theorem tiers_to {i : Nat} (hi : i < 4) : ∀ x ∈ tiersM mask (baseM steps values mask i) i 4, x.To = (rowM steps values mask (i + 1)).to := fun x hx => by
  obtain ⟨hm, h0, _, hs, _, ht⟩ := base_facts steps values mask hi
  obtain ⟨j, hj, rfl⟩ := tiers_mem (mask := mask) hm h0 hs (by omega) (by decide) x hx
  refine Eq.trans ?_ ht
  unfold atT; split <;> rfl
theorem row_last {i j : Nat} (hi : i ≤ 4) (h1 : 1 ≤ i) (h : j < (rowM steps values mask i).l.length) (hj : j + 1 = (rowM steps values mask i).l.length) : ((rowM steps values mask i).l[j]'h).To = (rowM steps values mask i).to := by
  obtain ⟨a, rfl⟩ : ∃ a, i = a + 1 := ⟨i - 1, by omega⟩
  have hn := tiers_ne steps values mask (i := a) (by omega)
  have e : (rowM steps values mask (a + 1)).l = (rowM steps values mask a).l ++ tiersM mask (baseM steps values mask a) a 4 := rfl
  have hl : j + 1 = (rowM steps values mask a).l.length + (tiersM mask (baseM steps values mask a) a 4).length := by rw [hj, e, List.length_append]
  have hg : (rowM steps values mask (a + 1)).l[j]'h = (tiersM mask (baseM steps values mask a) a 4)[j - (rowM steps values mask a).l.length]'(by omega) := List.getElem_append_right (by omega)
  rw [hg]
  exact tiers_to steps values mask (by omega) _ (List.getElem_mem _)
theorem row_ne {i : Nat} (hi : i ≤ 4) (h1 : 1 ≤ i) : 0 < (rowM steps values mask i).l.length := by
  obtain ⟨a, rfl⟩ : ∃ a, i = a + 1 := ⟨i - 1, by omega⟩
  have hn := tiers_ne steps values mask (i := a) (by omega)
  show 0 < ((rowM steps values mask a).l ++ tiersM mask (baseM steps values mask a) a 4).length
  rw [List.length_append]; omega
end
section
variable {steps values : List Int} {mask : Int} {ys : List Seg} {i : Nat}
theorem row_endY {j : Nat} (hi : i ≤ 4) (h1 : 1 ≤ i) (hys : ys.map Seg.d = (rowM steps values mask i).l) (h : j < ys.length) (hj : j + 1 = ys.length) : (ys[j]'h).d.To = (rowM steps values mask i).to := by
  have hl : ys.length = (rowM steps values mask i).l.length := by rw [← hys, List.length_map]
  have := row_last steps values mask hi h1 (j := j) (by omega) (by omega)
  simp only [← hys, List.getElem_map] at this
  rw [this]
theorem row_lenY (hi : i ≤ 4) (h1 : 1 ≤ i) (hys : ys.map Seg.d = (rowM steps values mask i).l) : 0 < ys.length ∧ ys.length ≤ 16 := by
  have hl : ys.length = (rowM steps values mask i).l.length := by rw [← hys, List.length_map]
  have h2 := row_ne steps values mask hi h1
  have h3 := rowM_l steps values mask i
  omega
theorem row_okY (hi : i ≤ 4) (hys : ys.map Seg.d = (rowM steps values mask i).l) (hv : ∀ v ∈ values, i64R v) : ∀ s ∈ ys, s.d.ok := fun s h =>
  row_ok steps values mask hv hi s.d (hys ▸ List.mem_map_of_mem h)
theorem row_bestY (hi : i ≤ 4) (hys : ys.map Seg.d = (rowM steps values mask i).l) : (bestP (infosOf (ds ys))).length ≤ 12 := by
  have := row_best steps values mask hi
  rw [← hys] at this; exact this
end
end Go.Proofs.Ythanfecefjfbjaa
end
section
namespace Go.Proofs.Ythanfecefjfbjaa
section
variable {A B : List Win} {k i : Nat}
end
end Go.Proofs.Ythanfecefjfbjaa
end
section
namespace Go.Proofs.Ythanfecefjfbjaa
section
variable (steps values : List Int)
end
end Go.Proofs.Ythanfecefjfbjaa
end
section
namespace Go.Proofs.Ythanfecefjfbjaa
/-! ### A segment -/
/-! ### A row -/
section
variable (steps values : List Int) (mask : Int)
theorem row_allne {i : Nat} (hi : i ≤ 4) (h1 : 1 ≤ i) : 0 < (rowM steps values mask i).all.length := by
  obtain ⟨a, rfl⟩ : ∃ a, i = a + 1 := ⟨i - 1, by omega⟩
  show 0 < ((rowM steps values mask a).all ++ (mk0 steps values a (rowM steps values mask a).to).Samples).length
  have := (make_len (s := mk0 steps values a (rowM steps values mask a).to) (steps := steps) (i := a) rfl).1
  rw [List.length_append]; omega
end
end Go.Proofs.Ythanfecefjfbjaa
end
section
namespace Go.Proofs.Ythanfecefjfbjaa
abbrev hdL (steps values : List Int) : List Sample := riseL steps values (riseN steps 6)
theorem hdN (steps : List Int) : riseN steps 6 ≤ 6 := Nat.le_trans (riseN_le2 steps 6) (by decide)
theorem hdL_len (steps values : List Int) : (hdL steps values).length = riseN steps 6 := rise_length ..
theorem hdL_T {steps values : List Int} : ∀ s ∈ hdL steps values, 1 ≤ s.T ∧ s.T ≤ 1600 := by
  intro s hs
  obtain ⟨j, hj, rfl⟩ := List.getElem_of_mem hs
  have hn := hdN steps
  have hn2 := riseN_le steps 6
  rw [hdL_len] at hj
  have h1 := tAt_r (steps := steps) (i := j + 1) (by omega)
  have e : (hdL steps values)[j] = (⟨tAt steps (j + 1), vAt values j⟩ : Sample) := rise_get ..
  rw [e]; simp only []; omega
theorem hdL_ok {steps values : List Int} (hv : ∀ v ∈ values, i64R v) : ∀ s ∈ hdL steps values, s.ok :=
  rise_ok (riseN_le _ _) (by have := hdN steps; omega) hv
theorem tr_ok {l xs : List Sample} {fr : Int} (hT : ∀ s ∈ l, 1 ≤ s.T ∧ s.T ≤ 1600) (h0 : 0 ≤ fr) (h1 : fr ≤ 1000000) (hx : xs = l.map (trS fr)) : ∀ s ∈ xs, s.ok := fun s hs => by
  subst hx
  obtain ⟨x, hx, rfl⟩ := List.mem_map.1 hs
  have h2 := hT x hx
  have h3 := tmod_small x.V
  refine ⟨?_, ?_⟩ <;> simp only [trS, i64R] <;> omega
end Go.Proofs.Ythanfecefjfbjaa
end
section
namespace Go.Proofs.Ythanfecefjfbjaa
abbrev iV (x : Int) : Value := .int .i64 x
abbrev nS : Value := .slice none 0 0
abbrev aggC (a : Agg) : List Value := [.int .i64 a.From, .int .i64 a.Count, .int .i64 a.Sum, .int .i64 a.Min, .int .i64 a.Max, .int .i64 a.First, .int .i64 a.Last]
abbrev aggA (a : Agg) : Array Value := #[.int .i64 a.From, .int .i64 a.Count, .int .i64 a.Sum, .int .i64 a.Min, .int .i64 a.Max, .int .i64 a.First, .int .i64 a.Last]
end Go.Proofs.Ythanfecefjfbjaa
end
section
namespace Go.Proofs.Ythanfecefjfbjaa
def intsN (ps : List Nat) : List Int := ps.map fun (n : Nat) => (n : Int)
theorem intsN_len (ps : List Nat) : (intsN ps).length = ps.length := List.length_map ..
theorem intsN_gd {ps : List Nat} {k : Nat} (h : k < ps.length) : gd (intsN ps) k = ((ps[k]'h : Nat) : Int) := by
  rw [gd_eq (by rw [intsN_len]; exact h)]; unfold intsN; rw [List.getElem_map]
def insN (ps : List Nat) (k i : Nat) : List Nat := ps.take k ++ i :: ps.drop k
theorem intsN_ins (ps : List Nat) (k i : Nat) : ((intsN ps).take k ++ [(i : Int)]) ++ (intsN ps).drop k = intsN (insN ps k i) := by
  unfold intsN insN; simp [List.map_take, List.map_drop]
def beats (l : List Info) (k i : Nat) : Bool := decide ((gd l k).From = (gd l i).From ∧ (gd l k).To = (gd l i).To ∧ ((gd l k).Tier < (gd l i).Tier ∨ ((gd l k).Tier = (gd l i).Tier ∧ ((gd l k).Id < (gd l i).Id ∨ ((gd l k).Id = (gd l i).Id ∧ k < i)))))
theorem beats_iff {l : List Info} {k i : Nat} : beats l k i = true ↔ ((gd l k).From = (gd l i).From ∧ (gd l k).To = (gd l i).To ∧ ((gd l k).Tier < (gd l i).Tier ∨ ((gd l k).Tier = (gd l i).Tier ∧ ((gd l k).Id < (gd l i).Id ∨ ((gd l k).Id = (gd l i).Id ∧ k < i))))) := decide_eq_true_iff
def bestTo (l : List Info) (i : Nat) : Nat → Bool
  | 0 => true
  | n + 1 => bestTo l i n && !beats l n i
theorem bestTo_yes {l : List Info} {i n : Nat} (h : beats l n i = true) : bestTo l i (n + 1) = false := by rw [bestTo, h, Bool.not_true, Bool.and_false]
theorem bestTo_no {l : List Info} {i n : Nat} (h : beats l n i = false) : bestTo l i (n + 1) = bestTo l i n := by rw [bestTo, h, Bool.not_false, Bool.and_true]
theorem beats_yes {l : List Info} {k i : Nat} (h : (gd l k).From = (gd l i).From ∧ (gd l k).To = (gd l i).To ∧ ((gd l k).Tier < (gd l i).Tier ∨ ((gd l k).Tier = (gd l i).Tier ∧ ((gd l k).Id < (gd l i).Id ∨ ((gd l k).Id = (gd l i).Id ∧ k < i))))) : beats l k i = true := decide_eq_true h
theorem beats_not {l : List Info} {k i : Nat} (h : ¬ ((gd l k).From = (gd l i).From ∧ (gd l k).To = (gd l i).To ∧ ((gd l k).Tier < (gd l i).Tier ∨ ((gd l k).Tier = (gd l i).Tier ∧ ((gd l k).Id < (gd l i).Id ∨ ((gd l k).Id = (gd l i).Id ∧ k < i)))))) : beats l k i = false := decide_eq_false h
theorem bestTo_iff {l : List Info} {i : Nat} : ∀ {n : Nat}, bestTo l i n = true ↔ ∀ k, k < n → beats l k i = false
  | 0 => by simp [bestTo]
  | n + 1 => by
    rw [bestTo, Bool.and_eq_true, bestTo_iff, Bool.not_eq_true']
    exact ⟨fun ⟨h1, h2⟩ k hk => by
      by_cases e : k = n
      · subst e; exact h2
      · exact h1 k (by omega), fun h => ⟨fun k hk => h k (by omega), h n (by omega)⟩⟩
def outN (l : List Info) : Nat → List Nat
  | 0 => []
  | n + 1 => if bestTo l n l.length = true then insN (outN l n) (seatF (gd l n) ((outN l n).map (gd l)) (outN l n).length) n else outN l n
theorem outN_skip {l : List Info} {i : Nat} {ps : List Nat} (e : ps = outN l i) (h : bestTo l i l.length = false) : ps = outN l (i + 1) := by rw [outN, h, if_neg (by decide)]; exact e
theorem outN_take {l : List Info} {i k : Nat} {ps : List Nat} (e : ps = outN l i) (h : bestTo l i l.length = true) (hk : seatF (gd l i) (ps.map (gd l)) ps.length = k) : insN ps k i = outN l (i + 1) := by rw [outN, if_pos h, ← e, hk]
theorem seatN_go {x : Info} {l : List Info} {ps : List Nat} {k : Nat} (hk : 0 < k) (hq : k - 1 < ps.length) (h : (0 < (k : Int)) ∧ ((x.From < (gd l (Int.toNat (gd (intsN ps) (k - 1)))).From) ∨ (((gd l (Int.toNat (gd (intsN ps) (k - 1)))).From = x.From) ∧ (x.To < (gd l (Int.toNat (gd (intsN ps) (k - 1)))).To)))) : seatF x (ps.map (gd l)) k = seatF x (ps.map (gd l)) (k - 1) := by
  obtain ⟨n, rfl⟩ : ∃ n, k = n + 1 := ⟨k - 1, by omega⟩
  rw [intsN_gd hq] at h
  simp only [Nat.add_sub_cancel, Int.toNat_natCast] at h hq ⊢
  rw [seatF, List.getElem?_map, List.getElem?_eq_getElem hq]
  simp only [Option.map_some]
  rw [if_pos (aheadF_iff.2 (by omega))]
theorem seatN_no {x : Info} {l : List Info} {ps : List Nat} {k : Nat} (hq : k ≤ ps.length) (h : ¬ ((0 < (k : Int)) ∧ ((x.From < (gd l (Int.toNat (gd (intsN ps) (k - 1)))).From) ∨ (((gd l (Int.toNat (gd (intsN ps) (k - 1)))).From = x.From) ∧ (x.To < (gd l (Int.toNat (gd (intsN ps) (k - 1)))).To))))) : seatF x (ps.map (gd l)) k = k := by
  cases k with
  | zero => rfl
  | succ n =>
    rw [intsN_gd (by omega)] at h
    simp only [Nat.add_sub_cancel, Int.toNat_natCast] at h
    rw [seatF, List.getElem?_map, List.getElem?_eq_getElem (by omega)]
    simp only [Option.map_some]
    rw [if_neg (by rw [aheadF_iff]; omega)]
theorem outN_lt {l : List Info} : ∀ {n : Nat}, ∀ x ∈ outN l n, x < n
  | 0, x, h => nomatch h
  | n + 1, x, h => by
    rw [outN] at h
    split at h
    · unfold insN at h
      rcases List.mem_append.1 h with h | h
      · have := outN_lt x (List.mem_of_mem_take h); omega
      · rcases List.mem_cons.1 h with rfl | h
        · omega
        · have := outN_lt x (List.mem_of_mem_drop h); omega
    · have := outN_lt x h; omega
theorem outN_len {l : List Info} : ∀ n, (outN l n).length ≤ n
  | 0 => Nat.le_refl 0
  | n + 1 => by
    have := outN_len (l := l) n
    rw [outN]; split
    · unfold insN; simp; omega
    · omega
theorem outN_map (l : List Info) : ∀ n, (outN l (n + 1)).map (gd l) = if bestTo l n l.length = true then insF ((outN l n).map (gd l)) (gd l n) else (outN l n).map (gd l) := fun n => by
  rw [outN]; split
  · unfold insN insF; simp [List.map_take, List.map_drop]
  · rfl
theorem outN_sorted (l : List Info) : ∀ n, SortedF ((outN l n).map (gd l))
  | 0 => List.Pairwise.nil
  | n + 1 => by
    rw [outN_map]; split
    · exact insF_sorted (outN_sorted l n)
    · exact outN_sorted l n
theorem outN_mem (l : List Info) {x : Info} : ∀ {n : Nat}, x ∈ (outN l n).map (gd l) ↔ ∃ i, i < n ∧ bestTo l i l.length = true ∧ gd l i = x
  | 0 => by simp [outN]
  | n + 1 => by
    rw [outN_map]
    have ih := outN_mem l (x := x) (n := n)
    split
    · rename_i hb
      rw [(insF_perm _ _).mem_iff, List.mem_cons, ih]
      constructor
      · rintro (rfl | ⟨i, h1, h2, h3⟩)
        · exact ⟨n, by omega, hb, rfl⟩
        · exact ⟨i, by omega, h2, h3⟩
      · rintro ⟨i, h1, h2, h3⟩
        by_cases e : i = n
        · subst e; exact Or.inl h3.symm
        · exact Or.inr ⟨i, by omega, h2, h3⟩
    · rename_i hb
      rw [ih]
      constructor
      · rintro ⟨i, h1, h2, h3⟩; exact ⟨i, by omega, h2, h3⟩
      · rintro ⟨i, h1, h2, h3⟩
        by_cases e : i = n
        · subst e; exact absurd h2 hb
        · exact ⟨i, by omega, h2, h3⟩
theorem outN_nodup {l : List Info} : ∀ {n : Nat}, (outN l n).Nodup
  | 0 => List.nodup_nil
  | n + 1 => by
    have ih := outN_nodup (l := l) (n := n)
    rw [outN]; split
    · unfold insN
      have hp : (((outN l n).take _) ++ n :: (outN l n).drop (seatF (gd l n) ((outN l n).map (gd l)) (outN l n).length)).Perm (n :: outN l n) := (List.perm_middle).trans (by rw [List.take_append_drop])
      rw [hp.nodup_iff, List.nodup_cons]
      exact ⟨fun h => by have := outN_lt n h; omega, ih⟩
    · exact ih
def key4 (a : Info) : Int × Int × Int × Int := (a.From, a.To, a.Tier, a.Id)
theorem key4_eq {a b : Info} : key4 a = key4 b ↔ a.From = b.From ∧ a.To = b.To ∧ a.Tier = b.Tier ∧ a.Id = b.Id := by unfold key4; simp only [Prod.mk.injEq]
theorem keys_same : ∀ {q r : List Info}, SortedF q → SortedF r → SpansU q → SpansU r → (∀ k, (∃ x ∈ q, key4 x = k) ↔ ∃ x ∈ r, key4 x = k) → q.map key4 = r.map key4
  | [], [], _, _, _, _, _ => rfl
  | [], b :: r, _, _, _, _, h => by obtain ⟨x, hx, _⟩ := (h (key4 b)).2 ⟨b, List.mem_cons_self .., rfl⟩; cases hx
  | a :: q, [], _, _, _, _, h => by obtain ⟨x, hx, _⟩ := (h (key4 a)).1 ⟨a, List.mem_cons_self .., rfl⟩; cases hx
  | a :: q, b :: r, h1, h2, u1, u2, h => by
    have e : key4 a = key4 b := by
      obtain ⟨x, hx, hxe⟩ := (h (key4 a)).1 ⟨a, List.mem_cons_self .., rfl⟩
      obtain ⟨y, hy, hye⟩ := (h (key4 b)).2 ⟨b, List.mem_cons_self .., rfl⟩
      rcases List.mem_cons.1 hx with rfl | hx
      · exact hxe.symm
      · rcases List.mem_cons.1 hy with rfl | hy
        · exact hye
        · have h3 := leF_iff.1 (List.rel_of_pairwise_cons h2 hx)
          have h4 := leF_iff.1 (List.rel_of_pairwise_cons h1 hy)
          rw [key4_eq] at hxe hye
          exact absurd ⟨by omega, by omega⟩ (List.rel_of_pairwise_cons u1 hy)
    have e4 := key4_eq.1 e
    rw [List.map_cons, List.map_cons, e, keys_same h1.of_cons h2.of_cons u1.of_cons u2.of_cons fun k => ?_]
    constructor
    · rintro ⟨x, hx, rfl⟩
      obtain ⟨y, hy, hye⟩ := (h (key4 x)).1 ⟨x, List.mem_cons_of_mem _ hx, rfl⟩
      rcases List.mem_cons.1 hy with rfl | hy
      · rw [key4_eq] at hye
        exact absurd ⟨by omega, by omega⟩ (List.rel_of_pairwise_cons u1 hx)
      · exact ⟨y, hy, hye⟩
    · rintro ⟨x, hx, rfl⟩
      obtain ⟨y, hy, hye⟩ := (h (key4 x)).2 ⟨x, List.mem_cons_of_mem _ hx, rfl⟩
      rcases List.mem_cons.1 hy with rfl | hy
      · rw [key4_eq] at hye
        exact absurd ⟨by omega, by omega⟩ (List.rel_of_pairwise_cons u2 hx)
      · exact ⟨y, hy, hye⟩
theorem outN_spans (l : List Info) {n : Nat} (hn : n ≤ l.length) : SpansU ((outN l n).map (gd l)) := by
  rw [SpansU, List.pairwise_map]
  refine List.Pairwise.imp_of_mem ?_ (List.nodup_iff_pairwise_ne.1 (outN_nodup (l := l) (n := n)))
  intro a b ha hb hne ⟨e1, e2⟩
  have fa : ∃ i, i < n ∧ bestTo l i l.length = true ∧ i = a := by
    clear hb e1 e2 hne
    induction n with
    | zero => cases ha
    | succ n ih =>
      rw [outN] at ha
      split at ha
      · rename_i hbst
        have hp : (insN (outN l n) (seatF (gd l n) ((outN l n).map (gd l)) (outN l n).length) n).Perm (n :: outN l n) := (List.perm_middle).trans (by rw [List.take_append_drop])
        rcases List.mem_cons.1 (hp.mem_iff.1 ha) with rfl | ha
        · exact ⟨a, by omega, hbst, rfl⟩
        · obtain ⟨i, h1, h2, h3⟩ := ih (by omega) ha; exact ⟨i, by omega, h2, h3⟩
      · obtain ⟨i, h1, h2, h3⟩ := ih (by omega) ha; exact ⟨i, by omega, h2, h3⟩
  have fb : ∃ i, i < n ∧ bestTo l i l.length = true ∧ i = b := by
    clear ha e1 e2 hne fa
    induction n with
    | zero => cases hb
    | succ n ih =>
      rw [outN] at hb
      split at hb
      · rename_i hbst
        have hp : (insN (outN l n) (seatF (gd l n) ((outN l n).map (gd l)) (outN l n).length) n).Perm (n :: outN l n) := (List.perm_middle).trans (by rw [List.take_append_drop])
        rcases List.mem_cons.1 (hp.mem_iff.1 hb) with rfl | hb
        · exact ⟨b, by omega, hbst, rfl⟩
        · obtain ⟨i, h1, h2, h3⟩ := ih (by omega) hb; exact ⟨i, by omega, h2, h3⟩
      · obtain ⟨i, h1, h2, h3⟩ := ih (by omega) hb; exact ⟨i, by omega, h2, h3⟩
  obtain ⟨i, h1, h2, rfl⟩ := fa
  obtain ⟨j, h3, h4, rfl⟩ := fb
  have b1 := bestTo_iff.1 h2 j (by omega)
  have b2 := bestTo_iff.1 h4 i (by omega)
  have c1 : ¬ _ := fun h => Bool.noConfusion (b1.symm.trans (beats_iff.2 h))
  have c2 : ¬ _ := fun h => Bool.noConfusion (b2.symm.trans (beats_iff.2 h))
  omega
def PickR (l : List Info) (P : List Int) : Prop := ∃ ps : List Nat, P = intsN ps ∧ (∀ n ∈ ps, n < l.length) ∧ (ps.map (gd l)).map key4 = (pickB l).map key4
theorem pickR_of {l : List Info} {ps : List Nat} {i : Nat} (hi : i = l.length) (e : ps = outN l i) : PickR l (intsN ps) := by
  subst hi e
  refine ⟨_, rfl, outN_lt, ?_⟩
  have hB := bestOf l
  have hpm := sortF_perm (bestP l)
  refine keys_same (outN_sorted l _) (sortF_sorted _) (outN_spans l (Nat.le_refl _)) (spansU_perm hpm.symm hB.1) fun k => ?_
  constructor
  · rintro ⟨x, hx, rfl⟩
    obtain ⟨i, h1, h2, rfl⟩ := (outN_mem l).1 hx
    obtain ⟨y, hy, hs⟩ := hB.2.2 (gd l i) (gd_mem h1)
    refine ⟨y, hpm.mem_iff.2 hy, ?_⟩
    obtain ⟨hyl, hyf⟩ := hB.2.1 y hy
    have hs' := spanI_iff.1 hs
    obtain ⟨j, hj, rfl⟩ := List.mem_iff_getElem.1 hyl
    have b1 := bestTo_iff.1 h2 j hj
    have c1 : ¬ _ := fun h => Bool.noConfusion (b1.symm.trans (beats_iff.2 h))
    have b2 := hyf (gd l i) (gd_mem h1) hs
    have c2 : ¬ _ := fun h => Bool.noConfusion (b2.symm.trans (fineI_iff.2 h))
    rw [gd_eq hj] at c1
    rw [key4_eq]
    omega
  · rintro ⟨x, hx, rfl⟩
    have hx := hpm.mem_iff.1 hx
    obtain ⟨hxl, hxf⟩ := hB.2.1 x hx
    -- the first of its key
    have hex : ∃ i, i < l.length ∧ key4 (gd l i) = key4 x ∧ ∀ j, j < i → key4 (gd l j) ≠ key4 x := by
      have h0 : ∃ i, i < l.length ∧ key4 (gd l i) = key4 x := by
        obtain ⟨j, hj, rfl⟩ := List.mem_iff_getElem.1 hxl
        exact ⟨j, hj, by rw [gd_eq hj]⟩
      obtain ⟨i, hi⟩ := h0
      induction i using Nat.strongRecOn with
      | _ i ih =>
        by_cases h : ∃ j, j < i ∧ key4 (gd l j) = key4 x
        · obtain ⟨j, h1, h2⟩ := h
          exact ih j h1 ⟨by omega, h2⟩
        · exact ⟨i, hi.1, hi.2, fun j hj e => h ⟨j, hj, e⟩⟩
    obtain ⟨i, h1, h2, h3⟩ := hex
    refine ⟨gd l i, (outN_mem l).2 ⟨i, h1, bestTo_iff.2 fun k hk => ?_, rfl⟩, h2⟩
    cases e : beats l k i with
    | false => rfl
    | true =>
      have hb := beats_iff.1 e
      rw [key4_eq] at h2
      have h4 := hxf (gd l k) (gd_mem hk) (decide_eq_true ⟨by omega, by omega⟩)
      have h5 : ¬ _ := fun h => Bool.noConfusion (h4.symm.trans (fineI_iff.2 h))
      by_cases c : k < i
      · have h6 := h3 k c
        rw [Ne, key4_eq] at h6
        omega
      · omega
theorem pickR_ids {l : List Info} {P : List Int} (h : PickR l P) : ∃ ps : List Nat, P = intsN ps ∧ (∀ n ∈ ps, n < l.length) ∧ ps.map (fun n => (gd l n).Id) = pickI l := by
  obtain ⟨ps, h1, h2, h3⟩ := h
  refine ⟨ps, h1, h2, ?_⟩
  have := congrArg (List.map fun k : Int × Int × Int × Int => k.2.2.2) h3
  rw [List.map_map, List.map_map, List.map_map] at this
  exact this
end Go.Proofs.Ythanfecefjfbjaa
end
section
namespace Go.Proofs.Ythanfecefjfbjaa
theorem info_at {l : List SegD} {n : Nat} (h : n < (infosOf l).length) : (infosOf l)[n]'h = infoOf (gd l n) := by
  have hl : n < l.length := by rw [← infos_len]; exact h
  rw [gd_eq hl]
  show (l.map infoOf)[n]'_ = _
  exact List.getElem_map ..
theorem info_gd {l : List SegD} {n : Nat} (h : n < l.length) : gd (infosOf l) n = infoOf (gd l n) := by
  rw [gd_eq (by rw [infos_len]; exact h), info_at]
theorem ids_ne {l : List SegD} : ∀ {n : Nat}, n ≤ l.length → okTo l n = true → ∀ j, j < n → ∀ i, i < j → ¬ (gd l i).Id = (gd l j).Id
  | 0, _, _, j, hj, _, _ => absurd hj (by omega)
  | n + 1, hn, h, j, hj, i, hi => by
    rw [okTo, Bool.and_eq_true, Bool.and_eq_true] at h
    by_cases e : j = n
    · subst e
      intro c
      have := h.2.2
      rw [Bool.not_eq_true'] at this
      have h2 := List.any_eq_false.1 this (infoOf (gd l i)) (List.mem_map.2 ⟨gd l i, by rw [gd_eq (by omega)]; exact List.mem_take_iff_getElem.2 ⟨i, by omega, rfl⟩, rfl⟩)
      exact h2 (decide_eq_true c)
    · exact ids_ne (n := n) (by omega) h.1 j (by omega) i hi
theorem find_gd {l : List SegD} (h : okTo l l.length = true) {n : Nat} (hn : n < l.length) : findD l (gd l n).Id = gd l n := by
  have hf : l.find? (fun s => decide (s.Id = (gd l n).Id)) = some (gd l n) := by
    rw [List.find?_eq_some_iff_getElem]
    refine ⟨decide_eq_true rfl, n, hn, (gd_eq hn).symm, fun j hj => ?_⟩
    have := ids_ne (Nat.le_refl _) h n hn j hj
    rw [gd_eq (by omega)] at this
    simpa using this
  unfold findD; rw [hf]; rfl
theorem picks_at {l : List SegD} {P : List Int} (h : PickR (infosOf l) P) (ho : okTo l l.length = true) : ∃ ps : List Nat, P = intsN ps ∧ (∀ n ∈ ps, n < l.length) ∧ pickS l = ps.map (gd l) := by
  obtain ⟨ps, e, hlt, hid⟩ := pickR_ids h
  rw [infos_len] at hlt
  refine ⟨ps, e, hlt, ?_⟩
  unfold pickS; rw [← hid, List.map_map]
  refine List.map_congr_left fun n hn => ?_
  show findD l (gd (infosOf l) n).Id = gd l n
  rw [info_gd (hlt n hn)]
  exact find_gd ho (hlt n hn)
theorem place {l : List SegD} {ps : List Nat} (hlt : ∀ n ∈ ps, n < l.length) (he : pickS l = ps.map (gd l)) {i : Nat} (h : i < (intsN ps).length) : ∃ n : Nat, (intsN ps)[i]'h = (n : Int) ∧ n < l.length ∧ gd l n = gd (pickS l) i := by
  have h' : i < ps.length := by rw [← intsN_len]; exact h
  refine ⟨ps[i], show (ps.map fun (n : Nat) => (n : Int))[i]'_ = _ from List.getElem_map .., hlt _ (List.getElem_mem _), ?_⟩
  rw [he, gd_eq (l := ps.map (gd l)) (by rw [List.length_map]; exact h'), List.getElem_map]
def endT (l : List SegD) : Int := l.foldl (fun m s => max m s.To) 0
theorem end_snoc {l : List SegD} {i : Nat} (h : i < l.length) : endT (l.take (i + 1)) = max (endT (l.take i)) (gd l i).To := by
  unfold endT; rw [List.take_succ_eq_append_getElem h, List.foldl_append, gd_eq h]; rfl
theorem end_go : ∀ (l : List SegD) (m : Int), m ≤ l.foldl (fun m s => max m s.To) m ∧ (∀ s ∈ l, s.To ≤ l.foldl (fun m s => max m s.To) m) ∧ (l.foldl (fun m s => max m s.To) m = m ∨ ∃ s ∈ l, l.foldl (fun m s => max m s.To) m = s.To)
  | [], m => ⟨Int.le_refl _, fun s h => (nomatch h), Or.inl rfl⟩
  | x :: l, m => by
    obtain ⟨h1, h2, h3⟩ := end_go l (max m x.To)
    rw [List.foldl_cons]
    refine ⟨by omega, fun s hs => ?_, ?_⟩
    · rcases List.mem_cons.1 hs with rfl | hs
      · omega
      · exact h2 s hs
    · rcases h3 with h3 | ⟨s, hs, h3⟩
      · by_cases c : m ≤ x.To
        · exact Or.inr ⟨x, List.mem_cons_self .., by rw [h3]; omega⟩
        · exact Or.inl (by rw [h3]; omega)
      · exact Or.inr ⟨s, List.mem_cons_of_mem _ hs, h3⟩
theorem chain_last : ∀ {l : List SegD} {last : Int}, chainS last l = true → (∀ s ∈ l, s.From < s.To) → last ≤ lastTo last l ∧ ∀ s ∈ l, s.To ≤ lastTo last l
  | [], _, _, _ => ⟨Int.le_refl _, fun s h => nomatch h⟩
  | x :: l, last, h, hs => by
    have h' : (decide (last ≤ x.From) && chainS x.To l) = true := h
    rw [Bool.and_eq_true] at h'
    obtain ⟨h1, h2⟩ := chain_last h'.2 (fun s hm => hs s (List.mem_cons_of_mem _ hm))
    have h3 := of_decide_eq_true h'.1
    have h4 := hs x (List.mem_cons_self ..)
    show last ≤ lastTo x.To l ∧ _
    refine ⟨by omega, fun s hm => ?_⟩
    rcases List.mem_cons.1 hm with rfl | hm
    · exact h1
    · exact h2 s hm
theorem last_mem : ∀ {l : List SegD} {last : Int}, lastTo last l = last ∨ ∃ s ∈ l, lastTo last l = s.To
  | [], _ => Or.inl rfl
  | x :: l, last => by
    rcases last_mem (l := l) (last := x.To) with h | ⟨s, hs, h⟩
    · exact Or.inr ⟨x, List.mem_cons_self .., h⟩
    · exact Or.inr ⟨s, List.mem_cons_of_mem _ hs, h⟩
theorem end_is {l : List SegD} (ho : okTo l l.length = true) (hc : chainS 0 (pickS l) = true) : endT l = lastTo 0 (pickS l) := by
  have hm : ∀ s ∈ l, s.From < s.To ∧ 0 ≤ s.From := fun s hs => by
    obtain ⟨i, hi, rfl⟩ := List.mem_iff_getElem.1 hs
    have := headS_iff.1 (may_iff.1 (okTo_may (Nat.le_refl _) ho i hi hi)).1
    omega
  have hb : ∀ x ∈ pickI (infosOf l), ∃ s ∈ l, s.Id = x ∧ findD l x = s := fun x hx => by
    unfold pickI at hx
    obtain ⟨y, hy, rfl⟩ := List.mem_map.1 hx
    have hy := ((bestOf (infosOf l)).2.1 y ((sortF_perm _).mem_iff.1 hy)).1
    obtain ⟨s, hs, rfl⟩ := List.mem_map.1 hy
    obtain ⟨i, hi, rfl⟩ := List.mem_iff_getElem.1 hs
    refine ⟨l[i], hs, rfl, ?_⟩
    have := find_gd ho hi
    rwa [gd_eq hi] at this
  have hp : ∀ s ∈ pickS l, s ∈ l := fun s hs => by
    unfold pickS at hs
    obtain ⟨x, hx, rfl⟩ := List.mem_map.1 hs
    obtain ⟨s, hs, _, e⟩ := hb x hx
    rw [e]; exact hs
  obtain ⟨c1, c2⟩ := chain_last hc (fun s hs => (hm s (hp s hs)).1)
  obtain ⟨e1, e2, e3⟩ := end_go l 0
  have hle : lastTo 0 (pickS l) ≤ endT l := by
    rcases last_mem (l := pickS l) (last := 0) with h | ⟨s, hs, h⟩
    · rw [h]; exact e1
    · rw [h]; exact e2 s (hp s hs)
  have hge : endT l ≤ lastTo 0 (pickS l) := by
    rcases e3 with h | ⟨s, hs, h⟩
    · show l.foldl _ 0 ≤ _
      rw [h]; exact c1
    · have hi : infoOf s ∈ infosOf l := List.mem_map_of_mem hs
      obtain ⟨b, hbm, hsp⟩ := spans_cov hi
      obtain ⟨hb1, hb2, _⟩ := hsp
      have hbI : b.Id ∈ pickI (infosOf l) := by unfold pickI; exact List.mem_map_of_mem ((sortF_perm _).mem_iff.2 hbm)
      obtain ⟨s', hs', hid, hf⟩ := hb b.Id hbI
      have hbl := ((bestOf (infosOf l)).2.1 b hbm).1
      obtain ⟨s2, hs2, e2'⟩ := List.mem_map.1 hbl
      have : s2 = s' := by
        obtain ⟨i, hi, rfl⟩ := List.mem_iff_getElem.1 hs2
        have h5 := find_gd ho hi
        rw [gd_eq hi] at h5
        have : l[i].Id = b.Id := by rw [← e2']; rfl
        rw [← h5, this, hf]
      have hin : s' ∈ pickS l := by unfold pickS; rw [← hf]; exact List.mem_map_of_mem hbI
      have h6 := c2 s' hin
      have h7 : s'.To = s.To := by
        rw [← this]
        have : b.To = s2.To := by rw [← e2']; rfl
        rw [← this]; exact hb2
      show l.foldl _ 0 ≤ _
      rw [h, ← h7]; exact h6
  omega
where
  spans_cov {l : List Info} {x : Info} (h : x ∈ l) : ∃ b ∈ bestP l, b.From = x.From ∧ b.To = x.To ∧ True := by
    obtain ⟨b, hb, h1⟩ := (bestOf l).2.2 x h
    have h2 := spanI_iff.1 h1
    exact ⟨b, hb, h2.1.symm, h2.2.symm, trivial⟩
theorem chain_next {l : List SegD} {i : Nat} (hi : 0 < i) (h : i < l.length) (hc : chainS 0 (l.take i) = true) (h0 : ¬ (gd l i).From < (gd l (i - 1)).To) : chainS 0 (l.take (i + 1)) = true := by
  refine chain_snoc h hc ?_
  have := last_snoc (l := l) (last := 0) (j := i - 1) (by omega)
  rw [show i - 1 + 1 = i by omega] at this
  rw [this]; exact h0
theorem chain_falls {l : List SegD} {i : Nat} (hi : 0 < i) (h : i < l.length) (h0 : (gd l i).From < (gd l (i - 1)).To) : chainS 0 l = false := by
  refine chain_bad h ?_
  have := last_snoc (l := l) (last := 0) (j := i - 1) (by omega)
  rw [show i - 1 + 1 = i by omega] at this
  rw [this]; exact h0
theorem chain_one {l : List SegD} (h : ∀ s ∈ l, 0 ≤ s.From) : chainS 0 (l.take 1) = true := by
  cases l with
  | nil => rfl
  | cons s r =>
    show (decide (0 ≤ s.From) && true) = true
    rw [decide_eq_true (h s (List.mem_cons_self ..))]; rfl
theorem okHead_no {head : List Sample} {last : Int} (h : risingA head = false ∨ (0 < (head.length : Int) ∧ (gd head 0).T < last)) : okHead head last = false := by
  unfold okHead
  rcases h with h | ⟨h, h1⟩
  · rw [h]; rfl
  · rw [decide_eq_false (by omega), decide_eq_false (by omega)]; simp
theorem okHead_yes {head : List Sample} {last : Int} (h : risingA head = true) (h1 : ¬ 0 < (head.length : Int) ∨ ¬ (gd head 0).T < last) : okHead head last = true := by
  unfold okHead
  rw [h]
  rcases h1 with h1 | h1
  · rw [decide_eq_true (show (head.length : Int) = 0 by omega)]; rfl
  · rw [decide_eq_true (show last ≤ (gd head 0).T by omega)]; simp
theorem seg_stepR {ys zs : List Win} {Q : List SegD} {S : SegD} {fr to : Int} {m j : Nat} (h : m < Q.length) (hS : S = gd Q m) (hI : ys = (Q.take m).flatMap fun s => segW s fr to) (hJ : zs = (ys ++ rawW S.Samples fr to) ++ aggW S (S.Aggs.take j) fr to) (hj : j = S.Aggs.length) : zs = (Q.take (m + 1)).flatMap fun s => segW s fr to := by
  have e : Q[m] = S := by rw [hS, gd_eq h]
  rw [hJ, hI, List.take_succ_eq_append_getElem h, List.flatMap_append, e, List.take_of_length_le (show S.Aggs.length ≤ j by omega)]
  simp only [List.flatMap_cons, List.flatMap_nil, List.append_nil, segW, List.append_assoc]
theorem okHead_c {head : List Sample} {last e : Int} (h : (¬ risingA head = true) ∨ ((0 < (head.length : Int)) ∧ (gd head 0).T < e)) (hE : e = last) : okHead head last = false := by
  subst hE
  rcases h with h | h
  · exact okHead_no (Or.inl (by simpa using h))
  · exact okHead_no (Or.inr h)
theorem okHead_d {head : List Sample} {last e : Int} (h : risingA head = true) (h1 : ¬ ((0 < (head.length : Int)) ∧ (gd head 0).T < e)) (hE : e = last) : okHead head last = true := by
  subst hE
  refine okHead_yes h ?_
  by_cases c : 0 < (head.length : Int)
  · exact Or.inr fun c2 => h1 ⟨c, c2⟩
  · exact Or.inl c
theorem keepW_yes {fr to : Int} {w : Win} (h : w.Lo < to ∧ fr < w.Hi) : keepW fr to w = true := decide_eq_true h
theorem keepW_no {fr to : Int} {w : Win} (h : ¬ (w.Lo < to ∧ fr < w.Hi)) : keepW fr to w = false := decide_eq_false h
theorem pickS_in {l : List SegD} {ps : List Nat} (hlt : ∀ n ∈ ps, n < l.length) (he : pickS l = ps.map (gd l)) : ∀ s ∈ pickS l, s ∈ l := fun s hs => by
  rw [he] at hs
  obtain ⟨n, hn, rfl⟩ := List.mem_map.1 hs
  rw [gd_eq (hlt n hn)]; exact List.getElem_mem _
theorem okTo_all {l : List SegD} (h : okTo l l.length = true) : ∀ s ∈ l, mayS s = true := fun s hs => by
  obtain ⟨i, hi, rfl⟩ := List.mem_iff_getElem.1 hs
  exact okTo_may (Nat.le_refl _) h i hi hi
end Go.Proofs.Ythanfecefjfbjaa
end
section
namespace Go.Proofs.Ythanfecefjfbjaa
theorem evI {ρ : Env} {x : Operand} {k : IntKind} {a b : Int} (h : evE ρ x = .int k a) (e : b = a) : evE ρ x = .int k b := e ▸ h
section
variable {P : Program} {w : World}
theorem eqF_int {f : Field} {fs : List Field} {d k : Nat} {xs ys : Array Value} {kd : IntKind} {a b : Int} (h1 : f.offset = k) (h2 : P.underlying f.type = some (.int kd)) (h3 : f.name ≠ "_") (hx : xs[k]? = some (.int kd a)) (hy : ys[k]? = some (.int kd b)) :
    (Op.eqFields (d + 1) xs ys (f :: fs)).run P w = if a = b then (Op.eqFields (d + 1) xs ys fs).run P w else .ok false w := by
  have hA : ∀ w, (isAgg f.type).run P w = .ok false w := fun w => by simp [isAgg, run_underlying h2]
  simp only [Op.eqFields, h3, ne_eq, not_false_eq_true, if_true, part, h1, hx, hy, Sem.run_bind, hA, Result.andThen_ok, Bool.false_eq_true, if_false, Sem.run_pure, run_equalIn_int w d f.type kd kd a b h2, Sem.run_ite]
  by_cases e : a = b
  · simp [e]
  · simp [e]
theorem eqF_agg {f : Field} {d k n : Nat} {xs ys : Array Value} {r : Bool} (h1 : f.offset = k) (hA : ∀ w, (isAgg f.type).run P w = .ok true w) (hn : ∀ w, (sizeOf f.type).run P w = .ok n w) (h3 : f.name ≠ "_") (he : (Op.equalIn d f.type (.agg (xs.extract k (k + n))) (.agg (ys.extract k (k + n)))).run P w = .ok r w) :
    (Op.eqFields d xs ys [f]).run P w = .ok r w := by
  simp only [Op.eqFields, h3, ne_eq, not_false_eq_true, if_true, part, h1, Sem.run_bind, hA, hn, Result.andThen_ok, if_true, Sem.run_pure, he, Sem.run_ite]
  cases r <;> simp
theorem eq_win (d : Nat) {t : TypeId} {f0 f1 f2 f3 : Field} (ht : P.underlying t = some (.struct #[f0, f1, f2, f3])) (hp : P.stoodInHeld t = false)
    (h0 : f0.offset = 0 ∧ P.underlying f0.type = some (.int .i64) ∧ f0.name ≠ "_") (h1 : f1.offset = 1 ∧ P.underlying f1.type = some (.int .i64) ∧ f1.name ≠ "_")
    (h2 : f2.offset = 2 ∧ P.underlying f2.type = some (.int .i64) ∧ f2.name ≠ "_") (h3 : f3.offset = 3 ∧ f3.name ≠ "_") (hA : ∀ w, (isAgg f3.type).run P w = .ok true w) (hn : ∀ w, (sizeOf f3.type).run P w = .ok 7 w)
    {gs : Array Field} (hg : P.underlying f3.type = some (.struct gs)) (hf : IntFields P 0 [.i64, .i64, .i64, .i64, .i64, .i64, .i64] gs.toList) (hq : P.stoodInHeld f3.type = false) (a b : Win) (w : World) :
    (Op.equalIn (d + 1 + 1 + 1) t (.agg #[.int .i64 a.Tier, .int .i64 a.Lo, .int .i64 a.Hi, .int .i64 a.Agg.From, .int .i64 a.Agg.Count, .int .i64 a.Agg.Sum, .int .i64 a.Agg.Min, .int .i64 a.Agg.Max, .int .i64 a.Agg.First, .int .i64 a.Agg.Last]) (.agg #[.int .i64 b.Tier, .int .i64 b.Lo, .int .i64 b.Hi, .int .i64 b.Agg.From, .int .i64 b.Agg.Count, .int .i64 b.Agg.Sum, .int .i64 b.Agg.Min, .int .i64 b.Agg.Max, .int .i64 b.Agg.First, .int .i64 b.Agg.Last])).run P w = .ok (decide (a = b)) w := by
  refine (run_equalIn_agg w (d + 1 + 1) t _ _ (by rw [fieldsOf_eq ht]; exact ht) hp).trans ?_
  rewrite [fieldsOf_eq ht]
  obtain ⟨t1, l1, g1, A1⟩ := a
  obtain ⟨t2, l2, g2, A2⟩ := b
  refine (eqF_int h0.1 h0.2.1 h0.2.2 (a := t1) (b := t2) rfl rfl).trans ?_
  rw [eqF_int h1.1 h1.2.1 h1.2.2 (a := l1) (b := l2) rfl rfl, eqF_int h2.1 h2.2.1 h2.2.2 (a := g1) (b := g2) rfl rfl, eqF_agg h3.1 hA hn h3.2 (eq_agg d hg hf hq A1 A2 w)]
  simp only [Win.mk.injEq]
  by_cases e1 : t1 = t2 <;> by_cases e2 : l1 = l2 <;> by_cases e3 : g1 = g2 <;> simp [e1, e2, e3]
end
section
variable {a b : List Win} {i : Nat}
theorem win_same {ha : i < a.length} {hb : i < b.length} (h1 : (gd a i).Tier = (gd b i).Tier) (h2 : (gd a i).Lo = (gd b i).Lo) (h3 : (gd a i).Hi = (gd b i).Hi) (h4 : (gd a i).Agg = (gd b i).Agg) : a[i]'ha = b[i]'hb := by
  rw [gd_eq ha, gd_eq hb] at h1 h2 h3 h4
  generalize a[i] = x at *
  generalize b[i] = y at *
  cases x; cases y
  simp only [Win.mk.injEq]; exact ⟨h1, h2, h3, h4⟩
theorem win_other {ha : i < a.length} {hb : i < b.length} (h : (((¬ (gd a i).Tier = (gd b i).Tier) ∨ (¬ (gd a i).Lo = (gd b i).Lo)) ∨ (¬ (gd a i).Hi = (gd b i).Hi)) ∨ (¬ (gd a i).Agg = (gd b i).Agg)) : ¬ a[i]'ha = b[i]'hb := fun e => by
  rw [gd_eq ha, gd_eq hb, e] at h
  simp at h
end
end Go.Proofs.Ythanfecefjfbjaa
end
section
namespace Go.Proofs.Ythanfecefjfbjaa
section
variable {α : Type} [DecidableEq α] {a b : List α} {i : Nat}
theorem same_len (h : ¬ ((a.length : Int) = (b.length : Int))) : false = decide (a = b) := (decide_eq_false fun e => h (by rw [e])).symm
theorem same_no (h : i < a.length) (h' : i < b.length) (hne : ¬ a[i] = b[i]) : false = decide (a = b) := (decide_eq_false fun e => hne (by subst e; rfl)).symm
theorem same_end (hi : i = a.length) (hl : (a.length : Int) = (b.length : Int)) (he : a.take i = b.take i) : true = decide (a = b) :=
  (decide_eq_true (by rw [List.take_of_length_le (by omega), List.take_of_length_le (by omega)] at he; exact he)).symm
end
theorem same_step {α : Type} {a b : List α} {i : Nat} (he : a.take i = b.take i) (h : i < a.length) (h' : i < b.length) (heq : a[i] = b[i]) : a.take (i + 1) = b.take (i + 1) := by
  rw [List.take_succ_eq_append_getElem h, List.take_succ_eq_append_getElem h', he, heq]
end Go.Proofs.Ythanfecefjfbjaa
end
