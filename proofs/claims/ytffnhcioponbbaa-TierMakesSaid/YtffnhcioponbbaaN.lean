/- Windows of windows: small ones never fail; two samples that change places do not rise. -/
import Derived.Test.YtffnhcioponbbaaA
namespace Go.Proofs.Ytffnhcioponbbaa
abbrev Fine (a : Agg) : Prop := mayP a ∧ Wn a
theorem cnt_mem {A : List Agg} (h : ∀ a ∈ A, Wn a) {a : Agg} (ha : a ∈ A) : a.Count ≤ cntA A := by
  obtain ⟨s, t, rfl⟩ := List.append_of_mem ha
  have h1 := cnt_nn (A := s) fun x hx => h x (List.mem_append_left _ hx)
  have h2 := cnt_nn (A := t) fun x hx => h x (List.mem_append_right _ (List.mem_cons_of_mem _ hx))
  simp only [cntA, List.map_append, List.map_cons, List.sum_append, List.sum_cons] at h1 h2 ⊢
  omega
theorem cnt_append (A B : List Agg) : cntA (A ++ B) = cntA A + cntA B := by unfold cntA; rw [List.map_append, List.sum_append]
theorem fine_J {a b : Agg} (ha : Fine a) (hb : Fine b) (h : a.Count + b.Count ≤ 1000000) : joinA a b = (J a b, 0) ∧ Fine (J a b) := by
  have h1 := J_may ha.1 hb.1 (by omega)
  obtain ⟨_, a1, a2, a3⟩ := ha
  obtain ⟨_, b1, b2, b3⟩ := hb
  rcases joinA_may (a := a) (b := b) (by assumption) (by assumption) (by omega) with ⟨h2, _⟩ | ⟨_, h2⟩
  · refine ⟨h2, h1, ?_⟩
    simp only [Wn, J]; omega
  · exfalso; simp only [i64R] at h2; omega
theorem fine_at {a : Agg} {k : Int} (h0 : 0 < k) (h4 : k < 4) (h : Fine a) : Fine (atK a k) := by
  have hf := floor_nn (t := a.From) h0 h4 (by have := h.1; omega) (by have := h.1; omega)
  obtain ⟨⟨c1, c2, c3, c4, c5⟩, hw⟩ := h
  exact ⟨⟨c1, c2, hf.1, by simp only [atK]; omega, c5⟩, hw⟩
theorem set_last {out : List Agg} {x y : Agg} (h : out.getLast? = some x) : ∃ p, out = p ++ [x] ∧ out.set (out.length - 1) y = p ++ [y] := by
  obtain ⟨p, rfl⟩ := List.getLast?_eq_some_iff.1 h
  exact ⟨p, rfl, by simp⟩
theorem down_fine {k : Int} (h0 : 0 < k) (h4 : k < 4) : ∀ (l out : List Agg), (∀ a ∈ l, Fine a) → (∀ a ∈ out, Fine a) → cntA out + cntA l ≤ 1000000 → (downL k l out).2 = 0
  | [], out, _, _, _ => rfl
  | a :: l, out, hl, ho, hc => by
    have ha := fine_at h0 h4 (hl a (List.mem_cons_self ..))
    have hl' : ∀ x ∈ l, Fine x := fun x hx => hl x (List.mem_cons_of_mem _ hx)
    have ea : cntA (a :: l) = a.Count + cntA l := by simp [cntA]
    have eat : (atK a k).Count = a.Count := rfl
    have e1 : cntA [atK a k] = a.Count := by simp [cntA, eat]
    have hnew : (downL k l (out ++ [atK a k])).2 = 0 := by
      refine down_fine h0 h4 l _ hl' (fun x hx => ?_) (by rw [cnt_append, e1]; omega)
      rcases List.mem_append.1 hx with hx | hx
      · exact ho x hx
      · rw [List.mem_singleton] at hx; subst hx; exact ha
    rw [downL]
    cases hg : out.getLast? with
    | none => exact hnew
    | some x =>
      simp only []
      split
      · obtain ⟨p, hp, hs⟩ := set_last (y := (joinA x (atK a k)).1) hg
        have hx : x ∈ out := by rw [hp]; simp
        have hcx := cnt_mem (fun y hy => (ho y hy).2) hx
        have hnn := cnt_nn (A := l) fun y hy => (hl' y hy).2
        obtain ⟨j1, j2⟩ := fine_J (ho x hx) ha (by omega)
        rw [hs, j1, if_pos rfl]
        have e2 : cntA out = cntA p + x.Count := by rw [hp, cnt_append]; simp [cntA]
        refine down_fine h0 h4 l _ hl' (fun y hy => ?_) ?_
        · rcases List.mem_append.1 hy with hy | hy
          · exact ho y (by rw [hp]; exact List.mem_append_left _ hy)
          · rw [List.mem_singleton] at hy; subst hy; exact j2
        · rw [cnt_append]
          have e3 : cntA [J x (atK a k)] = x.Count + a.Count := by simp [cntA, J, eat]
          rw [e3]; omega
      · exact hnew
theorem aligns_may {k : Int} : ∀ (l : List Agg) (last : Int), alignsFrom k last l = true → ∀ a ∈ l, mayP a
  | [], _, _, a, ha => by simp at ha
  | x :: l, last, h, a, ha => by
    rw [alignsFrom, Bool.and_eq_true, Bool.and_eq_true] at h
    rcases List.mem_cons.1 ha with rfl | ha
    · exact mayA_true h.1.1
    · exact aligns_may l x.From h.2 a ha
theorem down_two {c : List Agg} {k : Int} (h2 : 2 ≤ k) (h4 : k < 4) (hw : ∀ a ∈ c, Wn a) (hc : cntA c ≤ 1000000) : (downA c k).2 = (if alignedA c (k - 1) = true then 0 else 1) := by
  have hco : coarseA k = true := by simp only [coarseA, decide_eq_true_eq]; omega
  unfold downA
  cases ha : alignedA c (k - 1) with
  | false => rw [if_neg (by simp), if_neg (by simp)]
  | true =>
    rw [if_pos ⟨h2, rfl, hco⟩, if_pos rfl]
    have hm := ha
    unfold alignedA at hm
    rw [Bool.and_eq_true] at hm
    refine down_fine (by omega) h4 c [] (fun a h => ⟨aligns_may c _ hm.2 a h, hw a h⟩) (by intro a h; cases h) ?_
    have : cntA ([] : List Agg) = 0 := rfl
    omega
theorem down_err {c : List Agg} {k : Int} (h : ¬ (downA c k).2 = 0) : (downA c k).1 = [] := by
  have key : ∀ (l out : List Agg), (downL k l out).2 = 0 ∨ (downL k l out).1 = [] := by
    intro l
    induction l with
    | nil => intro out; left; rfl
    | cons a l ih =>
      intro out
      rw [downL]
      cases out.getLast? with
      | none => exact ih _
      | some x =>
        simp only []
        split
        · split
          · exact ih _
          · right; rfl
        · exact ih _
  unfold downA at h ⊢
  split
  · rename_i hh
    rw [if_pos hh] at h
    rcases key c [] with h1 | h1
    · exact absurd h1 h
    · exact h1
  · rfl
theorem swap_falls {xs : List Sample} {i : Nat} (h : i + 1 < xs.length) (hr : risingA xs = true) : risingA ((xs.set i xs[i + 1]).set (i + 1) xs[i]) = false := by
  have ha := (asc_of xs (-1) (by omega) hr).1
  cases hb : risingA ((xs.set i xs[i + 1]).set (i + 1) xs[i]) with
  | false => rfl
  | true =>
    have hc := (asc_of _ (-1) (by omega) hb).1
    have h1 := List.pairwise_iff_getElem.1 ha.1 i (i + 1) (by omega) h (by omega)
    have h2 := List.pairwise_iff_getElem.1 hc.1 i (i + 1) (by simp; omega) (by simpa using h) (by omega)
    simp only [List.getElem_set_self] at h2
    rw [List.getElem_set_ne (by omega), List.getElem_set_self] at h2
    omega
theorem rise_small {steps : List Int} {n : Nat} (hn : n ≤ 1000) : ∀ s ∈ riseL steps [] n, smallS s := by
  intro s hs
  obtain ⟨j, hj, rfl⟩ := List.getElem_of_mem hs
  rw [rise_get]
  rw [rise_length] at hj
  unfold smallS
  simp only []
  rw [vAt_none (by simp)]
  omega
theorem len_pos_of_cnt {A : List Agg} (h : 0 < cntA A) : 0 < A.length := by
  cases A with
  | nil => simp [cntA] at h
  | cons a A => simp
theorem coarse_none {k : Int} (h : 4 ≤ k) : coarseA k = false := by
  simp only [coarseA, decide_eq_false_iff_not]; omega
theorem down_is {c : List Agg} {k : Int} {b : Bool} (hd : (downA c k).2 = (if b = true then 0 else 1)) : (decide ((downA c k).2 = 1) == !b) = true := by
  rw [hd]; cases b <;> rfl
end Go.Proofs.Ytffnhcioponbbaa
