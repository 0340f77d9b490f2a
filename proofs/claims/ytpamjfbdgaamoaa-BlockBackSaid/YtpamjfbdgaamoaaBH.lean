/- Windows of rising samples, where they are made, are aligned. -/
import Derived.Test.YtpamjfbdgaamoaaQ
import Derived.Test.YtpamjfbdgaamoaaA
import Derived.Test.YtpamjfbdgaamoaaBG
namespace Go.Proofs.Ytpamjfbdgaamoaa
theorem go_may : ∀ (l : List Sample) (a : Agg) (fr : Int), (goA a l fr).2 = 0 → mayA (goA a l fr).1 = true ∧ (goA a l fr).1.From = a.From
  | [], a, fr, h => by
    rw [goA] at h ⊢
    split at h
    · rename_i hm; rw [if_pos hm]; exact ⟨hm, rfl⟩
    · simp at h
  | s :: l, a, fr, h => by
    rw [goA] at h ⊢
    split at h
    · rename_i hj
      rw [if_pos hj]
      have hz := (joinA_zero hj).1
      have := go_may l _ fr h
      rw [hz] at this ⊢
      exact this
    · rename_i hj; exact absurd h hj
theorem rawL_al {k : Int} (h0 : 0 < k) (h4 : k < 4) : ∀ (f : Nat) (l : List Sample) (last : Int) (out : List Agg), l.length ≤ f → Asc l → (∀ s ∈ l, last < floorA s.T k) → (rawL k f l out).2 = 0 →
    ∃ r, (rawL k f l out).1 = out ++ r ∧ alignsFrom k last r = true
  | 0, l, last, out, hf, _, _, _ => ⟨[], by simp [rawL], rfl⟩
  | f + 1, [], last, out, _, _, _, _ => ⟨[], by simp [rawL], rfl⟩
  | f + 1, s :: l, last, out, hf, ha, hl, hc => by
    have hs0 := ha.2 s (List.mem_cons_self ..)
    have hfl := floor_nn h0 h4 hs0.1 hs0.2
    have hp : 0 < winLen k (floorA s.T k) (s :: l) := by simp [winLen]
    have hle := winLen_le k (floorA s.T k) (s :: l)
    have hd := win_drop k (floorA s.T k) (s :: l)
    rw [rawL] at hc ⊢
    generalize hw : winLen k (floorA s.T k) (s :: l) = n at *
    have e2 : ((s :: l).drop n).length = (s :: l).length - n := List.length_drop
    have hdrop : ∀ x ∈ (s :: l).drop n, floorA s.T k < floorA x.T k := by
      have hpw : List.Pairwise (fun a b : Sample => a.T < b.T) ((s :: l).drop n) := ha.1.sublist (List.drop_sublist ..)
      have hb : ∀ x ∈ (s :: l).drop n, 0 ≤ x.T ∧ x.T ≤ 1099511627776 := fun x hx => ha.2 x (List.mem_of_mem_drop hx)
      have hge : ∀ x ∈ (s :: l).drop n, s.T ≤ x.T := by
        intro x hx
        rcases List.mem_cons.1 (List.mem_of_mem_drop hx) with rfl | h
        · exact Int.le_refl _
        · exact Int.le_of_lt (List.rel_of_pairwise_cons ha.1 h)
      cases hq : (s :: l).drop n with
      | nil => intro x hx; cases hx
      | cons y r =>
        rw [hq] at hpw hb hge
        have hy := hd y r hq
        have hy1 := hb y (List.mem_cons_self ..)
        have hm := floor_mono h0 h4 hs0.1 (hge y (List.mem_cons_self ..)) hy1.2
        intro x hx
        rcases List.mem_cons.1 hx with rfl | hx
        · omega
        · have h1 := List.rel_of_pairwise_cons hpw hx
          have h2 := floor_mono h0 h4 hy1.1 (Int.le_of_lt h1) (hb x (List.mem_cons_of_mem _ hx)).2
          omega
    split at hc
    · rename_i hz
      rw [if_pos hz]
      obtain ⟨m, rfl⟩ : ∃ m, n = m + 1 := ⟨n - 1, by omega⟩
      have hg : (allA ((s :: l).take (m + 1)) (floorA s.T k)) = goA (oneA s.V (floorA s.T k)) (l.take m) (floorA s.T k) := by rw [List.take_succ_cons, allA]
      rw [hg] at hz hc ⊢
      obtain ⟨g1, g2⟩ := go_may _ _ _ hz
      have g3 : (goA (oneA s.V (floorA s.T k)) (l.take m) (floorA s.T k)).1.From = floorA s.T k := g2
      obtain ⟨r, i1, i2⟩ := rawL_al h0 h4 f ((s :: l).drop (m + 1)) (floorA s.T k) _ (by rw [e2]; simp only [List.length_cons] at hf ⊢; omega) ⟨ha.1.sublist (List.drop_sublist ..), fun x hx => ha.2 x (List.mem_of_mem_drop hx)⟩ hdrop hc
      refine ⟨(goA (oneA s.V (floorA s.T k)) (l.take m) (floorA s.T k)).1 :: r, by rw [i1, List.append_assoc]; rfl, ?_⟩
      rw [alignsFrom, g1, g3, decide_eq_true ⟨hfl.2.2.symm, hl s (List.mem_cons_self ..)⟩, i2]; rfl
    · rename_i hz; exact absurd hc hz
theorem raw_al {l : List Sample} {k : Int} (h0 : 0 < k) (h4 : k < 4) (hr : risingA l = true) (hz : (rawA l k).2 = 0) : alignedA (rawA l k).1 k = true := by
  have ha := asc_of l (-1) (by omega) hr
  have hc : coarseA k = true := by simp only [coarseA, decide_eq_true_eq]; omega
  unfold rawA at hz ⊢
  rw [if_pos ⟨hr, hc⟩] at hz ⊢
  obtain ⟨r, i1, i2⟩ := rawL_al h0 h4 l.length l (-1) [] (Nat.le_refl _) ha.1 (fun s h => by have := floor_nn h0 h4 (ha.1.2 s h).1 (ha.1.2 s h).2; omega) hz
  rw [i1, List.nil_append]
  unfold alignedA; rw [hc, i2]; rfl
theorem raw_okA {l : List Sample} {k : Int} (h0 : 0 < k) (h4 : k < 4) (hr : risingA l = true) (hz : (rawA l k).2 = 0) (hn : (rawA l k).1.length ≤ 64) : okA k (rawA l k).1 = true := okA_iff.2 ⟨raw_al h0 h4 hr hz, hn⟩
theorem encS_len64 {l : List Sample} (h : okS l = true) : (encS l).1.length ≤ 1300 ∧ 1 ≤ (encS l).1.length := by
  rw [encS_yes h]
  have h1 := put_length (l.length : Int)
  refine ⟨putS_length64 (okS_iff.1 h).2, ?_⟩
  simp only [putS, List.length_append]; omega
theorem stepA2_len (w : Int) : ∀ (l : List Agg) (last : Int), (stepA2 w last l).length ≤ 70 * l.length
  | [], _ => by simp [stepA2]
  | a :: l, last => by
    have h1 := aggB_len a w last
    have h2 := stepA2_len w l (a.From / w)
    simp only [stepA2, List.length_append, List.length_cons]; omega
theorem encA_len64 {k : Int} {l : List Agg} (h : okA k l = true) : (encA k l).1.length ≤ 5000 := by
  rw [encA_yes h]
  have h1 := put_length (l.length : Int)
  have h2 := stepA2_len (widthA k) l (-1)
  have h3 := (okA_iff.1 h).2
  simp only [putA, List.length_append]; omega
end Go.Proofs.Ytpamjfbdgaamoaa
