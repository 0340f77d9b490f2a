/- What samples come to: bounds, order. -/
import Derived.Test.YthanfecefjfbjaaF
namespace Go.Proofs.Ythanfecefjfbjaa
def smallS (s : Sample) : Prop := -1000000000 < s.V ∧ s.V < 1000000000
theorem tmod_small (x : Int) : -1000000000 < x.tmod 1000000000 ∧ x.tmod 1000000000 < 1000000000 := by
  have h1 := Int.tmod_lt_of_pos x (b := 1000000000) (by decide)
  have h2 := Int.lt_tmod_of_pos x (b := 1000000000) (by decide)
  omega
theorem go_fine {fr : Int} (f0 : 0 ≤ fr) (f1 : fr ≤ 1099511627776) : ∀ (l : List Sample) (a : Agg), mayP a → a.Count + l.length ≤ 1000000 → -(1000000000 * a.Count) ≤ a.Sum → a.Sum ≤ 1000000000 * a.Count → (∀ s ∈ l, smallS s) → goA a l fr = (accL a l, 0) ∧ mayP (accL a l)
  | [], a, ha, _, _, _, _ => ⟨by rw [goA, if_pos (mayA_iff.2 ha)]; rfl, ha⟩
  | s :: l, a, ha, hn, h1, h2, hs => by
    have h3 : mayP (oneA s.V fr) := one_may f0 f1
    have h4 : smallS s := hs s (List.mem_cons_self ..)
    unfold smallS at h4
    simp only [List.length_cons] at hn
    have h0 := ha.1
    rcases joinA_may ha h3 (by simp only []; omega) with ⟨h, _⟩ | ⟨_, h⟩
    · have h5 : mayP (stepA a s) := J_may ha h3 (by simp only []; omega)
      rw [goA, h, if_pos rfl]
      exact go_fine f0 f1 l (stepA a s) h5 (by simp only [stepA]; omega) (by simp only [stepA]; omega) (by simp only [stepA]; omega) fun x hx => hs x (List.mem_cons_of_mem _ hx)
    · exfalso; simp only [i64R] at h; omega
def aggL (fr : Int) : List Sample → Agg
  | [] => zeroA
  | s :: l => accL (oneA s.V fr) l
theorem all_fine {fr : Int} (f0 : 0 ≤ fr) (f1 : fr ≤ 1099511627776) {l : List Sample} (h0 : 0 < l.length) (hn : l.length ≤ 1000000) (hs : ∀ s ∈ l, smallS s) : allA l fr = (aggL fr l, 0) ∧ mayP (aggL fr l) := by
  cases l with
  | nil => simp at h0
  | cons s l =>
    have h4 : smallS s := hs s (List.mem_cons_self ..)
    unfold smallS at h4
    exact go_fine f0 f1 l _ (one_may f0 f1) (by simp only [List.length_cons] at hn; simp only []; omega) (by simp only []; omega) (by simp only []; omega) fun x hx => hs x (List.mem_cons_of_mem _ hx)
theorem aggL_append (f g : Int) {x y : List Sample} (hx : x ≠ []) (hy : y ≠ []) : aggL f (x ++ y) = J (aggL f x) (aggL g y) := by
  cases x with
  | nil => exact absurd rfl hx
  | cons s x =>
    cases y with
    | nil => exact absurd rfl hy
    | cons u y => simp only [List.cons_append, aggL]; rw [accL_append, accL_cons _ u g]
def Turned (a b : Agg) : Prop := a.Count = b.Count ∧ a.Sum = b.Sum ∧ a.Min = b.Min ∧ a.Max = b.Max ∧ a.First = b.Last ∧ a.Last = b.First
theorem turned (f g : Int) : ∀ l : List Sample, l ≠ [] → Turned (aggL f l) (aggL g l.reverse)
  | [], h => absurd rfl h
  | [s], _ => ⟨rfl, rfl, rfl, rfl, rfl, rfl⟩
  | s :: u :: l, _ => by
    have ih := turned f g (u :: l) (by simp)
    have e1 : aggL f (s :: u :: l) = J (aggL f [s]) (aggL f (u :: l)) := aggL_append f f (x := [s]) (by simp) (by simp)
    have e2 : aggL g (s :: u :: l).reverse = J (aggL g (u :: l).reverse) (aggL g [s]) := by
      rw [List.reverse_cons]; exact aggL_append g g (by simp) (by simp)
    rw [e1, e2]
    generalize aggL f (u :: l) = p at *
    generalize aggL g (u :: l).reverse = q at *
    obtain ⟨h1, h2, h3, h4, h5, h6⟩ := ih
    refine ⟨?_, ?_, ?_, ?_, ?_, ?_⟩ <;> simp only [J, aggL, accL] <;> first | omega | assumption
theorem order_all {L : List Sample} (h0 : 0 < L.length) (hn : L.length ≤ 1000000) (hs : ∀ s ∈ L, smallS s) :
    (allA L 0).2 = 0 ∧ (allA L.reverse 0).2 = 0 ∧ Turned (allA L 0).1 (allA L.reverse 0).1 := by
  have h1 := (all_fine (fr := 0) (by decide) (by decide) h0 hn hs).1
  have h2 := (all_fine (fr := 0) (by decide) (by decide) (l := L.reverse) (by simpa using h0) (by simpa using hn) (fun s h => hs s (by simpa using h))).1
  rw [h1, h2]
  refine ⟨rfl, rfl, turned 0 0 L ?_⟩
  intro e; rw [e] at h0; simp at h0
def modS (s : Sample) : Sample := ⟨s.T, s.V.tmod 1000000000⟩
theorem map_snoc (l : List Sample) (i : Nat) (h : i < l.length) : (l.take i).map modS ++ [(⟨(l[i]'h).T, (l[i]'h).V.tmod 1000000000⟩ : Sample)] = (l.take (i + 1)).map modS := by
  rw [List.take_succ_eq_append_getElem h, List.map_append]; rfl
theorem map_cons (l : List Sample) (i : Nat) (h : i < l.length) : [(⟨(l[i]'h).T, (l[i]'h).V.tmod 1000000000⟩ : Sample)] ++ ((l.take i).map modS).reverse = ((l.take (i + 1)).map modS).reverse := by
  rw [List.take_succ_eq_append_getElem h, List.map_append, List.reverse_append]; rfl
theorem mods_small (l : List Sample) : ∀ s ∈ l.map modS, smallS s := by
  intro s h
  obtain ⟨u, _, rfl⟩ := List.mem_map.1 h
  exact tmod_small u.V
theorem modV_r (x : Int) : i64R (x.tmod 1000000000) := by have := tmod_small x; omega
theorem mods_ok {l : List Sample} (hl : ∀ s ∈ l, s.ok) (i : Nat) : ∀ s ∈ (l.take i).map modS, s.ok := by
  intro s h
  obtain ⟨u, hu, rfl⟩ := List.mem_map.1 h
  exact ⟨(hl u (List.mem_of_mem_take hu)).1, modV_r u.V⟩
/-! ### Bounds -/
def sumS (l : List Sample) : Int := (l.map Sample.V).sum
theorem accL_facts : ∀ (l : List Sample) (a : Agg), (accL a l).From = a.From ∧ (accL a l).First = a.First ∧ (accL a l).Sum = a.Sum + sumS l ∧ (accL a l).Min ≤ a.Min ∧ a.Max ≤ (accL a l).Max ∧
    (∀ s ∈ l, (accL a l).Min ≤ s.V ∧ s.V ≤ (accL a l).Max) ∧ ((accL a l).Min = a.Min ∨ ∃ s ∈ l, s.V = (accL a l).Min) ∧ ((accL a l).Max = a.Max ∨ ∃ s ∈ l, s.V = (accL a l).Max)
  | [], a => ⟨rfl, rfl, by simp [accL, sumS], Int.le_refl _, Int.le_refl _, by simp, Or.inl rfl, Or.inl rfl⟩
  | s :: l, a => by
    obtain ⟨h1, h2, h3, h4, h5, h6, h7, h8⟩ := accL_facts l (stepA a s)
    simp only [accL]
    have e1 : (stepA a s).Min = min a.Min s.V := rfl
    have e2 : (stepA a s).Max = max a.Max s.V := rfl
    refine ⟨h1, h2, ?_, by omega, by omega, ?_, ?_, ?_⟩
    · rw [h3]; simp only [sumS, stepA, List.map_cons, List.sum_cons]; omega
    · intro x hx
      rcases List.mem_cons.1 hx with rfl | hx
      · omega
      · exact h6 x hx
    · rcases h7 with h | ⟨x, hx, h⟩
      · rcases Int.le_total a.Min s.V with hc | hc
        · left; omega
        · right; exact ⟨s, List.mem_cons_self .., by omega⟩
      · right; exact ⟨x, List.mem_cons_of_mem _ hx, h⟩
    · rcases h8 with h | ⟨x, hx, h⟩
      · rcases Int.le_total s.V a.Max with hc | hc
        · left; omega
        · right; exact ⟨s, List.mem_cons_self .., by omega⟩
      · right; exact ⟨x, List.mem_cons_of_mem _ hx, h⟩
theorem accL_last : ∀ (l : List Sample) (a : Agg), (accL a l).Last = (match l.getLast? with | some s => s.V | none => a.Last)
  | [], a => rfl
  | s :: l, a => by
    rw [accL, accL_last l]
    cases l with
    | nil => rfl
    | cons u l =>
      rw [List.getLast?_cons_cons]
      cases h : (u :: l).getLast? with
      | none => simp at h
      | some v => rfl
theorem bounds_all {xs : List Sample} (h0 : 0 < xs.length) (hn : xs.length ≤ 1000000) (hs : ∀ s ∈ xs, smallS s) :
    (allA xs 3).2 = 0 ∧ mayA (allA xs 3).1 = true ∧ (allA xs 3).1.Count = (xs.length : Int) ∧ (allA xs 3).1.Sum = sumS xs ∧ (allA xs 3).1.First = (xs[0]'h0).V ∧ (allA xs 3).1.Last = (xs[xs.length - 1]'(by omega)).V ∧ (allA xs 3).1.From = 3 ∧
      (∀ s ∈ xs, (allA xs 3).1.Min ≤ s.V ∧ s.V ≤ (allA xs 3).1.Max) ∧ (∃ s ∈ xs, s.V = (allA xs 3).1.Min) ∧ (∃ s ∈ xs, s.V = (allA xs 3).1.Max) := by
  obtain ⟨h1, h2⟩ := all_fine (fr := 3) (by decide) (by decide) h0 hn hs
  rw [h1]
  cases xs with
  | nil => simp at h0
  | cons s l =>
    simp only [aggL] at *
    obtain ⟨g1, g2, g3, g4, g5, g6, g7, g8⟩ := accL_facts l (oneA s.V 3)
    have gl := accL_last l (oneA s.V 3)
    refine ⟨by first | rfl | trivial, mayA_iff.2 h2, ?_, ?_, g2, ?_, g1, ?_, ?_, ?_⟩
    · rw [accL_count]; simp only [List.length_cons]; omega
    · rw [g3]; simp [sumS]
    · rw [gl]
      cases l with
      | nil => rfl
      | cons u l =>
        rw [List.getLast?_eq_getElem?, List.getElem?_eq_getElem (by simp)]
        simp
    · intro x hx
      rcases List.mem_cons.1 hx with rfl | hx
      · exact ⟨g4, g5⟩
      · exact g6 x hx
    · rcases g7 with h | ⟨x, hx, h⟩
      · exact ⟨s, List.mem_cons_self .., h.symm⟩
      · exact ⟨x, List.mem_cons_of_mem _ hx, h⟩
    · rcases g8 with h | ⟨x, hx, h⟩
      · exact ⟨s, List.mem_cons_self .., h.symm⟩
      · exact ⟨x, List.mem_cons_of_mem _ hx, h⟩
/-- The first of them are small. -/
abbrev SmallTo (xs : List Sample) (i : Nat) : Prop := ∀ j (h : j < xs.length), j < i → smallS xs[j]
theorem smallTo_set {xs : List Sample} {i : Nat} (hs : SmallTo xs i) (h : i < xs.length) {y : Sample} (hy : smallS y) : SmallTo (xs.set i y) (i + 1) := by
  intro j hj hji
  rw [List.getElem_set]
  split
  · exact hy
  · exact hs j (by simpa using hj) (by omega)
theorem smallTo_all {xs : List Sample} {i : Nat} (hs : SmallTo xs i) (h : xs.length ≤ i) : ∀ s ∈ xs, smallS s := by
  intro s hm
  obtain ⟨j, hj, rfl⟩ := List.getElem_of_mem hm
  exact hs j hj (by omega)
theorem set_ok {xs : List Sample} (hl : ∀ s ∈ xs, s.ok) {i : Nat} {y : Sample} (hy : y.ok) : ∀ s ∈ xs.set i y, s.ok := by
  intro s hm
  rcases List.mem_or_eq_of_mem_set hm with h | rfl
  · exact hl s h
  · exact hy
theorem sum_set {xs : List Sample} {i : Nat} (h : i < xs.length) (y : Sample) : sumS ((xs.set i y).take (i + 1)) = sumS (xs.take i) + ((xs.set i y)[i]'(by simpa using h)).V := by
  rw [List.take_succ_eq_append_getElem (by simpa using h)]
  simp only [sumS, List.map_append, List.sum_append, List.map_cons, List.map_nil, List.sum_cons, List.sum_nil, List.take_set, List.getElem_set_self, Int.add_zero]
  congr 2
  rw [List.set_eq_of_length_le (by rw [List.length_take]; omega)]
theorem sum_small {xs : List Sample} : ∀ {i : Nat}, i ≤ xs.length → SmallTo xs i → -(1000000000 * (i : Int)) ≤ sumS (xs.take i) ∧ sumS (xs.take i) ≤ 1000000000 * (i : Int) := by
  intro i
  induction i with
  | zero => intro _ _; simp [sumS]
  | succ i ih =>
    intro hi hs
    have h1 := ih (by omega) (fun j h hj => hs j h (by omega))
    have h2 := hs i (by omega) (by omega)
    unfold smallS at h2
    rw [List.take_succ_eq_append_getElem (by omega)]
    simp only [sumS, List.map_append, List.sum_append, List.map_cons, List.map_nil, List.sum_cons, List.sum_nil] at h1 ⊢
    omega
abbrev Seen (xs : List Sample) (m : Int) (lo : Bool) (k : Nat) : Prop := lo = true ∨ ∀ j (h : j < xs.length), j < k → ¬ xs[j].V = m
theorem seen_true {xs : List Sample} {m : Int} {k : Nat} : Seen xs m true k := Or.inl rfl
theorem seen_start {xs : List Sample} {m : Int} : Seen xs m false 0 := Or.inr fun j h hj => absurd hj (by omega)
theorem seen_next {xs : List Sample} {m : Int} {lo : Bool} {k : Nat} (hk : k < xs.length) (h : Seen xs m lo k) (hf : lo = false) : Seen xs m (decide ((xs[k]'hk).V = m)) (k + 1) := by
  by_cases e : (xs[k]'hk).V = m
  · left; rw [decide_eq_true e]
  · right
    intro j hj hjk
    rcases h with h | h
    · rw [hf] at h; cases h
    · rcases Nat.lt_or_ge j k with hlt | hge
      · exact h j hj hlt
      · obtain rfl : j = k := by omega
        exact e
theorem seen_end {xs : List Sample} {m : Int} {lo : Bool} {k : Nat} (h : Seen xs m lo k) (hk : xs.length ≤ k) (he : ∃ s ∈ xs, s.V = m) : lo = true := by
  rcases h with h | h
  · exact h
  · obtain ⟨s, hs, e⟩ := he
    obtain ⟨j, hj, rfl⟩ := List.getElem_of_mem hs
    exact absurd e (h j hj (by omega))
end Go.Proofs.Ythanfecefjfbjaa
