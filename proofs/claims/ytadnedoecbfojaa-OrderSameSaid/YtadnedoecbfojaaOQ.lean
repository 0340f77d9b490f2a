/- What the laws on the order of segments need. -/
import Derived.Test.YtadnedoecbfojaaOP
namespace Go.Proofs.Ytadnedoecbfojaa
/-! ### In whatever order they stand -/
theorem up_perm {l r : List Info} (h : l.Perm r) (x : Info) : upI l x = upI r x := by
  unfold upI
  rw [Bool.eq_iff_iff, List.any_eq_true, List.any_eq_true]
  exact ⟨fun ⟨y, h1, h2⟩ => ⟨y, h.mem_iff.1 h1, h2⟩, fun ⟨y, h1, h2⟩ => ⟨y, h.mem_iff.2 h1, h2⟩⟩
theorem can_perm {l r : List Info} (h : l.Perm r) (x : Info) : canI l x = canI r x := by unfold canI; rw [up_perm h]
theorem bst_char {l : List Info} : ∀ {n : Nat}, n ≤ l.length → (bst l n < 0 ∧ ∀ (j : Nat) (h : j < l.length), j < n → canI l (l[j]'h) = false) ∨ ∃ h : (bst l n).toNat < l.length, 0 ≤ bst l n ∧ canI l (l[(bst l n).toNat]'h) = true ∧ ∀ (j : Nat) (hj : j < l.length), j < n → canI l (l[j]'hj) = true → lowI (l[j]'hj) (l[(bst l n).toNat]'h) = false
  | 0, _ => Or.inl ⟨by simp [bst], fun j _ h => by omega⟩
  | n + 1, hn => by
    have hlt : n < l.length := by omega
    have hr := bst_r l n
    cases hc : canI l (l[n]'hlt) with
    | false =>
      rw [bst_skip hlt hc]
      rcases bst_char (l := l) (n := n) (by omega) with ⟨h1, h2⟩ | ⟨h1, h2, h3, h4⟩
      · refine Or.inl ⟨h1, fun j h hj => ?_⟩
        by_cases e : j = n
        · subst e; exact hc
        · exact h2 j h (by omega)
      · refine Or.inr ⟨h1, h2, h3, fun j hj h5 h6 => ?_⟩
        by_cases e : j = n
        · subst e; rw [hc] at h6; cases h6
        · exact h4 j hj (by omega) h6
    | true =>
      by_cases hx : bst l n < 0 ∨ lowAt l n (bst l n).toNat = true
      · rw [bst_new hlt hc hx]
        refine Or.inr ⟨hlt, by omega, hc, fun j hj h5 h6 => ?_⟩
        show lowI _ (l[n]'hlt) = false
        by_cases e : j = n
        · subst e; rw [lowI_not]; omega
        · rcases bst_char (l := l) (n := n) (by omega) with ⟨h1, h2⟩ | ⟨h1, h2, h3, h4⟩
          · rw [h2 j hj (by omega)] at h6; cases h6
          · have h7 := h4 j hj (by omega) h6
            rcases hx with hx | hx
            · omega
            · rw [lowAt_at hlt h1, lowI_iff] at hx
              rw [lowI_not] at h7 ⊢
              omega
      · rw [bst_old hlt hc (fun e => hx (Or.inl e)) (by simpa using fun e => hx (Or.inr e))]
        rcases bst_char (l := l) (n := n) (by omega) with ⟨h1, h2⟩ | ⟨h1, h2, h3, h4⟩
        · exact absurd (Or.inl h1) hx
        · refine Or.inr ⟨h1, h2, h3, fun j hj h5 h6 => ?_⟩
          by_cases e : j = n
          · subst e
            cases e2 : lowI (l[j]'hlt) (l[(bst l j).toNat]'h1) with
            | false => rfl
            | true => exact absurd (Or.inr ((lowAt_at hlt h1).trans e2)) hx
          · exact h4 j hj (by omega) h6
/-- What is rolled up next: the lowest that may be. -/
theorem roll_char (l : List Info) : (rollI l = (-1, 0) ∧ ∀ x ∈ l, canI l x = false) ∨ ∃ x, x ∈ l ∧ canI l x = true ∧ rollI l = (x.Id, x.Tier + 1) ∧ ∀ y ∈ l, canI l y = true → lowI y x = false := by
  rcases bst_char (l := l) (Nat.le_refl _) with ⟨h1, h2⟩ | ⟨h1, h2, h3, h4⟩
  · refine Or.inl ⟨roll_none rfl h1, fun x hx => ?_⟩
    obtain ⟨j, hj, rfl⟩ := List.mem_iff_getElem.1 hx
    exact h2 j hj hj
  · refine Or.inr ⟨_, List.getElem_mem h1, h3, roll_some rfl (by omega) h1, fun y hy h5 => ?_⟩
    obtain ⟨j, hj, rfl⟩ := List.mem_iff_getElem.1 hy
    exact h4 j hj hj h5
theorem roll_is {l : List Info} {x : Info} (hx : x ∈ l) (hc : canI l x = true) (hl : ∀ y ∈ l, canI l y = true → lowI y x = false) : rollI l = (x.Id, x.Tier + 1) := by
  rcases roll_char l with ⟨_, h⟩ | ⟨y, h1, h2, h3, h4⟩
  · rw [h x hx] at hc; cases hc
  · rw [h3]
    have h5 := hl y h1 h2
    have h6 := h4 x hx hc
    rw [lowI_not] at h5 h6
    rw [show x.Id = y.Id by omega, show x.Tier = y.Tier by omega]
theorem roll_isnone {l : List Info} (h : ∀ x ∈ l, canI l x = false) : rollI l = (-1, 0) := by
  rcases roll_char l with ⟨h1, _⟩ | ⟨y, h1, h2, _, _⟩
  · exact h1
  · rw [h y h1] at h2; cases h2
theorem roll_perm {l r : List Info} (h : l.Perm r) : rollI l = rollI r := by
  rcases roll_char r with ⟨h1, h2⟩ | ⟨x, h1, h2, h3, h4⟩
  · rw [h1]; exact roll_isnone fun x hx => by rw [can_perm h]; exact h2 x (h.mem_iff.1 hx)
  · rw [h3]; exact roll_is (h.mem_iff.2 h1) (by rw [can_perm h]; exact h2) fun y hy hc => h4 y (h.mem_iff.1 hy) (by rw [← can_perm h]; exact hc)
theorem left_perm {l l' : List Info} (r : List Info) (h : l.Perm l') : (left l r).Perm (left l' r) := h.filter _
theorem bodies_perm {l l' : List Info} (r : List Info) (h : l.Perm l') : bodies l r = bodies l' r :=
  bodies_of ((ord_perm _).trans (left_perm r h)) (ord_sorted _)
theorem next_perm {l l' : List Info} (r : List Info) (h : l.Perm l') : nextI l r = nextI l' r := by unfold nextI; rw [bodies_perm r h]
/-! ### Segments made out of numbers -/
def mkC (x : Int) (i : Nat) : Info := ⟨((i : Int) + 1), (x % 18446744073709551616 % 4), (x % 18446744073709551616 / 4 % 50), 60, 0⟩
def wantC (l : List Int) : Nat → List Info
  | 0 => []
  | n + 1 => match l[n]? with
    | some x => wantC l n ++ [mkC x n]
    | none => wantC l n
theorem wantC_snoc {l : List Int} {i : Nat} (h : i < l.length) : wantC l (i + 1) = wantC l i ++ [mkC (l[i]'h) i] := by rw [wantC, List.getElem?_eq_getElem h]
theorem wantC_len {l : List Int} : ∀ {i : Nat}, i ≤ l.length → (wantC l i).length = i
  | 0, _ => rfl
  | i + 1, h => by rw [wantC_snoc (by omega), List.length_append, wantC_len (by omega)]; rfl
theorem wantC_at {l : List Int} : ∀ {i : Nat}, i ≤ l.length → ∀ (j : Nat) (h : j < (wantC l i).length), ((wantC l i)[j]'h).Id = (j : Int) + 1 ∧ 0 ≤ ((wantC l i)[j]'h).Tier ∧ ((wantC l i)[j]'h).Tier ≤ 3
  | 0, _, j, h => by cases h
  | i + 1, hi, j, h => by
    have e := wantC_snoc (l := l) (i := i) (by omega)
    have hl := wantC_len (l := l) (i := i) (by omega)
    by_cases c : j < (wantC l i).length
    · have : (wantC l (i + 1))[j]'h = (wantC l i)[j]'c := by simp only [e]; rw [List.getElem_append_left c]
      rw [this]; exact wantC_at (by omega) j c
    · have hj : j = i := by have h9 := wantC_len hi; omega
      subst hj
      have : (wantC l (j + 1))[j]'h = mkC (l[j]'(by omega)) j := by simp only [e]; rw [List.getElem_append_right (Nat.le_of_eq hl)]; simp [hl]
      rw [this]; refine ⟨rfl, ?_, ?_⟩ <;> (simp only [mkC]; omega)
def lastT (q : List Info) (j : Nat) : Int := if j = 0 then 3 else match q[j - 1]? with
  | some x => x.Tier
  | none => 3
theorem lastT_succ {q : List Info} {j : Nat} (h : j < q.length) : lastT q (j + 1) = (q[j]'h).Tier := by
  unfold lastT; rw [if_neg (by omega), Nat.add_sub_cancel, List.getElem?_eq_getElem h]
section
variable {w : List Info}
theorem hasI_true {r : List Info} {x : Info} (h : x ∈ r) : hasI r x.Id = true := List.any_eq_true.2 ⟨x, h, decide_eq_true rfl⟩
theorem left_done {q : List Info} (hn : (q.map Info.Id).Nodup) (j : Nat) : left q (q.take j) = q.drop j := by
  have hs : left q (q.take j) = left (q.take j ++ q.drop j) (q.take j) := by rw [List.take_append_drop]
  rw [hs]; unfold left; rw [List.filter_append]
  have e1 : (q.take j).filter (fun x => !hasI (q.take j) x.Id) = [] := List.filter_eq_nil_iff.2 fun x hx => by rw [hasI_true hx]; decide
  have e2 : (q.drop j).filter (fun x => !hasI (q.take j) x.Id) = q.drop j := List.filter_eq_self.2 fun x hx => by
    cases h : hasI (q.take j) x.Id with
    | false => rfl
    | true =>
      obtain ⟨y, h1, h2⟩ := List.any_eq_true.1 h
      have h3 : y.Id = x.Id := of_decide_eq_true h2
      have h4 : ((q.take j ++ q.drop j).map Info.Id).Nodup := by rw [List.take_append_drop]; exact hn
      rw [List.map_append] at h4
      exact absurd h3 ((List.nodup_append.1 h4).2.2 _ (List.mem_map_of_mem h1) _ (List.mem_map_of_mem hx))
  rw [e1, e2]; rfl
theorem bodies_done (hn : (w.map Info.Id).Nodup) (j : Nat) : bodies w ((ordI w).take j) = ((ordI w).drop j).map Info.Id := by
  have hq : ((ordI w).map Info.Id).Nodup := ((ord_perm w).map Info.Id).nodup_iff.2 hn
  refine (bodies_of ?_ ((ord_sorted w).sublist (List.drop_sublist ..))).symm
  rw [← left_done hq j]; exact left_perm _ (ord_perm w)
theorem next_done (hn : (w.map Info.Id).Nodup) {j : Nat} (h : j < (ordI w).length) : nextI w ((ordI w).take j) = ((ordI w)[j]'h).Id := by
  unfold nextI; rw [bodies_done hn, List.drop_eq_getElem_cons h]; rfl
end
theorem wantC_nodup {l : List Int} {i : Nat} (hi : i ≤ l.length) : ((wantC l i).map Info.Id).Nodup := by
  rw [List.nodup_iff_pairwise_ne, List.pairwise_iff_getElem]
  intro a b ha hb hab
  rw [List.getElem_map, List.getElem_map]
  rw [List.length_map] at ha hb
  have h1 := (wantC_at hi a ha).1
  have h2 := (wantC_at hi b hb).1
  omega
/-- One step: what comes next, and where it stands. -/
theorem comes_step {l : List Int} {i j : Nat} (hi : i ≤ l.length) (hj : j < (ordI (wantC l i)).length) : ∃ x : Info, (ordI (wantC l i))[j]'hj = x ∧ nextI (wantC l i) ((ordI (wantC l i)).take j) = x.Id ∧ 1 ≤ x.Id ∧ x.Id ≤ (wantC l i).length ∧ x.Tier ≤ lastT (ordI (wantC l i)) j ∧ lastT (ordI (wantC l i)) (j + 1) = x.Tier ∧ (ordI (wantC l i)).take (j + 1) = (ordI (wantC l i)).take j ++ [x] ∧ ∃ h : (x.Id - 1).toNat < (wantC l i).length, (wantC l i)[(x.Id - 1).toNat]'h = x := by
  refine ⟨_, rfl, next_done (wantC_nodup hi) hj, ?_⟩
  have hm : (ordI (wantC l i))[j]'hj ∈ wantC l i := (ord_perm _).mem_iff.1 (List.getElem_mem hj)
  obtain ⟨m, h1, h2⟩ := List.mem_iff_getElem.1 hm
  have hw := wantC_at hi m h1
  rw [h2] at hw
  have e : (((ordI (wantC l i))[j]'hj).Id - 1).toNat = m := by omega
  refine ⟨by omega, by omega, ?_, lastT_succ hj, List.take_succ_eq_append_getElem hj, by omega, ?_⟩
  · unfold lastT
    split
    · omega
    · rw [List.getElem?_eq_getElem (by omega)]
      have := leI_iff.1 (List.pairwise_iff_getElem.1 (ord_sorted (wantC l i)) (j - 1) j (by omega) hj (by omega))
      simp only []; omega
  · simp only [e]; exact h2
theorem comes_end {l : List Int} {i j : Nat} (hi : i ≤ l.length) (hj : j = (ordI (wantC l i)).length) : nextI (wantC l i) ((ordI (wantC l i)).take j) = -1 ∧ (bodies (wantC l i) ((ordI (wantC l i)).take j)).length = 0 := by
  have : bodies (wantC l i) ((ordI (wantC l i)).take j) = [] := by rw [bodies_done (wantC_nodup hi), List.drop_eq_nil_of_le (by omega)]; rfl
  unfold nextI; rw [this]; exact ⟨rfl, rfl⟩
def mkS (x : Int) (i : Nat) : Info := ⟨((i : Int) + 1), (x % 18446744073709551616 % 4), (x % 18446744073709551616 / 4 % 10), (20 + (x % 18446744073709551616 / 40 % 3)), 0⟩
def wantS (l : List Int) : Nat → List Info
  | 0 => []
  | n + 1 => match l[n]? with
    | some x => wantS l n ++ [mkS x n]
    | none => wantS l n
theorem wantS_snoc {l : List Int} {i : Nat} (h : i < l.length) : wantS l (i + 1) = wantS l i ++ [mkS (l[i]'h) i] := by rw [wantS, List.getElem?_eq_getElem h]
theorem wantS_rev {l : List Int} {i : Nat} (h : i < l.length) : (wantS l (i + 1)).reverse = [mkS (l[i]'h) i] ++ (wantS l i).reverse := by rw [wantS_snoc h, List.reverse_append]; rfl
theorem wantS_len {l : List Int} : ∀ {i : Nat}, i ≤ l.length → (wantS l i).length = i
  | 0, _ => rfl
  | i + 1, h => by rw [wantS_snoc (by omega), List.length_append, wantS_len (by omega)]; rfl
theorem wantS_ok {l : List Int} : ∀ {i : Nat}, i ≤ l.length → i ≤ 100 → ∀ s ∈ wantS l i, s.ok
  | 0, _, _ => fun s h => by cases h
  | i + 1, h, h1 => by
    rw [wantS_snoc (by omega)]
    intro s hs
    rcases List.mem_append.1 hs with hs | hs
    · exact wantS_ok (by omega) (by omega) s hs
    · obtain rfl := List.mem_singleton.1 hs
      unfold mkS Info.ok i64R u32R; simp only []; omega
theorem rev_ok {l : List Info} (h : ∀ s ∈ l, s.ok) : ∀ s ∈ l.reverse, s.ok := fun s hs => h s (List.mem_reverse.1 hs)
theorem rev_perm (l : List Info) : l.Perm l.reverse := (List.reverse_perm l).symm
/-! ### Rolled up one by one -/
def entR (k m : Nat) : Info := ⟨((m : Int) + 1), ((m / k : Nat) : Int), (10 * ((m % k : Nat) : Int)), (10 * ((m % k : Nat) : Int) + 10), 0⟩
def rowR (k n : Nat) : List Info := (List.range n).map (entR k)
theorem rowR_len (k n : Nat) : (rowR k n).length = n := by unfold rowR; rw [List.length_map, List.length_range]
theorem rowR_snoc (k n : Nat) : rowR k (n + 1) = rowR k n ++ [entR k n] := by unfold rowR; rw [List.range_succ, List.map_append]; rfl
theorem rowR_at {k n m : Nat} (h : m < (rowR k n).length) : (rowR k n)[m]'h = entR k m := by simp [rowR]
theorem rowR_mem {k n : Nat} {x : Info} : x ∈ rowR k n ↔ ∃ m, m < n ∧ entR k m = x := by unfold rowR; rw [List.mem_map]; simp only [List.mem_range]
theorem upR {k n m : Nat} (hk : 0 < k) : upI (rowR k n) (entR k m) = decide (m + k < n) := by
  rw [Bool.eq_iff_iff, decide_eq_true_iff]; unfold upI; rw [List.any_eq_true]
  constructor
  · rintro ⟨y, hy, h⟩
    obtain ⟨m', h1, rfl⟩ := rowR_mem.1 hy
    have h := of_decide_eq_true h
    simp only [entR] at h
    obtain ⟨h2, h3, _⟩ := h
    have h4 : m' % k = m % k := by omega
    have h5 : m' / k = m / k + 1 := by omega
    have e1 := Nat.div_add_mod m' k
    have e2 := Nat.div_add_mod m k
    rw [h4, h5, Nat.mul_add, Nat.mul_one] at e1
    omega
  · intro h
    refine ⟨entR k (m + k), rowR_mem.2 ⟨m + k, h, rfl⟩, decide_eq_true ?_⟩
    simp only [entR]
    rw [Nat.add_mod_right, Nat.add_div_right m hk]
    omega
theorem canR {k n m : Nat} (hk : 0 < k) : canI (rowR k n) (entR k m) = true ↔ m < 3 * k ∧ n ≤ m + k := by
  unfold canI; rw [upR hk, Bool.and_eq_true, decide_eq_true_iff, Bool.not_eq_true', decide_eq_false_iff_not]
  have : (entR k m).Tier = ((m / k : Nat) : Int) := rfl
  rw [this]
  have h := Nat.div_lt_iff_lt_mul hk (x := m) (y := 3)
  constructor
  · rintro ⟨h1, h2⟩; exact ⟨h.1 (by omega), by omega⟩
  · rintro ⟨h1, h2⟩; exact ⟨by have := h.2 h1; omega, by omega⟩
theorem lowR {k m m' : Nat} (h : lowI (entR k m') (entR k m) = true) : m' < m := by
  rw [lowI_iff] at h; simp only [entR] at h
  have e1 := Nat.div_add_mod m' k
  have e2 := Nat.div_add_mod m k
  rcases h with h | ⟨h1, h2⟩
  · have h3 : m' / k + 1 ≤ m / k := by omega
    have h4 := Nat.mul_le_mul_left k h3
    rw [Nat.mul_add, Nat.mul_one] at h4
    by_cases hk : 0 < k
    · have := Nat.mod_lt m' hk; omega
    · have : k = 0 := by omega
      subst this; simp at h
  · have h3 : m' / k = m / k := by omega
    rw [h3] at e1
    omega
/-- The lowest that is left is the next one that has none above it. -/
theorem rollR {k u : Nat} (hk : 0 < k) (hu : u < 3 * k) : rollI (rowR k (k + u)) = ((u : Int) + 1, ((u / k : Nat) : Int) + 1) := by
  refine roll_is (x := entR k u) (rowR_mem.2 ⟨u, by omega, rfl⟩) ((canR hk).2 ⟨hu, by omega⟩) fun y hy hc => ?_
  obtain ⟨m, h1, rfl⟩ := rowR_mem.1 hy
  have h2 := (canR hk).1 hc
  cases e : lowI (entR k m) (entR k u) with
  | false => rfl
  | true => have := lowR e; omega
theorem rollR_end {k n : Nat} (hn : n = 4 * k) : rollI (rowR k n) = (-1, 0) := by
  subst hn
  refine roll_isnone fun x hx => ?_
  obtain ⟨m, h1, rfl⟩ := rowR_mem.1 hx
  cases e : canI (rowR k (4 * k)) (entR k m) with
  | false => rfl
  | true => have := (canR (by omega)).1 e; omega
theorem rowR_ok {k n : Nat} (hk : k ≤ 8) (hn : n ≤ 32) : ∀ s ∈ rowR k n, s.ok := by
  intro s hs
  obtain ⟨m, h1, rfl⟩ := rowR_mem.1 hs
  have h2 := Nat.div_le_self m k
  have h3 := Nat.mod_le m k
  unfold Info.ok i64R u32R; simp only [entR]
  generalize m / k = q at h2 ⊢
  generalize m % k = r at h3 ⊢
  omega
theorem rowR_raw {k i : Nat} (h : i < k) : rowR k i ++ [(⟨((i : Int) + 1), 0, (10 * (i : Int)), (10 * (i : Int)) + 10, 0⟩ : Info)] = rowR k (i + 1) := by
  rw [rowR_snoc]; unfold entR; rw [Nat.div_eq_of_lt h, Nat.mod_eq_of_lt h]; rfl
def tierR (k u : Nat) : Int := if u = 0 then 0 else (((u - 1) / k : Nat) : Int) + 1
theorem tierR_succ (k u : Nat) : tierR k (u + 1) = ((u / k : Nat) : Int) + 1 := by unfold tierR; rw [if_neg (by omega), Nat.add_sub_cancel]
theorem tierR_le (k u : Nat) : tierR k u ≤ ((u / k : Nat) : Int) + 1 := by
  unfold tierR
  have := Int.natCast_nonneg (u / k)
  split
  · omega
  · have : (u - 1) / k ≤ u / k := Nat.div_le_div_right (by omega)
    omega
/-- One turn. -/
theorem turnR {k u : Nat} (hk : 0 < k) (hu : u < 3 * k) : ∃ (h : ((u : Int) + 1 - 1).toNat < (rowR k (k + u)).length), (rowR k (k + u))[((u : Int) + 1 - 1).toNat]'h = entR k u := by
  refine ⟨by rw [rowR_len]; omega, ?_⟩
  rw [rowR_at]; congr 1; omega
theorem rowR_turn {k u : Nat} (hk : 0 < k) : entR k (k + u) = ⟨((k + u : Nat) : Int) + 1, ((u / k : Nat) : Int) + 1, (entR k u).From, (entR k u).To, 0⟩ := by
  unfold entR; rw [Nat.add_mod_left, Nat.add_div_left u hk]; rfl
theorem wantC_get {w : List Info} {x : Info} {n : Int} (h : ∃ h : (x.Id - 1).toNat < w.length, w[(x.Id - 1).toNat]'h = x) (e : n = x.Id) : ∃ h : (n - 1).toNat < w.length, w[(n - 1).toNat]'h = x := by subst e; exact h
theorem rowR_up {k u : Nat} {n : Int} (hk : 0 < k) (hu : u < 3 * k) (e : n = (u : Int) + 1) : ∃ h : (n - 1).toNat < (rowR k (k + u)).length, (rowR k (k + u))[(n - 1).toNat]'h = entR k u := by subst e; exact turnR hk hu
theorem div_r {k u : Nat} (hk : 0 < k) (hu : u < 3 * k) : 0 ≤ ((u / k : Nat) : Int) ∧ ((u / k : Nat) : Int) ≤ 2 := by
  have := (Nat.div_lt_iff_lt_mul hk (x := u) (y := 3)).2 hu
  exact ⟨Int.natCast_nonneg _, by omega⟩
theorem rowR_grow {k u : Nat} {x : Info} {n t : Int} (hk : 0 < k) (hx : x = entR k u) (hn : n = ((k + u : Nat) : Int) + 1) (ht : t = ((u / k : Nat) : Int) + 1) : rowR k (k + u) ++ [(⟨n, t, x.From, x.To, 0⟩ : Info)] = rowR k (k + (u + 1)) := by
  subst hx hn ht
  rw [← rowR_turn hk, ← Nat.add_assoc, rowR_snoc]
end Go.Proofs.Ytadnedoecbfojaa
