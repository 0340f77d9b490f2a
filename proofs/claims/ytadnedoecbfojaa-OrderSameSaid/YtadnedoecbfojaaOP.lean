/- Sorting by blocks; the bodies that are left; which segment is rolled up next. -/
import Derived.Test.YtadnedoecbfojaaON
import Derived.Test.YtadnedoecbfojaaOX
namespace Go.Proofs.Ytadnedoecbfojaa
/-- Blocks of B in order, from the front up to here. -/
inductive To (l : List Info) (B : Nat) : Nat → Prop
  | nil : To l B 0
  | snoc {a : Nat} : To l B a → SrtR l a (a + B) → To l B (a + B)
/-- Blocks of B in order, from here on up to n. -/
inductive Fr (l : List Info) (B n : Nat) : Nat → Prop
  | last {a : Nat} : n ≤ a + B → SrtR l a n → Fr l B n a
  | more {a : Nat} : a + B ≤ n → SrtR l a (a + B) → Fr l B n (a + B) → Fr l B n a
theorem To.turned {l r : List Info} {B a c d : Nat} (h : To l B a) (hT : Turned l r c d) (hc : a ≤ c) : To r B a := by
  induction h with
  | nil => exact .nil
  | snoc h hs ih => exact .snoc (ih (by omega)) (srt_out hs hT (Or.inl hc))
theorem Fr.turned {l r : List Info} {B n a c d : Nat} (h : Fr l B n a) (hT : Turned l r c d) (hd : d ≤ a) : Fr r B n a := by
  induction h with
  | last h hs => exact .last h (srt_out hs hT (Or.inr hd))
  | more h hs _ ih => exact .more h (srt_out hs hT (Or.inr hd)) (ih (by omega))
theorem To.join {l : List Info} {B n a : Nat} (h : To l B a) (ha : a ≤ n) (hF : Fr l B n a) : Fr l B n 0 := by
  induction h with
  | nil => exact hF
  | snoc _ hs ih => exact ih (by omega) (.more ha hs hF)
theorem to_step {l r : List Info} {B a : Nat} (h : To l B a) (hT : Turned l r a (a + B)) (hS : SrtR r a (a + B)) : To r B (a + B) := .snoc (h.turned hT (Nat.le_refl _)) hS
theorem to_all {l r : List Info} {B a n : Nat} (h : To l B a) (ha : a ≤ n) (hn : n ≤ a + B) (hT : Turned l r a n) (hS : SrtR r a n) : Fr r B n 0 := (h.turned hT (Nat.le_refl _)).join ha (.last hn hS)
theorem fr_two {l : List Info} {B n a : Nat} (h : Fr l B n a) (hB : 0 < B) (ha : a + 2 * B ≤ n) : SrtR l a (a + B) ∧ SrtR l (a + B) (a + 2 * B) ∧ Fr l B n (a + 2 * B) := by
  cases h with
  | last h hs => omega
  | more h hs hf =>
    refine ⟨hs, ?_⟩
    rw [show a + 2 * B = a + B + B by omega] at *
    cases hf with
    | last h hs =>
      have : n = a + B + B := by omega
      subst this
      exact ⟨hs, .last (by omega) (fun p q _ _ _ _ _ => by omega)⟩
    | more _ hs hf => exact ⟨hs, hf⟩
theorem fr_end2 {l : List Info} {B n a : Nat} (h : Fr l B n a) (hm : a + B < n) (hn : n < a + 2 * B) : SrtR l a (a + B) ∧ SrtR l (a + B) n := by
  cases h with
  | last h hs => omega
  | more h hs hf =>
    refine ⟨hs, ?_⟩
    cases hf with
    | last h hs => exact hs
    | more h _ _ => omega
theorem fr_end1 {l : List Info} {B n a : Nat} (h : Fr l B n a) (hm : n ≤ a + B) : SrtR l a n := by
  cases h with
  | last h hs => exact hs
  | more h hs hf =>
    have : n = a + B := by omega
    subst this; exact hs
theorem fr_step {l r : List Info} {B n a : Nat} (h : Fr l B n a) (hB : 0 < B) (ha : a + 2 * B ≤ n) (hT : Turned l r a (a + 2 * B)) : Fr r B n (a + 2 * B) := (fr_two h hB ha).2.2.turned hT (Nat.le_refl _)
theorem fr_wide {l : List Info} {B n a : Nat} (h : To l (2 * B) a) (ha : a ≤ n) (hn : n ≤ a + 2 * B) (hS : SrtR l a n) : Fr l (2 * B) n 0 := h.join ha (.last hn hS)
theorem fr_done {l : List Info} {B n : Nat} (h : Fr l B n 0) (hn : n ≤ B) : SrtR l 0 n := fr_end1 h (by omega)
theorem turned_sorted {l r : List Info} {n : Nat} (hT : Turned l r 0 n) (hS : SrtR r 0 n) (hn : n = l.length) : r.Perm l ∧ SortedI r := ⟨hT.2.1, srt_all (by rw [hT.1, ← hn]; exact hS)⟩
/-! ### The bodies that are left -/
theorem left_nil (r : List Info) : left [] r = [] := rfl
theorem left_yes {l r : List Info} {i : Nat} (h : i < l.length) (h0 : r.any (fun (y : Info) => decide (y.Id = (l[i]'h).Id)) = true) : left (l.take (i + 1)) r = left (l.take i) r := by
  unfold left; rw [List.take_succ_eq_append_getElem h, List.filter_append, List.filter_cons, List.filter_nil, if_neg (by unfold hasI; rw [h0]; decide), List.append_nil]
theorem left_no {l r : List Info} {i : Nat} (h : i < l.length) (h0 : r.any (fun (y : Info) => decide (y.Id = (l[i]'h).Id)) = false) : left (l.take (i + 1)) r = left (l.take i) r ++ [l[i]'h] := by
  unfold left; rw [List.take_succ_eq_append_getElem h, List.filter_append, List.filter_cons, List.filter_nil, if_pos (by unfold hasI; rw [h0]; decide)]
theorem left_len (l r : List Info) : (left l r).length ≤ l.length := List.length_filter_le _ _
theorem ids_snoc {q : List Info} {i : Nat} (h : i < q.length) : (q.take (i + 1)).map Info.Id = (q.take i).map Info.Id ++ [(q[i]'h).Id] := by rw [List.take_succ_eq_append_getElem h, List.map_append]; rfl
theorem bodies_all {l r q : List Info} {i : Nat} (hi : i = q.length) (hp : q.Perm (left l r)) (hs : SortedI q) : (q.take i).map Info.Id = bodies l r := by rw [List.take_of_length_le (by omega)]; exact bodies_of hp hs
theorem bodies_len (l r : List Info) : (bodies l r).length ≤ l.length := by
  unfold bodies; rw [List.length_map, (ord_perm _).length_eq]; exact left_len l r
theorem bodies_all2 {l r ys q : List Info} {j : Nat} (hy : ys = left l r) (hp : q.Perm ys) (hs : SortedI q) (hj : j = q.length) : (q.take j).map Info.Id = bodies l r := bodies_all hj (hy ▸ hp) hs
theorem ref_all {l r ys : List Info} {i j : Nat} (hy : ys = ordI (left (l.take i) r)) (hi : i = l.length) (hj : j = ys.length) : (ys.take j).map Info.Id = bodies l r := by
  rw [List.take_of_length_le (by omega), hy, List.take_of_length_le (by omega)]; rfl
/-- The first that is wanted. -/
def nextI (l r : List Info) : Int := (bodies l r).headD (-1)
theorem next_none {l r : List Info} (h : ((bodies l r).length : Int) = 0) : nextI l r = -1 := by
  have : bodies l r = [] := List.eq_nil_of_length_eq_zero (by omega)
  unfold nextI; rw [this]; rfl
theorem next_some {l r : List Info} (h : 0 < (bodies l r).length) : nextI l r = (bodies l r)[0]'h := by
  unfold nextI; rw [List.headD_eq_head?_getD, List.head?_eq_getElem?, List.getElem?_eq_getElem h]; rfl
/-! ### The reference's insertion -/
theorem ord_snoc (l : List Info) (x : Info) : ordI (l ++ [x]) = insI (ordI l) x := by unfold ordI; rw [List.foldl_append]; rfl
theorem ref_yes {l r : List Info} {i : Nat} (h : i < l.length) (h0 : hasI r (l[i]'h).Id = true) : ordI (left (l.take i) r) = ordI (left (l.take (i + 1)) r) := by rw [left_yes h h0]
theorem ref_no {l r q : List Info} {i k : Nat} (h : i < l.length) (h0 : hasI r (l[i]'h).Id = false) (e : q = ordI (left (l.take i) r)) (hk : seat (l[i]'h) q q.length = k) : (q.take k ++ [l[i]'h]) ++ q.drop k = ordI (left (l.take (i + 1)) r) := by
  rw [left_no h h0, ord_snoc, ← e]; unfold insI; rw [hk, List.append_assoc]; rfl
theorem seat_go {x : Info} {q : List Info} {k : Nat} (hk : 0 < k) (hq : k - 1 < q.length) (h : ahead x (q[k - 1]'hq) = true) : seat x q k = seat x q (k - 1) := by
  obtain ⟨n, rfl⟩ : ∃ n, k = n + 1 := ⟨k - 1, by omega⟩
  rw [seat, List.getElem?_eq_getElem (by simpa using hq)]
  simp only [Nat.add_sub_cancel] at h ⊢
  rw [if_pos h]
theorem seat_no {x : Info} {q : List Info} {k : Nat} (hk : 0 < k) (hq : k - 1 < q.length) (h : ahead x (q[k - 1]'hq) = false) : seat x q k = k := by
  obtain ⟨n, rfl⟩ : ∃ n, k = n + 1 := ⟨k - 1, by omega⟩
  rw [seat, List.getElem?_eq_getElem (by simpa using hq)]
  simp only [Nat.add_sub_cancel] at h ⊢
  rw [if_neg (by rw [h]; decide)]
theorem ord_len (l : List Info) : (ordI l).length = l.length := (ord_perm l).length_eq
/-! ### Which segment is rolled up next -/
@[reducible] def upI (l : List Info) (x : Info) : Bool := l.any fun (y : Info) => decide (y.Tier = x.Tier + 1 ∧ y.From = x.From ∧ y.To = x.To)
def lowI (x y : Info) : Bool := decide (x.Tier < y.Tier ∨ (x.Tier = y.Tier ∧ (x.From < y.From ∨ (x.From = y.From ∧ x.Id < y.Id))))
theorem lowI_iff {x y : Info} : lowI x y = true ↔ (x.Tier < y.Tier ∨ (x.Tier = y.Tier ∧ (x.From < y.From ∨ (x.From = y.From ∧ x.Id < y.Id)))) := decide_eq_true_iff
theorem lowI_not {x y : Info} : lowI x y = false ↔ ¬ (x.Tier < y.Tier ∨ (x.Tier = y.Tier ∧ (x.From < y.From ∨ (x.From = y.From ∧ x.Id < y.Id)))) := decide_eq_false_iff_not
/-- May x be rolled up? -/
def canI (l : List Info) (x : Info) : Bool := decide (x.Tier < 3) && !upI l x
def lowAt (l : List Info) (i j : Nat) : Bool := match l[i]?, l[j]? with
  | some x, some y => lowI x y
  | _, _ => false
def bst (l : List Info) : Nat → Int
  | 0 => -1
  | n + 1 => match l[n]? with
    | some x => if canI l x = true then (if bst l n < 0 ∨ lowAt l n (bst l n).toNat = true then (n : Int) else bst l n) else bst l n
    | none => bst l n
theorem bst_r (l : List Info) : ∀ n, -1 ≤ bst l n ∧ bst l n < n
  | 0 => by simp [bst]
  | n + 1 => by
    have := bst_r l n
    rw [bst]
    split
    · split
      · split <;> omega
      · omega
    · omega
theorem bst_skip {l : List Info} {n : Nat} (h : n < l.length) (h0 : canI l (l[n]'h) = false) : bst l (n + 1) = bst l n := by
  rw [bst, List.getElem?_eq_getElem h]; simp only []; rw [if_neg (by rw [h0]; decide)]
theorem bst_new {l : List Info} {n : Nat} (h : n < l.length) (h0 : canI l (l[n]'h) = true) (h1 : bst l n < 0 ∨ lowAt l n (bst l n).toNat = true) : bst l (n + 1) = n := by
  rw [bst, List.getElem?_eq_getElem h]; simp only []; rw [if_pos h0, if_pos h1]
theorem bst_old {l : List Info} {n : Nat} (h : n < l.length) (h0 : canI l (l[n]'h) = true) (h1 : ¬ bst l n < 0) (h2 : lowAt l n (bst l n).toNat = false) : bst l (n + 1) = bst l n := by
  rw [bst, List.getElem?_eq_getElem h]; simp only []; rw [if_pos h0, if_neg (by rw [h2]; simp only [Bool.false_eq_true, or_false]; exact h1)]
theorem lowAt_at {l : List Info} {i j : Nat} (hi : i < l.length) (hj : j < l.length) : lowAt l i j = lowI (l[i]'hi) (l[j]'hj) := by
  unfold lowAt; rw [List.getElem?_eq_getElem hi, List.getElem?_eq_getElem hj]
theorem can_no3 {l : List Info} {x : Info} (h : 3 ≤ x.Tier) : canI l x = false := by unfold canI; rw [decide_eq_false (by omega)]; rfl
theorem can_noup {l : List Info} {x : Info} (h : upI l x = true) : canI l x = false := by unfold canI; rw [h]; simp
theorem can_yes {l : List Info} {x : Info} (h : ¬ 3 ≤ x.Tier) (h' : upI l x = false) : canI l x = true := by unfold canI; rw [h', decide_eq_true (by omega)]; rfl
def rollI (l : List Info) : Int × Int := if bst l l.length < 0 then (-1, 0) else match l[(bst l l.length).toNat]? with
  | some y => (y.Id, y.Tier + 1)
  | none => (-1, 0)
theorem roll_none {l : List Info} {n : Nat} (hn : n = l.length) (h : bst l n < 0) : rollI l = (-1, 0) := by subst hn; unfold rollI; rw [if_pos h]
theorem roll_some {l : List Info} {n : Nat} (hn : n = l.length) (h : ¬ bst l n < 0) (hb : (bst l n).toNat < l.length) : rollI l = ((l[(bst l n).toNat]'hb).Id, (l[(bst l n).toNat]'hb).Tier + 1) := by subst hn; unfold rollI; rw [if_neg h, List.getElem?_eq_getElem hb]
theorem orI3 {x y : Info} : orI [cmpI x.Tier y.Tier, cmpI x.From y.From, cmpI x.Id y.Id] < 0 ↔ lowI x y = true := by
  rw [lowI_iff]; simp only [orI, cmpI]
  repeat' split
  all_goals omega
theorem orI3_not {x y : Info} (h : ¬ orI [cmpI x.Tier y.Tier, cmpI x.From y.From, cmpI x.Id y.Id] < 0) : lowI x y = false := by
  cases e : lowI x y with
  | false => rfl
  | true => exact absurd (orI3.2 e) h
theorem seat_zero {x : Info} {q : List Info} {k : Nat} (h : k = 0) : seat x q k = k := by subst h; rfl
theorem bst_can {l : List Info} : ∀ {n : Nat}, n ≤ l.length → 0 ≤ bst l n → ∃ h : (bst l n).toNat < l.length, canI l (l[(bst l n).toNat]'h) = true
  | 0, _, h => by simp [bst] at h
  | n + 1, hn, h => by
    have hb := bst_r l n
    cases hc : canI l (l[n]'(by omega)) with
    | false => rw [bst_skip (by omega) hc] at h ⊢; exact bst_can (by omega) h
    | true =>
      by_cases h1 : bst l n < 0 ∨ lowAt l n (bst l n).toNat = true
      · rw [bst_new (by omega) hc h1]; exact ⟨by omega, hc⟩
      · rw [bst_old (by omega) hc (fun e => h1 (Or.inl e)) (by simpa using fun e => h1 (Or.inr e))] at h ⊢; exact bst_can (by omega) h
theorem bst_tier {l : List Info} {n : Nat} (hn : n ≤ l.length) (h : 0 ≤ bst l n) : ∃ h : (bst l n).toNat < l.length, (l[(bst l n).toNat]'h).Tier < 3 := by
  obtain ⟨h1, h2⟩ := bst_can hn h
  refine ⟨h1, ?_⟩
  unfold canI at h2; simp only [Bool.and_eq_true, decide_eq_true_eq] at h2; exact h2.1
/-- The one above, as the reference asks for it. -/
theorem cov_eq {y x : Info} (hy : y.ok) (hx : x.ok) : decide (y.Tier = x.Tier + 1 ∧ y.From = x.From ∧ y.To = x.To) = decide (x.Tier < y.Tier ∧ IntKind.i64.wrap (y.Tier - x.Tier) = 1 ∧ y.From = x.From ∧ y.To = x.To) := by
  obtain ⟨_, h1, _⟩ := hy
  obtain ⟨_, h2, _⟩ := hx
  rw [decide_eq_decide, IntKind.wrap_i64]; omega
theorem cov_go {l : List Info} {x : Info} {i : Nat} (h : i < l.length) (hy : (l[i]'h).ok) (hx : x.ok) (hn : ¬ (x.Tier < (l[i]'h).Tier ∧ IntKind.i64.wrap ((l[i]'h).Tier - x.Tier) = 1 ∧ (l[i]'h).From = x.From ∧ (l[i]'h).To = x.To)) : upI (l.drop i) x = upI (l.drop (i + 1)) x := by
  unfold upI; rw [List.drop_eq_getElem_cons h, List.any_cons, cov_eq hy hx, decide_eq_false hn, Bool.false_or]
theorem cov_at {l : List Info} {x : Info} {i : Nat} (h : i < l.length) (hy : (l[i]'h).ok) (hx : x.ok) (hn : x.Tier < (l[i]'h).Tier ∧ IntKind.i64.wrap ((l[i]'h).Tier - x.Tier) = 1 ∧ (l[i]'h).From = x.From ∧ (l[i]'h).To = x.To) : upI (l.drop i) x = true := by
  unfold upI; rw [List.drop_eq_getElem_cons h, List.any_cons, cov_eq hy hx, decide_eq_true hn, Bool.true_or]
theorem cov_end {l : List Info} {x : Info} {i : Nat} (h : i = l.length) : upI (l.drop i) x = false := by rw [List.drop_eq_nil_of_le (by omega)]; rfl
end Go.Proofs.Ytadnedoecbfojaa
