/- What samples come to: in plain numbers. -/
import Derived.Test.YthanfecefjfbjaaC
namespace Go.Proofs.Ythanfecefjfbjaa
theorem agg_iff (a b : Agg) : a = b ↔ a.From = b.From ∧ a.Count = b.Count ∧ a.Sum = b.Sum ∧ a.Min = b.Min ∧ a.Max = b.Max ∧ a.First = b.First ∧ a.Last = b.Last := by
  cases a; cases b; simp
abbrev zeroA : Agg := ⟨0, 0, 0, 0, 0, 0, 0⟩
abbrev oneA (v fr : Int) : Agg := ⟨fr, 1, v, v, v, v, v⟩
abbrev mayP (a : Agg) : Prop := 1 ≤ a.Count ∧ a.Count ≤ 1099511627776 ∧ 0 ≤ a.From ∧ a.From ≤ 1099511627776 ∧ a.Min ≤ a.First ∧ a.Min ≤ a.Last ∧ a.Min ≤ a.Max ∧ a.First ≤ a.Max ∧ a.Last ≤ a.Max ∧ (¬ a.Count = 1 ∨ (a.Sum = a.Min ∧ a.Min = a.Max))
def mayA (a : Agg) : Bool := decide (mayP a)
def addB (a b : Int) : Bool := decide (i64R (a + b))
def addV (a b : Int) : Int := if i64R (a + b) then a + b else 0
theorem mayA_iff {a : Agg} : mayA a = true ↔ mayP a := by simp only [mayA, decide_eq_true_eq]
theorem mayA_true {a : Agg} (h : mayA a = true) : mayP a := mayA_iff.1 h
theorem addB_true {a b : Int} (h : addB a b = true) : i64R (a + b) := by simpa only [addB, decide_eq_true_eq] using h
theorem addV_eq {a b : Int} (h : i64R (a + b)) : addV a b = a + b := if_pos h
theorem addV_r (a b : Int) : i64R (addV a b) := by unfold addV; split <;> omega
def joinA (a b : Agg) : Agg × Int :=
  if mayA a = true ∧ mayA b = true ∧ a.Count + b.Count ≤ 1099511627776 then
    if addB a.Sum b.Sum = true then (⟨a.From, a.Count + b.Count, addV a.Sum b.Sum, min a.Min b.Min, max a.Max b.Max, a.First, b.Last⟩, 0) else (zeroA, 3)
  else (zeroA, 1)
theorem zeroA_ok : zeroA.ok := by simp only [Agg.ok, i64R]; omega
theorem oneA_ok {v fr : Int} (h : i64R v) (h1 : i64R fr) : (oneA v fr).ok := ⟨h1, ⟨(by simp only []; omega), (by simp only []; omega)⟩, h, h, h, h, h⟩
theorem joinA_ok {a b : Agg} (ha : a.ok) (hb : b.ok) : (joinA a b).1.ok := by
  unfold joinA
  split
  · split
    · rename_i h _
      have h1 := mayA_true h.1
      have h2 := mayA_true h.2.1
      have h3 := addV_r a.Sum b.Sum
      have h4 := h.2.2
      refine ⟨ha.1, ?_, h3, ?_, ?_, ha.2.2.2.2.2.1, hb.2.2.2.2.2.2⟩ <;> simp only [] <;> omega
    · exact zeroA_ok
  · exact zeroA_ok
def goA : Agg → List Sample → Int → Agg × Int
  | a, [], _ => if mayA a = true then (a, 0) else (zeroA, 1)
  | a, s :: l, fr => if (joinA a (oneA s.V fr)).2 = 0 then goA (joinA a (oneA s.V fr)).1 l fr else (zeroA, (joinA a (oneA s.V fr)).2)
def allA : List Sample → Int → Agg × Int
  | [], _ => (zeroA, 1)
  | s :: l, fr => goA (oneA s.V fr) l fr
section
variable {l : List Sample} {fr : Int} {acc : Agg} {i : Nat}
theorem all_first (hi : (i : Int) = 0) (h : i < l.length) : allA l fr = goA (oneA (l[i]'h).V fr) (l.drop (i + 1)) fr := by
  obtain rfl : i = 0 := by omega
  cases l with
  | nil => simp at h
  | cons s l => rfl
abbrev AccI (l : List Sample) (fr : Int) (acc : Agg) (i : Nat) : Prop := (i = 0 ∧ acc = zeroA) ∨ (0 < i ∧ allA l fr = goA acc (l.drop i) fr)
theorem all_next (hI : AccI l fr acc i) (h0 : ¬ ((i : Int) = 0)) (h : i < l.length) (hc : (joinA acc (oneA (l[i]'h).V fr)).2 = 0) : allA l fr = goA (joinA acc (oneA (l[i]'h).V fr)).1 (l.drop (i + 1)) fr := by
  rcases hI with ⟨h1, _⟩ | ⟨_, h2⟩
  · omega
  · rw [h2, List.drop_eq_getElem_cons h, goA, if_pos hc]
theorem all_stop (hI : AccI l fr acc i) (h0 : ¬ ((i : Int) = 0)) (h : i < l.length) (hc : ¬ (joinA acc (oneA (l[i]'h).V fr)).2 = 0) : allA l fr = (zeroA, (joinA acc (oneA (l[i]'h).V fr)).2) := by
  rcases hI with ⟨h1, _⟩ | ⟨_, h2⟩
  · omega
  · rw [h2, List.drop_eq_getElem_cons h, goA, if_neg hc]
theorem may_zero : mayA zeroA = false := by decide
theorem all_may (hI : AccI l fr acc i) (hi : i = l.length) (hm : mayA acc = true) : allA l fr = (acc, 0) := by
  rcases hI with ⟨h1, h2⟩ | ⟨_, h2⟩
  · rw [h2, may_zero] at hm; cases hm
  · rw [h2, List.drop_eq_nil_of_le (by omega), goA, if_pos hm]
theorem all_not (hI : AccI l fr acc i) (hi : i = l.length) (hm : mayA acc = false) : allA l fr = (zeroA, 1) := by
  rcases hI with ⟨h1, h2⟩ | ⟨_, h2⟩
  · obtain rfl := List.length_eq_zero_iff.1 (by omega : l.length = 0); rfl
  · rw [h2, List.drop_eq_nil_of_le (by omega), goA, hm]; rfl
end
/-! ### The closed form -/
def stepA (a : Agg) (s : Sample) : Agg := ⟨a.From, a.Count + 1, a.Sum + s.V, min a.Min s.V, max a.Max s.V, a.First, s.V⟩
def accL : Agg → List Sample → Agg
  | a, [] => a
  | a, s :: l => accL (stepA a s) l
def J (a b : Agg) : Agg := ⟨a.From, a.Count + b.Count, a.Sum + b.Sum, min a.Min b.Min, max a.Max b.Max, a.First, b.Last⟩
theorem stepA_J (a : Agg) (s : Sample) (f : Int) : stepA a s = J a (oneA s.V f) := rfl
theorem J_assoc (a b c : Agg) : J (J a b) c = J a (J b c) := by
  simp only [J, Int.add_assoc, Agg.mk.injEq, true_and, and_true]; omega
theorem accL_J (a b : Agg) : ∀ l, accL (J a b) l = J a (accL b l)
  | [] => rfl
  | s :: l => by
    have h : stepA (J a b) s = J a (stepA b s) := by rw [stepA_J _ _ 0, stepA_J _ _ 0, J_assoc]
    rw [accL, accL, h, accL_J a (stepA b s) l]
theorem accL_append (a : Agg) : ∀ l r, accL a (l ++ r) = accL (accL a l) r
  | [], r => rfl
  | s :: l, r => by rw [List.cons_append, accL, accL, accL_append]
theorem accL_cons (a : Agg) (s : Sample) (f : Int) (l : List Sample) : accL a (s :: l) = J a (accL (oneA s.V f) l) := by rw [accL, stepA_J a s f, accL_J]
theorem accL_count : ∀ (l : List Sample) (a : Agg), (accL a l).Count = a.Count + l.length
  | [], a => by simp [accL]
  | s :: l, a => by rw [accL, accL_count l]; simp only [stepA, List.length_cons]; omega
theorem joinA_zero {a b : Agg} (h : (joinA a b).2 = 0) : joinA a b = (J a b, 0) ∧ mayP a ∧ mayP b ∧ a.Count + b.Count ≤ 1099511627776 ∧ i64R (a.Sum + b.Sum) := by
  unfold joinA at h ⊢
  split at h
  · rename_i h1
    rw [if_pos h1]
    split at h
    · rename_i h2
      rw [if_pos h2]
      have h3 := addB_true h2
      refine ⟨by rw [addV_eq h3]; rfl, mayA_true h1.1, mayA_true h1.2.1, h1.2.2, h3⟩
    · simp at h
  · simp at h
theorem J_may {a b : Agg} (ha : mayP a) (hb : mayP b) (h : a.Count + b.Count ≤ 1099511627776) : mayP (J a b) := by
  simp only [mayP, J] at *; omega
theorem one_may {v fr : Int} (h0 : 0 ≤ fr) (h1 : fr ≤ 1099511627776) : mayP (oneA v fr) :=
  ⟨Int.le_refl _, by show (1 : Int) ≤ 1099511627776; decide, h0, h1, Int.le_refl _, Int.le_refl _, Int.le_refl _, Int.le_refl _, Int.le_refl _, Or.inr ⟨rfl, rfl⟩⟩
theorem joinA_may {a b : Agg} (ha : mayP a) (hb : mayP b) (h : a.Count + b.Count ≤ 1099511627776) : (joinA a b = (J a b, 0) ∧ i64R (a.Sum + b.Sum)) ∨ (joinA a b = (zeroA, 3) ∧ ¬ i64R (a.Sum + b.Sum)) := by
  unfold joinA
  rw [if_pos ⟨mayA_iff.2 ha, mayA_iff.2 hb, h⟩]
  by_cases h3 : i64R (a.Sum + b.Sum)
  · left
    rw [if_pos (by simpa only [addB, decide_eq_true_eq] using h3), addV_eq h3]; exact ⟨rfl, h3⟩
  · right
    rw [if_neg (by simpa only [addB, decide_eq_true_eq] using h3)]; exact ⟨rfl, h3⟩
theorem go_cases {fr : Int} (f0 : 0 ≤ fr) (f1 : fr ≤ 1099511627776) : ∀ (l : List Sample) (a : Agg), mayP a → a.Count + l.length ≤ 1099511627776 → (goA a l fr = (accL a l, 0) ∧ mayP (accL a l)) ∨ goA a l fr = (zeroA, 3)
  | [], a, ha, _ => Or.inl ⟨by rw [goA, if_pos (mayA_iff.2 ha)]; rfl, ha⟩
  | s :: l, a, ha, hn => by
    have h1 : mayP (oneA s.V fr) := one_may f0 f1
    simp only [List.length_cons] at hn
    rcases joinA_may ha h1 (by simp only []; omega) with ⟨h, _⟩ | ⟨h, _⟩
    · have h2 : mayP (stepA a s) := J_may ha h1 (by simp only []; omega)
      rw [goA, h, if_pos rfl]
      exact go_cases f0 f1 l (stepA a s) h2 (by simp only [stepA]; omega)
    · right; rw [goA, h]; rfl
theorem all_cases {fr : Int} (f0 : 0 ≤ fr) (f1 : fr ≤ 1099511627776) {s : Sample} {l : List Sample} (hn : l.length + 1 ≤ 1000000) : (allA (s :: l) fr = (accL (oneA s.V fr) l, 0) ∧ mayP (accL (oneA s.V fr) l)) ∨ allA (s :: l) fr = (zeroA, 3) :=
  go_cases f0 f1 l _ (one_may f0 f1) (by simp only []; omega)
theorem all_code {fr : Int} (f0 : 0 ≤ fr) (f1 : fr ≤ 1099511627776) {l : List Sample} (h0 : 0 < l.length) (hn : l.length ≤ 1000000) : (allA l fr).2 = 0 ∨ (allA l fr).2 = 3 := by
  cases l with
  | nil => simp at h0
  | cons s l =>
    rcases all_cases f0 f1 (s := s) (l := l) (by simpa using hn) with ⟨h, _⟩ | h
    · left; rw [h]
    · right; rw [h]
theorem all_zero {fr : Int} (f0 : 0 ≤ fr) (f1 : fr ≤ 1099511627776) {s : Sample} {l : List Sample} (hn : l.length + 1 ≤ 1000000) (h : (allA (s :: l) fr).2 = 0) : (allA (s :: l) fr).1 = accL (oneA s.V fr) l := by
  rcases all_cases f0 f1 (s := s) (l := l) hn with ⟨h1, _⟩ | h1
  · rw [h1]
  · rw [h1] at h; cases h
theorem parts_eq {l : List Sample} {k : Nat} (h0 : 0 < k) (hk : k < l.length) (hn : l.length ≤ 1000000) (ha : (allA (l.take k) 7).2 = 0) (hb : (allA (l.drop k) 9).2 = 0) (hc : (allA l 7).2 = 0)
    (hd : (joinA (allA (l.take k) 7).1 (allA (l.drop k) 9).1).2 = 0) : (allA l 7).1 = (joinA (allA (l.take k) 7).1 (allA (l.drop k) 9).1).1 := by
  have e := List.take_append_drop k l
  have e1 : (l.take k).length = k := by rw [List.length_take]; omega
  have e2 : (l.drop k).length = l.length - k := List.length_drop
  rw [(joinA_zero hd).1]
  generalize l.take k = x at *
  generalize l.drop k = y at *
  subst e
  cases x with
  | nil => simp at e1; omega
  | cons s x =>
    cases y with
    | nil => simp at e2; simp at hk; omega
    | cons u y =>
      simp only [List.length_cons, List.length_append] at *
      rw [all_zero (by decide) (by decide) (by omega) ha, all_zero (by decide) (by decide) (by omega) hb]
      rw [List.cons_append] at hc ⊢
      rw [all_zero (by decide) (by decide) (by simp only [List.length_append, List.length_cons]; omega) hc, accL_append, accL_cons _ u 9]
theorem join_three {a b c : Agg} (h1 : (joinA a b).2 = 0) (h2 : (joinA (joinA a b).1 c).2 = 0) (h3 : (joinA b c).2 = 0) (h4 : (joinA a (joinA b c).1).2 = 0) :
    (joinA (joinA a b).1 c).1 = (joinA a (joinA b c).1).1 ∧ mayA (joinA (joinA a b).1 c).1 = true ∧ (joinA (joinA a b).1 c).1.From = a.From ∧ (joinA (joinA a b).1 c).1.First = a.First ∧ (joinA (joinA a b).1 c).1.Last = c.Last := by
  have z1 := joinA_zero h1
  have z2 := joinA_zero h2
  have z3 := joinA_zero h3
  have z4 := joinA_zero h4
  rw [z2.1, z4.1, z1.1, z3.1]
  rw [z1.1] at z2
  exact ⟨J_assoc a b c, mayA_iff.2 (J_may z2.2.1 z2.2.2.1 z2.2.2.2.1), rfl, rfl, rfl⟩
theorem goA_ok {fr : Int} (hf : i64R fr) : ∀ (l : List Sample) (a : Agg), a.ok → (∀ s ∈ l, s.ok) → (goA a l fr).1.ok
  | [], a, ha, _ => by
    rw [goA]; split
    · exact ha
    · exact zeroA_ok
  | s :: l, a, ha, hl => by
    have h1 := oneA_ok (hl s (List.mem_cons_self ..)).2 hf
    rw [goA]; split
    · exact goA_ok hf l _ (joinA_ok ha h1) fun x hx => hl x (List.mem_cons_of_mem _ hx)
    · exact zeroA_ok
theorem allA_ok {fr : Int} (hf : i64R fr) {l : List Sample} (hl : ∀ s ∈ l, s.ok) : (allA l fr).1.ok := by
  cases l with
  | nil => exact zeroA_ok
  | cons s l => exact goA_ok hf l _ (oneA_ok (hl s (List.mem_cons_self ..)).2 hf) fun x hx => hl x (List.mem_cons_of_mem _ hx)
theorem addB_comm (a b : Int) : addB b a = addB a b := by unfold addB; rw [Int.add_comm]
theorem addV_comm (a b : Int) : addV b a = addV a b := by unfold addV; rw [Int.add_comm]
theorem addB_false {a b : Int} (h : addB a b = false) : ¬ i64R (a + b) := by simpa only [addB, decide_eq_false_iff_not] using h
theorem addV_zero {a b : Int} (h : ¬ i64R (a + b)) : addV a b = 0 := if_neg h
end Go.Proofs.Ythanfecefjfbjaa
