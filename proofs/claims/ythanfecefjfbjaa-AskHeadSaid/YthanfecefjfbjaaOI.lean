/- The program's notes of segments (Info): how they read, how two are compared, which comes first. -/
import Derived.Test.YthanfecefjfbjaaC
namespace Go.Proofs.Ythanfecefjfbjaa
structure Info where
  Id : Int
  Tier : Int
  From : Int
  To : Int
  Sum : Int
  deriving DecidableEq
def infoE : Enc Info := ⟨5, fun a => [.int .i64 a.Id, .int .i64 a.Tier, .int .i64 a.From, .int .i64 a.To, .int .u32 a.Sum], fun _ => rfl, by decide,
  fun _ u hu => by simp at hu; rcases hu with rfl | rfl | rfl | rfl | rfl <;> rfl⟩
def infoV (a : Info) : Value := .agg #[.int .i64 a.Id, .int .i64 a.Tier, .int .i64 a.From, .int .i64 a.To, .int .u32 a.Sum]
abbrev u32R (n : Int) : Prop := 0 ≤ n ∧ n ≤ 4294967295
abbrev Info.ok (a : Info) : Prop := i64R a.Id ∧ i64R a.Tier ∧ i64R a.From ∧ i64R a.To ∧ u32R a.Sum
theorem u32R_of {n : Int} (h : IntKind.u32.min ≤ n ∧ n ≤ IntKind.u32.max) : u32R n := by
  have h1 : IntKind.u32.min = 0 := by decide
  have h2 : IntKind.u32.max = 4294967295 := by decide
  rw [h1, h2] at h; exact h
section
variable {P : Program}
theorem opens_info {t : TypeId} {fs : Array Field} (ht : P.underlying t = some (.struct fs)) (hf : IntFields P 0 [.i64, .i64, .i64, .i64, .u32] fs.toList) (hC : P.cellsOf t = 5) : Opens P t infoE Info.ok := by
  intro H enc w base spare held fuel cs x h
  have := int_cells ht hf hC h
  obtain ⟨n0, c0, rfl, hn0, h0⟩ := this.cons
  obtain ⟨n1, c1, rfl, hn1, h1⟩ := h0.cons
  obtain ⟨n2, c2, rfl, hn2, h2⟩ := h1.cons
  obtain ⟨n3, c3, rfl, hn3, h3⟩ := h2.cons
  obtain ⟨n4, c4, rfl, hn4, h4⟩ := h3.cons
  obtain rfl := h4.nil
  exact ⟨⟨n0, n1, n2, n3, n4⟩, rfl, i64R_of hn0, i64R_of hn1, i64R_of hn2, i64R_of hn3, u32R_of hn4⟩
theorem eq_info (d : Nat) {t : TypeId} {fs : Array Field} (ht : P.underlying t = some (.struct fs)) (hf : IntFields P 0 [.i64, .i64, .i64, .i64, .u32] fs.toList) (hp : P.stoodInHeld t = false) (a b : Info) (w : World) :
    (Op.equalIn (d + 1 + 1) t (.agg #[.int .i64 a.Id, .int .i64 a.Tier, .int .i64 a.From, .int .i64 a.To, .int .u32 a.Sum]) (.agg #[.int .i64 b.Id, .int .i64 b.Tier, .int .i64 b.From, .int .i64 b.To, .int .u32 b.Sum])).run P w = .ok (decide (a = b)) w := by
  refine (run_equalIn_agg w (d + 1) t _ _ (by rw [fieldsOf_eq ht]; exact ht) hp).trans ?_
  rewrite [fieldsOf_eq ht]
  refine (eqFields_ints [.i64, .i64, .i64, .i64, .u32] _ 0 d _ _ [a.Id, a.Tier, a.From, a.To, a.Sum] [b.Id, b.Tier, b.From, b.To, b.Sum] hf rfl rfl
    (fun i h h1 => by match i, h with | 0, _ => rfl | 1, _ => rfl | 2, _ => rfl | 3, _ => rfl | 4, _ => rfl) (fun i h h1 => by match i, h with | 0, _ => rfl | 1, _ => rfl | 2, _ => rfl | 3, _ => rfl | 4, _ => rfl)).trans ?_
  congr 1
  rw [decide_eq_decide]
  cases a; cases b; simp
end
/-! ### Which comes first -/
def ahead (a b : Info) : Bool := decide (b.Tier < a.Tier ∨ (a.Tier = b.Tier ∧ (a.From < b.From ∨ (a.From = b.From ∧ a.Id < b.Id))))
theorem ahead_iff {a b : Info} : ahead a b = true ↔ (b.Tier < a.Tier ∨ (a.Tier = b.Tier ∧ (a.From < b.From ∨ (a.From = b.From ∧ a.Id < b.Id)))) := decide_eq_true_iff
/-- a may stand before b. -/
def leI (a b : Info) : Prop := ahead b a = false
theorem leI_iff {a b : Info} : leI a b ↔ (b.Tier < a.Tier ∨ (a.Tier = b.Tier ∧ (a.From < b.From ∨ (a.From = b.From ∧ a.Id ≤ b.Id)))) := by
  unfold leI ahead; rw [decide_eq_false_iff_not]; omega
theorem leI_trans {a b c : Info} (h : leI a b) (h' : leI b c) : leI a c := by rw [leI_iff] at *; omega
theorem leI_total (a b : Info) : leI a b ∨ leI b a := by rw [leI_iff, leI_iff]; omega
theorem leI_refl (a : Info) : leI a a := by rw [leI_iff]; omega
theorem ahead_le {a b : Info} (h : ahead a b = true) : leI a b := by rw [ahead_iff] at h; rw [leI_iff]; omega
theorem le_id {a b : Info} (h : leI a b) (h' : leI b a) : a.Id = b.Id ∧ a.Tier = b.Tier ∧ a.From = b.From := by rw [leI_iff] at *; omega
def SortedI (l : List Info) : Prop := l.Pairwise leI
def keyI (a : Info) : Int × Int × Int := (a.Tier, a.From, a.Id)
def leK (x y : Int × Int × Int) : Prop := y.1 < x.1 ∨ (x.1 = y.1 ∧ (x.2.1 < y.2.1 ∨ (x.2.1 = y.2.1 ∧ x.2.2 ≤ y.2.2)))
theorem leK_key {a b : Info} : leK (keyI a) (keyI b) ↔ leI a b := by rw [leI_iff]; exact Iff.rfl
theorem leK_anti {x y : Int × Int × Int} (h : leK x y) (h' : leK y x) : x = y := by
  unfold leK at *
  obtain ⟨x1, x2, x3⟩ := x
  obtain ⟨y1, y2, y3⟩ := y
  simp only [Prod.mk.injEq] at *
  omega
theorem keys_unique : ∀ {l r : List (Int × Int × Int)}, l.Perm r → l.Pairwise leK → r.Pairwise leK → l = r
  | [], r, hp, _, _ => (List.nil_perm.1 hp).symm
  | a :: l, [], hp, _, _ => by have := hp.length_eq; simp at this
  | a :: l, b :: r, hp, h1, h2 => by
    have e : a = b := by
      rcases List.mem_cons.1 (hp.mem_iff.1 (List.mem_cons_self ..)) with e | e
      · exact e
      · rcases List.mem_cons.1 (hp.mem_iff.2 (List.mem_cons_self ..)) with e' | e'
        · exact e'.symm
        · exact leK_anti (List.rel_of_pairwise_cons h1 e') (List.rel_of_pairwise_cons h2 e)
    subst e
    rw [keys_unique (List.Perm.cons_inv hp) h1.of_cons h2.of_cons]
/-- Two sorted lists of the same notes name the same ids in the same order. -/
theorem ids_unique {l r : List Info} (hp : l.Perm r) (h1 : SortedI l) (h2 : SortedI r) : l.map Info.Id = r.map Info.Id := by
  have hk := keys_unique (hp.map keyI) (List.pairwise_map.2 (h1.imp fun h => leK_key.2 h)) (List.pairwise_map.2 (h2.imp fun h => leK_key.2 h))
  have e : ∀ q : List Info, q.map Info.Id = (q.map keyI).map (fun x => x.2.2) := fun q => by rw [List.map_map]; rfl
  rw [e l, e r, hk]
theorem ahead_yes {a b : Info} (h : b.Tier < a.Tier ∨ (a.Tier = b.Tier ∧ (a.From < b.From ∨ (a.From = b.From ∧ a.Id < b.Id)))) : ahead a b = true := decide_eq_true h
theorem ahead_no {a b : Info} (h : ¬ (b.Tier < a.Tier ∨ (a.Tier = b.Tier ∧ (a.From < b.From ∨ (a.From = b.From ∧ a.Id < b.Id))))) : ahead a b = false := decide_eq_false h
def cmpI (x y : Int) : Int := if x < y then -1 else if y < x then 1 else 0
def orI : List Int → Int
  | [] => 0
  | x :: l => if x = 0 then orI l else x
theorem or_go {l : List Int} {i : Nat} (h : i < l.length) (h0 : l[i]'h = 0) : orI (l.drop i) = orI (l.drop (i + 1)) := by rw [List.drop_eq_getElem_cons h, orI, if_pos h0]
theorem or_at {l : List Int} {i : Nat} (h : i < l.length) (h0 : ¬ l[i]'h = 0) : orI (l.drop i) = l[i]'h := by rw [List.drop_eq_getElem_cons h, orI, if_neg h0]
theorem or_end {l : List Int} {i : Nat} (h : i = l.length) : orI (l.drop i) = 0 := by rw [List.drop_eq_nil_of_le (by omega)]; rfl
def cmpB (a b : Info) : Int := orI [cmpI b.Tier a.Tier, cmpI a.From b.From, cmpI a.Id b.Id]
theorem cmpB_lt {a b : Info} : cmpB a b < 0 ↔ ahead a b = true := by
  rw [ahead_iff]; unfold cmpB
  simp only [orI, cmpI]
  repeat' split
  all_goals omega
/-! ### The reference's way: each is put where it belongs -/
/-- How many of l, from the front, x does not pass by on its way from the end. -/
def seat (x : Info) (l : List Info) : Nat → Nat
  | 0 => 0
  | n + 1 => match l[n]? with
    | some y => if ahead x y = true then seat x l n else n + 1
    | none => n + 1
def insI (l : List Info) (x : Info) : List Info := l.take (seat x l l.length) ++ (x :: l.drop (seat x l l.length))
theorem seat_le (x : Info) (l : List Info) : ∀ n, seat x l n ≤ n
  | 0 => Nat.le_refl 0
  | n + 1 => by
    rw [seat]
    split
    · split
      · exact Nat.le_succ_of_le (seat_le x l n)
      · exact Nat.le_refl _
    · exact Nat.le_refl _
theorem seat_back (x : Info) (l : List Info) : ∀ n, n ≤ l.length → ∀ j (h : j < l.length), seat x l n ≤ j → j < n → ahead x (l[j]'h) = true
  | 0, _, j, _, _, hj => by omega
  | n + 1, hn, j, h, hs, hj => by
    rw [seat, List.getElem?_eq_getElem (by omega)] at hs
    simp only [] at hs
    split at hs
    · rename_i ha
      by_cases e : j = n
      · subst e; exact ha
      · exact seat_back x l n (by omega) j h hs (by omega)
    · omega
theorem seat_stop (x : Info) (l : List Info) : ∀ n, n ≤ l.length → 0 < seat x l n → ∃ h : seat x l n - 1 < l.length, ahead x (l[seat x l n - 1]'h) = false
  | 0, _, h => by simp [seat] at h
  | n + 1, hn, h => by
    rw [seat, List.getElem?_eq_getElem (by omega)] at h ⊢
    simp only [] at h ⊢
    split
    · rename_i ha
      rw [if_pos ha] at h
      exact seat_stop x l n (by omega) h
    · rename_i ha
      exact ⟨by omega, by simpa using ha⟩
theorem ins_perm (l : List Info) (x : Info) : (insI l x).Perm (x :: l) := by
  unfold insI
  exact (List.perm_middle).trans (by rw [List.take_append_drop])
theorem ins_sorted {l : List Info} {x : Info} (h : SortedI l) : SortedI (insI l x) := by
  have hle := seat_le x l l.length
  have hb := seat_back x l l.length (Nat.le_refl _)
  have hs := seat_stop x l l.length (Nat.le_refl _)
  unfold insI
  generalize seat x l l.length = n at *
  have hg : ∀ (i j : Nat) (hi : i < l.length) (hj : j < l.length), i < j → leI (l[i]'hi) (l[j]'hj) := fun i j hi hj hij => List.pairwise_iff_getElem.1 h i j hi hj hij
  refine List.pairwise_append.2 ⟨h.sublist (List.take_sublist ..), List.pairwise_cons.2 ⟨?_, h.sublist (List.drop_sublist ..)⟩, ?_⟩
  · intro y hy
    obtain ⟨j, hj, rfl⟩ := List.mem_iff_getElem.1 hy
    rw [List.getElem_drop]
    rw [List.length_drop] at hj
    exact ahead_le (hb (n + j) (by omega) (by omega) (by omega))
  · intro y hy z hz
    obtain ⟨i, hi, rfl⟩ := List.mem_iff_getElem.1 hy
    rw [List.length_take] at hi
    rw [List.getElem_take]
    rcases List.mem_cons.1 hz with rfl | hz
    · obtain ⟨h1, h2⟩ := hs (by omega)
      by_cases e : i = n - 1
      · subst e; exact h2
      · exact leI_trans (hg i (n - 1) (by omega) h1 (by omega)) h2
    · obtain ⟨j, hj, rfl⟩ := List.mem_iff_getElem.1 hz
      rw [List.getElem_drop]
      rw [List.length_drop] at hj
      exact hg i (n + j) (by omega) (by omega) (by omega)
/-- The notes that are not done, in order. -/
def hasI (l : List Info) (id : Int) : Bool := l.any fun y => decide (y.Id = id)
theorem has_go {l : List Info} {i : Nat} {id : Int} (h : i < l.length) (h0 : ¬ (l[i]'h).Id = id) : hasI (l.drop i) id = hasI (l.drop (i + 1)) id := by
  unfold hasI; rw [List.drop_eq_getElem_cons h, List.any_cons, decide_eq_false h0, Bool.false_or]
theorem has_at {l : List Info} {i : Nat} {id : Int} (h : i < l.length) (h0 : (l[i]'h).Id = id) : hasI (l.drop i) id = true := by
  unfold hasI; rw [List.drop_eq_getElem_cons h, List.any_cons, decide_eq_true h0, Bool.true_or]
theorem has_end {l : List Info} {i : Nat} {id : Int} (h : i = l.length) : hasI (l.drop i) id = false := by rw [List.drop_eq_nil_of_le (by omega)]; rfl
def left (l r : List Info) : List Info := l.filter fun x => !hasI r x.Id
def ordI (l : List Info) : List Info := l.foldl insI []
def bodies (l r : List Info) : List Int := (ordI (left l r)).map Info.Id
theorem fold_ins : ∀ (l acc : List Info), SortedI acc → SortedI (l.foldl insI acc) ∧ (l.foldl insI acc).Perm (l ++ acc)
  | [], acc, h => ⟨h, List.Perm.refl _⟩
  | x :: l, acc, h => by
    obtain ⟨h1, h2⟩ := fold_ins l (insI acc x) (ins_sorted h)
    refine ⟨h1, h2.trans ?_⟩
    exact ((ins_perm acc x).append_left l).trans List.perm_middle
theorem ord_sorted (l : List Info) : SortedI (ordI l) := (fold_ins l [] List.Pairwise.nil).1
theorem ord_perm (l : List Info) : (ordI l).Perm l := by have := (fold_ins l [] List.Pairwise.nil).2; rwa [List.append_nil] at this
/-- Whatever way they are sorted, the ids are these. -/
theorem bodies_of {l r q : List Info} (hp : q.Perm (left l r)) (hs : SortedI q) : q.map Info.Id = bodies l r := ids_unique (hp.trans (ord_perm _).symm) hs (ord_sorted _)
end Go.Proofs.Ythanfecefjfbjaa
