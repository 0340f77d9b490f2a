/- Memory words and one rule for each kind of operation, over any program. -/
import Derived.Test.YthanfecefjfbjaaE
import Derived.Deep.AppendLies
import Derived.Maps.AppendAt
import Derived.Laws.StructEq
namespace Go.Proofs.Ythanfecefjfbjaa
open Go.RowKit

/-! ### Readings -/
/-- How a datum lies in cells. -/
structure Enc (α : Type) where
  size : Nat
  enc : α → List Value
  len : ∀ x, (enc x).length = size
  pos : 0 < size
  one : ∀ x, ∀ u ∈ enc x, u.oneCell' = true

/-- From a place on there are these cells. -/
def Pt (w : World) (b off : Nat) (cs : List Value) : Prop := ∀ j u, cs[j]? = some u → w.cell? ⟨b, off + j, none⟩ = some u
/-- A slice value that reads as a list. -/
def Sl {α : Type} (w : World) (E : Enc α) (v : Value) (xs : List α) : Prop :=
  ∃ A c, v = .slice A xs.length c ∧ xs.length ≤ c ∧ c ≤ maxLen ∧ (xs ≠ [] → ∃ b off, A = some ⟨b, off, none⟩ ∧ ∀ i x, xs[i]? = some x → Pt w b (off + i * E.size) (E.enc x))

theorem lt_of_cell {w : World} {a : Addr} {v : Value} (h : w.cell? a = some v) : a.block < w.heap.size := World.block_lt_of_cell? w a h

theorem Pt.below {w w' : World} {b off : Nat} {cs : List Value} (h : Pt w b off cs) (hb : Below w.heap.size w w') : Pt w' b off cs := fun j u hu => by
  have := h j u hu
  rw [hb.cell (lt_of_cell this)]; exact this
theorem Pt.drop {w : World} {b off : Nat} {cs : List Value} (h : Pt w b off cs) (k : Nat) : Pt w b (off + k) (cs.drop k) := fun j u hu => by
  rw [List.getElem?_drop] at hu
  rw [Nat.add_assoc]; exact h _ u hu
theorem Pt.pre {w : World} {b off : Nat} {cs ds : List Value} (h : Pt w b off (cs ++ ds)) : Pt w b off cs := fun j u hu => h j u (by
  rw [List.getElem?_append_left (List.getElem?_eq_some_iff.1 hu).1]; exact hu)
theorem Sl.below {α : Type} {E : Enc α} {w w' : World} {v : Value} {xs : List α} (h : Sl w E v xs) (hb : Below w.heap.size w w') : Sl w' E v xs := by
  obtain ⟨A, c, h1, h2, h3, h4⟩ := h
  refine ⟨A, c, h1, h2, h3, fun hne => ?_⟩
  obtain ⟨b, off, ha, hp⟩ := h4 hne
  exact ⟨b, off, ha, fun i x hx => (hp i x hx).below hb⟩
theorem Sl.nil {α : Type} (E : Enc α) (w : World) : Sl w E (.slice none 0 0) [] := ⟨none, 0, rfl, Nat.le_refl _, Nat.zero_le _, fun h => absurd rfl h⟩
theorem Sl.len {α : Type} {E : Enc α} {w : World} {v : Value} {xs : List α} (h : Sl w E v xs) : xs.length ≤ 9223372036854775807 := by
  obtain ⟨_, _, _, h2, h3, _⟩ := h
  unfold maxLen at h3; omega
theorem Sl.drop {α : Type} {E : Enc α} {w : World} {A : Option Addr} {c : Nat} {xs : List α} (h : Sl w E (.slice A xs.length c) xs) (k : Nat) (hk : k ≤ xs.length) :
    Sl w E (.slice (if c = k then A else A.map (·.add (k * E.size))) (xs.length - k) (c - k)) (xs.drop k) := by
  obtain ⟨A', c', h1, h2, h3, h4⟩ := h
  injection h1 with e1 e2 e3
  subst e1 e3
  refine ⟨_, c - k, by rw [List.length_drop], by rw [List.length_drop]; omega, by omega, fun hne => ?_⟩
  have hlt : k < xs.length := by
    rcases Nat.lt_or_ge k xs.length with h | h
    · exact h
    · exact absurd (List.drop_eq_nil_of_le h) hne
  obtain ⟨b, off, ha, hp⟩ := h4 (by intro e; subst e; simp at hlt)
  subst ha
  rw [if_neg (by omega)]
  refine ⟨b, off + k * E.size, ?_, fun i x hx => ?_⟩
  · simp [Addr.add_lit]
  · rw [List.getElem?_drop] at hx
    have := hp _ x hx
    rw [Nat.add_mul, ← Nat.add_assoc] at this
    exact this
theorem Sl.take {α : Type} {E : Enc α} {w : World} {A : Option Addr} {c : Nat} {xs : List α} (h : Sl w E (.slice A xs.length c) xs) (k m : Nat) (hk : k ≤ xs.length) (hm : k ≤ m) (hmc : m ≤ c) :
    Sl w E (.slice A k m) (xs.take k) := by
  obtain ⟨A', c', h1, h2, h3, h4⟩ := h
  injection h1 with e1 e2 e3
  subst e1 e3
  refine ⟨A, m, by rw [List.length_take, Nat.min_eq_left hk], by rw [List.length_take]; omega, by omega, fun hne => ?_⟩
  obtain ⟨b, off, ha, hp⟩ := h4 (by intro e; subst e; simp at hne)
  refine ⟨b, off, ha, fun i x hx => hp i x ?_⟩
  rw [List.getElem?_take] at hx
  split at hx
  · exact hx
  · cases hx

/-! ### What the call itself made -/
inductive Item where
  | row (T size : Nat) (v : Value) (n : Nat) (cs : List Value)
  | blk (g T : Nat) (cs : Array Value)
  | rd (g T : Nat) (cs : Array Value) (fr : Nat × Nat)
  | txt (T size : Nat) (v : Value) (n : Nat) (cs : List Value)
def Item.block : Item → Option Nat
  | .row _ _ v _ _ => v.ownBlock
  | .blk g _ _ => some g
  | .rd g _ _ _ => some g
  | .txt _ _ v _ _ => v.ownBlock
def Item.holds (base : Nat) (w : World) : Item → Prop
  | .row T size v n cs => w.ownsRow base T size v n cs
  | .blk g T cs => base ≤ g ∧ w.heap[g]? = some (.cells cs T (0, 0))
  | .rd g T cs fr => base ≤ g ∧ w.heap[g]? = some (.cells cs T fr)
  | .txt T size v n cs => (v = .slice none 0 0 ∧ n = 0 ∧ cs = []) ∨ ∃ g cap cur fr, v = .slice (some ⟨g, 0, none⟩) n cap ∧ base ≤ g ∧ w.heap[g]? = some (.cells cur T fr) ∧ n ≤ cap ∧ cap ≤ maxLen ∧ cur.toList.take (n * size) = cs
/-- A row that is read only. -/
abbrev txtT {α : Type} (T : Nat) (E : Enc α) (v : Value) (xs : List α) : Item := .txt T E.size v xs.length (xs.flatMap E.enc)
abbrev rowT {α : Type} (T : Nat) (E : Enc α) (v : Value) (xs : List α) : Item := .row T E.size v xs.length (xs.flatMap E.enc)

theorem Item.lt {base : Nat} {w : World} {i : Item} (h : i.holds base w) : ∀ k, i.block = some k → base ≤ k ∧ k < w.heap.size := by
  intro k hk
  cases i with
  | row T size v n cs => exact World.ownsRow.lt h k hk
  | blk g T cs =>
    simp only [Item.block, Option.some.injEq] at hk
    subst hk
    exact ⟨h.1, (Array.getElem?_eq_some_iff.1 h.2).1⟩
  | rd g T cs fr =>
    simp only [Item.block, Option.some.injEq] at hk
    subst hk
    exact ⟨h.1, (Array.getElem?_eq_some_iff.1 h.2).1⟩
  | txt T size v n cs =>
    rcases h with ⟨rfl, _⟩ | ⟨g, cap, cur, fr, rfl, h1, h2, _⟩
    · cases hk
    simp only [Item.block, Value.ownBlock, Option.some.injEq] at hk
    subst hk
    exact ⟨h1, (Array.getElem?_eq_some_iff.1 h2).1⟩
theorem Item.kept {base : Nat} {w w' : World} {i : Item} (h : i.holds base w) (hk : ∀ k, i.block = some k → w'.heap[k]? = w.heap[k]?) : i.holds base w' := by
  cases i with
  | row T size v n cs =>
    refine ⟨h.1, ?_⟩
    rcases h.2 with hn | ⟨g, cap, cur, rfl, hb, hg, rest⟩
    · exact .inl hn
    · exact .inr ⟨g, cap, cur, rfl, hb, by rw [hk g rfl]; exact hg, rest⟩
  | blk g T cs => exact ⟨h.1, by rw [hk g rfl]; exact h.2⟩
  | rd g T cs fr => exact ⟨h.1, by rw [hk g rfl]; exact h.2⟩
  | txt T size v n cs =>
    rcases h with h | ⟨g, cap, cur, fr, rfl, h1, h2, rest⟩
    · exact .inl h
    · exact .inr ⟨g, cap, cur, fr, rfl, h1, by rw [hk g rfl]; exact h2, rest⟩
theorem Item.base {base base' : Nat} {w : World} {i : Item} (h : i.holds base w) (hb : base' ≤ base) : i.holds base' w := by
  cases i with
  | row T size v n cs =>
    refine ⟨h.1, ?_⟩
    rcases h.2 with hn | ⟨g, cap, cur, e, h1, rest⟩
    · exact .inl hn
    · exact .inr ⟨g, cap, cur, e, by omega, rest⟩
  | blk g T cs => exact ⟨Nat.le_trans hb h.1, h.2⟩
  | rd g T cs fr => exact ⟨Nat.le_trans hb h.1, h.2⟩
  | txt T size v n cs =>
    rcases h with h | ⟨g, cap, cur, fr, e, h1, rest⟩
    · exact .inl h
    · exact .inr ⟨g, cap, cur, fr, e, Nat.le_trans hb h1, rest⟩

def Item.apart (i j : Item) : Prop := ∀ k, i.block = some k → j.block ≠ some k
/-- The state of a call that began in w0: what was there is as it was; these things of its own are there, each in a block of its own. -/
structure St (w0 w : World) (L : List Item) : Prop where
  below : Below w0.heap.size w0 w
  all : ∀ i ∈ L, i.holds w0.heap.size w
  apart : L.Pairwise Item.apart

section
variable {w0 w w' : World} {L L' : List Item}
theorem St.start (w : World) : St w w [] := ⟨Below.refl _ _, by simp, .nil⟩
theorem St.of_below (h : Below w0.heap.size w0 w) : St w0 w [] := ⟨h, by simp, .nil⟩
theorem St.at (h : St w0 w L) (i : Nat) {it : Item} (hi : L[i]? = some it) : it.holds w0.heap.size w := h.all it (List.mem_of_getElem? hi)
theorem St.sub (h : St w0 w L) (hs : L'.Sublist L) : St w0 w L' := ⟨h.below, fun i hi => h.all i (hs.subset hi), h.apart.sublist hs⟩
theorem St.bare (h : St w0 w L) : St w0 w [] := h.sub (List.nil_sublist _)
theorem St.size (h : St w0 w L) : w0.heap.size ≤ w.heap.size := h.below.size
theorem St.ext (h : St w0 w L) (hb : Below w.heap.size w w') : St w0 w' L :=
  ⟨h.below.trans (hb.mono h.below.size), fun i hi => Item.kept (h.all i hi) fun k hk => hb.block k (Item.lt (h.all i hi) k hk).2, h.apart⟩
/-- Behind a call that itself ended in a state. -/
theorem St.call (h : St w0 w L) (h' : St w w' L') : St w0 w' (L' ++ L) := by
  have hx := h.ext h'.below
  refine ⟨hx.below, fun i hi => ?_, ?_⟩
  · rcases List.mem_append.1 hi with hi | hi
    · exact Item.base (h'.all i hi) h.size
    · exact hx.all i hi
  · refine List.pairwise_append.2 ⟨h'.apart, h.apart, fun i hi j hj k hk e => ?_⟩
    have h1 := Item.lt (h'.all i hi) k hk
    have h2 := Item.lt (h.all j hj) k e
    omega
theorem St.drewW (h : St w0 w L) : St w0 w.drew L := h.ext (Below.refl _ _).drew
theorem St.new (h : St w0 w L) (T : Nat) (cs : Array Value) : St w0 (w.alloc (.cells cs T)) (.blk w.heap.size T cs :: L) := by
  refine St.call (L' := [.blk w.heap.size T cs]) h ⟨(Below.refl _ _).alloc (Nat.le_refl _) _, fun i hi => ?_, List.pairwise_singleton _ _⟩
  rw [List.mem_singleton] at hi
  subst hi
  exact ⟨Nat.le_refl _, heap_alloc_new w _⟩
theorem St.newRd (h : St w0 w L) (T : Nat) (cs : Array Value) (fr : Nat × Nat) : St w0 (w.alloc (.cells cs T fr)) (.rd w.heap.size T cs fr :: L) := by
  refine St.call (L' := [.rd w.heap.size T cs fr]) h ⟨(Below.refl _ _).alloc (Nat.le_refl _) _, fun i hi => ?_, List.pairwise_singleton _ _⟩
  rw [List.mem_singleton] at hi
  subst hi
  exact ⟨Nat.le_refl _, heap_alloc_new w _⟩
/-- A row that is nil. -/
theorem St.nilRow {α : Type} (h : St w0 w L) (T : Nat) (E : Enc α) : St w0 w (rowT T E (.slice none 0 0) [] :: L) := by
  refine ⟨h.below, fun i hi => ?_, List.pairwise_cons.2 ⟨fun j _ k hk => (by cases hk), h.apart⟩⟩
  rcases List.mem_cons.1 hi with rfl | hi
  · exact World.ownsRow_nil w _ T E.size
  · exact h.all i hi
/-- A new row. -/
theorem St.newRow {α : Type} (h : St w0 w L) (T : Nat) (E : Enc α) (xs : List α) (cur : Array Value) (cap : Nat) (hc : cap ≤ maxLen) (hn : xs.length ≤ cap) (hs : cur.size = cap * E.size) (ht : cur.toList.take (xs.length * E.size) = xs.flatMap E.enc) (hl : (xs.flatMap E.enc).length = xs.length * E.size) :
    St w0 (w.alloc (.cells cur T)) (rowT T E (.slice (some ⟨w.heap.size, 0, none⟩) xs.length cap) xs :: L) := by
  refine St.call (L' := [rowT T E (.slice (some ⟨w.heap.size, 0, none⟩) xs.length cap) xs]) h ⟨(Below.refl _ _).alloc (Nat.le_refl _) _, fun i hi => ?_, List.pairwise_singleton _ _⟩
  rw [List.mem_singleton] at hi
  subst hi
  exact ⟨hl, .inr ⟨w.heap.size, cap, cur, rfl, Nat.le_refl _, heap_alloc_new w _, hn, hc, hs, ht⟩⟩
/-- One thing is turned into another that lies in its own block or in a new one; nothing else is written. -/
theorem St.turn (h : St w0 w L) (i : Nat) {it : Item} (hi : L[i]? = some it) (it' : Item) (hg : w.grownBy w' it.block) (hn : it'.holds w0.heap.size w')
    (hb : it'.block = it.block ∨ ∀ k, it'.block = some k → w.heap.size ≤ k) : St w0 w' (L.set i it') := by
  have hit := h.at i hi
  have hlt : i < L.length := (List.getElem?_eq_some_iff.1 hi).1
  have hbel : Below w0.heap.size w0 w' := h.below.grown hg h.size fun k hk => (Item.lt hit k hk).1
  have hap := List.pairwise_iff_getElem.1 h.apart
  have hgi : L[i] = it := (List.getElem?_eq_some_iff.1 hi).2
  have far : ∀ j (hj : j < L.length), j ≠ i → ∀ k, (L[j]).block = some k → it.block ≠ some k := by
    intro j hj hne k hk e
    rcases Nat.lt_or_gt_of_ne hne with h1 | h1
    · exact hap j i hj hlt h1 k hk (by rw [hgi]; exact e)
    · exact hap i j hlt hj h1 k (by rw [hgi]; exact e) hk
  have keep : ∀ j (hj : j < L.length), j ≠ i → (L[j]).holds w0.heap.size w' := fun j hj hne =>
    Item.kept (h.all _ (List.getElem_mem hj)) fun k hk => hg.block k (Item.lt (h.all _ (List.getElem_mem hj)) k hk).2 fun e => far j hj hne k hk e.symm
  have far' : ∀ j (hj : j < L.length), j ≠ i → ∀ k, (L[j]).block = some k → it'.block ≠ some k := by
    intro j hj hne k hk e
    rcases hb with hb | hb
    · exact far j hj hne k hk (hb ▸ e)
    · have := hb k e
      have := (Item.lt (h.all _ (List.getElem_mem hj)) k hk).2
      omega
  refine ⟨hbel, fun x hx => ?_, List.pairwise_iff_getElem.2 fun a b ha hb' hab => ?_⟩
  · obtain ⟨j, hj, e⟩ := List.mem_iff_getElem.1 hx
    rw [List.getElem_set] at e
    split at e
    · subst e; exact hn
    · rename_i hne
      subst e
      exact keep j (by simpa using hj) (Ne.symm hne)
  · simp only [List.length_set] at ha hb'
    rw [List.getElem_set, List.getElem_set]
    intro k hk e
    split at hk <;> split at e
    · omega
    · rename_i h1 h2
      exact far' b hb' (Ne.symm h2) k e hk
    · rename_i h1 h2
      exact far' a ha (Ne.symm h1) k hk e
    · exact hap a b ha hb' hab k hk e
end

theorem Enc.flat {α : Type} (E : Enc α) : ∀ (ys : List α), (ys.flatMap E.enc).length = ys.length * E.size
  | [] => by simp
  | y :: ys => by simp [List.flatMap_cons, E.len, Enc.flat E ys, Nat.add_mul, Nat.add_comm]
theorem Enc.oneAll {α : Type} (E : Enc α) (ys : List α) : ∀ u ∈ ys.flatMap E.enc, u.oneCell' = true := fun u hu => by
  obtain ⟨y, _, h⟩ := List.mem_flatMap.1 hu
  exact E.one y u h
theorem Enc.split {α : Type} (E : Enc α) (xs : List α) (i : Nat) (hi : i < xs.length) : xs.flatMap E.enc = (xs.take i).flatMap E.enc ++ (E.enc xs[i] ++ (xs.drop (i + 1)).flatMap E.enc) := by
  conv => lhs; rw [← List.take_append_drop i xs, List.flatMap_append]
  rw [List.drop_eq_getElem_cons hi, List.flatMap_cons]
theorem Enc.splitLen {α : Type} (E : Enc α) (xs : List α) (i : Nat) (hi : i < xs.length) : ((xs.take i).flatMap E.enc).length = i * E.size := by
  rw [E.flat, List.length_take, Nat.min_eq_left (Nat.le_of_lt hi)]
/-- The cells of a slice, flat. -/
theorem Sl.flat {α : Type} {E : Enc α} {w : World} {b off : Nat} : ∀ {xs : List α} {o : Nat}, (∀ i x, xs[i]? = some x → Pt w b (off + o + i * E.size) (E.enc x)) → ∀ j u, (xs.flatMap E.enc)[j]? = some u → w.cell? ⟨b, off + o + j, none⟩ = some u
  | [], _, _, j, u, hu => by simp at hu
  | x :: xs, o, h, j, u, hu => by
    rw [List.flatMap_cons] at hu
    by_cases hj : j < (E.enc x).length
    · rw [List.getElem?_append_left hj] at hu
      have := h 0 x rfl j u hu
      simpa using this
    · rw [List.getElem?_append_right (by omega)] at hu
      rw [E.len] at hu hj
      have ih := Sl.flat (E := E) (w := w) (b := b) (off := off) (xs := xs) (o := o + E.size) (fun i y hy => by
        have := h (i + 1) y (by simpa using hy)
        rw [Nat.add_mul, Nat.one_mul] at this
        have e : off + (o + E.size) + i * E.size = off + o + (i * E.size + E.size) := by omega
        rw [e]; exact this) _ _ hu
      have e : off + (o + E.size) + (j - E.size) = off + o + j := by omega
      rw [e] at ih; exact ih
theorem ownsRow_sl {α : Type} {E : Enc α} {w : World} {base T : Nat} {v : Value} {xs : List α} (h : w.ownsRow base T E.size v xs.length (xs.flatMap E.enc)) : Sl w E v xs := by
  rcases h.2 with ⟨rfl, hl⟩ | ⟨g, cap, cur, rfl, hb, hg, hnc, hcm, hcs, htake⟩
  · have : xs = [] := List.eq_nil_of_length_eq_zero hl
    subst this
    exact Sl.nil E w
  · refine ⟨_, cap, rfl, hnc, hcm, fun _ => ⟨g, 0, rfl, fun i x hx j u hu => ?_⟩⟩
    have hi : i < xs.length := (List.getElem?_eq_some_iff.1 hx).1
    have hsplit := E.split xs i hi
    rw [(List.getElem?_eq_some_iff.1 hx).2] at hsplit
    have hj : j < (E.enc x).length := (List.getElem?_eq_some_iff.1 hu).1
    have hlt := E.splitLen xs i hi
    have hget : (xs.flatMap E.enc)[i * E.size + j]? = some u := by
      rw [hsplit, List.getElem?_append_right (by omega), hlt, Nat.add_sub_cancel_left, List.getElem?_append_left hj]
      exact hu
    rw [← htake, List.getElem?_take] at hget
    rw [cell_of_row w g _ cur T (0, 0) hg]
    split at hget
    · simpa using hget
    · cases hget
theorem St.sl {α : Type} {E : Enc α} {w0 w : World} {L : List Item} (h : St w0 w L) (i : Nat) {T : Nat} {v : Value} {xs : List α} (hi : L[i]? = some (rowT T E v xs)) : Sl w E v xs :=
  ownsRow_sl (h.at i hi)
theorem txt_sl {α : Type} {E : Enc α} {w : World} {base T : Nat} {v : Value} {xs : List α} (h : (txtT T E v xs).holds base w) : Sl w E v xs := by
  rcases h with ⟨rfl, hl, _⟩ | ⟨g, cap, cur, fr, rfl, hb, hg, hnc, hcm, htake⟩
  · obtain rfl := List.eq_nil_of_length_eq_zero hl
    exact Sl.nil E w
  refine ⟨_, cap, rfl, hnc, hcm, fun _ => ⟨g, 0, rfl, fun i x hx j u hu => ?_⟩⟩
  have hi : i < xs.length := (List.getElem?_eq_some_iff.1 hx).1
  have hsplit := E.split xs i hi
  rw [(List.getElem?_eq_some_iff.1 hx).2] at hsplit
  have hj : j < (E.enc x).length := (List.getElem?_eq_some_iff.1 hu).1
  have hlt := E.splitLen xs i hi
  have hget : (xs.flatMap E.enc)[i * E.size + j]? = some u := by
    rw [hsplit, List.getElem?_append_right (by omega), hlt, Nat.add_sub_cancel_left, List.getElem?_append_left hj]
    exact hu
  rw [← htake, List.getElem?_take] at hget
  rw [cell_of_row w g _ cur T fr hg]
  split at hget
  · simpa using hget
  · cases hget
theorem St.slT {α : Type} {E : Enc α} {w0 w : World} {L : List Item} (h : St w0 w L) (i : Nat) {T : Nat} {v : Value} {xs : List α} (hi : L[i]? = some (txtT T E v xs)) : Sl w E v xs :=
  txt_sl (h.at i hi)
theorem St.cell {w0 w : World} {L : List Item} (h : St w0 w L) (i : Nat) {g T : Nat} {cs : Array Value} (hi : L[i]? = some (.blk g T cs)) : Pt w g 0 cs.toList := fun j u hu => by
  rw [cell_of_row w g _ cs T (0, 0) (h.at i hi).2]
  simpa using hu

end Go.Proofs.Ythanfecefjfbjaa
