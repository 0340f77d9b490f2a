/- The library of this proof, part 2: Segments, on lists of bytes. The steps of the reader of aggregates, its answers by names. Two lists, place by place. A place of an array that stands in a block. Files of segments: what the program's steps come to. The program's notes of segments (Info): how they read, how two are compared, which comes first. Sorting notes by their span: the insertion sort. The first note of a kind. Of notes of one span the finest: by steps, in order. The first element of a kind, of whatever type. Windows of an answer; which segments are asked; what they answer. A segment rolled up. Segments rolled up together; what is told of a file. What the laws of segments need. What the program tells of a few windows. Windows of rising samples fail by a sum alone. Answers without segments. Segments of tier 0 that are made of samples that rise. Windows of windows: small ones never fail; two samples that change places do not rise. Step by step or at once: windows of windows are the windows of the coarser tier. Rows of segments: that they may be, and what they are rolled up to. The laws of segments, in plain numbers. Which block a slot names; two segments; sums of a list's front. Short names for what walks write often. -/
import Derived.Test.YtgibfidebdgffaaDoorXLA
section
namespace Go.Proofs.YtgibfidebdgffaaDoor
abbrev zeroG : SegD := ⟨0, 0, 0, 0, [], []⟩
abbrev numsG (s : SegD) : List Int := [s.Id, s.Tier, s.From, s.To - s.From]
def headG (s : SegD) : List UInt8 := [84, 75] ++ (numsG s).flatMap put
def blockG (s : SegD) : List UInt8 := if 0 < s.Tier then (encA s.Tier s.Aggs).1 else (encS s.Samples).1
def bodyG (s : SegD) : List UInt8 := headG s ++ blockG s
def bytesG (s : SegD) : List UInt8 := bodyG s ++ four (more 1 (bodyG s))
def encG (s : SegD) : List UInt8 × Int := if mayS s = false then ([], 1) else if 4000 < ((bytesG s).length : Int) then ([], 8) else (bytesG s, 0)
theorem encG_no {s : SegD} (h : mayS s = false) : encG s = ([], 1) := if_pos h
theorem encG_full {s : SegD} (h : mayS s = true) (h1 : 4000 < ((bytesG s).length : Int)) : encG s = ([], 8) := by unfold encG; rw [if_neg (by rw [h]; decide), if_pos h1]
theorem encG_yes {s : SegD} (h : mayS s = true) (h1 : ¬ 4000 < ((bytesG s).length : Int)) : encG s = (bytesG s, 0) := by unfold encG; rw [if_neg (by rw [h]; decide), if_neg h1]
theorem encG_of {s : SegD} {b : List UInt8} (h : encG s = (b, 0)) : mayS s = true ∧ bytesG s = b ∧ b.length ≤ 4000 := by
  unfold encG at h
  split at h
  · cases h
  split at h
  · cases h
  rename_i h1 h2
  obtain ⟨rfl, _⟩ := Prod.mk.inj h
  exact ⟨by simpa using h1, rfl, by omega⟩
theorem may_nums {s : SegD} (h : mayS s = true) : 1 ≤ s.Id ∧ s.Id ≤ 1073741824 ∧ 0 ≤ s.Tier ∧ s.Tier < 4 ∧ 0 ≤ s.From ∧ s.From < s.To ∧ s.To ≤ 1099511627776 := headS_iff.1 (may_iff.1 h).1
theorem may_block {s : SegD} (h : mayS s = true) : (s.Tier = 0 ∧ s.Aggs = [] ∧ okS s.Samples = true) ∨ (0 < s.Tier ∧ s.Samples = [] ∧ okA s.Tier s.Aggs = true) := by
  have hn := may_nums h
  rcases (may_iff.1 h).2 with ⟨h0, h1⟩ | ⟨h0, h1⟩
  · have := mayRaw_iff.1 h1
    exact Or.inl ⟨h0, this.1, okS_iff.2 ⟨this.2.2.2.1, by omega⟩⟩
  · have := mayUp_iff.1 h1
    exact Or.inr ⟨by omega, this.1, okA_iff.2 ⟨this.2.2.2.1, by omega⟩⟩
theorem block_raw {s : SegD} (h0 : s.Tier = 0) : blockG s = (encS s.Samples).1 := by unfold blockG; rw [if_neg (by omega)]
theorem block_up {s : SegD} (h0 : 0 < s.Tier) : blockG s = (encA s.Tier s.Aggs).1 := by unfold blockG; rw [if_pos h0]
theorem head_eq (s : SegD) : headG s = [84, 75] ++ (put s.Id ++ (put s.Tier ++ (put s.From ++ put (s.To - s.From)))) := by simp [headG, numsG]
theorem segD_eq {s t : SegD} (h1 : s.Id = t.Id) (h2 : s.Tier = t.Tier) (h3 : s.From = t.From) (h4 : s.To = t.To) (h5 : s.Samples = t.Samples) (h6 : s.Aggs = t.Aggs) : s = t := by
  cases s; cases t; simp only at *; subst h1 h2 h3 h4 h5 h6; rfl
theorem body_split {s t : SegD} {r r' : List UInt8} (hs : mayS s = true) (ht : mayS t = true) (os : s.ok) (ot : t.ok) (h : bodyG s ++ r = bodyG t ++ r') : s = t ∧ r = r' := by
  have ns := may_nums hs
  have nt := may_nums ht
  unfold bodyG at h
  rw [head_eq, head_eq] at h
  simp only [List.append_assoc] at h
  have h := List.append_cancel_left h
  obtain ⟨e1, h⟩ := put_split (by omega) (by omega) (by omega) (by omega) h
  obtain ⟨e2, h⟩ := put_split (by omega) (by omega) (by omega) (by omega) h
  obtain ⟨e3, h⟩ := put_split (by omega) (by omega) (by omega) (by omega) h
  obtain ⟨e4, h⟩ := put_split (by omega) (by omega) (by omega) (by omega) h
  rcases may_block hs with ⟨a0, a1, a2⟩ | ⟨a0, a1, a2⟩
  · rcases may_block ht with ⟨b0, b1, b2⟩ | ⟨b0, b1, b2⟩
    · rw [block_raw a0, block_raw b0, encS_yes a2, encS_yes b2] at h
      obtain ⟨e5, e6⟩ := putS_split a2 b2 os.2.2.2.2.1 ot.2.2.2.2.1 h
      exact ⟨segD_eq e1 e2 e3 (by omega) e5 (by rw [a1, b1]), e6⟩
    · omega
  · rcases may_block ht with ⟨b0, b1, b2⟩ | ⟨b0, b1, b2⟩
    · omega
    · rw [block_up a0, block_up b0, encA_yes a2, encA_yes b2, e2] at h
      rw [e2] at a2
      obtain ⟨e5, e6⟩ := putA_split a2 b2 os.2.2.2.2.2 ot.2.2.2.2.2 h
      exact ⟨segD_eq e1 e2 e3 (by omega) (by rw [a1, b1]) e5, e6⟩
theorem bytes_prefix {s t : SegD} {r : List UInt8} (hs : mayS s = true) (ht : mayS t = true) (os : s.ok) (ot : t.ok) (h : bytesG s ++ r = bytesG t) : s = t ∧ r = [] := by
  have h2 : bodyG s ++ (four (more 1 (bodyG s)) ++ r) = bodyG t ++ four (more 1 (bodyG t)) := by rw [← List.append_assoc]; exact h
  obtain ⟨e, h3⟩ := body_split hs ht os ot h2
  subst e
  have := congrArg List.length h3
  simp only [List.length_append, four_len] at this
  exact ⟨rfl, List.eq_nil_of_length_eq_zero (by omega)⟩
theorem bytes_inj {s t : SegD} (hs : mayS s = true) (ht : mayS t = true) (os : s.ok) (ot : t.ok) (h : bytesG s = bytesG t) : s = t := (bytes_prefix (r := []) hs ht os ot (by rw [List.append_nil]; exact h)).1
def DecG (b : List UInt8) (s : SegD) (c : Int) : Prop := (c = 0 ∧ s.ok ∧ encG s = (b, 0)) ∨ (c = 2 ∧ s = zeroG ∧ ∀ d : SegD, d.ok → encG d ≠ (b, 0))
theorem zeroG_ok : zeroG.ok := by decide
theorem decG_enc {s x : SegD} {c : Int} (h : DecG (encG s).1 x c) (he : (encG s).2 = 0) (ho : s.ok) : x = s ∧ c = 0 := by
  have hs : encG s = ((encG s).1, 0) := Prod.ext rfl he
  rcases h with ⟨h0, h1, h2⟩ | ⟨h0, h1, h2⟩
  · obtain ⟨m1, b1, _⟩ := encG_of hs
    obtain ⟨m2, b2, _⟩ := encG_of h2
    exact ⟨bytes_inj m2 m1 h1 ho (b2.trans b1.symm), h0⟩
  · exact absurd hs (h2 s ho)
theorem decG_two {b : List UInt8} {x : SegD} {c : Int} (h : DecG b x c) (hn : ∀ d : SegD, d.ok → encG d ≠ (b, 0)) : c = 2 := by
  rcases h with ⟨_, h1, h2⟩ | ⟨h0, _, _⟩
  · exact absurd h2 (hn x h1)
  · exact h0
theorem decG_cut {s x : SegD} {c : Int} {k : Nat} (h : DecG ((encG s).1.take k) x c) (he : (encG s).2 = 0) (ho : s.ok) (hk : k < (encG s).1.length) : c = 2 := by
  have hs : encG s = ((encG s).1, 0) := Prod.ext rfl he
  obtain ⟨m1, b1, _⟩ := encG_of hs
  refine decG_two h fun d hd e => ?_
  obtain ⟨m2, b2, _⟩ := encG_of e
  have h2 := (bytes_prefix (r := (encG s).1.drop k) m2 m1 hd ho (by rw [b2, b1, List.take_append_drop])).2
  have := congrArg List.length h2
  rw [List.length_drop, List.length_nil] at this; omega
/-! ### Lengths -/
theorem flat_put_len : ∀ (l : List Int), (l.flatMap put).length ≤ 10 * l.length ∧ l.length ≤ (l.flatMap put).length
  | [] => ⟨Nat.le_refl _, Nat.le_refl _⟩
  | a :: l => by
    have := flat_put_len l
    have := put_length a
    rw [List.flatMap_cons, List.length_append, List.length_cons]; omega
theorem head_len (s : SegD) : 6 ≤ (headG s).length ∧ (headG s).length ≤ 42 := by
  have h := flat_put_len (numsG s)
  have e : (numsG s).length = 4 := rfl
  rw [e] at h
  unfold headG
  rw [List.length_append]
  show 6 ≤ 2 + _ ∧ 2 + _ ≤ 42
  omega
theorem block_len {s : SegD} (h : mayS s = true) : (blockG s).length ≤ 5000 := by
  rcases may_block h with ⟨a0, a1, a2⟩ | ⟨a0, a1, a2⟩
  · rw [block_raw a0, encS_yes a2]
    have := putS_length64 (okS_iff.1 a2).2
    simp only []; omega
  · rw [block_up a0]; exact encA_len64 a2
theorem bytes_len (s : SegD) : (bytesG s).length = (headG s).length + (blockG s).length + 4 := by simp [bytesG, bodyG]; omega
theorem raw_enc {s : SegD} (h : mayS s = true) (h0 : s.Tier = 0) : encG s = (bytesG s, 0) := by
  refine encG_yes h ?_
  have h1 := head_len s
  have h2 := bytes_len s
  rcases may_block h with ⟨a0, a1, a2⟩ | ⟨a0, a1, a2⟩
  · have := putS_length64 (okS_iff.1 a2).2
    rw [block_raw a0, encS_yes a2] at h2
    simp only [] at h2; omega
  · omega
theorem raw_len {s : SegD} (h : mayS s = true) (h0 : s.Tier = 0) : 7 ≤ (encG s).1.length ∧ (encG s).1.length ≤ 4000 := by
  have e := raw_enc h h0
  have := (encG_of e).2.2
  have h1 := head_len s
  have h2 := bytes_len s
  rw [e]; simp only []; omega
/-! ### What Put's loop comes to -/
theorem head_go {s : SegD} {i : Nat} {done : List UInt8} (hd : done = [84, 75] ++ ((numsG s).take i).flatMap put) (h : i < 4) : done ++ put ((numsG s)[i]'(by exact h)) = [84, 75] ++ ((numsG s).take (i + 1)).flatMap put := by
  rw [hd, List.take_succ_eq_append_getElem (show i < (numsG s).length from h), List.flatMap_append, List.append_assoc]; simp
theorem head_done {s : SegD} {i : Nat} {done : List UInt8} (hd : done = [84, 75] ++ ((numsG s).take i).flatMap put) (h : i = 4) : done = headG s := by
  subst h; exact hd
/-! ### What Get's loop comes to -/
def IsG (b : List UInt8) (d : SegD) : Prop := d.ok ∧ mayS d = true ∧ bytesG d = b
theorem isG_of {b : List UInt8} {d : SegD} (ho : d.ok) (h : encG d = (b, 0)) : IsG b d := ⟨ho, (encG_of h).1, (encG_of h).2.1⟩
theorem isG_len {b : List UInt8} {d : SegD} (h : IsG b d) : 6 ≤ b.length - 4 ∧ 10 ≤ b.length := by
  have h1 := head_len d
  have h2 := bytes_len d
  rw [h.2.2] at h2; omega
theorem isG_body {b : List UInt8} {d : SegD} (h : IsG b d) : b.take (b.length - 4) = bodyG d := by
  have h2 : b.length = (bodyG d).length + 4 := by rw [← h.2.2]; simp [bytesG]
  rw [h2, Nat.add_sub_cancel, ← h.2.2]; unfold bytesG; exact List.take_left ..
theorem isG_first {b : List UInt8} {d : SegD} (h : IsG b d) : b.getD 0 0 = 84 ∧ b.getD 1 0 = 75 := by
  rw [← h.2.2]; unfold bytesG bodyG headG; exact ⟨rfl, rfl⟩
def posG (d : SegD) (i : Nat) : Int := 2 + ((((numsG d).take i).flatMap put).length : Int)
theorem isG_get {b : List UInt8} {d : SegD} {i : Nat} (h : IsG b d) (hi : i < 4) : get (b.take (b.length - 4)) (posG d i) = ((numsG d)[i]'(by exact hi), posG d (i + 1), 0) := by
  have hn := may_nums h.2.1
  have hlt : i < (numsG d).length := hi
  have hr : 0 ≤ (numsG d)[i]'hlt ∧ (numsG d)[i]'hlt ≤ 1099511627776 := by
    have : i = 0 ∨ i = 1 ∨ i = 2 ∨ i = 3 := by omega
    rcases this with rfl | rfl | rfl | rfl
    · show 0 ≤ d.Id ∧ d.Id ≤ _; omega
    · show 0 ≤ d.Tier ∧ d.Tier ≤ _; omega
    · show 0 ≤ d.From ∧ d.From ≤ _; omega
    · show 0 ≤ d.To - d.From ∧ d.To - d.From ≤ _; omega
  rw [isG_body h]
  have e : bodyG d = ([84, 75] ++ ((numsG d).take i).flatMap put) ++ (put ((numsG d)[i]'hlt) ++ (((numsG d).drop (i + 1)).flatMap put ++ blockG d)) := by
    unfold bodyG headG
    have : (numsG d) = (numsG d).take i ++ ((numsG d)[i]'hlt :: (numsG d).drop (i + 1)) := by rw [← List.drop_eq_getElem_cons hlt, List.take_append_drop]
    conv => lhs; rw [this]
    rw [List.flatMap_append, List.flatMap_cons]
    simp only [List.append_assoc]
  have e2 : posG d (i + 1) = posG d i + ((put ((numsG d)[i]'hlt)).length : Int) := by
    unfold posG
    rw [List.take_succ_eq_append_getElem hlt, List.flatMap_append, List.length_append]
    simp only [List.flatMap_cons, List.flatMap_nil, List.append_nil]
    omega
  rw [e2]
  exact get_at hr.1 (by omega) e (by unfold posG; rw [List.length_append]; simp)
theorem isG_block {b : List UInt8} {d : SegD} (h : IsG b d) : (b.take (b.length - 4)).drop (posG d 4).toNat = blockG d := by
  rw [isG_body h]
  unfold bodyG
  have : (posG d 4).toNat = (headG d).length := by
    have e : posG d 4 = 2 + (((numsG d).flatMap put).length : Int) := rfl
    rw [e]; unfold headG; rw [List.length_append]; simp only [List.length_cons, List.length_nil]; omega
  rw [this]; exact List.drop_left ..
def GI (b : List UInt8) (i : Nat) (at_ x0 x1 x2 x3 : Int) : Prop :=
  (2 ≤ at_ ∧ at_ ≤ (b.length : Int) - 4) ∧ ((0 ≤ x0 ∧ x0 ≤ 1099511627776) ∧ (0 ≤ x1 ∧ x1 ≤ 1099511627776) ∧ (0 ≤ x2 ∧ x2 ≤ 1099511627776) ∧ (0 ≤ x3 ∧ x3 ≤ 1099511627776)) ∧
  ∀ d, IsG b d → at_ = posG d i ∧ (1 ≤ i → x0 = d.Id) ∧ (2 ≤ i → x1 = d.Tier) ∧ (3 ≤ i → x2 = d.From) ∧ (4 ≤ i → x3 = d.To - d.From)
theorem GI_start {b : List UInt8} (h : ¬ (b.length : Int) - 4 < 2) : GI b 0 2 0 0 0 0 :=
  ⟨by omega, ⟨by decide, by decide, by decide, by decide⟩, fun d _ => ⟨rfl, fun h => absurd h (by decide), fun h => absurd h (by decide), fun h => absurd h (by decide), fun h => absurd h (by decide)⟩⟩
section
variable {b : List UInt8} {i : Nat} {at_ x0 x1 x2 x3 : Int}
theorem GI_at (h : GI b i at_ x0 x1 x2 x3) {e : Nat} (he : e = b.length - 4) : 2 ≤ (get (b.take e) at_).2.1 ∧ (get (b.take e) at_).2.1 ≤ (b.length : Int) - 4 := by
  have h1 := h.1
  have hl : (b.take e).length = b.length - 4 := by rw [List.length_take]; omega
  have := get_to (b := b.take e) (p := at_) (by omega) (by rw [hl]; omega)
  rw [hl] at this; omega
theorem GI_is (h : GI b i at_ x0 x1 x2 x3) (hi : i < 4) {e : Nat} (he : e = b.length - 4) {d : SegD} (hd : IsG b d) : get (b.take e) at_ = ((numsG d)[i]'(by exact hi), posG d (i + 1), 0) := by
  rw [(h.2.2 d hd).1, he]; exact isG_get hd hi
theorem GI_bad (h : GI b i at_ x0 x1 x2 x3) (hi : i < 4) {e : Nat} (he : e = b.length - 4) (hc : ¬ (get (b.take e) at_).2.2 = 0 ∨ 1099511627776 < (get (b.take e) at_).1) : ∀ d : SegD, d.ok → encG d ≠ (b, 0) := fun d ho hb => by
  have hd := isG_of ho hb
  rw [GI_is h hi he hd] at hc
  have hn := may_nums hd.2.1
  simp only [] at hc
  rcases hc with hc | hc
  · exact hc trivial
  · have : i = 0 ∨ i = 1 ∨ i = 2 ∨ i = 3 := by omega
    rcases this with rfl | rfl | rfl | rfl
    · have hc : _ < d.Id := hc; omega
    · have hc : _ < d.Tier := hc; omega
    · have hc : _ < d.From := hc; omega
    · have hc : _ < d.To - d.From := hc; omega
theorem GI_step0 (h : GI b i at_ x0 x1 x2 x3) (hi : i = 0) {e : Nat} (he : e = b.length - 4) (hc : ¬ 1099511627776 < (get (b.take e) at_).1) : GI b (i + 1) (get (b.take e) at_).2.1 (get (b.take e) at_).1 x1 x2 x3 := by
  have hn := get_nn (b.take e) at_
  refine ⟨GI_at h he, ⟨by omega, h.2.1.2.1, h.2.1.2.2.1, h.2.1.2.2.2⟩, fun d hd => ?_⟩
  have h3 := h.2.2 d hd
  rw [GI_is h (by omega) he hd]
  subst hi
  exact ⟨rfl, fun _ => rfl, fun h => absurd h (by decide), fun h => absurd h (by decide), fun h => absurd h (by decide)⟩
theorem GI_step1 (h : GI b i at_ x0 x1 x2 x3) (hi : i = 1) {e : Nat} (he : e = b.length - 4) (hc : ¬ 1099511627776 < (get (b.take e) at_).1) : GI b (i + 1) (get (b.take e) at_).2.1 x0 (get (b.take e) at_).1 x2 x3 := by
  have hn := get_nn (b.take e) at_
  refine ⟨GI_at h he, ⟨h.2.1.1, by omega, h.2.1.2.2.1, h.2.1.2.2.2⟩, fun d hd => ?_⟩
  have h3 := h.2.2 d hd
  rw [GI_is h (by omega) he hd]
  subst hi
  exact ⟨rfl, fun _ => h3.2.1 (by decide), fun _ => rfl, fun h => absurd h (by decide), fun h => absurd h (by decide)⟩
theorem GI_step2 (h : GI b i at_ x0 x1 x2 x3) (hi : i = 2) {e : Nat} (he : e = b.length - 4) (hc : ¬ 1099511627776 < (get (b.take e) at_).1) : GI b (i + 1) (get (b.take e) at_).2.1 x0 x1 (get (b.take e) at_).1 x3 := by
  have hn := get_nn (b.take e) at_
  refine ⟨GI_at h he, ⟨h.2.1.1, h.2.1.2.1, by omega, h.2.1.2.2.2⟩, fun d hd => ?_⟩
  have h3 := h.2.2 d hd
  rw [GI_is h (by omega) he hd]
  subst hi
  exact ⟨rfl, fun _ => h3.2.1 (by decide), fun _ => h3.2.2.1 (by decide), fun _ => rfl, fun h => absurd h (by decide)⟩
theorem GI_step3 (h : GI b i at_ x0 x1 x2 x3) (hi : i = 3) {e : Nat} (he : e = b.length - 4) (hc : ¬ 1099511627776 < (get (b.take e) at_).1) : GI b (i + 1) (get (b.take e) at_).2.1 x0 x1 x2 (get (b.take e) at_).1 := by
  have hn := get_nn (b.take e) at_
  refine ⟨GI_at h he, ⟨h.2.1.1, h.2.1.2.1, h.2.1.2.2.1, by omega⟩, fun d hd => ?_⟩
  have h3 := h.2.2 d hd
  rw [GI_is h (by omega) he hd]
  subst hi
  exact ⟨rfl, fun _ => h3.2.1 (by decide), fun _ => h3.2.2.1 (by decide), fun _ => h3.2.2.2.1 (by decide), fun _ => rfl⟩
theorem GI_short (h : (b.length : Int) - 4 < 2) : ∀ d : SegD, d.ok → encG d ≠ (b, 0) := fun d ho hb => by
  have := isG_len (isG_of ho hb); omega
theorem GI_first (h1 : 2 ≤ b.length) (h : ¬ ((gd b 0).toNat : Int) = 84 ∨ ¬ ((gd b 1).toNat : Int) = 75) : ∀ d : SegD, d.ok → encG d ≠ (b, 0) := fun d ho hb => by
  have := isG_first (isG_of ho hb)
  rw [List.getD_eq_getElem?_getD, List.getD_eq_getElem?_getD, List.getElem?_eq_getElem (show 0 < b.length by omega), List.getElem?_eq_getElem (show 1 < b.length by omega)] at this
  rw [gd_eq (by omega), gd_eq (by omega)] at h
  have e0 : b[0]'(by omega) = 84 := this.1
  have e1 : b[1]'(by omega) = 75 := this.2
  rw [e0, e1] at h
  rcases h with h | h <;> exact h (by decide)
end
end Go.Proofs.YtgibfidebdgffaaDoor
end
section
namespace Go.Proofs.YtgibfidebdgffaaDoor
theorem gnE {n : Int} {b : List UInt8} {p : Int} (h : n = (get b p).1) : 0 ≤ n ∧ n ≤ 18446744073709551615 := h ▸ get_nn b p
theorem CA_oneE {b : List UInt8} {k n at_ F : Int} {out : List Agg} {i : Nat} {p : Int} {bad : Bool} {N0 P1 N1 P2 N2 P3 : Int} {D0 D1 D2 : Bool} (h : CA b k n out i p bad at_) (hn : (i : Int) < n) (e0 : N0 = (get b p).1) (f0 : P1 = (get b p).2.1) (g0 : D0 = rbad bad b p) (e1 : N1 = (get b P1).1) (f1 : P2 = (get b P1).2.1) (g1 : D1 = rbad D0 b P1) (e2 : N2 = (get b P2).1) (f2 : P3 = (get b P2).2.1) (g2 : D2 = rbad D1 b P2) (hF : wr ((wr (wr (at_ + 1) + wr N0)) * widthA k) = F) (hc : wr (wr N1 + 1) = 1) :
    CA b k n (out ++ [⟨F, wr (wr N1 + 1), zag N2, zag N2, zag N2, zag N2, zag N2⟩]) (i + 1) P3 D2 (wr (wr (at_ + 1) + wr N0)) := by
  subst hF e0 f0 g0 e1 f1 g1 e2 f2 g2
  exact CA_one h hn hc
theorem CA_manyE {b : List UInt8} {k n at_ F : Int} {out : List Agg} {i : Nat} {p : Int} {bad : Bool} {N0 P1 N1 P2 N2 P3 N3 P4 N4 P5 N5 P6 N6 P7 : Int} {D0 D1 D2 D3 D4 D5 D6 : Bool} (h : CA b k n out i p bad at_) (hn : (i : Int) < n) (e0 : N0 = (get b p).1) (f0 : P1 = (get b p).2.1) (g0 : D0 = rbad bad b p) (e1 : N1 = (get b P1).1) (f1 : P2 = (get b P1).2.1) (g1 : D1 = rbad D0 b P1) (e2 : N2 = (get b P2).1) (f2 : P3 = (get b P2).2.1) (g2 : D2 = rbad D1 b P2) (e3 : N3 = (get b P3).1) (f3 : P4 = (get b P3).2.1) (g3 : D3 = rbad D2 b P3) (e4 : N4 = (get b P4).1) (f4 : P5 = (get b P4).2.1) (g4 : D4 = rbad D3 b P4) (e5 : N5 = (get b P5).1) (f5 : P6 = (get b P5).2.1) (g5 : D5 = rbad D4 b P5) (e6 : N6 = (get b P6).1) (f6 : P7 = (get b P6).2.1) (g6 : D6 = rbad D5 b P6) (hF : wr ((wr (wr (at_ + 1) + wr N0)) * widthA k) = F) (hc : ¬ wr (wr N1 + 1) = 1) :
    CA b k n (out ++ [⟨F, wr (wr N1 + 1), zag N4, zag N2, wr ((zag N2 % 18446744073709551616 + N3) % 18446744073709551616), wr ((zag N2 % 18446744073709551616 + N5) % 18446744073709551616), wr ((zag N2 % 18446744073709551616 + N6) % 18446744073709551616)⟩]) (i + 1) P7 D6 (wr (wr (at_ + 1) + wr N0)) := by
  subst hF e0 f0 g0 e1 f1 g1 e2 f2 g2 e3 f3 g3 e4 f4 g4 e5 f5 g5 e6 f6 g6
  exact CA_many h hn hc
end Go.Proofs.YtgibfidebdgffaaDoor
end
section
namespace Go.Proofs.YtgibfidebdgffaaDoor
section
variable {α : Type} [DecidableEq α] {a b : List α} {i : Nat}
theorem same_len (h : ¬ ((a.length : Int) = (b.length : Int))) : false = decide (a = b) := (decide_eq_false fun e => h (by rw [e])).symm
theorem same_no (h : i < a.length) (h' : i < b.length) (hne : ¬ a[i] = b[i]) : false = decide (a = b) := (decide_eq_false fun e => hne (by subst e; rfl)).symm
theorem same_end (hi : i = a.length) (hl : (a.length : Int) = (b.length : Int)) (he : a.take i = b.take i) : true = decide (a = b) :=
  (decide_eq_true (by rw [List.take_of_length_le (by omega), List.take_of_length_le (by omega)] at he; exact he)).symm
end
theorem same_step {α : Type} {a b : List α} {i : Nat} (he : a.take i = b.take i) (h : i < a.length) (h' : i < b.length) (heq : a[i] = b[i]) : a.take (i + 1) = b.take (i + 1) := by
  rw [List.take_succ_eq_append_getElem h, List.take_succ_eq_append_getElem h', he, heq]
end Go.Proofs.YtgibfidebdgffaaDoor
end
section
namespace Go.Proofs.YtgibfidebdgffaaDoor
open Go.RowKit
section
variable {P : Program} {ρ : Env} {w : World} {K : Value → World → Prop}
variable {dst : Option Tmp} {ty : TypeId} {pos : String} {aft : Array Edge} {g : Option (Nat × Bool)}
theorem op_indexAddrA {T e : TypeId} {x i : Operand} {N b off : Nat} {k : IntKind} {m : Int} (n : Nat) (hT : P.underlying T = some (.array N e)) (hs : ∀ w, (sizeOf e).run P w = .ok 1 w) (hx : evE ρ x = .pointer (some ⟨b, off, none⟩)) (hi : evE ρ i = .int k m) (hn : m = (n : Int)) (hm : n < N)
    (h : K (.pointer (some ⟨b, off + n, none⟩)) w) : opE P ⟨dst, .indexAddr T x i, ty, pos, aft, g⟩ ρ w K := by
  subst hn
  have h0 : (0 : Int) ≤ (n : Int) := Int.natCast_nonneg n
  have hlt : (n : Int) < (N : Int) := by omega
  exact op_of (by simp [execOp, hx, hi, Instr.indexAt, Instr.sureAddr, asIntOf, run_underlying hT, h0, hm, hs, Addr.add_lit]) h
end
end Go.Proofs.YtgibfidebdgffaaDoor
end
section
namespace Go.Proofs.YtgibfidebdgffaaDoor
/-! ### Decoders as functions -/
open Classical in
noncomputable def decSf (b : List UInt8) : List Sample × Int := if h : ∃ p : List Sample × Int, DecS b p.1 p.2 then h.choose else ([], 0)
theorem decSf_is {b : List UInt8} {l : List Sample} {c : Int} (h : DecS b l c) : decSf b = (l, c) := by
  have hx : ∃ p : List Sample × Int, DecS b p.1 p.2 := ⟨(l, c), h⟩
  unfold decSf
  rw [dif_pos hx]
  have := decS_one hx.choose_spec h
  exact Prod.ext this.1 this.2
open Classical in
noncomputable def decAf (k : Int) (b : List UInt8) : List Agg × Int := if h : ∃ p : List Agg × Int, DecA k b p.1 p.2 then h.choose else ([], 0)
theorem decAf_is {k : Int} {b : List UInt8} {l : List Agg} {c : Int} (h : DecA k b l c) : decAf k b = (l, c) := by
  have hx : ∃ p : List Agg × Int, DecA k b p.1 p.2 := ⟨(l, c), h⟩
  unfold decAf
  rw [dif_pos hx]
  have := decA_one hx.choose_spec h
  exact Prod.ext this.1 this.2
theorem decSf_enc {l : List Sample} (hl : okS l = true) (ho : ∀ s ∈ l, s.ok) : decSf (encS l).1 = (l, 0) := by
  rw [encS_yes hl]; exact decSf_is ⟨ho, Or.inl ⟨rfl, hl, rfl⟩⟩
theorem decAf_enc {k : Int} {l : List Agg} (hl : okA k l = true) (ho : ∀ a ∈ l, a.ok) : decAf k (encA k l).1 = (l, 0) := by
  rw [encA_yes hl]; exact decAf_is ⟨ho, Or.inl ⟨rfl, okA_coarse hl, hl, rfl⟩⟩
theorem decSf_ok (b : List UInt8) : ∀ s ∈ (decSf b).1, s.ok := by
  unfold decSf; split
  · rename_i h; exact h.choose_spec.1
  · intro s hs; cases hs
theorem decAf_ok (k : Int) (b : List UInt8) : ∀ s ∈ (decAf k b).1, s.ok := by
  unfold decAf; split
  · rename_i h; exact h.choose_spec.1
  · intro s hs; cases hs
/-! ### Names, comparisons -/
def nameG (n : Int) : List UInt8 := if n = 3 then [115, 51] else []
theorem nameG_no {n : Int} (h : n < 1) : nameG n = [] := if_neg (by omega)
theorem nameG_yes {n : Int} (h : n = 3) : nameG n = [115] ++ [51] := if_pos h
theorem segD_iff {s t : SegD} : s = t ↔ (((((s.Id = t.Id ∧ s.Tier = t.Tier) ∧ s.From = t.From) ∧ s.To = t.To) ∧ s.Samples = t.Samples) ∧ s.Aggs = t.Aggs) := by
  constructor
  · rintro rfl; exact ⟨⟨⟨⟨⟨rfl, rfl⟩, rfl⟩, rfl⟩, rfl⟩, rfl⟩
  · rintro ⟨⟨⟨⟨⟨h1, h2⟩, h3⟩, h4⟩, h5⟩, h6⟩; exact segD_eq h1 h2 h3 h4 h5 h6
theorem segD_dec (s t : SegD) : (((((decide (s.Id = t.Id) && decide (s.Tier = t.Tier)) && decide (s.From = t.From)) && decide (s.To = t.To)) && decide (s.Samples = t.Samples)) && decide (s.Aggs = t.Aggs)) = decide (s = t) := by
  rw [Bool.eq_iff_iff]
  simp only [Bool.and_eq_true, decide_eq_true_eq]
  exact segD_iff.symm
/-! ### Put -/
theorem nums_r {s : SegD} (h : mayS s = true) : ∀ x ∈ numsG s, 0 ≤ x ∧ x ≤ 1099511627776 := fun x hx => by
  have hn := may_nums h
  simp only [numsG, List.mem_cons, List.not_mem_nil, or_false] at hx
  omega
theorem encS_len (l : List Sample) : (encS l).1.length ≤ 1300 := by
  unfold encS; split
  · rename_i h; exact putS_length64 (okS_iff.1 h).2
  · simp
theorem encA_len (k : Int) (l : List Agg) : (encA k l).1.length ≤ 5000 := by
  by_cases h : okA k l = true
  · exact encA_len64 h
  · unfold encA; rw [if_neg h]; simp
theorem body_raw {s : SegD} (h : mayS s = true) (h0 : ¬ 0 < s.Tier) : headG s ++ (encS s.Samples).1 = bodyG s := by
  have := may_nums h
  unfold bodyG; rw [block_raw (by omega)]
theorem body_up {s : SegD} (h : mayS s = true) (h0 : 0 < s.Tier) : headG s ++ (encA s.Tier s.Aggs).1 = bodyG s := by unfold bodyG; rw [block_up h0]
theorem code_raw {s : SegD} (h : mayS s = true) (h0 : ¬ 0 < s.Tier) : (encS s.Samples).2 = 0 := by
  rcases may_block h with ⟨_, _, a⟩ | ⟨a, _, _⟩
  · rw [encS_yes a]
  · exact absurd a h0
theorem code_up {s : SegD} (h : mayS s = true) (h0 : 0 < s.Tier) : (encA s.Tier s.Aggs).2 = 0 := by
  rcases may_block h with ⟨a, _, _⟩ | ⟨_, _, a⟩
  · omega
  · rw [encA_yes a]
theorem body_len {s : SegD} (h : mayS s = true) : (bodyG s).length ≤ 5100 := by
  have h1 := head_len s
  have h2 := block_len h
  unfold bodyG; rw [List.length_append]; omega
theorem bytes_le {s : SegD} (h : mayS s = true) : (bytesG s).length ≤ 5200 := by
  have h1 := body_len h
  unfold bytesG; rw [List.length_append, four_len]; omega
/-! ### Get -/
section
variable {b : List UInt8} {i : Nat} {at_ x0 x1 x2 x3 : Int}
theorem GI_head (c : ((b.length : Int) - 4 < 2 ∨ ¬ ((gd b 0).toNat : Int) = 84) ∨ ¬ ((gd b 1).toNat : Int) = 75) : ∀ d : SegD, d.ok → encG d ≠ (b, 0) := by
  by_cases h : (b.length : Int) - 4 < 2
  · exact GI_short h
  · exact GI_first (by omega) (by rcases c with (c | c) | c; exact absurd c h; exact Or.inl c; exact Or.inr c)
theorem GI_rawF (h : GI b i at_ x0 x1 x2 x3) (hi : i = 4) (h0 : x1 = 0) {e : Nat} (he : e = b.length - 4) (hbad : (¬ (decSf ((b.take e).drop at_.toNat)).2 = 0 ∨ ¬ (encG ⟨x0, x1, x2, x2 + x3, (decSf ((b.take e).drop at_.toNat)).1, []⟩).2 = 0) ∨ ¬ (encG ⟨x0, x1, x2, x2 + x3, (decSf ((b.take e).drop at_.toNat)).1, []⟩).1 = b) : ∀ d : SegD, d.ok → encG d ≠ (b, 0) := fun d ho hb => by
  have hg := isG_of ho hb
  subst hi; subst he
  obtain ⟨e1, e2, e3, e4, e5⟩ := h.2.2 d hg
  have e2 := e2 (by decide); have e3 := e3 (by decide); have e4 := e4 (by decide); have e5 := e5 (by decide)
  rw [e1, isG_block hg] at hbad
  rcases may_block hg.2.1 with ⟨a0, a1, a2⟩ | ⟨a0, a1, a2⟩
  · rw [block_raw a0, decSf_enc a2 ho.2.2.2.2.1] at hbad
    have es : (⟨x0, x1, x2, x2 + x3, d.Samples, []⟩ : SegD) = d := segD_eq e2 e3 e4 (by show x2 + x3 = d.To; omega) rfl a1.symm
    simp only [es, hb] at hbad
    simp at hbad
  · omega
theorem GI_upF (h : GI b i at_ x0 x1 x2 x3) (hi : i = 4) (h0 : ¬ x1 = 0) {e : Nat} (he : e = b.length - 4) (hbad : (¬ (decAf x1 ((b.take e).drop at_.toNat)).2 = 0 ∨ ¬ (encG ⟨x0, x1, x2, x2 + x3, [], (decAf x1 ((b.take e).drop at_.toNat)).1⟩).2 = 0) ∨ ¬ (encG ⟨x0, x1, x2, x2 + x3, [], (decAf x1 ((b.take e).drop at_.toNat)).1⟩).1 = b) : ∀ d : SegD, d.ok → encG d ≠ (b, 0) := fun d ho hb => by
  have hg := isG_of ho hb
  subst hi; subst he
  obtain ⟨e1, e2, e3, e4, e5⟩ := h.2.2 d hg
  have e2 := e2 (by decide); have e3 := e3 (by decide); have e4 := e4 (by decide); have e5 := e5 (by decide)
  rw [e1, isG_block hg] at hbad
  rcases may_block hg.2.1 with ⟨a0, a1, a2⟩ | ⟨a0, a1, a2⟩
  · omega
  · rw [block_up a0, e3, decAf_enc a2 ho.2.2.2.2.2] at hbad
    have es : (⟨x0, d.Tier, x2, x2 + x3, [], d.Aggs⟩ : SegD) = d := segD_eq e2 rfl e4 (by show x2 + x3 = d.To; omega) a1.symm rfl
    simp only [es, hb] at hbad
    simp at hbad
theorem getG_okS (h : GI b i at_ x0 x1 x2 x3) (y : List UInt8) : (⟨x0, x1, x2, x2 + x3, (decSf y).1, []⟩ : SegD).ok := by
  have hx := h.2.1
  refine ⟨?_, ?_, ?_, ?_, decSf_ok y, fun x hx => nomatch hx⟩ <;> simp only [i64R] <;> omega
theorem getG_okA (h : GI b i at_ x0 x1 x2 x3) (y : List UInt8) : (⟨x0, x1, x2, x2 + x3, [], (decAf x1 y).1⟩ : SegD).ok := by
  have hx := h.2.1
  refine ⟨?_, ?_, ?_, ?_, (by intro x hx; cases hx), decAf_ok x1 y⟩ <;> simp only [i64R] <;> omega
end
end Go.Proofs.YtgibfidebdgffaaDoor
end
section
namespace Go.Proofs.YtgibfidebdgffaaDoor
structure Info where
  Id : Int
  Tier : Int
  From : Int
  To : Int
  Sum : Int
  deriving DecidableEq
def infoE : Enc Info := ⟨5, fun a => [.int .i64 a.Id, .int .i64 a.Tier, .int .i64 a.From, .int .i64 a.To, .int .u32 a.Sum], fun _ => rfl, by decide,
  fun _ u hu => by simp at hu; rcases hu with rfl | rfl | rfl | rfl | rfl <;> rfl⟩
abbrev u32R (n : Int) : Prop := 0 ≤ n ∧ n ≤ 4294967295
abbrev Info.ok (a : Info) : Prop := i64R a.Id ∧ i64R a.Tier ∧ i64R a.From ∧ i64R a.To ∧ u32R a.Sum
theorem u32R_of {n : Int} (h : IntKind.u32.min ≤ n ∧ n ≤ IntKind.u32.max) : u32R n := by
  have h1 : IntKind.u32.min = 0 := by decide
  have h2 : IntKind.u32.max = 4294967295 := by decide
  rw [h1, h2] at h; exact h
section
variable {P : Program}
theorem opens_info {t : TypeId} {fs : Array Field} (ht : P.underlying t = some (.struct fs)) (hf : IntFields P 0 [.i64, .i64, .i64, .i64, .u32] fs.toList) (hC : P.cellsOf t = 5) : Opens P t infoE Info.ok := by
  intro H enc w base spare held fuel cs x h
  have := int_cells ht hf hC h
  obtain ⟨n0, c0, rfl, hn0, h0⟩ := this.cons
  obtain ⟨n1, c1, rfl, hn1, h1⟩ := h0.cons
  obtain ⟨n2, c2, rfl, hn2, h2⟩ := h1.cons
  obtain ⟨n3, c3, rfl, hn3, h3⟩ := h2.cons
  obtain ⟨n4, c4, rfl, hn4, h4⟩ := h3.cons
  obtain rfl := h4.nil
  exact ⟨⟨n0, n1, n2, n3, n4⟩, rfl, i64R_of hn0, i64R_of hn1, i64R_of hn2, i64R_of hn3, u32R_of hn4⟩
theorem eq_info (d : Nat) {t : TypeId} {fs : Array Field} (ht : P.underlying t = some (.struct fs)) (hf : IntFields P 0 [.i64, .i64, .i64, .i64, .u32] fs.toList) (hp : P.stoodInHeld t = false) (a b : Info) (w : World) :
    (Op.equalIn (d + 1 + 1) t (.agg #[.int .i64 a.Id, .int .i64 a.Tier, .int .i64 a.From, .int .i64 a.To, .int .u32 a.Sum]) (.agg #[.int .i64 b.Id, .int .i64 b.Tier, .int .i64 b.From, .int .i64 b.To, .int .u32 b.Sum])).run P w = .ok (decide (a = b)) w := by
  refine (run_equalIn_agg w (d + 1) t _ _ (by rw [fieldsOf_eq ht]; exact ht) hp).trans ?_
  rewrite [fieldsOf_eq ht]
  refine (eqFields_ints [.i64, .i64, .i64, .i64, .u32] _ 0 d _ _ [a.Id, a.Tier, a.From, a.To, a.Sum] [b.Id, b.Tier, b.From, b.To, b.Sum] hf rfl rfl
    (fun i h h1 => by match i, h with | 0, _ => rfl | 1, _ => rfl | 2, _ => rfl | 3, _ => rfl | 4, _ => rfl) (fun i h h1 => by match i, h with | 0, _ => rfl | 1, _ => rfl | 2, _ => rfl | 3, _ => rfl | 4, _ => rfl)).trans ?_
  congr 1
  rw [decide_eq_decide]
  cases a; cases b; simp
end
/-! ### Which comes first -/
/-! ### The reference's way: each is put where it belongs -/
def hasI (l : List Info) (id : Int) : Bool := l.any fun y => decide (y.Id = id)
def left (l r : List Info) : List Info := l.filter fun x => !hasI r x.Id
end Go.Proofs.YtgibfidebdgffaaDoor
end
section
namespace Go.Proofs.YtgibfidebdgffaaDoor
/-! ### Which comes first -/
end Go.Proofs.YtgibfidebdgffaaDoor
end
section
namespace Go.Proofs.YtgibfidebdgffaaDoor
section
variable {p : Info → Bool} {l : List Info} {i : Nat}
end
end Go.Proofs.YtgibfidebdgffaaDoor
end
section
namespace Go.Proofs.YtgibfidebdgffaaDoor
instance : Inhabited Info := ⟨⟨0, 0, 0, 0, 0⟩⟩
section
variable {l ys : List Info} {n : Nat}
end
/-! ### In order -/
end Go.Proofs.YtgibfidebdgffaaDoor
end
section
namespace Go.Proofs.YtgibfidebdgffaaDoor
section
variable {α : Type} {p : α → Bool} {l : List α} {i : Nat}
end
end Go.Proofs.YtgibfidebdgffaaDoor
end
section
namespace Go.Proofs.YtgibfidebdgffaaDoor
structure Win where
  Tier : Int
  Lo : Int
  Hi : Int
  Agg : Agg
  deriving DecidableEq
abbrev Win.ok (w : Win) : Prop := i64R w.Tier ∧ i64R w.Lo ∧ i64R w.Hi ∧ w.Agg.ok
instance : Inhabited Win := ⟨⟨0, 0, 0, default⟩⟩
instance : Inhabited SegD := ⟨⟨0, 0, 0, 0, [], []⟩⟩
instance : Inhabited Seg := ⟨⟨default, nilV, nilV⟩⟩
theorem fst_of {α β : Type} {p : α × β} {a : α} {b : β} (h : p = (a, b)) : a = p.1 := by rw [h]
theorem snd_of {α β : Type} {p : α × β} {a : α} {b : β} (h : p = (a, b)) : b = p.2 := by rw [h]
/-! ### Samples as windows -/
/-! ### Aggregates as windows -/
/-! ### Which segments are asked -/
/-! ### The program's find -/
abbrev ds (l : List Seg) : List SegD := l.map Seg.d
/-! ### What windows come to -/
/-! ### That two notions of a window in the range are one -/
/-! ### Segments that may be -/
theorem aligns_low {k : Int} : ∀ {l : List Agg} {last : Int}, alignsFrom k last l = true → ∀ a ∈ l, last < a.From
  | [], _, _, a, h => nomatch h
  | b :: l, last, h, a, ha => by
    unfold alignsFrom at h
    rw [Bool.and_eq_true, Bool.and_eq_true] at h
    have hc := of_decide_eq_true h.1.2
    rcases List.mem_cons.1 ha with rfl | ha
    · omega
    · have := aligns_low h.2 a ha; omega
theorem aligns_pair {k : Int} : ∀ {l : List Agg} {last : Int}, alignsFrom k last l = true → l.Pairwise fun a b => a.From < b.From
  | [], _, _ => List.Pairwise.nil
  | b :: l, last, h => by
    unfold alignsFrom at h
    rw [Bool.and_eq_true, Bool.and_eq_true] at h
    exact List.pairwise_cons.2 ⟨fun a ha => aligns_low h.2 a ha, aligns_pair h.2⟩
theorem segS_len {s : SegD} (h : mayS s = true) : s.Samples.length ≤ 64 ∧ s.Aggs.length ≤ 64 := by
  rcases (may_iff.1 h).2 with ⟨_, h3⟩ | ⟨_, h3⟩
  · obtain ⟨e, _, g, _⟩ := mayRaw_iff.1 h3
    rw [e]; exact ⟨g, by simp⟩
  · obtain ⟨e, _, g, _⟩ := mayUp_iff.1 h3
    rw [e]; exact ⟨by simp, g⟩
end Go.Proofs.YtgibfidebdgffaaDoor
end
section
namespace Go.Proofs.YtgibfidebdgffaaDoor
abbrev zeroS : SegD := ⟨0, 0, 0, 0, [], []⟩
def rollT (s : SegD) (id k : Int) (r : List Agg × Int) : SegD × Int :=
  if ¬ r.2 = 0 then (zeroS, r.2) else if 64 < r.1.length then (zeroS, 8) else (⟨id, k, s.From, s.To, [], r.1⟩, 0)
def rollS (s : SegD) (id k : Int) : SegD × Int :=
  if id < 1 ∨ 1073741824 < id ∨ k < 1 ∨ 3 < k then (zeroS, 1)
  else if mayS s = true ∧ s.Tier = k - 1 then rollT s id k (if k = 1 then rawA s.Samples 1 else downA s.Aggs k) else (zeroS, 1)
def flatS (l : List Seg) : List Sample := l.flatMap fun s => s.d.Samples
def flatA (l : List Seg) : List Agg := l.flatMap fun s => s.d.Aggs
theorem flatS_snoc {l : List Seg} {i : Nat} (h : i < l.length) : flatS (l.take i) ++ (l[i]'h).d.Samples = flatS (l.take (i + 1)) := by
  unfold flatS; rw [List.take_succ_eq_append_getElem h, List.flatMap_append]; simp
theorem flatA_snoc {l : List Seg} {i j : Nat} (h : i < l.length) (hj : j = (l[i]'h).d.Aggs.length) : flatA (l.take i) ++ (l[i]'h).d.Aggs.take j = flatA (l.take (i + 1)) := by
  subst hj; unfold flatA; rw [List.take_succ_eq_append_getElem h, List.flatMap_append]; simp
theorem flat_ok {l : List Seg} (h : ∀ s ∈ l, s.d.ok) : (∀ x ∈ flatS l, x.ok) ∧ (∀ x ∈ flatA l, x.ok) := by
  constructor
  · intro x hx; obtain ⟨s, hs, hx⟩ := List.mem_flatMap.1 hx; exact (h s hs).2.2.2.2.1 x hx
  · intro x hx; obtain ⟨s, hs, hx⟩ := List.mem_flatMap.1 hx; exact (h s hs).2.2.2.2.2 x hx
end Go.Proofs.YtgibfidebdgffaaDoor
end
section
namespace Go.Proofs.YtgibfidebdgffaaDoor
/-! ### Aggregates that follow: none begins where another does -/
theorem joined_ne {l : List Agg} {i : Nat} (hp : l.Pairwise fun a b => a.From < b.From) (h : i < l.length) (hn : ¬ ((l.take i).length : Int) = 0) : ¬ (gd (l.take i) ((l.take i).length - 1)).From = (l[i]'h).From := by
  have hl : (l.take i).length = i := by rw [List.length_take]; omega
  rw [gd_eq (by omega), List.getElem_take]
  have := List.pairwise_iff_getElem.1 hp ((l.take i).length - 1) i (by omega) h (by omega)
  omega
/-! ### Roll -/
def chainG (k : Int) (l : List Seg) : Nat → Bool
  | 0 => true
  | n + 1 => chainG k l n && ((mayS (gd l n).d && decide ((gd l n).d.Tier = k - 1)) && decide (n = 0 ∨ (gd l n).d.From = (gd l (n - 1)).d.To))
def rollL (l : List Seg) (id k : Int) : SegD × Int :=
  if id < 1 ∨ 1073741824 < id ∨ k < 1 ∨ 3 < k ∨ l.length = 0 then (zeroS, 1)
  else if chainG k l l.length = false then (zeroS, 1)
  else if ¬ (if k = 1 then rawA (flatS l) k else downA (flatA l) k).2 = 0 then (zeroS, (if k = 1 then rawA (flatS l) k else downA (flatA l) k).2)
  else if 64 < (if k = 1 then rawA (flatS l) k else downA (flatA l) k).1.length then (zeroS, 8)
  else (⟨id, k, (gd l 0).d.From, (gd l (l.length - 1)).d.To, [], (if k = 1 then rawA (flatS l) k else downA (flatA l) k).1⟩, 0)
section
variable {l : List Seg} {id k : Int} {i : Nat}
theorem rollL_out (h : id < 1 ∨ 1073741824 < id ∨ k < 1 ∨ 3 < k ∨ l.length = 0) : rollL l id k = (zeroS, 1) := if_pos h
theorem chainG_not : ∀ {n m : Nat}, n ≤ m → chainG k l n = false → chainG k l m = false
  | n, 0, hn, h => by obtain rfl : n = 0 := by omega
                      exact h
  | n, m + 1, hn, h => by
    by_cases e : n = m + 1
    · subst e; exact h
    · rw [chainG, chainG_not (m := m) (by omega) h]; rfl
theorem rollL_no (hr : ¬ (id < 1 ∨ 1073741824 < id ∨ k < 1 ∨ 3 < k ∨ l.length = 0)) (h : chainG k l l.length = false) : rollL l id k = (zeroS, 1) := by
  unfold rollL; rw [if_neg hr, if_pos h]
theorem chain_badG (hi : i < l.length) (c : ((¬ mayS (gd l i).d = true) ∨ ¬ (gd l i).d.Tier = k - 1) ∨ (0 < (i : Int) ∧ ¬ (gd l i).d.From = (gd l (i - 1)).d.To)) : chainG k l l.length = false := by
  refine chainG_not (n := i + 1) (by omega) ?_
  rw [chainG]
  rcases c with (c | c) | c
  · rw [Bool.eq_false_iff.2 c]; simp
  · rw [decide_eq_false c]; simp
  · rw [decide_eq_false (by omega : ¬ (i = 0 ∨ (gd l i).d.From = (gd l (i - 1)).d.To))]; simp
theorem chain_stepG (hC : chainG k l i = true) (h1 : mayS (gd l i).d = true) (h2 : (gd l i).d.Tier = k - 1) (h3 : ¬ (0 < (i : Int) ∧ ¬ (gd l i).d.From = (gd l (i - 1)).d.To)) : chainG k l (i + 1) = true := by
  rw [chainG, hC, h1, decide_eq_true h2, decide_eq_true (by omega : i = 0 ∨ (gd l i).d.From = (gd l (i - 1)).d.To)]; rfl
theorem rollL_bad {r : List Agg × Int} (hr : ¬ (id < 1 ∨ 1073741824 < id ∨ k < 1 ∨ 3 < k ∨ l.length = 0)) (hC : chainG k l i = true) (hi : i = l.length) (he : r = (if k = 1 then rawA (flatS l) k else downA (flatA l) k)) (hc : ¬ r.2 = 0) : rollL l id k = (zeroS, r.2) := by
  subst hi; unfold rollL; rw [if_neg hr, if_neg (by rw [hC]; decide), ← he, if_pos hc]
theorem rollL_full {r : List Agg × Int} (hr : ¬ (id < 1 ∨ 1073741824 < id ∨ k < 1 ∨ 3 < k ∨ l.length = 0)) (hC : chainG k l i = true) (hi : i = l.length) (he : r = (if k = 1 then rawA (flatS l) k else downA (flatA l) k)) (hc : r.2 = 0) (hl : 64 < (r.1.length : Int)) : rollL l id k = (zeroS, 8) := by
  subst hi; unfold rollL; rw [if_neg hr, if_neg (by rw [hC]; decide), ← he, if_neg (fun c => c hc), if_pos (by omega)]
theorem rollL_ok {r : List Agg × Int} (hr : ¬ (id < 1 ∨ 1073741824 < id ∨ k < 1 ∨ 3 < k ∨ l.length = 0)) (hC : chainG k l i = true) (hi : i = l.length) (he : r = (if k = 1 then rawA (flatS l) k else downA (flatA l) k)) (hc : r.2 = 0) (hl : ¬ 64 < (r.1.length : Int)) : rollL l id k = (⟨id, k, (gd l 0).d.From, (gd l (l.length - 1)).d.To, [], r.1⟩, 0) := by
  subst hi; unfold rollL; rw [if_neg hr, if_neg (by rw [hC]; decide), ← he, if_neg (fun c => c hc), if_neg (by omega)]
theorem flatS_gd (h : i < l.length) : flatS (l.take i) ++ (gd l i).d.Samples = flatS (l.take (i + 1)) := by rw [gd_eq h]; exact flatS_snoc h
theorem flatA_gd (h : i < l.length) : flatA (l.take i) ++ (gd l i).d.Aggs = flatA (l.take (i + 1)) := by
  rw [gd_eq h]; have := flatA_snoc h rfl; rw [List.take_length] at this; exact this
theorem flat_bnd (hl : l.length ≤ 2) (hC : chainG k l i = true) (hi : i ≤ l.length) : (flatS (l.take i)).length ≤ 64 * i ∧ (flatA (l.take i)).length ≤ 64 * i := by
  induction i with
  | zero => exact ⟨Nat.le_refl _, Nat.le_refl _⟩
  | succ n ih =>
    rw [chainG] at hC
    simp only [Bool.and_eq_true] at hC
    obtain ⟨h1, h2⟩ := ih hC.1 (by omega)
    have h3 := segS_len hC.2.1.1
    rw [← flatS_gd (by omega), ← flatA_gd (by omega), List.length_append, List.length_append]; omega
theorem flat_up (hl : l.length ≤ 1) (hC : chainG k l i = true) (hi : i = l.length) (hk : 1 ≤ k) : (flatA l).Pairwise fun a b => a.From < b.From := by
  match l, hl with
  | [], _ => exact List.Pairwise.nil
  | [s], _ =>
    subst hi
    have hC : chainG k [s] 1 = true := hC
    rw [chainG] at hC
    simp only [Bool.and_eq_true] at hC
    have hm : mayS s.d = true := hC.2.1.1
    have e : flatA [s] = s.d.Aggs := by simp [flatA]
    rw [e]
    rcases (may_iff.1 hm).2 with ⟨_, h2⟩ | ⟨_, h2⟩
    · rw [(mayRaw_iff.1 h2).1]; exact List.Pairwise.nil
    · have g3 := (mayUp_iff.1 h2).2.2.2.1
      unfold alignedA at g3; rw [Bool.and_eq_true] at g3
      exact aligns_pair g3.2
end
/-! ### What is told of a file -/
def InfoG (b : List UInt8) (o : Info) (c : Int) : Prop := (c = 0 ∧ ∃ d : SegD, d.ok ∧ encG d = (b, 0) ∧ o.Id = d.Id ∧ o.Tier = d.Tier ∧ o.From = d.From ∧ o.To = d.To) ∨ (c = 2 ∧ ∀ d : SegD, d.ok → encG d ≠ (b, 0))
theorem infoG_no {b : List UInt8} {d : SegD} {c : Int} {o : Info} (h : DecG b d c) (hc : ¬ c = 0) : InfoG b o c := by
  rcases h with h | h
  · exact absurd h.1 hc
  · exact Or.inr ⟨h.1, h.2.2⟩
theorem infoG_yes {b : List UInt8} {d : SegD} {c s : Int} (h : DecG b d c) (hc : c = 0) : InfoG b ⟨d.Id, d.Tier, d.From, d.To, s⟩ 0 := by
  rcases h with h | h
  · exact Or.inl ⟨rfl, d, h.2.1, h.2.2, rfl, rfl, rfl, rfl⟩
  · omega
theorem decG_len {b : List UInt8} {d : SegD} {c : Int} (h : DecG b d c) (hc : c = 0) : 10 ≤ b.length := by
  rcases h with h | h
  · exact (isG_len (isG_of h.2.1 h.2.2)).2
  · omega
theorem infoG_enc {s : SegD} {o : Info} {c : Int} (h : InfoG (encG s).1 o c) (he : (encG s).2 = 0) (ho : s.ok) : c = 0 ∧ o.Id = s.Id ∧ o.Tier = s.Tier ∧ o.From = s.From ∧ o.To = s.To := by
  rcases h with ⟨h0, d, h1, h2, h3⟩ | h
  · obtain ⟨e, _⟩ := decG_enc (x := d) (c := 0) (Or.inl ⟨rfl, h1, h2⟩) he ho
    subst e; exact ⟨h0, h3⟩
  · exact absurd (Prod.ext (x := encG s) (y := ((encG s).1, 0)) rfl he) (h.2 s ho)
end Go.Proofs.YtgibfidebdgffaaDoor
end
section
namespace Go.Proofs.YtgibfidebdgffaaDoor
theorem rollL_one (S : Seg) (id k : Int) : rollL [S] id k = rollS S.d id k := by
  have e0 : gd [S] 0 = S := rfl
  have eS : flatS [S] = S.d.Samples := by simp [flatS]
  have eA : flatA [S] = S.d.Aggs := by simp [flatA]
  have eC : chainG k [S] 1 = (mayS S.d && decide (S.d.Tier = k - 1)) := by
    rw [chainG, chainG, e0]; simp
  unfold rollL rollS rollT
  by_cases h : id < 1 ∨ 1073741824 < id ∨ k < 1 ∨ 3 < k
  · rw [if_pos h, if_pos (by omega)]
  · rw [if_neg h, if_neg (by simp only [List.length_cons, List.length_nil]; omega)]
    show (if chainG k [S] 1 = false then _ else _) = _
    rw [eC, eS, eA, e0]
    by_cases hm : mayS S.d = true ∧ S.d.Tier = k - 1
    · have e2 : ((mayS S.d && decide (S.d.Tier = k - 1)) = false) ↔ False := by rw [hm.1, decide_eq_true hm.2]; simp
      rw [if_pos hm, if_neg (by rw [e2]; exact fun c => c)]
      have er : (if k = 1 then rawA S.d.Samples k else downA S.d.Aggs k) = (if k = 1 then rawA S.d.Samples 1 else downA S.d.Aggs k) := by
        by_cases hk : k = 1
        · rw [if_pos hk, if_pos hk, hk]
        · rw [if_neg hk, if_neg hk]
      rw [er]; rfl
    · rw [if_neg hm, if_pos]
      cases h1 : mayS S.d
      · rfl
      · rw [Bool.true_and]; exact decide_eq_false fun c => hm ⟨h1, c⟩
theorem ok_nilG : ∀ s ∈ ([] : List Seg), s.d.ok := fun s h => nomatch h
theorem ok_oneG {S : Seg} (h : S.d.ok) : ∀ s ∈ [S], s.d.ok := fun s hs => by obtain rfl := List.mem_singleton.1 hs; exact h
/-! ### A few -/
abbrev toldG : SegD := ⟨3, 0, 0, 10, [⟨3, 5⟩], []⟩
abbrev toldRG : SegD := ⟨4, 1, 0, 10, [], [⟨0, 1, 5, 5, 5, 5, 5⟩]⟩
theorem toldG_ok : toldG.ok := by decide
theorem toldG_may : mayS toldG = true := by decide +kernel
theorem toldG_code : (encG toldG).2 = 0 := by decide +kernel
theorem toldG_len : (6 : Int) < ((encG toldG).1.length : Int) := by decide +kernel
theorem toldG_pos : 0 < (encG toldG).1.length := by decide +kernel
theorem toldG_first : (((encG toldG).1[0]'toldG_pos).toNat : Int) = 84 := by decide +kernel
theorem toldG_small : (encG toldG).1.length ≤ 1000 := by decide +kernel
theorem toldG_get {x : SegD} {c : Int} (h : DecG (encG toldG).1 x c) : x = toldG ∧ c = 0 := decG_enc h toldG_code toldG_ok
theorem toldG_cut {x : SegD} {c : Int} {k : Nat} (h : DecG ((encG toldG).1.take k) x c) (hk : k < (encG toldG).1.length) : c = 2 := decG_cut h toldG_code toldG_ok hk
theorem toldG_info {o : Info} {c : Int} (h : InfoG (encG toldG).1 o c) : c = 0 ∧ o.Id = 3 ∧ o.Tier = 0 ∧ o.From = 0 ∧ o.To = 10 := infoG_enc h toldG_code toldG_ok
theorem toldG_roll (S : Seg) (h : S.d = toldG) : (rollL [S] 4 1).1 = toldRG ∧ (rollL [S] 4 1).2 = 0 := by
  rw [rollL_one, h]; exact ⟨by decide +kernel, by decide +kernel⟩
theorem toldG_sum {x : SegD} (h : x = toldRG) (hl : 0 < x.Aggs.length) : (x.Aggs[0]'hl).Sum = 5 := by subst h; rfl
theorem toldG_ne : ¬ toldG = toldRG := by decide
theorem toldG_zero : mayS ⟨0, 0, 0, 0, [], []⟩ = false := by decide +kernel
end Go.Proofs.YtgibfidebdgffaaDoor
end
section
namespace Go.Proofs.YtgibfidebdgffaaDoor
theorem ok_one {a : Seg} (h : a.d.ok) : ∀ s ∈ [a], s.d.ok := fun s hs => by obtain rfl := List.mem_singleton.1 hs; exact h
end Go.Proofs.YtgibfidebdgffaaDoor
end
section
namespace Go.Proofs.YtgibfidebdgffaaDoor
theorem rawL_len (k : Int) : ∀ (f : Nat) (l : List Sample) (out : List Agg), (rawL k f l out).1.length ≤ out.length + l.length
  | 0, _, _ => by simp [rawL]
  | _ + 1, [], _ => by simp [rawL]
  | f + 1, s :: l, out => by
    rw [rawL]
    split
    · have := rawL_len k f ((s :: l).drop (winLen k (floorA s.T k) (s :: l))) (out ++ [(allA ((s :: l).take (winLen k (floorA s.T k) (s :: l))) (floorA s.T k)).1])
      have hw := win_pos (k := k) (l := s :: l) (by simp)
      simp only [List.getElem_cons_zero] at hw
      simp only [List.length_append, List.length_cons, List.length_nil, List.length_drop] at this hw ⊢
      omega
    · simp
theorem rawA_len (l : List Sample) (k : Int) : (rawA l k).1.length ≤ l.length := by
  unfold rawA
  split
  · have := rawL_len k l.length l []; simpa using this
  · simp
end Go.Proofs.YtgibfidebdgffaaDoor
end
section
namespace Go.Proofs.YtgibfidebdgffaaDoor
end Go.Proofs.YtgibfidebdgffaaDoor
end
section
namespace Go.Proofs.YtgibfidebdgffaaDoor
def trS (fr : Int) (s : Sample) : Sample := ⟨s.T + fr, Int.tmod s.V 1000000000⟩
def trTo (l : List Sample) (fr : Int) (i : Nat) : List Sample := (l.take i).map (trS fr) ++ l.drop i
theorem trTo_len (l : List Sample) (fr : Int) (i : Nat) : (trTo l fr i).length = l.length := by
  unfold trTo; rw [List.length_append, List.length_map, List.length_take, List.length_drop]; omega
theorem trTo_get {l : List Sample} {fr : Int} {i : Nat} (h : i < l.length) : (trTo l fr i)[i]'(by rw [trTo_len]; exact h) = l[i] := by
  simp only [trTo]
  rw [List.getElem_append_right (by simp; omega)]
  simp [Nat.min_eq_left (Nat.le_of_lt h)]
theorem trTo_zero (l : List Sample) (fr : Int) : l = trTo l fr 0 := by simp [trTo]
theorem trTo_set {l : List Sample} {fr : Int} {i : Nat} (h : i < l.length) : (trTo l fr i).set i (trS fr l[i]) = trTo l fr (i + 1) := by
  have e : trTo l fr i = (l.take i).map (trS fr) ++ l[i] :: l.drop (i + 1) := by unfold trTo; rw [List.drop_eq_getElem_cons h]
  have hl : ((l.take i).map (trS fr)).length = i := by simp; omega
  rw [e, List.set_append, if_neg (by omega), hl, Nat.sub_self, List.set_cons_zero]
  unfold trTo
  rw [List.take_succ_eq_append_getElem h, List.map_append, List.append_assoc]; rfl
theorem trTo_step {l xs : List Sample} {fr : Int} {i : Nat} {a b : Sample} (h : i < l.length) (hx : xs = trTo l fr i) (hb : b = trS fr (xs[i]'(by rw [hx, trTo_len]; exact h))) : (xs.set i a).set i b = trTo l fr (i + 1) := by
  subst hx
  rw [List.set_set, hb, trTo_get h]; exact trTo_set h
theorem trTo_all {l : List Sample} {fr : Int} {i : Nat} (h : i = l.length) : trTo l fr i = l.map (trS fr) := by
  subst h; simp [trTo]
def mkL (nid : Int) (steps values : List Int) : List Sample := riseL (nid :: steps) values (riseN (nid :: steps) 40)
def makeS (nid fr : Int) (steps values : List Int) : SegD :=
  ⟨1 + nid % 18446744073709551616 % 1000, 0, fr, (gd ((mkL nid steps values).map (trS fr)) ((mkL nid steps values).length - 1)).T + 1 + nid % 18446744073709551616 % 7, (mkL nid steps values).map (trS fr), []⟩
theorem mkN (nid : Int) (steps : List Int) : 1 ≤ riseN (nid :: steps) 40 ∧ riseN (nid :: steps) 40 ≤ 40 ∧ riseN (nid :: steps) 40 ≤ steps.length + 1 := by
  unfold riseN; rw [List.length_cons]; omega
theorem mkL_len (nid : Int) (steps values : List Int) : (mkL nid steps values).length = riseN (nid :: steps) 40 := rise_length ..
theorem mkL_ok {nid : Int} {steps values : List Int} (hv : ∀ v ∈ values, i64R v) : ∀ s ∈ mkL nid steps values, s.ok :=
  rise_ok (riseN_le _ _) (by have := mkN nid steps; omega) hv
theorem mkL_T {nid : Int} {steps values : List Int} : ∀ s ∈ mkL nid steps values, 1 ≤ s.T ∧ s.T ≤ 1600 := by
  intro s hs
  obtain ⟨j, hj, rfl⟩ := List.getElem_of_mem hs
  have hn := mkN nid steps
  rw [mkL_len] at hj
  have h1 := tAt_r (steps := nid :: steps) (i := j + 1) (by rw [List.length_cons]; omega)
  have e : (mkL nid steps values)[j] = (⟨tAt (nid :: steps) (j + 1), vAt values j⟩ : Sample) := rise_get ..
  rw [e]; simp only []; omega
theorem getElem_eq {l m : List Sample} {i : Nat} {h : i < l.length} (e : l = m) (h' : i < m.length) : l[i] = m[i] := by subst e; rfl
theorem made_T {l xs : List Sample} {fr : Int} {i : Nat} (hT : ∀ s ∈ l, 1 ≤ s.T ∧ s.T ≤ 1600) (hx : xs = l.map (trS fr)) (h : i < xs.length) : fr + 1 ≤ (xs[i]'h).T ∧ (xs[i]'h).T ≤ fr + 1600 := by
  subst hx
  rw [List.getElem_map]
  have := hT _ (List.getElem_mem (show i < l.length by simpa using h))
  simp only [trS]; omega
theorem make_is {nid fr a b : Int} {steps values : List Int} {xs : List Sample} {n : Nat} {h : n < xs.length} (hx : xs = (mkL nid steps values).map (trS fr)) (hl : (mkL nid steps values).length = riseN (nid :: steps) 40) (hn : n = xs.length - 1) (ha : a = 1 + nid % 18446744073709551616 % 1000) (hb : b = nid % 18446744073709551616 % 7) : (⟨a, 0, fr, (xs[n]'h).T + 1 + b, xs, []⟩ : SegD) = makeS nid fr steps values := by
  subst ha; subst hb; subst hn
  unfold makeS
  have e : (mkL nid steps values).length = xs.length := by rw [hx, List.length_map]
  rw [e, ← hx, gd_eq h]
/-! ### Bits -/
/-! ### Rows that stay as they are -/
def Frz (a b : Nat) (fr : List Item) (l : List Seg) : Prop := ∀ s ∈ l, rowT a sampE s.sv.1 s.d.Samples ∈ fr ∧ rowT b aggE s.av.1 s.d.Aggs ∈ fr
theorem Frz.nil {a b : Nat} {fr : List Item} : Frz a b fr [] := fun s h => nomatch h
theorem Frz.mono {a b : Nat} {fr fr' : List Item} {l : List Seg} (h : Frz a b fr l) (hs : ∀ x ∈ fr, x ∈ fr') : Frz a b fr' l := fun s hm => ⟨hs _ (h s hm).1, hs _ (h s hm).2⟩
theorem Frz.sub {a b : Nat} {fr : List Item} {l l' : List Seg} (h : Frz a b fr l) (hs : ∀ x ∈ l', x ∈ l) : Frz a b fr l' := fun s hm => h s (hs s hm)
theorem Frz.cons {a b : Nat} {fr : List Item} {l : List Seg} {s : Seg} (h : Frz a b fr l) (h1 : rowT a sampE s.sv.1 s.d.Samples ∈ fr) (h2 : rowT b aggE s.av.1 s.d.Aggs ∈ fr) : Frz a b fr (s :: l) := fun x hm => by
  rcases List.mem_cons.1 hm with rfl | hm
  · exact ⟨h1, h2⟩
  · exact h x hm
/-! ### Rows of segments -/
structure RowD where
  l : List SegD
  all : List Sample
  to : Int
theorem make_to {nid fr : Int} {steps values : List Int} : fr + 2 ≤ (makeS nid fr steps values).To ∧ (makeS nid fr steps values).To ≤ fr + 1610 := by
  have hn := mkN nid steps
  have hl := mkL_len nid steps values
  have h := made_T (fr := fr) (mkL_T (nid := nid) (steps := steps) (values := values)) rfl (i := (mkL nid steps values).length - 1) (by rw [List.length_map]; omega)
  rw [← gd_eq] at h
  simp only [makeS]; omega
theorem make_ok {nid fr : Int} {steps values : List Int} (h0 : 0 ≤ fr) (h1 : fr ≤ 1000000000) (hv : ∀ v ∈ values, i64R v) : (makeS nid fr steps values).ok := by
  have ht := make_to (nid := nid) (fr := fr) (steps := steps) (values := values)
  refine ⟨?_, by simp [makeS, i64R], ?_, ?_, ?_, fun x h => nomatch h⟩
  · simp only [makeS, i64R]; omega
  · simp only [makeS, i64R]; omega
  · simp only [i64R]; omega
  · intro x hx
    simp only [makeS, List.mem_map] at hx
    obtain ⟨y, hy, rfl⟩ := hx
    have h2 := mkL_T y hy
    have h3 := (mkL_ok (nid := nid) (steps := steps) hv y hy).2
    refine ⟨?_, ?_⟩
    · simp only [trS]; omega
    · simp only [trS]
      have := tmod_small y.V
      omega
end Go.Proofs.YtgibfidebdgffaaDoor
end
section
namespace Go.Proofs.YtgibfidebdgffaaDoor
abbrev Fine (a : Agg) : Prop := mayP a ∧ Wn a
theorem fine_J {a b : Agg} (ha : Fine a) (hb : Fine b) (h : a.Count + b.Count ≤ 1000000) : joinA a b = (J a b, 0) ∧ Fine (J a b) := by
  have h1 := J_may ha.1 hb.1 (by omega)
  obtain ⟨_, a1, a2, a3⟩ := ha
  obtain ⟨_, b1, b2, b3⟩ := hb
  rcases joinA_may (a := a) (b := b) (by assumption) (by assumption) (by omega) with ⟨h2, _⟩ | ⟨_, h2⟩
  · refine ⟨h2, h1, ?_⟩
    simp only [Wn, J]; omega
  · exfalso; simp only [i64R] at h2; omega
theorem fine_at {a : Agg} {k : Int} (h0 : 0 < k) (h4 : k < 4) (h : Fine a) : Fine (atK a k) := by
  have hf := floor_nn (t := a.From) h0 h4 (by have := h.1; omega) (by have := h.1; omega)
  obtain ⟨⟨c1, c2, c3, c4, c5⟩, hw⟩ := h
  exact ⟨⟨c1, c2, hf.1, by simp only [atK]; omega, c5⟩, hw⟩
theorem len_pos_of_cnt {A : List Agg} (h : 0 < cntA A) : 0 < A.length := by
  cases A with
  | nil => simp [cntA] at h
  | cons a A => simp
end Go.Proofs.YtgibfidebdgffaaDoor
end
section
namespace Go.Proofs.YtgibfidebdgffaaDoor
theorem atK_agg (fr k : Int) {l : List Sample} (h : 0 < l.length) : atK (aggL fr l) k = aggL (floorA fr k) l := by
  have key : ∀ (l : List Sample) (a b : Agg), a.Count = b.Count → a.Sum = b.Sum → a.Min = b.Min → a.Max = b.Max → a.First = b.First → a.Last = b.Last →
      (accL a l).Count = (accL b l).Count ∧ (accL a l).Sum = (accL b l).Sum ∧ (accL a l).Min = (accL b l).Min ∧ (accL a l).Max = (accL b l).Max ∧ (accL a l).First = (accL b l).First ∧ (accL a l).Last = (accL b l).Last := by
    intro l
    induction l with
    | nil => intro a b h1 h2 h3 h4 h5 h6; exact ⟨h1, h2, h3, h4, h5, h6⟩
    | cons s l ih =>
      intro a b h1 h2 h3 h4 h5 h6
      rw [accL, accL]
      exact ih _ _ (by simp only [stepA]; omega) (by simp only [stepA]; omega) (by simp only [stepA]; omega) (by simp only [stepA]; omega) h5 rfl
  cases l with
  | nil => simp at h
  | cons s l =>
    obtain ⟨h1, h2, h3, h4, h5, h6⟩ := key l (oneA s.V fr) (oneA s.V (floorA fr k)) rfl rfl rfl rfl rfl rfl
    have f1 := (accL_facts l (oneA s.V fr)).1
    have f2 := (accL_facts l (oneA s.V (floorA fr k))).1
    rw [agg_iff]
    simp only [atK, aggL]
    exact ⟨by rw [f1, f2], h1, h2, h3, h4, h5, h6⟩
theorem J_at (a b : Agg) (k : Int) : J a (atK b k) = J a b := rfl
theorem winLen_all {k F : Int} : ∀ (p l : List Sample), (∀ s ∈ p, floorA s.T k = F) → (∀ s r, l = s :: r → ¬ floorA s.T k = F) → winLen k F (p ++ l) = p.length
  | [], [], _, _ => rfl
  | [], s :: r, _, hl => by rw [List.nil_append, winLen, if_neg (hl s r rfl)]; rfl
  | s :: p, l, hp, hl => by
    rw [List.cons_append, winLen, if_pos (hp s (List.mem_cons_self ..)), winLen_all p l (fun x hx => hp x (List.mem_cons_of_mem _ hx)) hl]; rfl
theorem win_floor {k F : Int} : ∀ (l : List Sample), ∀ s ∈ l.take (winLen k F l), floorA s.T k = F
  | [], s, h => by simp at h
  | x :: l, s, h => by
    rw [winLen] at h
    split at h
    · rename_i hx
      rw [List.take_succ_cons] at h
      rcases List.mem_cons.1 h with rfl | h
      · exact hx
      · exact win_floor l s h
    · simp at h
theorem wins_cut {k F : Int} {f : Nat} {p l : List Sample} (hp : 0 < p.length) (hf : (p ++ l).length ≤ f) (hF : ∀ s ∈ p, floorA s.T k = F) (hl : ∀ s r, l = s :: r → ¬ floorA s.T k = F) : wins k f (p ++ l) = aggL F p :: wins k (f - 1) l := by
  cases p with
  | nil => simp at hp
  | cons s p =>
    cases f with
    | zero => simp at hf
    | succ f =>
      have e := hF s (List.mem_cons_self ..)
      have hw := winLen_all (s :: p) l hF hl
      rw [List.cons_append] at hw ⊢
      rw [wins, e, hw]
      simp
abbrev Up (k k' : Int) : Prop := ∀ t, 0 ≤ t → t ≤ 1099511627776 → floorA (floorA t k) k' = floorA t k'
theorem up_w {k k' : Int} (h : (k = 1 ∧ k' = 2) ∨ (k = 2 ∧ k' = 3)) : Up k k' := by
  intro t h0 h1
  rcases h with ⟨rfl, rfl⟩ | ⟨rfl, rfl⟩
  · rw [floor_eq (t := t) (k := 1) (w := 5) rfl (by decide) h0 h1, floor_eq (t := t) (k := 2) (w := 60) rfl (by decide) h0 h1, floor_eq (t := t - t % 5) (k := 2) (w := 60) rfl (by decide) (by omega) (by omega)]; omega
  · rw [floor_eq (t := t) (k := 2) (w := 60) rfl (by decide) h0 h1, floor_eq (t := t) (k := 3) (w := 1440) rfl (by decide) h0 h1, floor_eq (t := t - t % 60) (k := 3) (w := 1440) rfl (by decide) (by omega) (by omega)]; omega
theorem fine_agg {fr : Int} {p : List Sample} (f0 : 0 ≤ fr) (f1 : fr ≤ 1099511627776) (h : 0 < p.length) (hn : p.length ≤ 1000000) (hs : ∀ s ∈ p, smallS s) : Fine (aggL fr p) := by
  refine ⟨(all_fine f0 f1 h hn hs).2, ?_⟩
  have hb := sumS_bound p hs
  unfold Wn
  rw [aggL_count, aggL_sum]
  omega
theorem down_wins {k k' : Int} (h0 : 0 < k) (h4 : k < 4) (h0' : 0 < k') (h4' : k' < 4) (hup : Up k k') : ∀ (f : Nat) (l p : List Sample) (F : Int) (out : List Agg) (g : Nat), l.length ≤ f → (p ++ l).length ≤ g → (p ++ l).length ≤ 1000000 → 0 < p.length →
    (∀ s ∈ p, floorA s.T k' = F) → (∀ s ∈ p ++ l, 0 ≤ s.T ∧ s.T ≤ 1099511627776) → (∀ s ∈ p ++ l, smallS s) → downL k' (wins k f l) (out ++ [aggL F p]) = (out ++ wins k' g (p ++ l), 0)
  | 0, l, p, F, out, g, hf, hg, hn, hp, hF, hT, hs => by
    obtain rfl := List.length_eq_zero_iff.1 (by omega : l.length = 0)
    rw [wins_cut hp hg hF (by intro s r h; cases h)]
    have : wins k' (g - 1) [] = [] := by cases g - 1 <;> rfl
    rw [this]; rfl
  | f + 1, [], p, F, out, g, hf, hg, hn, hp, hF, hT, hs => by
    rw [wins_cut hp hg hF (by intro s r h; cases h)]
    have : wins k' (g - 1) [] = [] := by cases g - 1 <;> rfl
    rw [this]; rfl
  | f + 1, s :: l, p, F, out, g, hf, hg, hn, hp, hF, hT, hs => by
    have hsT := hT s (List.mem_append_right _ (List.mem_cons_self ..))
    have hfl := floor_nn h0 h4 hsT.1 hsT.2
    have hpn : 0 < winLen k (floorA s.T k) (s :: l) := by simp [winLen]
    have hle := winLen_le k (floorA s.T k) (s :: l)
    have hwf := win_floor (k := k) (F := floorA s.T k) (s :: l)
    rw [wins]
    generalize winLen k (floorA s.T k) (s :: l) = n at *
    have e := List.take_append_drop n (s :: l)
    have e1 : ((s :: l).take n).length = n := by rw [List.length_take]; omega
    have e2 : ((s :: l).drop n).length = (s :: l).length - n := List.length_drop
    have hl1 : (p ++ s :: l).length = p.length + (s :: l).length := List.length_append
    have hG : floorA (floorA s.T k) k' = floorA s.T k' := hup s.T hsT.1 hsT.2
    have hwG : ∀ x ∈ (s :: l).take n, floorA x.T k' = floorA s.T k' := by
      intro x hx
      have hxT := hT x (List.mem_append_right _ (List.mem_of_mem_take hx))
      rw [← hup x.T hxT.1 hxT.2, hwf x hx, hG]
    have hgt : (out ++ [aggL F p]).getLast? = some (aggL F p) := by simp
    have hFp : F = floorA (p[0]'hp).T k' := (hF _ (List.getElem_mem hp)).symm
    have hp0 := hT _ (List.mem_append_left _ (List.getElem_mem hp))
    have hFr := floor_nn h0' h4' hp0.1 hp0.2
    rw [downL, hgt]
    simp only []
    rw [aggL_from F hp, aggL_from (floorA s.T k) (l := (s :: l).take n) (by omega), hG]
    by_cases hc : F = floorA s.T k'
    · rw [if_pos hc]
      have hfa : Fine (aggL F p) := fine_agg (by omega) (by omega) hp (by omega) fun x hx => hs x (List.mem_append_left _ hx)
      have hfb : Fine (aggL (floorA s.T k) ((s :: l).take n)) := fine_agg hfl.1 (by omega) (by omega) (by omega) fun x hx => hs x (List.mem_append_right _ (List.mem_of_mem_take hx))
      have hfb' := fine_at h0' h4' hfb
      have c1 : (aggL F p).Count = (p.length : Int) := aggL_count F
      have c2 : (atK (aggL (floorA s.T k) ((s :: l).take n)) k').Count = (n : Int) := by
        show (aggL (floorA s.T k) ((s :: l).take n)).Count = _
        rw [aggL_count, e1]
      obtain ⟨j1, _⟩ := fine_J hfa hfb' (by rw [c1, c2]; omega)
      rw [j1, if_pos rfl]
      simp only []
      have hset : (out ++ [aggL F p]).set ((out ++ [aggL F p]).length - 1) (J (aggL F p) (atK (aggL (floorA s.T k) ((s :: l).take n)) k')) = out ++ [aggL F (p ++ (s :: l).take n)] := by
        rw [J_at, ← aggL_append F (floorA s.T k) (by intro h; rw [h] at hp; simp at hp) (by intro h; rw [h] at e1; simp at e1; omega)]
        simp
      rw [hset, down_wins h0 h4 h0' h4' hup f ((s :: l).drop n) (p ++ (s :: l).take n) F out g (by rw [e2]; simp only [List.length_cons] at hf ⊢; omega) (by rw [List.append_assoc, e]; exact hg) (by rw [List.append_assoc, e]; exact hn) (by rw [List.length_append]; omega)
        (fun x hx => (List.mem_append.1 hx).elim (fun h => hF x h) (fun h => by rw [hwG x h, hc])) (by rw [List.append_assoc, e]; exact hT) (by rw [List.append_assoc, e]; exact hs), List.append_assoc, e]
    · rw [if_neg hc, atK_agg _ _ (by omega), hG]
      rw [down_wins h0 h4 h0' h4' hup f ((s :: l).drop n) ((s :: l).take n) (floorA s.T k') (out ++ [aggL F p]) (g - 1) (by rw [e2]; simp only [List.length_cons] at hf ⊢; omega) (by rw [e]; omega) (by rw [e]; omega) (by omega) hwG
        (by rw [e]; exact fun x hx => hT x (List.mem_append_right _ hx)) (by rw [e]; exact fun x hx => hs x (List.mem_append_right _ hx)), e]
      rw [wins_cut hp hg hF (by intro y r h; simp only [List.cons.injEq] at h; rw [← h.1]; exact fun q => hc q.symm), List.append_assoc]; rfl
theorem steps_once {l : List Sample} {k k' : Int} (hk : (k = 1 ∧ k' = 2) ∨ (k = 2 ∧ k' = 3)) (hr : risingA l = true) (hn : l.length ≤ 1000000) (hs : ∀ s ∈ l, smallS s) : downA (rawA l k).1 k' = rawA l k' ∧ (rawA l k').2 = 0 := by
  have ha := asc_of l (-1) (by omega) hr
  have r1 := raw_rising (k := k) (by omega) (by omega) hr hn hs
  have r2 := raw_rising (k := k') (by omega) (by omega) hr hn hs
  refine ⟨?_, r2.1⟩
  have hc : coarseA k = true := by simp only [coarseA, decide_eq_true_eq]; omega
  have hc' : coarseA k' = true := by simp only [coarseA, decide_eq_true_eq]; omega
  have hkk : k' - 1 = k := by omega
  obtain ⟨i1, _⟩ := wins_all (k := k) (by omega) (by omega) l.length l (-1) (Nat.le_refl _) hn ha.1 hs (fun s h => by have := floor_nn (t := s.T) (k := k) (by omega) (by omega) (ha.1.2 s h).1 (ha.1.2 s h).2; omega)
  obtain ⟨i2, _⟩ := wins_all (k := k') (by omega) (by omega) l.length l (-1) (Nat.le_refl _) hn ha.1 hs (fun s h => by have := floor_nn (t := s.T) (k := k') (by omega) (by omega) (ha.1.2 s h).1 (ha.1.2 s h).2; omega)
  have e1 : rawA l k = (wins k l.length l, 0) := by unfold rawA; rw [if_pos ⟨hr, hc⟩, i1]; rfl
  have e2 : rawA l k' = (wins k' l.length l, 0) := by unfold rawA; rw [if_pos ⟨hr, hc'⟩, i2]; rfl
  have hal := r1.2.1
  rw [e1] at hal ⊢
  rw [e2]
  unfold downA
  rw [hkk, if_pos ⟨by omega, hal, hc'⟩]
  cases l with
  | nil => rfl
  | cons s l =>
    have hsT := ha.1.2 s (List.mem_cons_self ..)
    have hfl := floor_nn (k := k) (by omega) (by omega) hsT.1 hsT.2
    have hup := up_w hk
    have hpn : 0 < winLen k (floorA s.T k) (s :: l) := by simp [winLen]
    have hle := winLen_le k (floorA s.T k) (s :: l)
    have hwf := win_floor (k := k) (F := floorA s.T k) (s :: l)
    simp only [List.length_cons] at hle hn ⊢
    rw [wins]
    generalize winLen k (floorA s.T k) (s :: l) = n at *
    have e := List.take_append_drop n (s :: l)
    have el : ((s :: l).take n).length = n := by rw [List.length_take]; simp only [List.length_cons]; omega
    have ed : ((s :: l).drop n).length = (s :: l).length - n := List.length_drop
    simp only [List.length_cons] at ed
    have hG : floorA (floorA s.T k) k' = floorA s.T k' := hup s.T hsT.1 hsT.2
    have hwG : ∀ x ∈ (s :: l).take n, floorA x.T k' = floorA s.T k' := by
      intro x hx
      have hxT := ha.1.2 x (List.mem_of_mem_take hx)
      rw [← hup x.T hxT.1 hxT.2, hwf x hx, hG]
    have hd := down_wins (k := k) (k' := k') (by omega) (by omega) (by omega) (by omega) hup l.length ((s :: l).drop n) ((s :: l).take n) (floorA s.T k') [] (l.length + 1) (by omega) (by rw [e]; simp) (by rw [e]; simp only [List.length_cons]; omega) (by omega) hwG (by rw [e]; exact ha.1.2) (by rw [e]; exact hs)
    rw [e] at hd
    rw [downL]
    simp only [List.getLast?_nil]
    rw [atK_agg _ _ (by omega), hG]
    simpa using hd
end Go.Proofs.YtgibfidebdgffaaDoor
end
section
namespace Go.Proofs.YtgibfidebdgffaaDoor
theorem mk_risingL {nid fr : Int} {steps values : List Int} (h0 : 0 ≤ fr) (h1 : fr ≤ 1000000000) : risingA ((mkL nid steps values).map (trS fr)) = true := by
  have hn := mkN nid steps
  have hl := mkL_len nid steps values
  have hg : ∀ j (h : j < ((mkL nid steps values).map (trS fr)).length), (((mkL nid steps values).map (trS fr))[j]'h).T = tAt (nid :: steps) (j + 1) + fr := fun j h => by
    rw [List.getElem_map]
    have : (mkL nid steps values)[j]'(by simpa using h) = (⟨tAt (nid :: steps) (j + 1), vAt values j⟩ : Sample) := rise_get ..
    rw [this]; rfl
  refine rises_of _ _ (fun j h => ?_) (fun i j hi h => ?_)
  · have e := hg j h
    rw [List.length_map, hl] at h
    have h2 := tAt_r (steps := nid :: steps) (i := j + 1) (by rw [List.length_cons]; omega)
    omega
  · rw [hg, hg]
    rw [List.length_map, hl] at h
    have := tAt_lt (steps := nid :: steps) (i := i + 1) (j := j + 1) (by omega) (by rw [List.length_cons]; omega)
    omega
theorem mk_rising {nid fr : Int} {steps values : List Int} (h0 : 0 ≤ fr) (h1 : fr ≤ 1000000000) : risingA (makeS nid fr steps values).Samples = true := mk_risingL h0 h1
theorem mk_small {nid fr : Int} {steps values : List Int} : ∀ s ∈ (makeS nid fr steps values).Samples, smallS s := by
  intro s hs
  simp only [makeS, List.mem_map] at hs
  obtain ⟨y, _, rfl⟩ := hs
  have := tmod_small y.V
  simp only [smallS, trS]; omega
theorem wins_from {k : Int} : ∀ (f : Nat) (l : List Sample), ∀ a ∈ wins k f l, ∃ s ∈ l, a.From = floorA s.T k
  | 0, _, a, h => nomatch h
  | f + 1, [], a, h => nomatch h
  | f + 1, s :: l, a, h => by
    rw [wins] at h
    rcases List.mem_cons.1 h with rfl | h
    · have hp := win_pos (k := k) (l := s :: l) (by simp)
      simp only [List.getElem_cons_zero] at hp
      exact ⟨s, List.mem_cons_self .., aggL_from _ (by rw [List.length_take, List.length_cons]; omega)⟩
    · obtain ⟨x, hx, e⟩ := wins_from f _ a h
      exact ⟨x, List.mem_of_mem_drop hx, e⟩
theorem raw_wins {l : List Sample} {k : Int} (h0 : 0 < k) (h4 : k < 4) (hr : risingA l = true) (hn : l.length ≤ 1000000) (hs : ∀ s ∈ l, smallS s) : (rawA l k).1 = wins k l.length l := by
  have ha := asc_of l (-1) (by omega) hr
  obtain ⟨i1, _⟩ := wins_all h0 h4 l.length l (-1) (Nat.le_refl _) hn ha.1 hs (fun s h => by have := floor_nn h0 h4 (ha.1.2 s h).1 (ha.1.2 s h).2; omega)
  have hc : coarseA k = true := by simp only [coarseA, decide_eq_true_eq]; omega
  unfold rawA
  rw [if_pos ⟨hr, hc⟩, i1]; simp
theorem raw_from {l : List Sample} {k : Int} (h0 : 0 < k) (h4 : k < 4) (hr : risingA l = true) (hn : l.length ≤ 1000000) (hs : ∀ s ∈ l, smallS s) : ∀ a ∈ (rawA l k).1, ∃ s ∈ l, a.From = floorA s.T k := by
  rw [raw_wins h0 h4 hr hn hs]; exact wins_from _ _
theorem make_may {nid fr : Int} {steps values : List Int} (h0 : 0 ≤ fr) (h1 : fr ≤ 1000000000) : mayS (makeS nid fr steps values) = true := by
  have ht := make_to (nid := nid) (fr := fr) (steps := steps) (values := values)
  have hl := mkL_len nid steps values
  have hn := mkN nid steps
  have hlen : (makeS nid fr steps values).Samples.length = riseN (nid :: steps) 40 := by simp only [makeS, List.length_map, hl]
  have hT : ∀ i (h : i < (makeS nid fr steps values).Samples.length), fr + 1 ≤ (gd (makeS nid fr steps values).Samples i).T ∧ (gd (makeS nid fr steps values).Samples i).T ≤ fr + 1600 := fun i h => by
    rw [gd_eq h]; exact made_T (mkL_T (nid := nid) (steps := steps) (values := values)) rfl h
  refine may_iff.2 ⟨headS_yes ?_, Or.inl ⟨rfl, mayRaw_iff.2 ⟨rfl, by omega, by omega, mk_rising h0 h1, ?_, ?_⟩⟩⟩
  · have e1 : (makeS nid fr steps values).Id = 1 + nid % 18446744073709551616 % 1000 := rfl
    have e2 : (makeS nid fr steps values).Tier = 0 := rfl
    have e3 : (makeS nid fr steps values).From = fr := rfl
    omega
  · have := hT 0 (by omega)
    show fr ≤ _; omega
  · have e : (makeS nid fr steps values).To = (gd (makeS nid fr steps values).Samples ((mkL nid steps values).length - 1)).T + 1 + nid % 18446744073709551616 % 7 := rfl
    rw [hlen, e, hl]; omega
def atT (s : SegD) (i k : Nat) : SegD := if k = 0 then s else ⟨10 * (i : Int) + (k : Int) + 1, (k : Int), s.From, s.To, [], (rawA s.Samples (k : Int)).1⟩
theorem atT_may {s : SegD} {i k : Nat} (h : mayS s = true) (ht : s.Tier = 0) (hs : ∀ x ∈ s.Samples, smallS x) (hi : i < 1000) (hk : k < 4) : mayS (atT s i k) = true := by
  unfold atT
  split
  · exact h
  rename_i h0
  obtain ⟨g1, g2⟩ := may_iff.1 h
  have g1 := headS_iff.1 g1
  rcases g2 with ⟨_, g2⟩ | ⟨g2, _⟩
  · obtain ⟨_, a1, a2, a3, a4, a5⟩ := mayRaw_iff.1 g2
    have hr := raw_rising (l := s.Samples) (k := (k : Int)) (by omega) (by omega) a3 (by omega) hs
    have hf := raw_from (l := s.Samples) (k := (k : Int)) (by omega) (by omega) a3 (by omega) hs
    have hlen := rawA_len s.Samples (k : Int)
    have hpos : 0 < (rawA s.Samples (k : Int)).1.length := len_pos_of_cnt (by unfold cntA; rw [hr.2.2.1]; omega)
    have hasc := (asc_of s.Samples (-1) (by decide) a3).1
    have hb : ∀ x ∈ s.Samples, s.From ≤ x.T ∧ x.T < s.To := fun x hx => by
      obtain ⟨j, hj, rfl⟩ := List.mem_iff_getElem.1 hx
      have hp := List.pairwise_iff_getElem.1 hasc.1
      rw [gd_eq (by omega)] at a4 a5
      constructor
      · by_cases e : j = 0
        · subst e; exact a4
        · have := hp 0 j (by omega) hj (by omega); omega
      · by_cases e : j = s.Samples.length - 1
        · subst e; exact a5
        · have := hp j (s.Samples.length - 1) hj (by omega) (by omega); omega
    refine may_iff.2 ⟨headS_yes (by simp only []; omega), Or.inr ⟨by simp only []; omega, mayUp_iff.2 ⟨rfl, hpos, by simp only []; omega, hr.2.1, ?_, ?_⟩⟩⟩
    · simp only []
      rw [gd_eq hpos]
      obtain ⟨x, hx, e⟩ := hf _ (List.getElem_mem hpos)
      rw [e]
      have := hb x hx
      exact floor_mono (by omega) (by omega) (by omega) this.1 (by omega)
    · simp only []
      rw [gd_eq (by omega)]
      obtain ⟨x, hx, e⟩ := hf _ (List.getElem_mem (show (rawA s.Samples (k : Int)).1.length - 1 < (rawA s.Samples (k : Int)).1.length by omega))
      rw [e]
      have := hb x hx
      have := floor_nn (t := x.T) (k := (k : Int)) (by omega) (by omega) (by omega) (by omega)
      omega
  · exact absurd ht g2
end Go.Proofs.YtgibfidebdgffaaDoor
end
section
namespace Go.Proofs.YtgibfidebdgffaaDoor
/-! ### Samples at 10, 11, .. -/
/-! ### Made ones -/
theorem make_facts {nid fr : Int} {steps values : List Int} {S : SegD} (hd : S = makeS nid fr steps values) (h0 : 0 ≤ fr) (h1 : fr ≤ 1000000000) (hv : ∀ v ∈ values, i64R v) :
    mayS S = true ∧ S.ok ∧ S.Tier = 0 ∧ (encG S).2 = 0 ∧ (7 ≤ (encG S).1.length ∧ (encG S).1.length ≤ 4000) ∧ S.From = fr ∧ (∀ x ∈ S.Samples, smallS x) ∧ (1 ≤ S.Samples.length ∧ S.Samples.length ≤ 41) ∧ (fr + 2 ≤ S.To ∧ S.To ≤ fr + 1610) ∧ S.Aggs = [] ∧ S.Id = 1 + nid % 18446744073709551616 % 1000 := by
  subst hd
  have hm := make_may (nid := nid) (fr := fr) (steps := steps) (values := values) h0 h1
  have hn := mkN nid steps
  have hl : (makeS nid fr steps values).Samples.length = riseN (nid :: steps) 40 := by simp only [makeS, List.length_map]; exact mkL_len ..
  have ht : (makeS nid fr steps values).Tier = 0 := rfl
  have hf : (makeS nid fr steps values).From = fr := rfl
  have hi : (makeS nid fr steps values).Id = 1 + nid % 18446744073709551616 % 1000 := rfl
  have hto := make_to (nid := nid) (fr := fr) (steps := steps) (values := values)
  exact ⟨hm, make_ok h0 h1 hv, ht, (by rw [raw_enc hm ht]), raw_len hm ht, hf, mk_small, ⟨by rw [hl]; omega, by rw [hl]; omega⟩, hto, rfl, hi⟩
/-! ### Rolled up again and again -/
theorem may_id {a b k f t : Int} {S : List Sample} {A : List Agg} (h : mayS ⟨a, k, f, t, S, A⟩ = true) (hb : 1 ≤ b ∧ b ≤ 1073741824) : mayS ⟨b, k, f, t, S, A⟩ = true := by
  obtain ⟨h1, h2⟩ := may_iff.1 h
  have h1 := headS_iff.1 h1
  exact may_iff.2 ⟨headS_yes ⟨hb.1, hb.2, h1.2.2⟩, h2⟩
def atR (s : SegD) (k : Nat) : SegD := if k = 0 then s else ⟨2000 + (k : Int), (k : Int), s.From, s.To, [], (rawA s.Samples (k : Int)).1⟩
section
variable {s : SegD} (h : mayS s = true) (ht : s.Tier = 0) (hs : ∀ x ∈ s.Samples, smallS x)
include h ht hs
theorem atR_may {k : Nat} (hk : k < 4) : mayS (atR s k) = true := by
  have := atT_may h ht hs (i := 0) (by omega) hk
  unfold atT at this
  unfold atR
  split
  · exact h
  · rename_i h0
    rw [if_neg h0] at this
    exact may_id this (by omega)
theorem roll_atR {k : Nat} (hk : k < 3) : rollS (atR s k) (2000 + ((k : Int) + 1)) ((k : Int) + 1) = (atR s (k + 1), 0) := by
  have hm := atR_may h ht hs (k := k) (by omega)
  obtain ⟨_, g2⟩ := may_iff.1 h
  rcases g2 with ⟨_, g2⟩ | ⟨g2, _⟩
  · obtain ⟨_, a1, a2, a3, _, _⟩ := mayRaw_iff.1 g2
    have hr := raw_rising (l := s.Samples) (k := ((k + 1 : Nat) : Int)) (by omega) (by omega) a3 (by omega) hs
    have hlen := rawA_len s.Samples ((k + 1 : Nat) : Int)
    have htk : (atR s k).Tier = ((k : Int) + 1) - 1 := by
      unfold atR; split
      · rw [ht]; omega
      · simp only []; omega
    have hx : (if (k : Int) + 1 = 1 then rawA (atR s k).Samples 1 else downA (atR s k).Aggs ((k : Int) + 1)) = rawA s.Samples ((k + 1 : Nat) : Int) := by
      by_cases e : k = 0
      · subst e; rfl
      · rw [if_neg (by omega)]
        unfold atR; rw [if_neg e]
        exact (steps_once (l := s.Samples) (k := (k : Int)) (k' := ((k + 1 : Nat) : Int)) (by omega) a3 (by omega) hs).1
    have hft : (atR s k).From = s.From ∧ (atR s k).To = s.To := by unfold atR; split <;> exact ⟨rfl, rfl⟩
    unfold rollS rollT
    rw [if_neg (by omega), if_pos ⟨hm, htk⟩, hx, if_neg (fun c => c hr.1), if_neg (by omega), hft.1, hft.2]
    unfold atR
    rw [if_neg (by omega)]
    congr 1
  · exact absurd ht g2
omit ht hs in
theorem atR_ok {k : Nat} (ho : s.ok) (hk : k < 4) : (atR s k).ok := by
  have hn := may_nums h
  unfold atR; split
  · exact ho
  · refine ⟨?_, ?_, ho.2.2.1, ho.2.2.2.1, (by intro x hx; cases hx), rawA_ok ho.2.2.2.2.1⟩ <;> simp only [i64R] <;> omega
theorem atR_sums {k : Nat} (h0 : 0 < k) (hk : k < 4) : cntA (atR s k).Aggs = (s.Samples.length : Int) ∧ smA (atR s k).Aggs = sumS s.Samples ∧ (∀ a ∈ (atR s k).Aggs, Wn a) ∧ (atR s k).Aggs.length ≤ 64 := by
  obtain ⟨_, g2⟩ := may_iff.1 h
  rcases g2 with ⟨_, g2⟩ | ⟨g2, _⟩
  · obtain ⟨_, a1, a2, a3, _, _⟩ := mayRaw_iff.1 g2
    have hr := raw_rising (l := s.Samples) (k := (k : Int)) (by omega) (by omega) a3 (by omega) hs
    have hw := raw_wn (l := s.Samples) (k := (k : Int)) (by omega) (by omega) a3 (by omega) hs
    have hl := rawA_len s.Samples (k : Int)
    unfold atR
    rw [if_neg (by omega)]
    exact ⟨hr.2.2.1, hr.2.2.2, hw, by simp only []; omega⟩
  · exact absurd ht g2
end
theorem rolls_step {S D : SegD} {sg : Seg} {k : Nat} (hsg : sg.d = atR S k) (h : mayS S = true) (ht : S.Tier = 0) (hs : ∀ x ∈ S.Samples, smallS x) (hk : k < 3) (hD : D = (rollL [sg] (2000 + ((k : Int) + 1)) ((k : Int) + 1)).1) : D = atR S (k + 1) ∧ (rollL [sg] (2000 + ((k : Int) + 1)) ((k : Int) + 1)).2 = 0 := by
  rw [rollL_one, hsg, roll_atR h ht hs hk] at *
  exact ⟨hD, rfl⟩
theorem atR_flds {s D : SegD} {k : Nat} (h : D = atR s (k + 1)) : D.Tier = (k : Int) + 1 ∧ D.Id = 2000 + ((k : Int) + 1) ∧ D.From = s.From ∧ D.To = s.To := by
  subst h; unfold atR; rw [if_neg (by omega)]; exact ⟨by simp only []; omega, by simp only []; omega, rfl, rfl⟩
theorem atR_span {s D : SegD} {k : Nat} (h : D = atR s k) : D.From = s.From ∧ D.To = s.To := by
  subst h; unfold atR; split <;> exact ⟨rfl, rfl⟩
/-! ### Two, one behind the other -/
section
variable {S T O : Seg} (hs : mayS S.d = true) (ht : mayS T.d = true) (s0 : S.d.Tier = 0) (t0 : T.d.Tier = 0) (hft : T.d.From = S.d.To) (hO : O.d = ⟨9, 0, S.d.From, T.d.To, S.d.Samples ++ T.d.Samples, []⟩) (hn : S.d.Samples.length + T.d.Samples.length ≤ 64)
  (ss : ∀ x ∈ S.d.Samples, smallS x) (st : ∀ x ∈ T.d.Samples, smallS x)
include hs ht s0 t0 hft hO hn ss st
end
end Go.Proofs.YtgibfidebdgffaaDoor
end
section
namespace Go.Proofs.YtgibfidebdgffaaDoor
theorem sumS_succ {l : List Sample} {i : Nat} (h : i < l.length) : sumS (l.take (i + 1)) = sumS (l.take i) + (l[i]'h).V := by
  rw [List.take_succ_eq_append_getElem h, sumS_append]; simp [sumS]
end Go.Proofs.YtgibfidebdgffaaDoor
end
section
namespace Go.Proofs.YtgibfidebdgffaaDoor
abbrev iV (x : Int) : Value := .int .i64 x
abbrev nS : Value := .slice none 0 0
abbrev aggC (a : Agg) : List Value := [.int .i64 a.From, .int .i64 a.Count, .int .i64 a.Sum, .int .i64 a.Min, .int .i64 a.Max, .int .i64 a.First, .int .i64 a.Last]
abbrev aggA (a : Agg) : Array Value := #[.int .i64 a.From, .int .i64 a.Count, .int .i64 a.Sum, .int .i64 a.Min, .int .i64 a.Max, .int .i64 a.First, .int .i64 a.Last]
end Go.Proofs.YtgibfidebdgffaaDoor
end
