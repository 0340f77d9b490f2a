/- Windows of an answer; which segments are asked; what they answer. -/
import Derived.Test.YthanfecefjfbjaaSG
import Derived.Test.YthanfecefjfbjaaAP
import Derived.Test.YthanfecefjfbjaaOG
namespace Go.Proofs.Ythanfecefjfbjaa
structure Win where
  Tier : Int
  Lo : Int
  Hi : Int
  Agg : Agg
  deriving DecidableEq
def winE : Enc Win := ⟨10, fun w => [.int .i64 w.Tier, .int .i64 w.Lo, .int .i64 w.Hi, .int .i64 w.Agg.From, .int .i64 w.Agg.Count, .int .i64 w.Agg.Sum, .int .i64 w.Agg.Min, .int .i64 w.Agg.Max, .int .i64 w.Agg.First, .int .i64 w.Agg.Last], fun _ => rfl, by decide,
  fun _ u hu => by simp at hu; rcases hu with rfl | rfl | rfl | rfl | rfl | rfl | rfl | rfl | rfl | rfl <;> rfl⟩
abbrev Win.ok (w : Win) : Prop := i64R w.Tier ∧ i64R w.Lo ∧ i64R w.Hi ∧ w.Agg.ok
instance : Inhabited Win := ⟨⟨0, 0, 0, default⟩⟩
instance : Inhabited SegD := ⟨⟨0, 0, 0, 0, [], []⟩⟩
instance : Inhabited Seg := ⟨⟨default, nilV, nilV⟩⟩
theorem fst_of {α β : Type} {p : α × β} {a : α} {b : β} (h : p = (a, b)) : a = p.1 := by rw [h]
theorem snd_of {α β : Type} {p : α × β} {a : α} {b : β} (h : p = (a, b)) : b = p.2 := by rw [h]
/-! ### Samples as windows -/
abbrev sampW (s : Sample) : Win := ⟨0, s.T, s.T + 1, oneA s.V s.T⟩
def inT (fr to : Int) (s : Sample) : Bool := decide (fr ≤ s.T ∧ s.T < to)
def rawW (l : List Sample) (fr to : Int) : List Win := (l.filter (inT fr to)).map sampW
theorem rawW_yes {l : List Sample} {fr to : Int} {i : Nat} (h : i < l.length) (h0 : fr ≤ (l[i]'h).T ∧ (l[i]'h).T < to) : rawW (l.take i) fr to ++ [sampW (l[i]'h)] = rawW (l.take (i + 1)) fr to := by
  unfold rawW; rw [List.take_succ_eq_append_getElem h, List.filter_append, List.filter_cons, List.filter_nil, if_pos (show inT fr to (l[i]'h) = true from decide_eq_true h0), List.map_append]; rfl
theorem rawW_no {l : List Sample} {fr to : Int} {i : Nat} (h : i < l.length) (h0 : ¬ (fr ≤ (l[i]'h).T ∧ (l[i]'h).T < to)) : rawW (l.take i) fr to = rawW (l.take (i + 1)) fr to := by
  unfold rawW; rw [List.take_succ_eq_append_getElem h, List.filter_append, List.filter_cons, List.filter_nil, if_neg (by unfold inT; rw [decide_eq_false h0]; decide), List.append_nil]
theorem rawW_all {l : List Sample} {fr to : Int} {i : Nat} {ys : List Win} (hI : ys = rawW (l.take i) fr to) (hi : i = l.length) : ys = rawW l fr to := by rw [hI, List.take_of_length_le (by omega)]
theorem rawW_len (l : List Sample) (fr to : Int) : (rawW l fr to).length ≤ l.length := by unfold rawW; rw [List.length_map]; exact List.length_filter_le _ _
/-! ### Aggregates as windows -/
def winOf (s : SegD) (a : Agg) : Win := ⟨s.Tier, max a.From s.From, min (a.From + widthA s.Tier) s.To, a⟩
def keepW (fr to : Int) (w : Win) : Bool := decide (w.Lo < to ∧ fr < w.Hi)
def aggW (s : SegD) (l : List Agg) (fr to : Int) : List Win := (l.map (winOf s)).filter (keepW fr to)
theorem aggW_yes {s : SegD} {l : List Agg} {fr to : Int} {i : Nat} (h : i < l.length) (h0 : keepW fr to (winOf s (l[i]'h)) = true) : aggW s (l.take i) fr to ++ [winOf s (l[i]'h)] = aggW s (l.take (i + 1)) fr to := by
  unfold aggW; rw [List.take_succ_eq_append_getElem h, List.map_append, List.filter_append, List.map_cons, List.map_nil, List.filter_cons, List.filter_nil, if_pos h0]
theorem aggW_no {s : SegD} {l : List Agg} {fr to : Int} {i : Nat} (h : i < l.length) (h0 : keepW fr to (winOf s (l[i]'h)) = false) : aggW s (l.take i) fr to = aggW s (l.take (i + 1)) fr to := by
  unfold aggW; rw [List.take_succ_eq_append_getElem h, List.map_append, List.filter_append, List.map_cons, List.map_nil, List.filter_cons, List.filter_nil, if_neg (by rw [h0]; decide), List.append_nil]
theorem aggW_len (s : SegD) (l : List Agg) (fr to : Int) : (aggW s l fr to).length ≤ l.length := by
  unfold aggW; exact Nat.le_trans (List.length_filter_le _ _) (by rw [List.length_map]; exact Nat.le_refl _)
/-- What a segment answers. -/
def segW (s : SegD) (fr to : Int) : List Win := rawW s.Samples fr to ++ aggW s s.Aggs fr to
/-! ### Which segments are asked -/
def infoOf (s : SegD) : Info := ⟨s.Id, s.Tier, s.From, s.To, 0⟩
def infosOf (l : List SegD) : List Info := l.map infoOf
/-- Each may be, and has an id that none before it has. -/
def okTo (l : List SegD) : Nat → Bool
  | 0 => true
  | n + 1 => okTo l n && (mayS (gd l n) && !((infosOf (l.take n)).any fun (y : Info) => decide (y.Id = (gd l n).Id)))
def findD (l : List SegD) (id : Int) : SegD := (l.find? fun s => decide (s.Id = id)).getD default
def pickS (l : List SegD) : List SegD := (pickI (infosOf l)).map (findD l)
/-- They follow one behind the other. -/
def chainS : Int → List SegD → Bool
  | _, [] => true
  | last, s :: r => decide (last ≤ s.From) && chainS s.To r
def lastTo : Int → List SegD → Int
  | last, [] => last
  | _, s :: r => lastTo s.To r
def okHead (head : List Sample) (last : Int) : Bool := risingA head && (decide ((head.length : Int) = 0) || decide (last ≤ (gd head 0).T))
def okR (l : List SegD) (head : List Sample) : Bool := okTo l l.length && (chainS 0 (pickS l) && okHead head (lastTo 0 (pickS l)))
def rangeW (l : List SegD) (head : List Sample) (fr to : Int) : List Win × Int :=
  if okR l head = false then ([], 1) else if fr < 0 ∨ to ≤ fr ∨ 1099511627776 < to then ([], 5) else ((pickS l).flatMap (fun s => segW s fr to) ++ rawW head fr to, 0)
theorem range_no {l : List SegD} {head : List Sample} {fr to : Int} (h : okR l head = false) : rangeW l head fr to = ([], 1) := by unfold rangeW; rw [if_pos h]
theorem range_out {l : List SegD} {head : List Sample} {fr to : Int} (h : okR l head = true) (h0 : fr < 0 ∨ to ≤ fr ∨ 1099511627776 < to) : rangeW l head fr to = ([], 5) := by unfold rangeW; rw [if_neg (by rw [h]; decide), if_pos h0]
theorem range_yes {l : List SegD} {head : List Sample} {fr to : Int} (h : okR l head = true) (h0 : ¬ (fr < 0 ∨ to ≤ fr ∨ 1099511627776 < to)) : rangeW l head fr to = ((pickS l).flatMap (fun s => segW s fr to) ++ rawW head fr to, 0) := by unfold rangeW; rw [if_neg (by rw [h]; decide), if_neg h0]
theorem okTo_step {l : List SegD} {n : Nat} (h : okTo l n = true) (h1 : mayS (gd l n) = true) (h2 : (infosOf (l.take n)).any (fun (y : Info) => decide (y.Id = (gd l n).Id)) = false) : okTo l (n + 1) = true := by rw [okTo, h, h1, h2]; rfl
theorem okTo_not {l : List SegD} : ∀ {n m : Nat}, n ≤ m → okTo l n = false → okTo l m = false
  | n, 0, hn, h => by have : n = 0 := by omega
                      subst this; exact h
  | n, m + 1, hn, h => by
    by_cases e : n = m + 1
    · subst e; exact h
    · rw [okTo, okTo_not (m := m) (by omega) h]; rfl
theorem okTo_bad1 {l : List SegD} {n : Nat} (hn : n < l.length) (h1 : mayS (gd l n) = false) : okTo l l.length = false := okTo_not (n := n + 1) (by omega) (by rw [okTo, h1]; simp)
theorem okTo_bad2 {l : List SegD} {n : Nat} (hn : n < l.length) (h2 : (infosOf (l.take n)).any (fun (y : Info) => decide (y.Id = (gd l n).Id)) = true) : okTo l l.length = false := okTo_not (n := n + 1) (by omega) (by rw [okTo, h2]; simp)
theorem okR_no1 {l : List SegD} {head : List Sample} (h : okTo l l.length = false) : okR l head = false := by unfold okR; rw [h]; rfl
theorem okR_no2 {l : List SegD} {head : List Sample} (h : chainS 0 (pickS l) = false) : okR l head = false := by unfold okR; rw [h]; simp
theorem okR_is {l : List SegD} {head : List Sample} (h : okTo l l.length = true) (h' : chainS 0 (pickS l) = true) : okR l head = okHead head (lastTo 0 (pickS l)) := by unfold okR; rw [h, h']; rfl
theorem infos_snoc {l : List SegD} {i : Nat} (h : i < l.length) : infosOf (l.take (i + 1)) = infosOf (l.take i) ++ [infoOf (gd l i)] := by unfold infosOf; rw [List.take_succ_eq_append_getElem h, List.map_append, gd_eq h]; rfl
theorem infos_len (l : List SegD) : (infosOf l).length = l.length := List.length_map ..
theorem chain_snoc : ∀ {l : List SegD} {last : Int} {j : Nat}, j < l.length → chainS last (l.take j) = true → ¬ ((gd l j).From < lastTo last (l.take j)) → chainS last (l.take (j + 1)) = true
  | [], _, _, h, _, _ => by cases h
  | s :: r, last, 0, _, _, h => by
    have : (gd (s :: r) 0) = s := rfl
    rw [this] at h
    show (decide (last ≤ s.From) && chainS s.To []) = true
    rw [decide_eq_true (by have h : ¬ s.From < last := h; omega)]; rfl
  | s :: r, last, j + 1, hj, hc, h => by
    have hc' : (decide (last ≤ s.From) && chainS s.To (r.take j)) = true := hc
    rw [Bool.and_eq_true] at hc'
    show (decide (last ≤ s.From) && chainS s.To (r.take (j + 1))) = true
    rw [hc'.1, chain_snoc (l := r) (by simpa using hj) hc'.2 h]; rfl
theorem chain_bad : ∀ {l : List SegD} {last : Int} {j : Nat}, j < l.length → (gd l j).From < lastTo last (l.take j) → chainS last l = false
  | [], _, _, h, _ => by cases h
  | s :: r, last, 0, _, h => by
    have h : s.From < last := h
    show (decide (last ≤ s.From) && _) = false
    rw [decide_eq_false (by omega)]; rfl
  | s :: r, last, j + 1, hj, h => by
    show (decide (last ≤ s.From) && chainS s.To r) = false
    rw [chain_bad (l := r) (by simpa using hj) h, Bool.and_false]
theorem last_snoc : ∀ {l : List SegD} {last : Int} {j : Nat}, j < l.length → lastTo last (l.take (j + 1)) = (gd l j).To
  | [], _, _, h => by cases h
  | s :: r, last, 0, _ => rfl
  | s :: r, last, j + 1, hj => last_snoc (l := r) (by simpa using hj)
theorem take_all {α : Type} {l : List α} {j : Nat} (h : j = l.length) : l.take j = l := List.take_of_length_le (by omega)
/-! ### The program's find -/
abbrev ds (l : List Seg) : List SegD := l.map Seg.d
theorem ds_len (l : List Seg) : (ds l).length = l.length := List.length_map ..
theorem ds_gd {l : List Seg} {i : Nat} (h : i < l.length) : gd (ds l) i = (l[i]'h).d := by rw [gd_eq (by rw [ds_len]; exact h), List.getElem_map]
theorem ds_take (l : List Seg) (i : Nat) : (ds l).take i = ds (l.take i) := List.map_take.symm
abbrev findG (l : List Seg) (id : Int) : Seg := gd l (Int.toNat (idxG (fun (y : Seg) => decide (y.d.Id = id)) l))
theorem find_is : ∀ {l : List Seg} {id : Int}, (∃ s ∈ l, s.d.Id = id) → (findG l id).d = findD (ds l) id ∧ (findG l id) ∈ l ∧ (findG l id).d.Id = id := by
  intro l id ⟨s, hs, he⟩
  cases e : l.findIdx? (fun (y : Seg) => decide (y.d.Id = id)) with
  | none => have := List.findIdx?_eq_none_iff.1 e s hs; simp only [decide_eq_false_iff_not] at this; exact absurd he this
  | some i =>
    obtain ⟨h1, h2, h3⟩ := List.findIdx?_eq_some_iff_getElem.1 e
    have e2 : idxG (fun (y : Seg) => decide (y.d.Id = id)) l = (i : Int) := by unfold idxG; rw [e]
    have e3 : findG l id = l[i]'h1 := by unfold findG; rw [e2, Int.toNat_natCast, gd_eq h1]
    have hf : (ds l).find? (fun s => decide (s.Id = id)) = some (l[i]'h1).d := by
      rw [List.find?_eq_some_iff_getElem]
      refine ⟨h2, i, by rw [ds_len]; exact h1, List.getElem_map .., fun j hj => ?_⟩
      rw [List.getElem_map]
      have := h3 j hj
      simpa using this
    rw [e3]
    exact ⟨by unfold findD; rw [hf]; rfl, List.getElem_mem h1, of_decide_eq_true h2⟩
theorem pick_has {l : List Seg} {j : Nat} (h : j < (pickI (infosOf (ds l))).length) : ∃ s ∈ l, s.d.Id = (pickI (infosOf (ds l)))[j]'h := by
  have hm : (pickI (infosOf (ds l)))[j]'h ∈ pickI (infosOf (ds l)) := List.getElem_mem h
  unfold pickI at hm
  obtain ⟨x, hx, he⟩ := List.mem_map.1 hm
  have hx := (sortF_perm _).mem_iff.1 hx
  have hx := ((bestOf (infosOf (ds l))).2.1 x hx).1
  obtain ⟨d, hd, rfl⟩ := List.mem_map.1 hx
  obtain ⟨s, hs, rfl⟩ := List.mem_map.1 hd
  exact ⟨s, hs, he⟩
theorem pickS_len (l : List SegD) : (pickS l).length = (pickI (infosOf l)).length := List.length_map ..
theorem pickS_gd {l : List SegD} {j : Nat} (h : j < (pickI (infosOf l)).length) : gd (pickS l) j = findD l ((pickI (infosOf l))[j]'h) := by
  rw [gd_eq (by rw [pickS_len]; exact h)]; unfold pickS; rw [List.getElem_map]
/-- One more that is asked. -/
theorem asked_step {l out : List Seg} {j : Nat} (h : j < (pickI (infosOf (ds l))).length) (ho : out.map Seg.d = (pickS (ds l)).take j) : (out ++ [findG l ((pickI (infosOf (ds l)))[j]'h)]).map Seg.d = (pickS (ds l)).take (j + 1) := by
  have hj : j < (pickS (ds l)).length := by rw [pickS_len]; exact h
  rw [List.map_append, ho, List.take_succ_eq_append_getElem hj, ← gd_eq (l := pickS (ds l)) hj, pickS_gd h, ← (find_is (pick_has h)).1]; rfl
theorem asked_nil (l : List Seg) : ∀ s ∈ ([] : List Seg), s ∈ l := by simp
theorem asked_sub {l out : List Seg} {j : Nat} (h : j < (pickI (infosOf (ds l))).length) (ho : ∀ s ∈ out, s ∈ l) : ∀ s ∈ out ++ [findG l ((pickI (infosOf (ds l)))[j]'h)], s ∈ l := fun s hs => by
  rcases List.mem_append.1 hs with hs | hs
  · exact ho s hs
  · obtain rfl := List.mem_singleton.1 hs; exact (find_is (pick_has h)).2.1
/-! ### What windows come to -/
def totG (a : Agg) : List Win → Agg × Int
  | [] => (a, 0)
  | w :: r => if (joinA a w.Agg).2 = 0 then totG (joinA a w.Agg).1 r else (zeroA, (joinA a w.Agg).2)
def totW : List Win → Agg × Int
  | [] => (zeroA, 9)
  | w :: r => totG w.Agg r
theorem tot_none {l : List Win} (h : (l.length : Int) = 0) : totW l = (zeroA, 9) := by
  obtain rfl : l = [] := List.eq_nil_of_length_eq_zero (by omega)
  rfl
theorem tot_first {l : List Win} (h : 0 < l.length) : totW l = totG (l[0]'h).Agg (l.drop 1) := by
  cases l with
  | nil => cases h
  | cons w r => rfl
theorem tot_go {l : List Win} {a : Agg} {i : Nat} (h : i < l.length) (h0 : (joinA a (l[i]'h).Agg).2 = 0) : totG a (l.drop i) = totG (joinA a (l[i]'h).Agg).1 (l.drop (i + 1)) := by rw [List.drop_eq_getElem_cons h, totG, if_pos h0]
theorem tot_stop {l : List Win} {a : Agg} {i : Nat} (h : i < l.length) (h0 : ¬ (joinA a (l[i]'h).Agg).2 = 0) : totG a (l.drop i) = (zeroA, (joinA a (l[i]'h).Agg).2) := by rw [List.drop_eq_getElem_cons h, totG, if_neg h0]
theorem tot_end {l : List Win} {a : Agg} {i : Nat} (h : i = l.length) : totG a (l.drop i) = (a, 0) := by rw [List.drop_eq_nil_of_le (by omega)]; rfl
theorem dropget {l : List Win} {i : Nat} (h : i < (l.drop 1).length) : (l.drop 1)[i]'h = l[i + 1]'(by rw [List.length_drop] at h; omega) := by
  rw [List.getElem_drop]; congr 1; omega
theorem tot_goD {l : List Win} {a : Agg} {i : Nat} (h : i < (l.drop 1).length) (h0 : (joinA a ((l.drop 1)[i]'h).Agg).2 = 0) : totG a (l.drop (i + 1)) = totG (joinA a ((l.drop 1)[i]'h).Agg).1 (l.drop (i + 1 + 1)) := by
  rw [dropget h] at h0 ⊢; exact tot_go _ h0
theorem tot_stopD {l : List Win} {a : Agg} {i : Nat} (h : i < (l.drop 1).length) (h0 : ¬ (joinA a ((l.drop 1)[i]'h).Agg).2 = 0) : totG a (l.drop (i + 1)) = (zeroA, (joinA a ((l.drop 1)[i]'h).Agg).2) := by
  rw [dropget h] at h0 ⊢; exact tot_stop _ h0
/-! ### That two notions of a window in the range are one -/
theorem keep_iff {fr to lo hi : Int} (h : lo < hi) (h' : fr < to) : (min hi to ≤ max lo fr) ↔ ¬ (lo < to ∧ fr < hi) := by omega
/-! ### Segments that may be -/
theorem okTo_may {l : List SegD} : ∀ {n : Nat}, n ≤ l.length → okTo l n = true → ∀ (i : Nat) (h : i < l.length), i < n → mayS (l[i]'h) = true
  | 0, _, _, i, _, h => by omega
  | n + 1, hn, hk, i, h, hi => by
    rw [okTo, Bool.and_eq_true, Bool.and_eq_true] at hk
    by_cases e : i = n
    · subst e; rw [← gd_eq h]; exact hk.2.1
    · exact okTo_may (by omega) hk.1 i h (by omega)
theorem okR_may {l : List SegD} {head : List Sample} (h : okR l head = true) : ∀ s ∈ l, mayS s = true := by
  unfold okR at h; rw [Bool.and_eq_true] at h
  intro s hs
  obtain ⟨i, hi, rfl⟩ := List.mem_iff_getElem.1 hs
  exact okTo_may (Nat.le_refl _) h.1 i hi hi
theorem seg_of {segs out : List Seg} {head : List Sample} (h : okR (ds segs) head = true) (hs : ∀ s ∈ out, s ∈ segs) {i : Nat} (hi : i < out.length) : mayS (out[i]'hi).d = true := okR_may h _ (List.mem_map_of_mem (hs _ (List.getElem_mem hi)))
theorem aligns_low {k : Int} : ∀ {l : List Agg} {last : Int}, alignsFrom k last l = true → ∀ a ∈ l, last < a.From
  | [], _, _, a, h => nomatch h
  | b :: l, last, h, a, ha => by
    unfold alignsFrom at h
    rw [Bool.and_eq_true, Bool.and_eq_true] at h
    have hc := of_decide_eq_true h.1.2
    rcases List.mem_cons.1 ha with rfl | ha
    · omega
    · have := aligns_low h.2 a ha; omega
theorem aligns_pair {k : Int} : ∀ {l : List Agg} {last : Int}, alignsFrom k last l = true → l.Pairwise fun a b => a.From < b.From
  | [], _, _ => List.Pairwise.nil
  | b :: l, last, h => by
    unfold alignsFrom at h
    rw [Bool.and_eq_true, Bool.and_eq_true] at h
    exact List.pairwise_cons.2 ⟨fun a ha => aligns_low h.2 a ha, aligns_pair h.2⟩
/-- What of a segment's aggregate is known. -/
theorem seg_agg {s : SegD} {a : Agg} (h : mayS s = true) (ha : a ∈ s.Aggs) : 0 < s.Tier ∧ s.Tier < 4 ∧ 0 ≤ a.From ∧ a.From ≤ 1099511627776 ∧ floorA s.From s.Tier ≤ a.From ∧ a.From < s.To ∧ 0 < widthA s.Tier ∧ widthA s.Tier ≤ 1440 ∧ s.From < a.From + widthA s.Tier ∧ s.From < s.To ∧ s.To ≤ 1099511627776 ∧ 0 ≤ s.From := by
  obtain ⟨h1, h2⟩ := may_iff.1 h
  have h1 := headS_iff.1 h1
  rcases h2 with ⟨_, h2⟩ | ⟨h0, h2⟩
  · have := (mayRaw_iff.1 h2).1; rw [this] at ha; cases ha
  · obtain ⟨_, g1, _, g3, g4, g5⟩ := mayUp_iff.1 h2
    have hm := mayA_true (aligned_may g3 a ha)
    simp only [mayP] at hm
    have hal : alignsFrom s.Tier (-1) s.Aggs = true := by unfold alignedA at g3; rw [Bool.and_eq_true] at g3; exact g3.2
    have hp := List.pairwise_iff_getElem.1 (aligns_pair hal)
    obtain ⟨j, hj, rfl⟩ := List.mem_iff_getElem.1 ha
    rw [gd_eq (by omega)] at g4 g5
    have b1 : s.Aggs[0].From ≤ s.Aggs[j].From := by
      by_cases e : j = 0
      · subst e; omega
      · have := hp 0 j (by omega) hj (by omega); omega
    have b2 : s.Aggs[j].From ≤ s.Aggs[s.Aggs.length - 1].From := by
      by_cases e : j = s.Aggs.length - 1
      · subst e; omega
      · have := hp j (s.Aggs.length - 1) hj (by omega) (by omega); omega
    have hw : 0 < widthA s.Tier ∧ widthA s.Tier ≤ 1440 := by unfold widthA; repeat' split
                                                             all_goals omega
    have hf : s.From < floorA s.From s.Tier + widthA s.Tier := by
      unfold floorA
      rw [if_neg (by omega)]
      have := Int.emod_lt_of_pos s.From hw.1
      omega
    omega
theorem win_keep {s : SegD} {a : Agg} {fr to : Int} (h : mayS s = true) (ha : a ∈ s.Aggs) (hft : fr < to) (h0 : ¬ (min (min (a.From + widthA s.Tier) s.To) to ≤ max (max a.From s.From) fr)) : keepW fr to (winOf s a) = true := by
  have := seg_agg h ha
  refine decide_eq_true ?_
  simp only [winOf]; omega
theorem win_skip {s : SegD} {a : Agg} {fr to : Int} (h : mayS s = true) (ha : a ∈ s.Aggs) (hft : fr < to) (h0 : min (min (a.From + widthA s.Tier) s.To) to ≤ max (max a.From s.From) fr) : keepW fr to (winOf s a) = false := by
  have := seg_agg h ha
  refine decide_eq_false ?_
  simp only [winOf]; omega
theorem agg_go {s : SegD} {zs P : List Win} {fr to : Int} {j : Nat} (h : j < s.Aggs.length) (hJ : zs = P ++ aggW s (s.Aggs.take j) fr to) (hk : keepW fr to (winOf s (s.Aggs[j]'h)) = true) : zs ++ [winOf s (s.Aggs[j]'h)] = P ++ aggW s (s.Aggs.take (j + 1)) fr to := by
  rw [hJ, List.append_assoc, aggW_yes h hk]
theorem agg_no {s : SegD} {zs P : List Win} {fr to : Int} {j : Nat} (h : j < s.Aggs.length) (hJ : zs = P ++ aggW s (s.Aggs.take j) fr to) (hk : keepW fr to (winOf s (s.Aggs[j]'h)) = false) : zs = P ++ aggW s (s.Aggs.take (j + 1)) fr to := by
  rw [hJ, aggW_no h hk]
theorem agg_start {ys : List Win} {s : SegD} {fr to : Int} : ys ++ rawW s.Samples fr to = (ys ++ rawW s.Samples fr to) ++ aggW s (s.Aggs.take 0) fr to := by simp [aggW]
theorem seg_step {ys zs : List Win} {Q : List SegD} {out : List Seg} {fr to : Int} {i j : Nat} (h : i < out.length) (hQ : out.map Seg.d = Q) (hI : ys = (Q.take i).flatMap fun s => segW s fr to) (hJ : zs = (ys ++ rawW (out[i]'h).d.Samples fr to) ++ aggW (out[i]'h).d ((out[i]'h).d.Aggs.take j) fr to) (hj : j = (out[i]'h).d.Aggs.length) :
    zs = (Q.take (i + 1)).flatMap fun s => segW s fr to := by
  subst hQ
  rw [List.take_of_length_le (by omega)] at hJ
  rw [List.take_succ_eq_append_getElem (by rw [List.length_map]; exact h), List.flatMap_append, ← hI, hJ, List.getElem_map]
  simp [segW]
theorem seg_all {ys : List Win} {Q : List SegD} {fr to : Int} {i : Nat} (hI : ys = (Q.take i).flatMap fun s => segW s fr to) (hi : i = Q.length) : ys = Q.flatMap fun s => segW s fr to := by rw [hI, List.take_of_length_le (by omega)]
theorem segS_len {s : SegD} (h : mayS s = true) : s.Samples.length ≤ 64 ∧ s.Aggs.length ≤ 64 := by
  rcases (may_iff.1 h).2 with ⟨_, h3⟩ | ⟨_, h3⟩
  · obtain ⟨e, _, g, _⟩ := mayRaw_iff.1 h3
    rw [e]; exact ⟨g, by simp⟩
  · obtain ⟨e, _, g, _⟩ := mayUp_iff.1 h3
    rw [e]; exact ⟨by simp, g⟩
theorem segW_len {s : SegD} {fr to : Int} (h : mayS s = true) : (segW s fr to).length ≤ 64 := by
  unfold segW; rw [List.length_append]
  have h1 := rawW_len s.Samples fr to
  have h2 := aggW_len s s.Aggs fr to
  rcases (may_iff.1 h).2 with ⟨_, h3⟩ | ⟨_, h3⟩
  · obtain ⟨e, _, g, _⟩ := mayRaw_iff.1 h3
    have : s.Aggs.length = 0 := by rw [e]; rfl
    omega
  · obtain ⟨e, _, g, _⟩ := mayUp_iff.1 h3
    have : s.Samples.length = 0 := by rw [e]; rfl
    omega
theorem segs_len {Q : List SegD} {fr to : Int} : ∀ {i : Nat}, i ≤ Q.length → (∀ s ∈ Q, mayS s = true) → ((Q.take i).flatMap fun s => segW s fr to).length ≤ 64 * i
  | 0, _, _ => by simp
  | i + 1, h, hm => by
    rw [List.take_succ_eq_append_getElem (by omega), List.flatMap_append, List.length_append]
    have := segs_len (fr := fr) (to := to) (i := i) (by omega) hm
    have h2 := segW_len (fr := fr) (to := to) (hm _ (List.getElem_mem (show i < Q.length by omega)))
    simp only [List.flatMap_cons, List.flatMap_nil, List.append_nil]
    omega
end Go.Proofs.Ythanfecefjfbjaa
