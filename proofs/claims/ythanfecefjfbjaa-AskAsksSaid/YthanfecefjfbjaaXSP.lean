/- A row that the library's sort has sorted: what the call's state is then. -/
import Derived.Test.YthanfecefjfbjaaXLA
import Derived.Shelf.GgSortFunc.InsertionK
namespace Go.Proofs.Ythanfecefjfbjaa
open Go.RowKit Go.Sort
theorem flat_at {α : Type} (E : Enc α) (xs : List α) {t : Nat} (h : t < xs.length * E.size) : (xs.flatMap E.enc)[t]? = (E.enc (xs[t / E.size]'((Nat.div_lt_iff_lt_mul E.pos).2 h)))[t % E.size]? := by
  have hi : t / E.size < xs.length := (Nat.div_lt_iff_lt_mul E.pos).2 h
  have hl := E.splitLen xs (t / E.size) hi
  have hm := Nat.div_add_mod t E.size
  have hr := Nat.mod_lt t E.pos
  rw [Nat.mul_comm] at hm
  rw [E.split xs (t / E.size) hi, List.getElem?_append_right (by omega), hl, List.getElem?_append_left (by rw [E.len]; omega)]
  congr 1; omega
section
variable {α : Type} [Inhabited α]
theorem flat_list (E : Enc α) (d : Array α) : (flatK E.enc E.size d).toList = d.toList.flatMap E.enc := by
  apply List.ext_getElem?
  intro t
  by_cases h : t < d.size * E.size
  · have h1 := get_flatK E.enc E.size d t h
    have hd : t / E.size < d.size := (Nat.div_lt_iff_lt_mul E.pos).2 h
    have hr := Nat.mod_lt t E.pos
    rw [flat_at E d.toList (by simpa using h)]
    rw [getElem!_pos (flatK E.enc E.size d) t (by simpa using h), getElem!_pos d _ hd, getElem!_pos (E.enc d[t / E.size]) _ (by rw [E.len]; exact hr)] at h1
    rw [Array.getElem?_toList, Array.getElem?_eq_getElem (by simpa using h), h1, List.getElem?_eq_getElem (by rw [E.len]; exact hr)]
    simp
  · rw [List.getElem?_eq_none (by simp; omega), List.getElem?_eq_none (by rw [E.flat]; simp; omega)]
theorem sort_row {w0 w : World} {L : List Item} {E : Enc α} {T : Nat} {l : List α} {g cap : Nat} (hst : St w0 w (rowT T E (.slice (some ⟨g, 0, none⟩) l.length cap) l :: L)) :
    HoldsK E.enc E.size w g 0 l.toArray ∧ g < w.heap.size ∧ ∀ (d' : Array α) (m : Nat) (os : Array Obj), d'.size = l.length → St w0 (sortWorldK E.enc E.size w g 0 m d' os) (rowT T E (.slice (some ⟨g, 0, none⟩) l.length cap) d'.toList :: L) := by
  have hat := hst.at 0 rfl
  obtain ⟨h1, h2⟩ := hat
  rcases h2 with ⟨h2, _⟩ | ⟨g', cap', cur, e, hb, hg, hn, hc, hs, ht⟩
  · cases h2
  injection e with e1 e2 e3
  injection e1 with e1
  injection e1 with e1
  subst e1; subst e3
  have hlt : g < w.heap.size := (Array.getElem?_eq_some_iff.1 hg).1
  have hle : l.length * E.size ≤ cap * E.size := Nat.mul_le_mul_right _ hn
  have hcur : ∀ t, t < l.length * E.size → cur[t]? = (l.flatMap E.enc)[t]? := fun t h => by
    rw [← ht, List.getElem?_take_of_lt h, Array.getElem?_toList]
  have hflat := flat_list E l.toArray
  have hfs : (flatK E.enc E.size l.toArray).size = l.length * E.size := by simp
  have hH : HoldsK E.enc E.size w g 0 l.toArray := fun j hj => by
    rw [hfs] at hj
    have h3 := hcur j hj
    have h4 : (flatK E.enc E.size l.toArray).toList[j]? = (l.flatMap E.enc)[j]? := by rw [hflat]
    rw [Array.getElem?_toList, Array.getElem?_eq_getElem (by rw [hfs]; exact hj)] at h4
    rw [← h4] at h3
    rw [Nat.zero_add]
    refine ⟨?_, ?_⟩
    · simp only [World.cell?, hg]
      rw [h3, getElem!_pos _ j (by rw [hfs]; exact hj)]; rfl
    · simp [World.frozen?, hg]
  refine ⟨hH, hlt, fun d' m os hd => ?_⟩
  have hd5 : (flatK E.enc E.size d').size = l.length * E.size := by simp [hd]
  have hheap : ∀ k, k < w.heap.size → (sortWorldK E.enc E.size w g 0 m d' os).heap[k]? = (w.heap.modify g (onCells (putCells id 0 (flatK E.enc E.size d'))))[k]? := fun k hk => by
    show (((Sort.ahead w m).heap.modify g (onCells (putCells id 0 (flatK E.enc E.size d')))) ++ os)[k]? = _
    rw [Array.getElem?_append_left (by simpa using hk)]; rfl
  have hsz : w.heap.size ≤ (sortWorldK E.enc E.size w g 0 m d' os).heap.size := by
    show w.heap.size ≤ (((Sort.ahead w m).heap.modify g (onCells (putCells id 0 (flatK E.enc E.size d')))) ++ os).size
    simp [Sort.ahead]
  have := hst.turn 0 rfl (rowT T E (.slice (some ⟨g, 0, none⟩) l.length cap) d'.toList) (w' := sortWorldK E.enc E.size w g 0 m d' os)
    ⟨rfl, rfl, rfl, hsz, fun k hk hne => by
      rw [hheap k hk, Array.getElem?_modify, if_neg (fun e => hne (by subst e; rfl))]⟩ ?_ (Or.inl rfl)
  · exact this
  · refine ⟨E.flat _, Or.inr ⟨g, cap, putCells id 0 (flatK E.enc E.size d') cur, by simp [hd], hb, ?_, by simpa [hd] using hn, hc, by simp [putCells, hs], ?_⟩⟩
    · rw [hheap g hlt, Array.getElem?_modify, if_pos rfl, hg]; rfl
    · apply List.ext_getElem?
      intro t
      have hlen : d'.toList.length = l.length := by simpa using hd
      by_cases h : t < l.length * E.size
      · rw [List.getElem?_take_of_lt (by rw [hlen]; exact h), Array.getElem?_toList]
        simp only [putCells, Array.getElem?_mapIdx]
        rw [Array.getElem?_eq_getElem (by rw [hs]; omega), Option.map_some, if_pos ⟨by omega, by rw [hd5]; omega⟩, Nat.sub_zero, getElem!_pos _ t (by rw [hd5]; exact h), ← flat_list, Array.getElem?_toList, Array.getElem?_eq_getElem (by rw [hd5]; exact h)]; rfl
      · rw [List.getElem?_eq_none (by rw [List.length_take, hlen]; omega), List.getElem?_eq_none (by rw [E.flat, hlen]; omega)]
end
end Go.Proofs.Ythanfecefjfbjaa
