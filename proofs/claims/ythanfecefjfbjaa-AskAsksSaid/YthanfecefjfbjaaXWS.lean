/- The library's sort of notes by their spans, at whatever length: a permutation that is sorted. -/
import Derived.Shelf.SlSortCmp.WholeK
import Derived.Test.YthanfecefjfbjaaXSR
import Derived.Test.YthanfecefjfbjaaXSP
import Derived.Test.YthanfecefjfbjaaXWX
import Derived.Test.YthanfecefjfbjaaXW21
namespace Go.Proofs.Ythanfecefjfbjaa
open Go.RowKit Go.Sort Go.Shelf
theorem lt_is (x y : Info) : ltOf cmpF x y = aheadF x y := by
  unfold ltOf
  by_cases h : aheadF x y = true
  · rw [h]; exact decide_eq_true (cmpF_lt.2 h)
  · rw [Bool.eq_false_iff.2 h]; exact decide_eq_false fun c => h (cmpF_lt.1 c)
theorem swoF : SWO (ltOf cmpF) := {
  irrefl := fun x => by rw [lt_is]; exact Bool.eq_false_iff.2 fun c => by have := aheadF_iff.1 c; omega
  trans := fun x y z h1 h2 => by rw [lt_is] at *; have := aheadF_iff.1 h1; have := aheadF_iff.1 h2; exact aheadF_iff.2 (by omega)
  ntrans := fun x y z h1 h2 => by
    rw [lt_is] at *
    have h1 := mt aheadF_iff.2 (Bool.eq_false_iff.1 h1); have h2 := mt aheadF_iff.2 (Bool.eq_false_iff.1 h2)
    exact Bool.eq_false_iff.2 fun c => by have := aheadF_iff.1 c; omega }
theorem c_sortG {w0 w : World} {L : List Item} (v_xs : Value) (xs : List Info) (hxl : xs.length ≤ 1000000000) (hst : St w0 w (rowT 65 infoE v_xs xs :: L)) :
    Calls Try.prog 40 #[v_xs, (.func (.func 41) #[] #[])] w fun e w' => ∃ (qs : List Info), e = .returned (.tuple #[]) ∧ St w0 w' (rowT 65 infoE v_xs qs :: L) ∧ qs.Perm xs ∧ SortedF qs := by
  by_cases h12 : xs.length ≤ 12
  · exact c_sortF v_xs xs h12 hst
  obtain ⟨g, cap, hv⟩ : ∃ g cap, v_xs = .slice (some ⟨g, 0, none⟩) xs.length cap := by
    have hat := hst.at 0 rfl
    obtain ⟨_, h2⟩ := hat
    rcases h2 with ⟨_, h2⟩ | ⟨g, cap, _, e, _⟩
    · omega
    · exact ⟨g, cap, e⟩
  subst hv
  obtain ⟨hH, hlt, hfin⟩ := sort_row hst
  have hcmp : CmpLays Try.prog 41 #[] infoE.enc infoE.size cmpF g 0 xs.toArray.size w := fun m os dk hdk x y => x_cmpF _ x y
  have eg : ∀ args w, (callFunc 41 args).run Try.prog w = .ok (.enter 41 args) w := enters_of Try.func41 (by kernel_rfl) rfl
  have hcon := AnyQ.slices_SortFunc Try.sortInfo infoE.size Try.isAgg65 Try.sizeOf65 infoE.enc infoE.len infoE.one cmpF swoF 41 #[] g 0 cap xs.toArray w eg hcmp hH hlt (by simp only [List.size_toArray]; omega)
  change Calls Try.prog 40 #[.slice (some ⟨g, 0, none⟩) xs.toArray.size cap, _] _ _ at hcon
  rw [show xs.toArray.size = xs.length from List.size_toArray ..] at hcon
  refine hcon.mono ?_
  rintro e w' ⟨rfl, d', n, os, hp, hs, rfl⟩
  have hd : d'.size = xs.length := hp.1.trans (List.size_toArray ..)
  have h1 := hfin d' n os hd
  rw [show (rowT 65 infoE (.slice (some ⟨g, 0, none⟩) xs.length cap) d'.toList) = rowT 65 infoE (.slice (some ⟨g, 0, none⟩) xs.length cap) d'.toList from rfl] at h1
  refine ⟨d'.toList, rfl, h1, ?_, ?_⟩
  · have := hp.2.2
    rw [← hd, Array.extract_size] at this
    rw [show d'.size = xs.toArray.size from hp.1, Array.extract_size] at this
    simpa using this
  · refine List.pairwise_iff_getElem.2 fun i j hi hj hij => ?_
    have h2 := hs i j (Nat.zero_le _) hij (by rw [← hd]; simpa using hj)
    rw [lt_is, getElem!_pos d' j (by simpa using hj), getElem!_pos d' i (by simpa using hi)] at h2
    have h3 := mt aheadF_iff.2 (Bool.eq_false_iff.1 h2)
    rw [Array.getElem_toList, Array.getElem_toList, leF_iff]; omega
end Go.Proofs.Ythanfecefjfbjaa
