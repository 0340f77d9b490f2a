/- What the program tells of a few windows. -/
import Derived.Test.YthanfecefjfbjaaAL
namespace Go.Proofs.Ythanfecefjfbjaa
def toldS : SegD := ⟨1, 0, 0, 7, [⟨3, 5⟩, ⟨6, 2⟩], []⟩
def toldR : SegD := ⟨2, 1, 0, 7, [], [⟨0, 1, 5, 5, 5, 5, 5⟩, ⟨5, 1, 2, 2, 2, 2, 2⟩]⟩
def toldA : List Win := [⟨0, 6, 7, ⟨6, 1, 2, 2, 2, 2, 2⟩⟩, ⟨0, 9, 10, ⟨9, 1, 1, 1, 1, 1, 1⟩⟩]
def toldB : List Win := [⟨1, 5, 7, ⟨5, 1, 2, 2, 2, 2, 2⟩⟩]
theorem toldS_ok : toldS.ok := by decide
theorem toldR_ok : toldR.ok := by decide
theorem told_roll : (rollS toldS 2 1).1 = toldR := by decide +kernel
theorem told_A : rangeW [toldS, toldR] [⟨9, 1⟩] 4 20 = (toldA, 0) := by decide +kernel
theorem told_B : rangeW [toldR] [] 6 7 = (toldB, 0) := by decide +kernel
theorem told_C : rangeW [] [] 3 3 = ([], 5) := by decide +kernel
theorem told_D : rangeW [toldS, toldS] [] 0 3 = ([], 1) := by decide +kernel
theorem ok_nil : ∀ s ∈ ([] : List Seg), s.d.ok := fun s h => nomatch h
theorem ok_one {a : Seg} (h : a.d.ok) : ∀ s ∈ [a], s.d.ok := fun s hs => by obtain rfl := List.mem_singleton.1 hs; exact h
theorem ok_two {a b : Seg} (h : a.d.ok) (h' : b.d.ok) : ∀ s ∈ [a, b], s.d.ok := fun s hs => by
  rcases List.mem_cons.1 hs with rfl | hs
  · exact h
  · obtain rfl := List.mem_singleton.1 hs; exact h'
end Go.Proofs.Ythanfecefjfbjaa
