/- Floors of times: in plain numbers. -/
import Derived.Test.YtpamjfbdgaamoaaH
namespace Go.Proofs.Ytpamjfbdgaamoaa
theorem floor_eq {t k w : Int} (hw : widthA k = w) (h : 0 < w) (h0 : 0 ≤ t) (h1 : t ≤ 1099511627776) : floorA t k = t - t % w := by
  unfold floorA; rw [hw, if_neg (by omega)]
abbrev Fl (x k : Int) : Prop := floorA x k ≤ x ∧ x < floorA x k + widthA k ∧ floorA x k % widthA k = 0 ∧ floorA (floorA x k) k = floorA x k ∧ floorA (floorA x k + widthA k) k = floorA x k + widthA k ∧ 0 ≤ floorA x k ∧ 1 ≤ widthA k ∧ widthA k ≤ 1440
theorem fl_1 {x k : Int} (h0 : 0 ≤ x) (hx : x < 1000000) (hk : widthA k = 1) : Fl x k := by
  have e := floor_eq (t := x) hk (by decide) h0 (by omega)
  unfold Fl
  rw [e, hk, floor_eq (t := x - x % 1) hk (by decide) (by omega) (by omega), floor_eq (t := x - x % 1 + 1) hk (by decide) (by omega) (by omega)]
  refine ⟨by omega, by omega, by omega, by omega, by omega, by omega, by decide, by decide⟩
theorem fl_5 {x k : Int} (h0 : 0 ≤ x) (hx : x < 1000000) (hk : widthA k = 5) : Fl x k := by
  have e := floor_eq (t := x) hk (by decide) h0 (by omega)
  unfold Fl
  rw [e, hk, floor_eq (t := x - x % 5) hk (by decide) (by omega) (by omega), floor_eq (t := x - x % 5 + 5) hk (by decide) (by omega) (by omega)]
  refine ⟨by omega, by omega, by omega, by omega, by omega, by omega, by decide, by decide⟩
theorem fl_60 {x k : Int} (h0 : 0 ≤ x) (hx : x < 1000000) (hk : widthA k = 60) : Fl x k := by
  have e := floor_eq (t := x) hk (by decide) h0 (by omega)
  unfold Fl
  rw [e, hk, floor_eq (t := x - x % 60) hk (by decide) (by omega) (by omega), floor_eq (t := x - x % 60 + 60) hk (by decide) (by omega) (by omega)]
  refine ⟨by omega, by omega, by omega, by omega, by omega, by omega, by decide, by decide⟩
theorem fl_1440 {x k : Int} (h0 : 0 ≤ x) (hx : x < 1000000) (hk : widthA k = 1440) : Fl x k := by
  have e := floor_eq (t := x) hk (by decide) h0 (by omega)
  unfold Fl
  rw [e, hk, floor_eq (t := x - x % 1440) hk (by decide) (by omega) (by omega), floor_eq (t := x - x % 1440 + 1440) hk (by decide) (by omega) (by omega)]
  refine ⟨by omega, by omega, by omega, by omega, by omega, by omega, by decide, by decide⟩
theorem up_1 {x k k' : Int} (h0 : 0 ≤ x) (hx : x < 1000000) (hk : widthA k = 1) (hk' : widthA k' = 5) : floorA (floorA x k) k' = floorA x k' ∧ widthA k' % widthA k = 0 := by
  rw [floor_eq (t := x) hk (by decide) h0 (by omega), floor_eq (t := x) hk' (by decide) h0 (by omega), floor_eq (t := x - x % 1) hk' (by decide) (by omega) (by omega), hk, hk']
  exact ⟨by omega, by decide⟩
theorem up_5 {x k k' : Int} (h0 : 0 ≤ x) (hx : x < 1000000) (hk : widthA k = 5) (hk' : widthA k' = 60) : floorA (floorA x k) k' = floorA x k' ∧ widthA k' % widthA k = 0 := by
  rw [floor_eq (t := x) hk (by decide) h0 (by omega), floor_eq (t := x) hk' (by decide) h0 (by omega), floor_eq (t := x - x % 5) hk' (by decide) (by omega) (by omega), hk, hk']
  exact ⟨by omega, by decide⟩
theorem up_60 {x k k' : Int} (h0 : 0 ≤ x) (hx : x < 1000000) (hk : widthA k = 60) (hk' : widthA k' = 1440) : floorA (floorA x k) k' = floorA x k' ∧ widthA k' % widthA k = 0 := by
  rw [floor_eq (t := x) hk (by decide) h0 (by omega), floor_eq (t := x) hk' (by decide) h0 (by omega), floor_eq (t := x - x % 60) hk' (by decide) (by omega) (by omega), hk, hk']
  exact ⟨by omega, by decide⟩
theorem floor_facts {x n : Nat} (hx : (x : Int) < 1000000) (hn : (n : Int) < 4) : Fl (x : Int) (n : Int) := by
  have : n = 0 ∨ n = 1 ∨ n = 2 ∨ n = 3 := by omega
  rcases this with rfl | rfl | rfl | rfl
  · exact fl_1 (by omega) hx rfl
  · exact fl_5 (by omega) hx rfl
  · exact fl_60 (by omega) hx rfl
  · exact fl_1440 (by omega) hx rfl
theorem floor_up {x n : Nat} (hx : (x : Int) < 1000000) (hn : (n : Int) < 4) (h3 : ¬ ((n : Int) = 3)) : floorA (floorA (x : Int) (n : Int)) ((n : Int) + 1) = floorA (x : Int) ((n : Int) + 1) ∧ widthA ((n : Int) + 1) % widthA (n : Int) = 0 := by
  have : n = 0 ∨ n = 1 ∨ n = 2 := by omega
  rcases this with rfl | rfl | rfl
  · exact up_1 (by omega) hx rfl rfl
  · exact up_5 (by omega) hx rfl rfl
  · exact up_60 (by omega) hx rfl rfl
end Go.Proofs.Ytpamjfbdgaamoaa
