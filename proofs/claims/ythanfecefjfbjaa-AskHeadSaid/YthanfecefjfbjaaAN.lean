/- Answers without segments. -/
import Derived.Test.YthanfecefjfbjaaAM
import Derived.Test.YthanfecefjfbjaaU
import Derived.Test.YthanfecefjfbjaaTS
namespace Go.Proofs.Ythanfecefjfbjaa
theorem riseN_le2 (steps : List Int) (most : Int) : riseN steps most ≤ most.toNat := Nat.min_le_right ..
theorem range_head {head : List Sample} {fr to : Int} (hr : risingA head = true) (h0 : 0 ≤ fr) (h1 : fr < to) (h2 : to ≤ 1099511627776) : rangeW [] head fr to = (rawW head fr to, 0) := by
  have hk : okR [] head = true := by
    unfold okR okHead
    have e : chainS 0 (pickS []) = true := by decide
    have e2 : lastTo 0 (pickS []) = 0 := by decide
    rw [e, e2, hr]
    have : okTo [] ([] : List SegD).length = true := rfl
    rw [this]
    simp only [Bool.true_and, Bool.or_eq_true, decide_eq_true_eq]
    cases head with
    | nil => left; rfl
    | cons s l =>
      right
      have := rises_range (s :: l) (-1) (by decide) hr s (List.mem_cons_self ..)
      exact this.1
  rw [range_yes hk (by omega)]
  have : pickS [] = [] := by decide
  rw [this]; rfl
theorem range_headD {head : List Sample} {fr to : Int} (hr : risingA head = true) (h0 : 0 ≤ fr) (h1 : fr < to) (h2 : to ≤ 1099511627776) : rangeW (ds []) head fr to = (rawW head fr to, 0) := range_head hr h0 h1 h2
theorem raw_split {l : List Sample} {fr to : Int} {i : Nat} (h : i < l.length) (h0 : fr ≤ (l[i]'h).T ∧ (l[i]'h).T < to) : rawW l fr to = rawW (l.take i) fr to ++ (sampW (l[i]'h) :: rawW (l.drop (i + 1)) fr to) := by
  have e : l = l.take i ++ (l[i]'h :: l.drop (i + 1)) := by rw [← List.drop_eq_getElem_cons h, List.take_append_drop]
  have : rawW l fr to = rawW (l.take i ++ (l[i]'h :: l.drop (i + 1))) fr to := congrArg (fun x => rawW x fr to) e
  rw [this]
  unfold rawW
  rw [List.filter_append, List.filter_cons, if_pos (show inT fr to (l[i]'h) = true from decide_eq_true h0), List.map_append, List.map_cons]
theorem raw_lt {l : List Sample} {fr to : Int} {i : Nat} (h : i < l.length) (h0 : fr ≤ (l[i]'h).T ∧ (l[i]'h).T < to) : (rawW (l.take i) fr to).length < (rawW l fr to).length := by
  rw [raw_split h h0, List.length_append, List.length_cons]; omega
theorem raw_at {l : List Sample} {fr to : Int} {i : Nat} (h : i < l.length) (h0 : fr ≤ (l[i]'h).T ∧ (l[i]'h).T < to) : (rawW l fr to)[(rawW (l.take i) fr to).length]'(raw_lt h h0) = sampW (l[i]'h) := by
  simp only [raw_split h h0]
  rw [List.getElem_append_right (Nat.le_refl _)]
  simp
theorem raw_up {l : List Sample} {fr to : Int} {i : Nat} (h : i < l.length) (h0 : fr ≤ (l[i]'h).T ∧ (l[i]'h).T < to) : (rawW (l.take (i + 1)) fr to).length = (rawW (l.take i) fr to).length + 1 := by
  rw [← rawW_yes h h0, List.length_append]; rfl
theorem raw_eq {l : List Sample} {fr to : Int} {i : Nat} (h : i < l.length) (h0 : ¬ (fr ≤ (l[i]'h).T ∧ (l[i]'h).T < to)) : (rawW (l.take (i + 1)) fr to).length = (rawW (l.take i) fr to).length := by rw [← rawW_no h h0]
end Go.Proofs.Ythanfecefjfbjaa
