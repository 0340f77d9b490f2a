/- Windows: in plain numbers and lists. -/
import Derived.Test.YthanfecefjfbjaaG
import Derived.Test.YthanfecefjfbjaaK
namespace Go.Proofs.Ythanfecefjfbjaa
section
variable {P : Program} {ops : Array Oper} {l : List Oper} {ρ : Env} {w : World} {KR : Env → World → Prop} {K : Value → World → Prop}
variable {dst : Option Tmp} {op : Op} {ty : TypeId} {pos : String} {aft : Array Edge} {g : Option (Nat × Bool)}
theorem op_indexArr {T e : TypeId} {x i : Operand} {n : Nat} {cs : Array Value} {k : IntKind} {m : Int} {v : Value} (hT : P.underlying T = some (.array n e)) (hA : ∀ w, (isAgg e).run P w = .ok false w) (hs : ∀ w, (sizeOf e).run P w = .ok 1 w)
    (hx : evE ρ x = .agg cs) (hi : evE ρ i = .int k m) (h0 : 0 ≤ m) (h1 : m < (n : Int)) (hv : cs[m.toNat]? = some v) (h : K v w) : opE P ⟨dst, .index T x i, ty, pos, aft, g⟩ ρ w K :=
  op_of (by simp [execOp, hx, hi, Instr.index, asIntOf, run_underlying hT, h0, h1, hs, part, hA, hv]) h
end
def widthA (k : Int) : Int := if k = 0 then 1 else if k = 1 then 5 else if k = 2 then 60 else if k = 3 then 1440 else 0
theorem width_none {k : Int} (h : k < 0 ∨ 4 ≤ k) : widthA k = 0 := by
  unfold widthA; rw [if_neg (by omega), if_neg (by omega), if_neg (by omega), if_neg (by omega)]
theorem width_at {k : Int} (h0 : 0 ≤ k) (h1 : k < 4) : (#[.int .i64 1, .int .i64 5, .int .i64 60, .int .i64 1440] : Array Value)[k.toNat]? = some (.int .i64 (widthA k)) := by
  have : k = 0 ∨ k = 1 ∨ k = 2 ∨ k = 3 := by omega
  rcases this with rfl | rfl | rfl | rfl <;> rfl
theorem width_r (k : Int) : 0 ≤ widthA k ∧ widthA k ≤ 1440 := by unfold widthA; split <;> (try split) <;> (try split) <;> (try split) <;> omega
def floorA (t k : Int) : Int := if widthA k = 0 ∨ t < 0 ∨ 1099511627776 < t then -1 else t - t % widthA k
theorem floor_none {t k : Int} (h : widthA k = 0 ∨ t < 0 ∨ 1099511627776 < t) : floorA t k = -1 := if_pos h
theorem floor_some {t k : Int} (h : ¬ (widthA k = 0)) (h0 : ¬ (t < 0)) (h1 : ¬ (1099511627776 < t)) : floorA t k = t - t % widthA k := if_neg (by omega)
theorem emod_w {t w : Int} (h0 : ¬ (t < 0)) (h : ¬ (w = 0)) (hw : 0 ≤ w) : 0 ≤ t % w ∧ t % w ≤ t := by
  have h1 := Int.emod_nonneg t h
  refine ⟨h1, ?_⟩
  have h2 := Int.ediv_nonneg (a := t) (b := w) (by omega) hw
  have h3 := Int.emod_add_mul_ediv t w
  have h4 := Int.mul_nonneg hw h2
  omega
theorem floorA_r (t k : Int) : -1 ≤ floorA t k ∧ floorA t k ≤ 1099511627776 := by
  unfold floorA
  split
  · omega
  · rename_i h
    have := emod_w (t := t) (w := widthA k) (by omega) (by omega) (width_r k).1
    omega
def coarseA (k : Int) : Bool := decide (0 < k ∧ k < 4)
def risesFrom : Int → List Sample → Bool
  | _, [] => true
  | last, s :: l => decide (last < s.T ∧ s.T ≤ 1099511627776) && risesFrom s.T l
def risingA (l : List Sample) : Bool := risesFrom (-1) l
theorem rises_go {l : List Sample} {i : Nat} {last : Int} (h : i < l.length) (h0 : ¬ ((l[i]'h).T ≤ last)) (h1 : ¬ (1099511627776 < (l[i]'h).T)) : risesFrom last (l.drop i) = risesFrom (l[i]'h).T (l.drop (i + 1)) := by
  rw [List.drop_eq_getElem_cons h, risesFrom, decide_eq_true (by omega), Bool.true_and]
theorem rises_no {l : List Sample} {i : Nat} {last : Int} (h : i < l.length) (h0 : (l[i]'h).T ≤ last ∨ 1099511627776 < (l[i]'h).T) : risesFrom last (l.drop i) = false := by
  rw [List.drop_eq_getElem_cons h, risesFrom, decide_eq_false (by omega), Bool.false_and]
theorem rises_end {l : List Sample} {i : Nat} {last : Int} (h : i = l.length) : risesFrom last (l.drop i) = true := by
  rw [List.drop_eq_nil_of_le (by omega)]; rfl
def alignsFrom (k : Int) : Int → List Agg → Bool
  | _, [] => true
  | last, a :: l => (mayA a && decide (a.From = floorA a.From k ∧ last < a.From)) && alignsFrom k a.From l
def alignedA (l : List Agg) (k : Int) : Bool := coarseA k && alignsFrom k (-1) l
theorem aligns_go {l : List Agg} {i : Nat} {last k : Int} (h : i < l.length) (hm : mayA (l[i]'h) = true) (h0 : (l[i]'h).From = floorA (l[i]'h).From k) (h1 : ¬ ((l[i]'h).From ≤ last)) : alignsFrom k last (l.drop i) = alignsFrom k (l[i]'h).From (l.drop (i + 1)) := by
  rw [List.drop_eq_getElem_cons h, alignsFrom, hm, decide_eq_true ⟨h0, by omega⟩, Bool.true_and, Bool.true_and]
theorem aligns_no {l : List Agg} {i : Nat} {last k : Int} (h : i < l.length) (h0 : mayA (l[i]'h) = false ∨ ¬ (l[i]'h).From = floorA (l[i]'h).From k ∨ (l[i]'h).From ≤ last) : alignsFrom k last (l.drop i) = false := by
  rw [List.drop_eq_getElem_cons h, alignsFrom]
  rcases h0 with h0 | h0 | h0
  · rw [h0]; rfl
  · rw [decide_eq_false (fun h => h0 h.1), Bool.and_false]; rfl
  · rw [decide_eq_false (by omega), Bool.and_false]; rfl
theorem aligns_end {l : List Agg} {i : Nat} {last k : Int} (h : i = l.length) : alignsFrom k last (l.drop i) = true := by
  rw [List.drop_eq_nil_of_le (by omega)]; rfl
/-! ### Samples in windows -/
def winLen (k fr : Int) : List Sample → Nat
  | [] => 0
  | s :: l => if floorA s.T k = fr then winLen k fr l + 1 else 0
def rawL (k : Int) : Nat → List Sample → List Agg → List Agg × Int
  | 0, _, out => (out, 0)
  | _ + 1, [], out => (out, 0)
  | f + 1, s :: l, out =>
    if (allA ((s :: l).take (winLen k (floorA s.T k) (s :: l))) (floorA s.T k)).2 = 0 then
      rawL k f ((s :: l).drop (winLen k (floorA s.T k) (s :: l))) (out ++ [(allA ((s :: l).take (winLen k (floorA s.T k) (s :: l))) (floorA s.T k)).1])
    else ([], (allA ((s :: l).take (winLen k (floorA s.T k) (s :: l))) (floorA s.T k)).2)
def rawA (l : List Sample) (k : Int) : List Agg × Int := if risingA l = true ∧ coarseA k = true then rawL k l.length l [] else ([], 1)
theorem raw_none {l : List Sample} {k : Int} (h : risingA l = false ∨ coarseA k = false) : rawA l k = ([], 1) := by
  unfold rawA
  rw [if_neg]
  rintro ⟨h1, h2⟩
  rcases h with h | h
  · rw [h1] at h; cases h
  · rw [h2] at h; cases h
theorem win_go {k fr : Int} {l : List Sample} {n : Nat} (h : n < l.length) (hf : floorA (l[n]'h).T k = fr) : winLen k fr (l.drop n) = winLen k fr (l.drop (n + 1)) + 1 := by
  rw [List.drop_eq_getElem_cons h, winLen, if_pos hf]
theorem win_no {k fr : Int} {l : List Sample} {n : Nat} (h : n < l.length) (hf : ¬ floorA (l[n]'h).T k = fr) : winLen k fr (l.drop n) = 0 := by
  rw [List.drop_eq_getElem_cons h, winLen, if_neg hf]
theorem win_end {k fr : Int} {l : List Sample} {n : Nat} (h : ¬ (n < l.length)) : winLen k fr (l.drop n) = 0 := by
  rw [List.drop_eq_nil_of_le (by omega)]; rfl
theorem win_pos {k : Int} {l : List Sample} (h : 0 < l.length) : 0 < winLen k (floorA (l[0]'h).T k) l := by
  cases l with
  | nil => simp at h
  | cons s l => simp [winLen]
theorem raw_go {k : Int} {f : Nat} {l : List Sample} {out : List Agg} (h : 0 < l.length) (hl : l.length ≤ f) {n : Nat} (hn : winLen k (floorA (l[0]'h).T k) l = n) (hc : (allA (l.take n) (floorA (l[0]'h).T k)).2 = 0) :
    rawL k f l out = rawL k (f - 1) (l.drop n) (out ++ [(allA (l.take n) (floorA (l[0]'h).T k)).1]) := by
  subst hn
  cases l with
  | nil => simp at h
  | cons s l =>
    cases f with
    | zero => simp at hl
    | succ f =>
      simp only [List.getElem_cons_zero] at hc ⊢
      rw [rawL, if_pos hc]; rfl
theorem raw_stop {k : Int} {f : Nat} {l : List Sample} {out : List Agg} (h : 0 < l.length) (hl : l.length ≤ f) {n : Nat} (hn : winLen k (floorA (l[0]'h).T k) l = n) (hc : ¬ (allA (l.take n) (floorA (l[0]'h).T k)).2 = 0) :
    rawL k f l out = ([], (allA (l.take n) (floorA (l[0]'h).T k)).2) := by
  subst hn
  cases l with
  | nil => simp at h
  | cons s l =>
    cases f with
    | zero => simp at hl
    | succ f =>
      simp only [List.getElem_cons_zero] at hc ⊢
      rw [rawL, if_neg hc]
theorem raw_end {k : Int} {f : Nat} {l : List Sample} {out : List Agg} (h : ¬ (0 < l.length)) : rawL k f l out = (out, 0) := by
  obtain rfl := List.length_eq_zero_iff.1 (by omega : l.length = 0)
  cases f <;> rfl
/-! ### Windows in windows -/
def atK (a : Agg) (k : Int) : Agg := ⟨floorA a.From k, a.Count, a.Sum, a.Min, a.Max, a.First, a.Last⟩
def downL (k : Int) : List Agg → List Agg → List Agg × Int
  | [], out => (out, 0)
  | a :: l, out =>
    match out.getLast? with
    | none => downL k l (out ++ [atK a k])
    | some x =>
      if x.From = floorA a.From k then
        if (joinA x (atK a k)).2 = 0 then downL k l (out.set (out.length - 1) (joinA x (atK a k)).1) else ([], (joinA x (atK a k)).2)
      else downL k l (out ++ [atK a k])
def downA (l : List Agg) (k : Int) : List Agg × Int := if 2 ≤ k ∧ alignedA l (k - 1) = true ∧ coarseA k = true then downL k l [] else ([], 1)
theorem down_none {l : List Agg} {k : Int} (h : k < 2 ∨ alignedA l (k - 1) = false ∨ coarseA k = false) : downA l k = ([], 1) := by
  unfold downA
  rw [if_neg]
  rintro ⟨h1, h2, h3⟩
  rcases h with h | h | h
  · omega
  · rw [h2] at h; cases h
  · rw [h3] at h; cases h
theorem down_start {l : List Agg} {k : Int} (h : ¬ (k < 2)) (h1 : alignedA l (k - 1) = true) (h2 : coarseA k = true) : downA l k = downL k (l.drop 0) [] := by
  unfold downA; rw [if_pos ⟨by omega, h1, h2⟩]; rfl
theorem getLast_some {out : List Agg} (h : 0 < out.length) : out.getLast? = some (out[out.length - 1]'(by omega)) := by
  rw [List.getLast?_eq_getElem?, List.getElem?_eq_getElem]
theorem down_new {l : List Agg} {k : Int} {i : Nat} {out : List Agg} (h : i < l.length) (hc : (out.length : Int) = 0) : downL k (l.drop i) out = downL k (l.drop (i + 1)) (out ++ [atK (l[i]'h) k]) := by
  obtain rfl := List.length_eq_zero_iff.1 (by omega : out.length = 0)
  rw [List.drop_eq_getElem_cons h, downL]; rfl
theorem down_next {l : List Agg} {k : Int} {i : Nat} {out : List Agg} (h : i < l.length) (h0 : 0 < out.length) (hc : ¬ ((out[out.length - 1]'(by omega)).From = floorA (l[i]'h).From k)) : downL k (l.drop i) out = downL k (l.drop (i + 1)) (out ++ [atK (l[i]'h) k]) := by
  rw [List.drop_eq_getElem_cons h, downL, getLast_some h0]
  simp only [if_neg hc]
theorem down_join {l : List Agg} {k : Int} {i : Nat} {out : List Agg} (h : i < l.length) (h0 : 0 < out.length) (he : (out[out.length - 1]'(by omega)).From = floorA (l[i]'h).From k) (hc : (joinA (out[out.length - 1]'(by omega)) (atK (l[i]'h) k)).2 = 0) :
    downL k (l.drop i) out = downL k (l.drop (i + 1)) (out.set (out.length - 1) (joinA (out[out.length - 1]'(by omega)) (atK (l[i]'h) k)).1) := by
  rw [List.drop_eq_getElem_cons h, downL, getLast_some h0]
  simp only [if_pos he, if_pos hc]
theorem down_stop {l : List Agg} {k : Int} {i : Nat} {out : List Agg} (h : i < l.length) (h0 : 0 < out.length) (he : (out[out.length - 1]'(by omega)).From = floorA (l[i]'h).From k) (hc : ¬ (joinA (out[out.length - 1]'(by omega)) (atK (l[i]'h) k)).2 = 0) :
    downL k (l.drop i) out = ([], (joinA (out[out.length - 1]'(by omega)) (atK (l[i]'h) k)).2) := by
  rw [List.drop_eq_getElem_cons h, downL, getLast_some h0]
  simp only [if_pos he, if_neg hc]
theorem down_end {l : List Agg} {k : Int} {i : Nat} {out : List Agg} (h : i = l.length) : downL k (l.drop i) out = (out, 0) := by
  rw [List.drop_eq_nil_of_le (by omega)]; rfl
theorem atK_ok {a : Agg} {k : Int} (h : a.ok) : (atK a k).ok := by
  have := floorA_r a.From k
  exact ⟨⟨by simp only [atK]; omega, by simp only [atK]; omega⟩, h.2⟩
theorem set_okA {xs : List Agg} (hl : ∀ s ∈ xs, s.ok) {i : Nat} {y : Agg} (hy : y.ok) : ∀ s ∈ xs.set i y, s.ok := by
  intro s hm
  rcases List.mem_or_eq_of_mem_set hm with h | rfl
  · exact hl s h
  · exact hy
theorem snoc_okA {xs : List Agg} (hl : ∀ s ∈ xs, s.ok) {y : Agg} (hy : y.ok) : ∀ s ∈ xs ++ [y], s.ok := by
  intro s hm
  rcases List.mem_append.1 hm with h | h
  · exact hl s h
  · rw [List.mem_singleton] at h; subst h; exact hy
theorem nil_okA : ∀ s ∈ ([] : List Agg), s.ok := by intro s h; cases h
end Go.Proofs.Ythanfecefjfbjaa
