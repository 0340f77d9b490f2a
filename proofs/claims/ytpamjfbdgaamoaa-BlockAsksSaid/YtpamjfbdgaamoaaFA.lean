/- Frames, on lists of bytes. -/
import Derived.Test.YtpamjfbdgaamoaaZ
import Derived.Test.YtpamjfbdgaamoaaS
import Derived.Test.YtpamjfbdgaamoaaJ
namespace Go.Proofs.Ytpamjfbdgaamoaa
structure Frame where
  Kind : Int
  View : Int
  Site : Int
  Seq : Int
  Body : List UInt8
  deriving DecidableEq
abbrev Frame.ok (f : Frame) : Prop := i64R f.Kind ∧ i64R f.View ∧ i64R f.Site ∧ i64R f.Seq
abbrev zeroF : Frame := ⟨0, 0, 0, 0, []⟩
abbrev mayFP (f : Frame) : Prop := (0 ≤ f.View ∧ f.View ≤ 1073741824 ∧ 0 ≤ f.Seq ∧ f.Seq ≤ 1099511627776) ∧
  ((f.Kind = 1 ∧ 0 < f.Seq ∧ (f.Body.length : Int) ≤ 4100 ∧ f.Site = 0) ∨ (f.Kind = 2 ∧ (f.Body.length : Int) = 0 ∧ f.Site = 0) ∨
   ((f.Kind = 3 ∨ f.Kind = 4) ∧ f.Seq = 0 ∧ (f.Body.length : Int) = 0 ∧ 0 ≤ f.Site ∧ f.Site < 2))
def mayF (f : Frame) : Bool := decide (mayFP f)
theorem mayF_iff {f : Frame} : mayF f = true ↔ mayFP f := by simp only [mayF, decide_eq_true_eq]
theorem mayF_true {f : Frame} (h : mayF f = true) : mayFP f := mayF_iff.1 h
theorem mayF_yes {f : Frame} (h : mayFP f) : true = mayF f := (mayF_iff.2 h).symm
theorem mayF_no {f : Frame} (h : ¬ mayFP f) : false = mayF f := by
  cases hm : mayF f with
  | false => rfl
  | true => exact absurd (mayF_iff.1 hm) h
def restF (f : Frame) : List UInt8 := if f.Kind = 1 then put f.Seq ++ (put (f.Body.length : Int) ++ f.Body) else if f.Kind = 2 then put f.Seq else put f.Site
def bodyF (f : Frame) : List UInt8 := byt (f.Kind % 256) :: (put f.View ++ restF f)
def four (n : Int) : List UInt8 := [byt (n % 256), byt (n / 256 % 256), byt (n / 65536 % 256), byt (n / 16777216 % 256)]
def putB (f : Frame) : List UInt8 := four (more 1 (bodyF f)) ++ bodyF f
def encF (f : Frame) : List UInt8 × Int := if mayF f = true then (putB f, 0) else ([], 1)
theorem encF_no {f : Frame} (h : mayF f = false) : encF f = ([], 1) := by unfold encF; rw [h]; rfl
theorem encF_yes {f : Frame} (h : mayF f = true) : encF f = (putB f, 0) := by unfold encF; rw [if_pos h]
def pars (b : List UInt8) : Frame :=
  if ((b.getD 4 0).toNat : Int) = 1 then
    ⟨1, (get b 5).1, 0, (get b (get b 5).2.1).1, (b.drop (get b (get b (get b 5).2.1).2.1).2.1.toNat).take (get b (get b (get b 5).2.1).2.1).1.toNat⟩
  else if ((b.getD 4 0).toNat : Int) = 2 then ⟨2, (get b 5).1, 0, (get b (get b 5).2.1).1, []⟩
  else ⟨((b.getD 4 0).toNat : Int), (get b 5).1, (get b (get b 5).2.1).1, 0, []⟩
def decF (b : List UInt8) : Frame × Int := if mayF (pars b) = true ∧ putB (pars b) = b then (pars b, 0) else (zeroF, 2)
@[simp] theorem four_len (n : Int) : (four n).length = 4 := rfl
theorem get_at {b pre post : List UInt8} {n p : Int} (h0 : 0 ≤ n) (h1 : n ≤ 18446744073709551615) (hb : b = pre ++ (put n ++ post)) (hp : p = (pre.length : Int)) : get b p = (n, p + ((put n).length : Int), 0) := by
  subst hb hp; exact get_put h0 h1 pre post
/-- What stands in a frame's bytes, whatever is behind them. -/
theorem shape {f : Frame} (hm : mayFP f) (r : List UInt8) :
    ((putB f ++ r).getD 4 0).toNat = f.Kind.toNat ∧ 0 < f.Kind ∧ f.Kind < 5 ∧ 7 ≤ (putB f).length ∧ get (putB f ++ r) 5 = (f.View, 5 + ((put f.View).length : Int), 0) ∧
    (f.Kind = 1 → get (putB f ++ r) (5 + ((put f.View).length : Int)) = (f.Seq, 5 + ((put f.View).length : Int) + ((put f.Seq).length : Int), 0) ∧
      get (putB f ++ r) (5 + ((put f.View).length : Int) + ((put f.Seq).length : Int)) = ((f.Body.length : Int), 5 + ((put f.View).length : Int) + ((put f.Seq).length : Int) + ((put (f.Body.length : Int)).length : Int), 0) ∧
      ((putB f ++ r).drop (5 + (put f.View).length + (put f.Seq).length + (put (f.Body.length : Int)).length)).take f.Body.length = f.Body ∧
      (putB f).length = 5 + (put f.View).length + (put f.Seq).length + (put (f.Body.length : Int)).length + f.Body.length) ∧
    (f.Kind = 2 → get (putB f ++ r) (5 + ((put f.View).length : Int)) = (f.Seq, 5 + ((put f.View).length : Int) + ((put f.Seq).length : Int), 0)) ∧
    (f.Kind ≠ 1 → f.Kind ≠ 2 → get (putB f ++ r) (5 + ((put f.View).length : Int)) = (f.Site, 5 + ((put f.View).length : Int) + ((put f.Site).length : Int), 0)) := by
  have hl := put_length f.View
  have hl2 := put_length f.Seq
  have hl3 := put_length f.Site
  have hl4 := put_length (f.Body.length : Int)
  have hk : f.Kind % 256 = f.Kind := by omega
  have hb : (byt f.Kind).toNat = f.Kind.toNat := byt_nat (by omega) (by omega)
  have h4 := four_len (more 1 (bodyF f))
  have e0 : putB f ++ r = four (more 1 (bodyF f)) ++ (byt f.Kind :: (put f.View ++ (restF f ++ r))) := by
    simp only [putB, bodyF, hk, List.append_assoc, List.cons_append]
  have e1 : putB f ++ r = (four (more 1 (bodyF f)) ++ [byt f.Kind]) ++ (put f.View ++ (restF f ++ r)) := by rw [e0]; simp
  have e2 : putB f ++ r = ((four (more 1 (bodyF f)) ++ [byt f.Kind]) ++ put f.View) ++ (restF f ++ r) := by rw [e1]; simp
  have hrl : 1 ≤ (restF f).length := by
    unfold restF; split
    · simp; omega
    · split <;> omega
  have hlen : (putB f).length = 5 + (put f.View).length + (restF f).length := by simp [putB, bodyF]; omega
  refine ⟨?_, by omega, by omega, by omega, ?_, ?_, ?_, ?_⟩
  · rw [e0, List.getD_eq_getElem?_getD, List.getElem?_append_right (by omega), h4]; simpa using hb
  · exact get_at (by omega) (by omega) e1 (by simp)
  · intro h1
    have er : restF f = put f.Seq ++ (put (f.Body.length : Int) ++ f.Body) := by unfold restF; rw [if_pos h1]
    rw [er] at e2 hlen
    have e3 : putB f ++ r = (((four (more 1 (bodyF f)) ++ [byt f.Kind]) ++ put f.View) ++ put f.Seq) ++ (put (f.Body.length : Int) ++ (f.Body ++ r)) := by rw [e2]; simp
    have e4 : putB f ++ r = ((((four (more 1 (bodyF f)) ++ [byt f.Kind]) ++ put f.View) ++ put f.Seq) ++ put (f.Body.length : Int)) ++ (f.Body ++ r) := by rw [e3]; simp
    refine ⟨get_at (pre := (four (more 1 (bodyF f)) ++ [byt f.Kind]) ++ put f.View) (post := (put (f.Body.length : Int) ++ f.Body) ++ r) (by omega) (by omega) (by rw [e2]; simp) (by simp; omega), get_at (by omega) (by omega) e3 (by simp; omega), ?_, by rw [hlen]; simp; omega⟩
    rw [e4, List.drop_append_of_le_length (by simp; omega), List.drop_eq_nil_of_le (by simp; omega)]
    simp
  · intro h2
    have er : restF f = put f.Seq := by unfold restF; rw [if_neg (by omega), if_pos h2]
    rw [er] at e2
    exact get_at (by omega) (by omega) e2 (by simp; omega)
  · intro h1 h2
    have er : restF f = put f.Site := by unfold restF; rw [if_neg h1, if_neg h2]
    rw [er] at e2
    exact get_at (by omega) (by omega) e2 (by simp; omega)
theorem pars_putB {f : Frame} (hm : mayF f = true) (r : List UInt8) : pars (putB f ++ r) = f := by
  have hm := mayF_true hm
  obtain ⟨h4, hk0, hk5, _, hv, h1, h2, h3⟩ := shape hm r
  have hk : (((putB f ++ r).getD 4 0).toNat : Int) = f.Kind := by rw [h4]; omega
  unfold pars
  rw [hk, hv]
  simp only []
  by_cases e1 : f.Kind = 1
  · obtain ⟨a, b, c, _⟩ := h1 e1
    rw [if_pos e1, a]; simp only []
    rw [b]; simp only []
    have e : (5 + ((put f.View).length : Int) + ((put f.Seq).length : Int) + ((put (f.Body.length : Int)).length : Int)).toNat = 5 + (put f.View).length + (put f.Seq).length + (put (f.Body.length : Int)).length := by omega
    rw [e, Int.toNat_natCast, c]
    have hs : f.Site = 0 := by omega
    rw [← e1, ← hs]
  · rw [if_neg e1]
    have hbd : f.Body = [] := List.eq_nil_of_length_eq_zero (by omega)
    by_cases e2 : f.Kind = 2
    · rw [if_pos e2, h2 e2]
      have hs : f.Site = 0 := by omega
      cases f; simp only at *; subst hs hbd e2; rfl
    · rw [if_neg e2, h3 e1 e2]
      have hs : f.Seq = 0 := by omega
      cases f; simp only at *; subst hs hbd; rfl
theorem putB_prefix {f g : Frame} (hf : mayF f = true) (hg : mayF g = true) {r : List UInt8} (h : putB f ++ r = putB g) : f = g ∧ r = [] := by
  have h1 := pars_putB hf r
  have h2 := pars_putB hg []
  rw [List.append_nil, ← h, h1] at h2
  subst h2
  exact ⟨rfl, by simpa using h⟩
theorem putB_inj {f g : Frame} (hf : mayF f = true) (hg : mayF g = true) (h : putB f = putB g) : f = g := (putB_prefix hf hg (r := []) (by simpa using h)).1
theorem decF_put {f : Frame} (h : mayF f = true) : decF (putB f) = (f, 0) := by
  have e := pars_putB h []
  rw [List.append_nil] at e
  unfold decF; rw [e, if_pos ⟨h, rfl⟩]
theorem decF_of {f : Frame} {b : List UInt8} (h : mayF f = true) (hb : putB f = b) : decF b = (f, 0) := by subst hb; exact decF_put h
theorem decF_none {b : List UInt8} (h : ∀ f, mayF f = true → putB f ≠ b) : decF b = (zeroF, 2) := by
  unfold decF; rw [if_neg (fun e => h _ e.1 e.2)]
theorem decF_short {b : List UInt8} (h : b.length ≤ 6) : decF b = (zeroF, 2) :=
  decF_none fun f hf e => by have := (shape (mayF_true hf) []).2.2.2.1; rw [e] at this; omega
theorem decF_cut {f : Frame} (h : mayF f = true) {k : Nat} (hk : k < (putB f).length) : decF ((putB f).take k) = (zeroF, 2) :=
  decF_none fun g hg e => by
    have h2 := putB_prefix hg h (r := (putB f).drop k) (by rw [e, List.take_append_drop])
    have := congrArg List.length h2.2
    simp at this; omega
theorem decF_more {f : Frame} (h : mayF f = true) (c : UInt8) : decF (putB f ++ [c]) = (zeroF, 2) :=
  decF_none fun g hg e => by
    have h2 := putB_prefix h hg (r := [c]) e.symm
    cases h2.2
theorem four_inj {a b : Int} (ha : 0 ≤ a ∧ a < 4294967291) (hb : 0 ≤ b ∧ b < 4294967291) (h : four a = four b) : a = b := by
  simp only [four, List.cons.injEq, and_true] at h
  obtain ⟨h1, h2, h3, h4⟩ := h
  have g1 := congrArg (fun c : UInt8 => (c.toNat : Int)) h1
  have g2 := congrArg (fun c : UInt8 => (c.toNat : Int)) h2
  have g3 := congrArg (fun c : UInt8 => (c.toNat : Int)) h3
  have g4 := congrArg (fun c : UInt8 => (c.toNat : Int)) h4
  rw [byt_toNat (by omega) (by omega), byt_toNat (by omega) (by omega)] at g1 g2 g3 g4
  omega
theorem decF_turned {f : Frame} (h : mayF f = true) {k : Nat} (hk : k < (putB f).length) {c : UInt8} (hc : c ≠ (putB f)[k]) : decF ((putB f).set k c) = (zeroF, 2) :=
  decF_none fun g hg e => by
    have h4 := four_len (more 1 (bodyF f))
    have h5 := four_len (more 1 (bodyF g))
    by_cases hk4 : k < 4
    · -- the sum is turned: the rest is the same
      have e2 : bodyF g = bodyF f := by
        have := congrArg (List.drop 4) e
        rw [List.drop_set_of_lt hk4] at this
        simpa [putB, h4, h5] using this
      have e3 : putB g = putB f := by unfold putB; rw [e2]
      rw [e3] at e
      have := congrArg (fun l => l[k]?) e
      simp only [List.getElem?_set_self hk, List.getElem?_eq_getElem hk, Option.some.injEq] at this
      exact hc this.symm
    · have e2 : bodyF g = (bodyF f).set (k - 4) c := by
        have := congrArg (List.drop 4) e
        rw [List.drop_set, if_neg hk4] at this
        simpa [putB, h4, h5] using this
      have e3 : four (more 1 (bodyF g)) = four (more 1 (bodyF f)) := by
        have := congrArg (List.take 4) e
        rw [List.take_set_of_le (by omega)] at this
        simpa [putB, h4, h5] using this
      have e4 := four_inj (more_range 1 _) (more_range 1 _) e3
      have hkb : k - 4 < (bodyF f).length := by
        have : (putB f).length = 4 + (bodyF f).length := by simp [putB, h4]
        omega
      rw [e2] at e4
      have e5 := (more_set_iff 1 (bodyF f) (k - 4) c hkb).1 e4
      apply hc
      rw [e5]
      have : (putB f)[k] = (putB f)[4 + (k - 4)]'(by omega) := by congr 1; omega
      rw [this]
      simp only [putB]
      rw [List.getElem_append_right (by omega)]
      congr 1; omega
theorem frame_iff {f g : Frame} : f = g ↔ f.Kind = g.Kind ∧ f.View = g.View ∧ f.Site = g.Site ∧ f.Seq = g.Seq ∧ f.Body = g.Body := by cases f; cases g; simp
theorem frame_dec {f g : Frame} (h1 : f.Kind = g.Kind) (h2 : f.View = g.View) (h3 : f.Site = g.Site) (h4 : f.Seq = g.Seq) : decide (f.Body = g.Body) = decide (f = g) := by
  rw [decide_eq_decide, frame_iff]; exact ⟨fun h => ⟨h1, h2, h3, h4, h⟩, fun h => h.2.2.2.2⟩
end Go.Proofs.Ytpamjfbdgaamoaa
