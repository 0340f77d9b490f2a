/- What is read of a frame's bytes, step by step. -/
import Derived.Test.YtpamjfbdgaamoaaFA
namespace Go.Proofs.Ytpamjfbdgaamoaa
theorem get_nn (b : List UInt8) (p : Int) : 0 ≤ (get b p).1 ∧ (get b p).1 ≤ 18446744073709551615 := by
  unfold get
  split
  · simp
  · cases hg : getG 10 0 0 (b.drop p.toNat) with
    | none => simp
    | some q =>
      obtain ⟨v, j⟩ := q
      obtain ⟨m, hv, _, _, _, _, hb, _⟩ := getG_inv 9 0 0 _ v j rfl hg
      simp only [Nat.pow_zero, Nat.mul_one, Nat.zero_add] at hv hb
      simp only []
      omega
theorem get_to {b : List UInt8} {p : Int} (h0 : 0 ≤ p) (h1 : p ≤ (b.length : Int)) : p ≤ (get b p).2.1 ∧ (get b p).2.1 ≤ (b.length : Int) := by
  unfold get
  rw [if_neg (by omega)]
  cases hg : getG 10 0 0 (b.drop p.toNat) with
  | none => simp; omega
  | some q =>
    obtain ⟨v, j⟩ := q
    obtain ⟨m, _, _, hkj, hjl, _⟩ := getG_inv 9 0 0 _ v j rfl hg
    simp only [List.length_drop] at hjl ⊢
    omega
def nbad (bad : Bool) (b : List UInt8) (p : Int) : Bool := bad || !decide ((get b p).2.2 = 0) || decide (1099511627776 < (get b p).1)
theorem nbad_no {bad : Bool} {b : List UInt8} {p : Int} (h : nbad bad b p = false) : bad = false ∧ (get b p).2.2 = 0 ∧ (get b p).1 ≤ 1099511627776 := by
  unfold nbad at h
  simp only [Bool.or_eq_false_iff, decide_eq_false_iff_not, Bool.not_eq_false', decide_eq_true_eq] at h
  exact ⟨h.1.1, h.1.2, by omega⟩
theorem nbad_ok {b : List UInt8} {p n q : Int} (h : get b p = (n, q, 0)) (hn : n ≤ 1099511627776) : nbad false b p = false := by
  unfold nbad; rw [h]; simp; omega
/-- What the answer is, if no frame has these bytes; if this one has. -/
theorem fget_yes {b : List UInt8} {f : Frame} (hc : (encF f).2 = 0) (he : (encF f).1 = b) : decF b = (f, 0) := by
  cases hm : mayF f with
  | false => rw [encF_no hm] at hc; simp at hc
  | true => rw [encF_yes hm] at he; exact decF_of hm he
theorem fget_no {b : List UInt8} (h : ∀ f, mayF f = true → putB f = b → False) : decF b = (zeroF, 2) := decF_none fun f hf e => h f hf e
theorem enc_ne {b : List UInt8} {f f0 : Frame} (h0 : mayF f0 = true) (hb : putB f0 = b) (e : f = f0) : (encF f).2 = 0 ∧ (encF f).1 = b := by
  subst e; rw [encF_yes h0]; exact ⟨rfl, hb⟩
theorem min_le' {a m : Int} (h : a ≤ m) : min a m = a := by omega
section
variable {b : List UInt8} {f0 : Frame} (h0 : mayF f0 = true) (hb : putB f0 = b) (h4 : 4 < b.length)
include h0 hb
theorem fg_kind : (b[4].toNat : Int) = f0.Kind := by
  obtain ⟨s4, sk, _⟩ := shape (mayF_true h0) []
  rw [List.append_nil, hb, List.getD_eq_getElem?_getD, List.getElem?_eq_getElem h4] at s4
  simp only [Option.getD_some] at s4
  omega
theorem fget1_ok (hk : (b[4].toNat : Int) = 1) :
    nbad (nbad (nbad false b 5) b (get b 5).2.1) b (get b (get b 5).2.1).2.1 = false ∧
    min (get b (get b (get b 5).2.1).2.1).1 1099511627776 ≤ (b.length : Int) - (get b (get b (get b 5).2.1).2.1).2.1 ∧
    (⟨(b[4].toNat : Int), min (get b 5).1 1099511627776, 0, min (get b (get b 5).2.1).1 1099511627776, (b.take (Int.toNat ((get b (get b (get b 5).2.1).2.1).2.1 + min (get b (get b (get b 5).2.1).2.1).1 1099511627776))).drop (Int.toNat (get b (get b (get b 5).2.1).2.1).2.1)⟩ : Frame) = f0 := by
  have hm := mayF_true h0
  have hkk := fg_kind h0 hb h4
  obtain ⟨s4, _, _, _, g5, s1, _⟩ := shape hm []
  rw [List.append_nil, hb] at s1 g5
  obtain ⟨g6, g7, gd, gl⟩ := s1 (by omega)
  have b1 : nbad false b 5 = false := nbad_ok g5 (by omega)
  have b2 : nbad false b (get b 5).2.1 = false := by rw [g5]; exact nbad_ok g6 (by omega)
  have b3 : nbad false b (get b (get b 5).2.1).2.1 = false := by rw [g5]; simp only []; rw [g6]; exact nbad_ok g7 (by omega)
  refine ⟨by rw [b1, b2, b3], ?_, ?_⟩
  · rw [g5]; simp only []; rw [g6]; simp only []; rw [g7]; simp only []; omega
  · rw [g5]; simp only []; rw [g6]; simp only []; rw [g7]; simp only []
    rw [min_le' (by omega), min_le' (by omega), min_le' (by omega)]
    have e1 : (5 + ((put f0.View).length : Int) + ((put f0.Seq).length : Int) + ((put (f0.Body.length : Int)).length : Int)).toNat = 5 + (put f0.View).length + (put f0.Seq).length + (put (f0.Body.length : Int)).length := by omega
    have e2 : (5 + ((put f0.View).length : Int) + ((put f0.Seq).length : Int) + ((put (f0.Body.length : Int)).length : Int) + (f0.Body.length : Int)).toNat = 5 + (put f0.View).length + (put f0.Seq).length + (put (f0.Body.length : Int)).length + f0.Body.length := by omega
    rw [e1, e2, List.drop_take, Nat.add_sub_cancel_left, gd, frame_iff]
    refine ⟨hkk, rfl, ?_, rfl, rfl⟩
    show (0 : Int) = f0.Site
    omega
theorem fget2_ok (hk : (b[4].toNat : Int) = 2) : nbad (nbad false b 5) b (get b 5).2.1 = false ∧
    (⟨(b[4].toNat : Int), min (get b 5).1 1099511627776, 0, min (get b (get b 5).2.1).1 1099511627776, []⟩ : Frame) = f0 := by
  have hm := mayF_true h0
  have hkk := fg_kind h0 hb h4
  obtain ⟨s4, _, _, _, g5, _, s2, _⟩ := shape hm []
  rw [List.append_nil, hb] at s2 g5
  have g6 := s2 (by omega)
  have b1 : nbad false b 5 = false := nbad_ok g5 (by omega)
  have b2 : nbad false b (get b 5).2.1 = false := by rw [g5]; exact nbad_ok g6 (by omega)
  refine ⟨by rw [b1, b2], ?_⟩
  rw [g5]; simp only []; rw [g6]; simp only []
  rw [min_le' (by omega), min_le' (by omega), frame_iff]
  refine ⟨hkk, rfl, ?_, rfl, ?_⟩
  · show (0 : Int) = f0.Site
    omega
  · exact (List.eq_nil_of_length_eq_zero (by omega)).symm
theorem fget3_ok (hk : ¬ (b[4].toNat : Int) = 1) (hk2 : ¬ (b[4].toNat : Int) = 2) : nbad (nbad false b 5) b (get b 5).2.1 = false ∧
    (⟨(b[4].toNat : Int), min (get b 5).1 1099511627776, min (get b (get b 5).2.1).1 1099511627776, 0, []⟩ : Frame) = f0 := by
  have hm := mayF_true h0
  have hkk := fg_kind h0 hb h4
  obtain ⟨s4, _, _, _, g5, _, _, s3⟩ := shape hm []
  rw [List.append_nil, hb] at s3 g5
  have g6 := s3 (by omega) (by omega)
  have b1 : nbad false b 5 = false := nbad_ok g5 (by omega)
  have b2 : nbad false b (get b 5).2.1 = false := by rw [g5]; exact nbad_ok g6 (by omega)
  refine ⟨by rw [b1, b2], ?_⟩
  rw [g5]; simp only []; rw [g6]; simp only []
  rw [min_le' (by omega), min_le' (by omega), frame_iff]
  refine ⟨hkk, rfl, rfl, ?_, ?_⟩
  · show (0 : Int) = f0.Seq
    omega
  · exact (List.eq_nil_of_length_eq_zero (by omega)).symm
end
/-- A frame's bytes, as they are put together. -/
theorem enc1 {f : Frame} (h : mayF f = true) (hk : f.Kind = 1) : [byt (more 1 (([byt (f.Kind % 256)] ++ put f.View) ++ put f.Seq ++ put (f.Body.length : Int) ++ f.Body) % 256), byt (more 1 (([byt (f.Kind % 256)] ++ put f.View) ++ put f.Seq ++ put (f.Body.length : Int) ++ f.Body) / 256 % 256),
    byt (more 1 (([byt (f.Kind % 256)] ++ put f.View) ++ put f.Seq ++ put (f.Body.length : Int) ++ f.Body) / 65536 % 256), byt (more 1 (([byt (f.Kind % 256)] ++ put f.View) ++ put f.Seq ++ put (f.Body.length : Int) ++ f.Body) / 16777216 % 256)] ++ (([byt (f.Kind % 256)] ++ put f.View) ++ put f.Seq ++ put (f.Body.length : Int) ++ f.Body) = (encF f).1 := by
  have e : ([byt (f.Kind % 256)] ++ put f.View) ++ put f.Seq ++ put (f.Body.length : Int) ++ f.Body = bodyF f := by simp [bodyF, restF, hk]
  rw [e, encF_yes h]; rfl
theorem enc2 {f : Frame} (h : mayF f = true) (hk : f.Kind = 2) : [byt (more 1 (([byt (f.Kind % 256)] ++ put f.View) ++ put f.Seq) % 256), byt (more 1 (([byt (f.Kind % 256)] ++ put f.View) ++ put f.Seq) / 256 % 256),
    byt (more 1 (([byt (f.Kind % 256)] ++ put f.View) ++ put f.Seq) / 65536 % 256), byt (more 1 (([byt (f.Kind % 256)] ++ put f.View) ++ put f.Seq) / 16777216 % 256)] ++ (([byt (f.Kind % 256)] ++ put f.View) ++ put f.Seq) = (encF f).1 := by
  have e : ([byt (f.Kind % 256)] ++ put f.View) ++ put f.Seq = bodyF f := by simp [bodyF, restF, hk]
  rw [e, encF_yes h]; rfl
theorem enc3 {f : Frame} (h : mayF f = true) (hk : ¬ f.Kind = 1) (hk2 : ¬ f.Kind = 2) : [byt (more 1 (([byt (f.Kind % 256)] ++ put f.View) ++ put f.Site) % 256), byt (more 1 (([byt (f.Kind % 256)] ++ put f.View) ++ put f.Site) / 256 % 256),
    byt (more 1 (([byt (f.Kind % 256)] ++ put f.View) ++ put f.Site) / 65536 % 256), byt (more 1 (([byt (f.Kind % 256)] ++ put f.View) ++ put f.Site) / 16777216 % 256)] ++ (([byt (f.Kind % 256)] ++ put f.View) ++ put f.Site) = (encF f).1 := by
  have e : ([byt (f.Kind % 256)] ++ put f.View) ++ put f.Site = bodyF f := by simp [bodyF, restF, hk, hk2]
  rw [e, encF_yes h]; rfl
/-! the reader of the reference -/
def rnum (bad : Bool) (b : List UInt8) (p : Int) : Int := if bad = true then 0 else (get b p).1
def rto (bad : Bool) (b : List UInt8) (p : Int) : Int := if bad = true then p else (get b p).2.1
def rbad (bad : Bool) (b : List UInt8) (p : Int) : Bool := bad || !decide ((get b p).2.2 = 0)
def small (n m : Int) : Int := if m < n then m + 1 else n
theorem small_no {n m : Int} (h : ¬ m < n) : n = small n m := by unfold small; rw [if_neg h]
theorem small_yes {n m : Int} (h : m < n) : m + 1 = small n m := by unfold small; rw [if_pos h]
theorem rnum_r (bad : Bool) (b : List UInt8) (p : Int) : 0 ≤ rnum bad b p ∧ rnum bad b p ≤ 18446744073709551615 := by
  unfold rnum; split
  · omega
  · exact get_nn b p
theorem rto_r {bad : Bool} {b : List UInt8} {p : Int} (h0 : 0 ≤ p) (h1 : p ≤ (b.length : Int)) : p ≤ rto bad b p ∧ rto bad b p ≤ (b.length : Int) := by
  unfold rto; split
  · omega
  · exact get_to h0 h1
end Go.Proofs.Ytpamjfbdgaamoaa
