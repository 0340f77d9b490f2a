/- The laws of frames, on lists of bytes; the reference's way to read them. -/
import Derived.Test.YtfljkaigfmedeaaFB
namespace Go.Proofs.Ytfljkaigfmedeaa
theorem more_le (s : Int) (l : List UInt8) : more s l ≤ 4294967295 := by have := (more_range s l).2; omega
theorem enc_code {f : Frame} (h : mayF f = true) : (encF f).2 = 0 := by rw [encF_yes h]
theorem dec_enc {f : Frame} (h : mayF f = true) : decF (encF f).1 = (f, 0) := by rw [encF_yes h]; exact decF_put h
theorem enc_len {f : Frame} (h : mayF f = true) : 7 ≤ (encF f).1.length := by
  rw [encF_yes h]; exact (shape (mayF_true h) []).2.2.2.1
theorem put_len_le {n : Int} (h : n < 128) : (put n).length = 1 := by
  unfold put
  have : n.toNat < 128 := by omega
  generalize n.toNat = m at this
  unfold putF; rw [if_pos this]; rfl
theorem put_len_two {n : Int} (h : 128 ≤ n) (h2 : n < 16384) : (put n).length = 2 := by
  unfold put
  have h1 : ¬ n.toNat < 128 := by omega
  have h3 : n.toNat / 128 < 128 := by omega
  generalize n.toNat = m at h1 h3
  unfold putF; rw [if_neg h1]
  generalize m / 128 = q at h3
  unfold putF; rw [if_pos h3]; rfl
theorem putB_length {f : Frame} (h : mayF f = true) (hk : f.Kind = 1) : (putB f).length = 5 + (put f.View).length + (put f.Seq).length + (put (f.Body.length : Int)).length + f.Body.length := by
  have := (shape (mayF_true h) []).2.2.2.2.2.1 hk
  exact this.2.2.2
theorem enc_max {f : Frame} (hb : f.Body.length ≤ 100000) : (encF f).1.length ≤ 200000 := by
  cases hm : mayF f with
  | false => rw [encF_no hm]; simp
  | true =>
    rw [encF_yes hm]
    have h1 := put_length f.View
    have h2 := put_length f.Seq
    have h3 := put_length f.Site
    have h4 := put_length (f.Body.length : Int)
    simp only [putB, bodyF, restF, List.length_append, four_len, List.length_cons]
    split
    · simp; omega
    · split <;> simp <;> omega
theorem enc_same {f g : Frame} (hf : mayF f = true) (hg : mayF g = true) : (decide ((encF f).1 = (encF g).1) == decide (f = g)) = true := by
  rw [encF_yes hf, encF_yes hg, beq_iff_eq, decide_eq_decide]
  exact ⟨fun h => putB_inj hf hg h, fun h => by rw [h]⟩
section
variable {f : Frame} (h : mayF f = true)
include h
theorem dec_cut {k : Nat} (hk : k < (encF f).1.length) : decF ((encF f).1.take k) = (zeroF, 2) := by
  rw [encF_yes h] at hk ⊢; exact decF_cut h hk
theorem dec_more (c : UInt8) : decF ((encF f).1 ++ [c]) = (zeroF, 2) := by rw [encF_yes h]; exact decF_more h c
theorem dec_turn {k : Nat} (hk : k < (encF f).1.length) {c : UInt8} {t : Int} (hc : (c.toNat : Int) = ((encF f).1[k].toNat : Int) ↔ t = 0) : (decide ((decF ((encF f).1.set k c)).2 = 2) == !decide (t = 0)) = true := by
  by_cases ht : t = 0
  · have e : c = (encF f).1[k] := (toNat_eq _ _).1 (hc.2 ht)
    subst e
    rw [List.set_getElem_self, dec_enc h]; simp [ht]
  · have e : c ≠ (encF f).1[k] := fun e => ht (hc.1 (by rw [e]))
    have e2 : decF ((encF f).1.set k c) = (zeroF, 2) := by
      have e3 : (encF f).1 = putB f := by rw [encF_yes h]
      simp only [e3] at hk e ⊢
      exact decF_turned h hk e
    rw [e2]; simp [ht]
end
theorem xor_u8 {a b : Int} (ha : 0 ≤ a ∧ a ≤ 255) (hb : 0 ≤ b ∧ b ≤ 255) : ∃ c : UInt8, bits .xor .u8 a b = (c.toNat : Int) ∧ ((c.toNat : Int) = a ↔ b = 0) := by
  obtain ⟨x, rfl⟩ := u8_of ha
  obtain ⟨y, rfl⟩ := u8_of hb
  refine ⟨x ^^^ y, ?_, ?_⟩
  · show IntKind.u8.wrap ((BitVec.ofInt 8 (x.toNat : Int) ^^^ BitVec.ofInt 8 (y.toNat : Int)).toNat : Int) = _
    have e : ∀ z : UInt8, BitVec.ofInt 8 (z.toNat : Int) = z.toBitVec := fun z => by
      rw [BitVec.ofInt_natCast]; apply BitVec.eq_of_toNat_eq; simp
    rw [e, e, IntKind.wrap_u8, ← UInt8.toBitVec_xor]
    have h : (x ^^^ y).toBitVec.toNat = (x ^^^ y).toNat := rfl
    have := (x ^^^ y).toNat_lt
    omega
  · rw [toNat_eq]
    constructor
    · intro h
      have h2 : x ^^^ (x ^^^ y) = x ^^^ x := by rw [h]
      rw [← UInt8.xor_assoc, UInt8.xor_self, UInt8.zero_xor] at h2
      rw [h2]; rfl
    · intro h
      have : y = 0 := by apply UInt8.toNat_inj.1; simp; omega
      rw [this, UInt8.xor_zero]
/-! long bodies, and views -/
theorem long_iff {n : Nat} {z : UInt8} : mayFP ⟨1, 0, 0, 1, List.replicate n z⟩ ↔ n ≤ 4100 := by
  constructor
  · rintro ⟨_, ⟨_, _, h, _⟩ | ⟨h, _⟩ | ⟨h, _⟩⟩
    · simp only [List.length_replicate] at h; omega
    · simp at h
    · simp at h
  · intro h
    have d0 : (0 : Int) ≤ 0 := by decide
    have d1 : (0 : Int) ≤ 1073741824 := by decide
    have d2 : (0 : Int) ≤ 1 := by decide
    have d3 : (1 : Int) ≤ 1099511627776 := by decide
    have d4 : (0 : Int) < 1 := by decide
    exact ⟨⟨d0, d1, d2, d3⟩, Or.inl ⟨rfl, d4, by simp only [List.length_replicate]; omega, rfl⟩⟩
theorem long_may {n : Nat} {z : UInt8} (h : n ≤ 4100) : mayF ⟨1, 0, 0, 1, List.replicate n z⟩ = true := mayF_iff.2 (long_iff.2 h)
theorem long_not {n : Nat} {z : UInt8} (h : ¬ n ≤ 4100) : encF ⟨1, 0, 0, 1, List.replicate n z⟩ = ([], 1) := by
  apply encF_no
  cases hm : mayF ⟨1, 0, 0, 1, List.replicate n z⟩ with
  | false => rfl
  | true => exact absurd (long_iff.1 (mayF_true hm)) h
theorem long_len {n : Nat} {z : UInt8} (h : n ≤ 4100) : (encF ⟨1, 0, 0, 1, List.replicate n z⟩).1.length = 7 + (put (n : Int)).length + n := by
  rw [encF_yes (long_may h), putB_length (long_may h) rfl]
  simp only [List.length_replicate]
  have h0 : (put 0).length = 1 := rfl
  have h1 : (put 1).length = 1 := rfl
  rw [h0, h1]
theorem view_may {n s k : Int} (h0 : 0 ≤ n) (h : n ≤ 1073741824) (hs : 0 ≤ s ∧ s < 2) (hk : k = 3 ∨ k = 4) : mayF ⟨k, n, s, 0, []⟩ = true := by
  exact mayF_iff.2 ⟨⟨h0, h, (by decide : (0 : Int) ≤ 0), (by decide : (0 : Int) ≤ 1099511627776)⟩, Or.inr (Or.inr ⟨hk, rfl, rfl, hs.1, hs.2⟩)⟩
theorem view_not {n s k : Int} (h : 1073741824 < n) : encF ⟨k, n, s, 0, []⟩ = ([], 1) := by
  apply encF_no
  cases hm : mayF ⟨k, n, s, 0, []⟩ with
  | false => rfl
  | true => have h2 : n ≤ 1073741824 := (mayF_true hm).1.2.1; omega
/-! the reference reads the same -/
def rby (bad : Bool) (b : List UInt8) (p : Int) : Int := if bad = true ∨ (b.length : Int) ≤ p then 0 else ((b.getD p.toNat 0).toNat : Int)
def rbyAt (bad : Bool) (b : List UInt8) (p : Int) : Int := if bad = true ∨ (b.length : Int) ≤ p then p else p + 1
def rbyBad (bad : Bool) (b : List UInt8) (p : Int) : Bool := bad || decide ((b.length : Int) ≤ p)
def rtx (bad : Bool) (b : List UInt8) (p n : Int) : List UInt8 := if bad = true ∨ (b.length : Int) - p < n then [] else (b.drop p.toNat).take n.toNat
def rtxAt (bad : Bool) (b : List UInt8) (p n : Int) : Int := if bad = true ∨ (b.length : Int) - p < n then p else p + n
def rtxBad (bad : Bool) (b : List UInt8) (p n : Int) : Bool := bad || decide ((b.length : Int) - p < n)
theorem rby_r (bad : Bool) (b : List UInt8) (p : Int) : 0 ≤ rby bad b p ∧ rby bad b p ≤ 255 := by
  unfold rby; split
  · omega
  · have := (b.getD p.toNat 0).toNat_lt; omega
theorem rbyAt_r {bad : Bool} {b : List UInt8} {p : Int} (h0 : 0 ≤ p) (h1 : p ≤ (b.length : Int)) : p ≤ rbyAt bad b p ∧ rbyAt bad b p ≤ (b.length : Int) := by
  unfold rbyAt; split <;> omega
theorem rtxAt_r {bad : Bool} {b : List UInt8} {p n : Int} (h0 : 0 ≤ p) (h1 : p ≤ (b.length : Int)) (hn : 0 ≤ n) : p ≤ rtxAt bad b p n ∧ rtxAt bad b p n ≤ (b.length : Int) := by
  unfold rtxAt; split <;> omega
theorem rby_yes {b : List UInt8} {p : Int} (h : p.toNat < b.length) (h0 : 0 ≤ p) : (b[p.toNat].toNat : Int) = rby false b p := by
  unfold rby; rw [if_neg (by simp; omega), List.getD_eq_getElem?_getD, List.getElem?_eq_getElem h]; rfl
theorem rby_at {bad : Bool} {b : List UInt8} {p q : Int} (hb : bad = false) (hq : q = p) (h0 : 0 ≤ p) (h : q.toNat < b.length) : (b[q.toNat].toNat : Int) = rby bad b p := by
  subst hb hq; exact rby_yes h h0
theorem rtx_len {bad : Bool} {b : List UInt8} {p n : Int} : (rtx bad b p n).length ≤ b.length := by
  unfold rtx; split
  · simp
  · simp; omega
theorem rtx_yes {bad : Bool} {b : List UInt8} {p n : Int} (hb : bad = false) (h0 : 0 ≤ p) (hn : 0 ≤ n) (h : ¬ (b.length : Int) - p < n) : (b.take (Int.toNat (p + n))).drop (Int.toNat (p + n - n)) = rtx bad b p n := by
  unfold rtx; rw [if_neg (by simp [hb]; omega)]
  have e : (p + n).toNat = p.toNat + n.toNat := by omega
  have e2 : (p + n - n).toNat = p.toNat := by omega
  rw [e, e2, List.drop_take, Nat.add_sub_cancel_left]
theorem small_le {n m : Int} (h : n ≤ m) : small n m = n := by unfold small; rw [if_neg (by omega)]
theorem small_r {n m : Int} (h0 : 0 ≤ n) (hm : 0 ≤ m) : 0 ≤ small n m ∧ small n m ≤ m + 1 := by unfold small; split <;> omega
theorem rbad_ok {b : List UInt8} {p n q : Int} (h : get b p = (n, q, 0)) : rbad false b p = false := by unfold rbad; rw [h]; rfl
section
variable {b : List UInt8} {f0 : Frame} (h0 : mayF f0 = true) (hb : putB f0 = b)
include h0 hb
theorem rg_first : 7 ≤ b.length ∧ rby false b 4 = f0.Kind ∧ rbyAt false b 4 = 5 ∧ rbyBad false b 4 = false := by
  obtain ⟨s4, sk, _, s7, _⟩ := shape (mayF_true h0) []
  rw [hb] at s7
  rw [List.append_nil, hb] at s4
  refine ⟨s7, ?_, ?_, ?_⟩
  · unfold rby; rw [if_neg (by simp; omega), show (4 : Int).toNat = 4 from rfl, s4]; omega
  · unfold rbyAt; rw [if_neg (by simp; omega)]; rfl
  · unfold rbyBad; simp; omega
theorem rget1_ok (hk : (rby false b 4) = 1) : (rtxBad (rbad (rbad (rbad (rbyBad false b 4) b (rbyAt false b 4)) b (rto (rbyBad false b 4) b (rbyAt false b 4))) b (rto (rbad (rbyBad false b 4) b (rbyAt false b 4)) b (rto (rbyBad false b 4) b (rbyAt false b 4)))) b (rto (rbad (rbad (rbyBad false b 4) b (rbyAt false b 4)) b (rto (rbyBad false b 4) b (rbyAt false b 4))) b (rto (rbad (rbyBad false b 4) b (rbyAt false b 4)) b (rto (rbyBad false b 4) b (rbyAt false b 4)))) (rnum (rbad (rbad (rbyBad false b 4) b (rbyAt false b 4)) b (rto (rbyBad false b 4) b (rbyAt false b 4))) b (rto (rbad (rbyBad false b 4) b (rbyAt false b 4)) b (rto (rbyBad false b 4) b (rbyAt false b 4))))) = false ∧ (⟨(rby false b 4), (small (rnum (rbyBad false b 4) b (rbyAt false b 4)) 1073741824), 0, small (rnum (rbad (rbyBad false b 4) b (rbyAt false b 4)) b (rto (rbyBad false b 4) b (rbyAt false b 4))) 1099511627776, (rtx (rbad (rbad (rbad (rbyBad false b 4) b (rbyAt false b 4)) b (rto (rbyBad false b 4) b (rbyAt false b 4))) b (rto (rbad (rbyBad false b 4) b (rbyAt false b 4)) b (rto (rbyBad false b 4) b (rbyAt false b 4)))) b (rto (rbad (rbad (rbyBad false b 4) b (rbyAt false b 4)) b (rto (rbyBad false b 4) b (rbyAt false b 4))) b (rto (rbad (rbyBad false b 4) b (rbyAt false b 4)) b (rto (rbyBad false b 4) b (rbyAt false b 4)))) (rnum (rbad (rbad (rbyBad false b 4) b (rbyAt false b 4)) b (rto (rbyBad false b 4) b (rbyAt false b 4))) b (rto (rbad (rbyBad false b 4) b (rbyAt false b 4)) b (rto (rbyBad false b 4) b (rbyAt false b 4)))))⟩ : Frame) = f0 := by
  have hm := mayF_true h0
  obtain ⟨h7, e1, e2, e3⟩ := rg_first h0 hb
  obtain ⟨_, _, _, _, g5, s1, _⟩ := shape hm []
  rw [List.append_nil, hb] at s1 g5
  rw [e1] at hk
  obtain ⟨g6, g7, gd, gl⟩ := s1 hk
  have b1 := rbad_ok g5
  have b2 := rbad_ok g6
  have b3 := rbad_ok g7
  have t1 : rto false b 5 = 5 + ((put f0.View).length : Int) := by show (get b 5).2.1 = _; rw [g5]
  have t2 : rto false b (5 + ((put f0.View).length : Int)) = 5 + ((put f0.View).length : Int) + ((put f0.Seq).length : Int) := by show (get b _).2.1 = _; rw [g6]
  have t3 : rto false b (5 + ((put f0.View).length : Int) + ((put f0.Seq).length : Int)) = 5 + ((put f0.View).length : Int) + ((put f0.Seq).length : Int) + ((put (f0.Body.length : Int)).length : Int) := by show (get b _).2.1 = _; rw [g7]
  have n1 : rnum false b 5 = f0.View := by show (get b 5).1 = _; rw [g5]
  have n2 : rnum false b (5 + ((put f0.View).length : Int)) = f0.Seq := by show (get b _).1 = _; rw [g6]
  have n3 : rnum false b (5 + ((put f0.View).length : Int) + ((put f0.Seq).length : Int)) = (f0.Body.length : Int) := by show (get b _).1 = _; rw [g7]
  rw [e1, e2, e3, b1, t1, n1, b2, t2, n2, b3, t3, n3, small_le (by omega), small_le (by omega)]
  constructor
  · unfold rtxBad; simp; omega
  · unfold rtx
    rw [if_neg (by simp; omega)]
    have e : (5 + ((put f0.View).length : Int) + ((put f0.Seq).length : Int) + ((put (f0.Body.length : Int)).length : Int)).toNat = 5 + (put f0.View).length + (put f0.Seq).length + (put (f0.Body.length : Int)).length := by omega
    rw [e, Int.toNat_natCast, gd, frame_iff]
    refine ⟨rfl, rfl, ?_, rfl, rfl⟩
    show (0 : Int) = f0.Site
    omega
theorem rget2_ok (hk : (rby false b 4) = 2) : (rbad (rbad (rbyBad false b 4) b (rbyAt false b 4)) b (rto (rbyBad false b 4) b (rbyAt false b 4))) = false ∧ (⟨(rby false b 4), (small (rnum (rbyBad false b 4) b (rbyAt false b 4)) 1073741824), 0, small (rnum (rbad (rbyBad false b 4) b (rbyAt false b 4)) b (rto (rbyBad false b 4) b (rbyAt false b 4))) 1099511627776, []⟩ : Frame) = f0 := by
  have hm := mayF_true h0
  obtain ⟨h7, e1, e2, e3⟩ := rg_first h0 hb
  obtain ⟨_, _, _, _, g5, _, s2, _⟩ := shape hm []
  rw [List.append_nil, hb] at s2 g5
  rw [e1] at hk
  have g6 := s2 hk
  have t1 : rto false b 5 = 5 + ((put f0.View).length : Int) := by show (get b 5).2.1 = _; rw [g5]
  have n1 : rnum false b 5 = f0.View := by show (get b 5).1 = _; rw [g5]
  have n2 : rnum false b (5 + ((put f0.View).length : Int)) = f0.Seq := by show (get b _).1 = _; rw [g6]
  rw [e1, e2, e3, rbad_ok g5, t1, n1, rbad_ok g6, n2, small_le (by omega), small_le (by omega)]
  refine ⟨rfl, ?_⟩
  rw [frame_iff]
  refine ⟨rfl, rfl, ?_, rfl, ?_⟩
  · show (0 : Int) = f0.Site
    omega
  · exact (List.eq_nil_of_length_eq_zero (by omega)).symm
theorem rget3_ok (hk : ¬ (rby false b 4) = 1) (hk2 : ¬ (rby false b 4) = 2) : (rbad (rbad (rbyBad false b 4) b (rbyAt false b 4)) b (rto (rbyBad false b 4) b (rbyAt false b 4))) = false ∧ (⟨(rby false b 4), (small (rnum (rbyBad false b 4) b (rbyAt false b 4)) 1073741824), small (rnum (rbad (rbyBad false b 4) b (rbyAt false b 4)) b (rto (rbyBad false b 4) b (rbyAt false b 4))) 2, 0, []⟩ : Frame) = f0 := by
  have hm := mayF_true h0
  obtain ⟨h7, e1, e2, e3⟩ := rg_first h0 hb
  obtain ⟨_, _, _, _, g5, _, _, s3⟩ := shape hm []
  rw [List.append_nil, hb] at s3 g5
  rw [e1] at hk hk2
  have g6 := s3 hk hk2
  have t1 : rto false b 5 = 5 + ((put f0.View).length : Int) := by show (get b 5).2.1 = _; rw [g5]
  have n1 : rnum false b 5 = f0.View := by show (get b 5).1 = _; rw [g5]
  have n2 : rnum false b (5 + ((put f0.View).length : Int)) = f0.Site := by show (get b _).1 = _; rw [g6]
  rw [e1, e2, e3, rbad_ok g5, t1, n1, rbad_ok g6, n2, small_le (by omega), small_le (by omega)]
  refine ⟨rfl, ?_⟩
  rw [frame_iff]
  refine ⟨rfl, rfl, rfl, ?_, ?_⟩
  · show (0 : Int) = f0.Seq
    omega
  · exact (List.eq_nil_of_length_eq_zero (by omega)).symm
end
/-- A frame's bytes, as the reference puts them together. -/
theorem four_of (n : Int) : [byt (n % 256), byt (n / 256 % 256), byt (n / 65536 % 256), byt (n / 16777216 % 256)] = four n := rfl
theorem renc1 {f : Frame} (h : mayF f = true) (hk : f.Kind = 1) : four (more 1 (([byt (f.Kind % 256)] ++ put f.View) ++ put f.Seq ++ put (f.Body.length : Int) ++ f.Body)) ++ (([byt (f.Kind % 256)] ++ put f.View) ++ put f.Seq ++ put (f.Body.length : Int) ++ f.Body) = (encF f).1 := by
  have e : ([byt (f.Kind % 256)] ++ put f.View) ++ put f.Seq ++ put (f.Body.length : Int) ++ f.Body = bodyF f := by simp [bodyF, restF, hk]
  rw [e, encF_yes h]; rfl
theorem renc2 {f : Frame} (h : mayF f = true) (hk : f.Kind = 2) : four (more 1 (([byt (f.Kind % 256)] ++ put f.View) ++ put f.Seq)) ++ (([byt (f.Kind % 256)] ++ put f.View) ++ put f.Seq) = (encF f).1 := by
  have e : ([byt (f.Kind % 256)] ++ put f.View) ++ put f.Seq = bodyF f := by simp [bodyF, restF, hk]
  rw [e, encF_yes h]; rfl
theorem renc3 {f : Frame} (h : mayF f = true) (hk : ¬ f.Kind = 1) (hk2 : ¬ f.Kind = 2) : four (more 1 (([byt (f.Kind % 256)] ++ put f.View) ++ put f.Site)) ++ (([byt (f.Kind % 256)] ++ put f.View) ++ put f.Site) = (encF f).1 := by
  have e : ([byt (f.Kind % 256)] ++ put f.View) ++ put f.Site = bodyF f := by simp [bodyF, restF, hk, hk2]
  rw [e, encF_yes h]; rfl
end Go.Proofs.Ytfljkaigfmedeaa
