/- Laws of numbers as bytes. -/
import Derived.Test.YtpamjfbdgaamoaaY
namespace Go.Proofs.Ytpamjfbdgaamoaa
open Go.RowKit
theorem zig_cases (m : Int) : (m < 0 ∧ zig m = -2 * m - 1) ∨ (0 ≤ m ∧ zig m = 2 * m) := by unfold zig; split <;> omega
theorem zag_cases (n : Int) : (n % 2 = 1 ∧ zag n = -(n / 2) - 1) ∨ (n % 2 = 0 ∧ zag n = n / 2) := by unfold zag; split <;> omega
theorem zag_zig (m : Int) : zag (zig m) = m := by have := zig_cases m; have := zag_cases (zig m); omega
theorem zig_zag {n : Int} (h : 0 ≤ n) : zig (zag n) = n := by have := zag_cases n; have := zig_cases (zag n); omega
theorem zig_odd (m : Int) : (decide (zig m % 2 = 1) == decide (m < 0)) = true := by
  have := zig_cases m
  rw [beq_iff_eq, decide_eq_decide]; omega
theorem zig_next {m : Int} (h : 0 ≤ m) : zig (m + 1) = zig m + 2 := by have := zig_cases m; have := zig_cases (m + 1); omega

theorem byt_nat {e : Int} (h0 : 0 ≤ e) (h1 : e ≤ 255) : (byt e).toNat = e.toNat := by have := byt_toNat h0 h1; omega
theorem byt_eq {c : UInt8} {e : Int} (h : e = (c.toNat : Int)) : byt e = c := by rw [h, byt_of]
/-- What was put is read again, wherever it stands. -/
theorem getG_putF : ∀ (f k acc m : Nat) (post : List UInt8), f + k = 9 → m * 128 ^ k < 18446744073709551616 → m < 128 ^ (f + 1) → (0 < k → 0 < m) →
    getG (f + 1) k acc (putF f m ++ post) = some (acc + m * 128 ^ k, k + (putF f m).length)
  | 0, k, acc, m, post, hk, hb, _, h0 => by
    have hk9 : k = 9 := by omega
    subst hk9
    have h9 : (128 : Nat) ^ 9 = 9223372036854775808 := by decide
    have hm : m ≤ 1 := by omega
    have hc : (byt (m : Int)).toNat = m := by rw [byt_nat (by omega) (by omega)]; omega
    simp only [putF, List.cons_append, List.nil_append, getG, hc, List.length_cons, List.length_nil]
    rw [if_neg (by omega), if_neg (by omega), if_neg (by have := h0 (by omega); omega), Nat.mod_eq_of_lt (by omega)]
  | f + 1, k, acc, m, post, hk, hb, hm, h0 => by
    by_cases hlt : m < 128
    · have hc : (byt (m : Int)).toNat = m := by rw [byt_nat (by omega) (by omega)]; omega
      rw [putF, if_pos hlt]
      simp only [List.cons_append, List.nil_append, getG, hc, List.length_cons, List.length_nil]
      rw [if_neg (by omega), if_neg (by omega), if_neg (by omega), Nat.mod_eq_of_lt (by omega)]
    · have hc : (byt ((m : Int) % 256 % 128 + 128)).toNat = m % 128 + 128 := by rw [byt_nat (by omega) (by omega)]; omega
      have hb2 : m / 128 * 128 ^ (k + 1) < 18446744073709551616 := by
        have h1 : m / 128 * 128 ≤ m := Nat.div_mul_le_self m 128
        have h2 : m / 128 * 128 ^ (k + 1) = m / 128 * 128 * 128 ^ k := by rw [Nat.pow_succ, Nat.mul_assoc, Nat.mul_comm (128 ^ k)]
        rw [h2]
        exact Nat.lt_of_le_of_lt (Nat.mul_le_mul_right _ h1) hb
      have ih := getG_putF f (k + 1) (acc + m % 128 * 128 ^ k) (m / 128) post (by omega) hb2 (by rw [Nat.div_lt_iff_lt_mul (by decide)]; rw [Nat.pow_succ] at hm; exact hm) (fun _ => Nat.div_pos (by omega) (by decide))
      rw [putF, if_neg hlt]
      simp only [List.cons_append, getG, hc, List.length_cons]
      rw [if_neg (by omega), if_pos (by omega)]
      have e : (m % 128 + 128) % 128 = m % 128 := by omega
      rw [e, ih]
      congr 1
      have h3 : m % 128 * 128 ^ k + m / 128 * 128 ^ (k + 1) = m * 128 ^ k := by
        have h4 : m / 128 * 128 ^ (k + 1) = 128 * (m / 128) * 128 ^ k := by rw [Nat.pow_succ, Nat.mul_comm 128 (m / 128), Nat.mul_assoc, Nat.mul_comm (128 ^ k)]
        rw [h4, ← Nat.add_mul]
        congr 1
        have := Nat.mod_add_div m 128
        omega
      ext1
      · simp only; omega
      · simp only; omega
theorem getG_put {n : Int} (h0 : 0 ≤ n) (h1 : n ≤ 18446744073709551615) (post : List UInt8) : getG 10 0 0 (put n ++ post) = some (n.toNat, (put n).length) := by
  have h := getG_putF 9 0 0 n.toNat post rfl (by omega) (by have : (128 : Nat) ^ (9 + 1) = 1180591620717411303424 := by decide
                                                            omega) (by omega)
  simpa [put] using h
theorem get_put {n : Int} (h0 : 0 ≤ n) (h1 : n ≤ 18446744073709551615) (pre post : List UInt8) : get (pre ++ (put n ++ post)) (pre.length : Int) = (n, (pre.length : Int) + ((put n).length : Int), 0) := by
  have h := get_some (b := pre ++ (put n ++ post)) (at_ := (pre.length : Int)) (by omega) (by simp; omega) (by rw [Int.toNat_natCast, List.drop_left]; exact getG_put h0 h1 post) rfl
  rw [h, Int.toNat_of_nonneg h0]
theorem put_inj {a b : Int} (ha : 0 ≤ a) (ha1 : a ≤ 18446744073709551615) (hb : 0 ≤ b) (hb1 : b ≤ 18446744073709551615) (h : put a = put b) : a = b := by
  have h1 := getG_put ha ha1 []
  have h2 := getG_put hb hb1 []
  rw [h, h2] at h1
  simp only [Option.some.injEq, Prod.mk.injEq] at h1
  omega
/-- Whatever is read is what would be put. -/
theorem getG_inv : ∀ (f k acc : Nat) (l : List UInt8) (v j : Nat), f + k = 9 → getG (f + 1) k acc l = some (v, j) →
    ∃ m, v = acc + m * 128 ^ k ∧ l.take (j - k) = putF f m ∧ k < j ∧ j - k ≤ l.length ∧ (0 < k → 0 < m) ∧ m * 128 ^ k < 18446744073709551616 ∧ m < 128 ^ (f + 1)
  | f, k, acc, [], v, j, _, h => by simp [getG] at h
  | f, k, acc, c :: l, v, j, hk, h => by
    have hc := c.toNat_lt
    unfold getG at h
    split at h
    · cases h
    · rename_i h9
      split at h
      · rename_i hge
        cases f with
        | zero => cases hl : l <;> rw [hl] at h <;> simp [getG] at h
        | succ f =>
          obtain ⟨m, hv, ht, hkj, hjl, hm0, hb, hmf⟩ := getG_inv f (k + 1) _ l v j (by omega) h
          have hmpos := hm0 (by omega)
          refine ⟨c.toNat % 128 + 128 * m, ?_, ?_, by omega, by simp; omega, fun _ => by omega, ?_, ?_⟩
          · rw [hv, Nat.pow_succ, Nat.add_mul, Nat.mul_comm (128 ^ k) 128, ← Nat.mul_assoc, Nat.mul_comm m 128]; omega
          · have e : j - k = (j - (k + 1)) + 1 := by omega
            rw [e, List.take_succ_cons, ht, putF, if_neg (by omega)]
            have e1 : (c.toNat % 128 + 128 * m) / 128 = m := by omega
            rw [e1]
            congr 1
            exact (byt_eq (by push_cast; omega)).symm
          · -- below 2^64
            rcases Nat.lt_or_ge f 1 with hf | hf
            · have hf0 : f = 0 := by omega
              have hk8 : k = 8 := by omega
              subst hf0 hk8
              have h8 : (128 : Nat) ^ 8 = 72057594037927936 := by decide
              have h9' : (128 : Nat) ^ (8 + 1) = 9223372036854775808 := by decide
              rw [h9'] at hb
              rw [h8]
              clear h8 h9'
              have hm1 : m ≤ 1 := by omega
              have hx : c.toNat % 128 + 128 * m ≤ 255 := by omega
              exact Nat.lt_of_le_of_lt (Nat.mul_le_mul_right 72057594037927936 hx) (by decide)
            · have h1 : m < 128 ^ (f + 1) := hmf
              have h2 : c.toNat % 128 + 128 * m < 128 ^ (f + 2) := by rw [Nat.pow_succ 128 (f + 1)]; omega
              have hkk : k ≤ 7 := by omega
              have h3 : (128 : Nat) ^ (f + 2) * 128 ^ k = 128 ^ 10 := by rw [← Nat.pow_add]; congr 1; omega
              have h4 : m * 128 ^ (k + 1) < 18446744073709551616 := hb
              have h5 : (c.toNat % 128 + 128 * m) * 128 ^ k = c.toNat % 128 * 128 ^ k + m * 128 ^ (k + 1) := by rw [Nat.add_mul, Nat.pow_succ, Nat.mul_comm (128 ^ k) 128, ← Nat.mul_assoc, Nat.mul_comm m 128]
              have h6 : m * 128 ^ (k + 1) + 128 ^ (k + 1) ≤ 18446744073709551616 := by
                have hd : (128 : Nat) ^ (k + 1) * 2 ^ (64 - 7 * (k + 1)) = 18446744073709551616 := by
                  rw [← pow7, ← Nat.pow_add]
                  have : 7 * (k + 1) + (64 - 7 * (k + 1)) = 64 := by omega
                  rw [this]
                have hlt : m < 2 ^ (64 - 7 * (k + 1)) := by
                  apply Nat.lt_of_mul_lt_mul_right (a := 128 ^ (k + 1))
                  rw [Nat.mul_comm (2 ^ _), hd]; exact h4
                calc m * 128 ^ (k + 1) + 128 ^ (k + 1) = (m + 1) * 128 ^ (k + 1) := by rw [Nat.add_mul, Nat.one_mul]
                  _ ≤ 2 ^ (64 - 7 * (k + 1)) * 128 ^ (k + 1) := Nat.mul_le_mul_right _ hlt
                  _ = 18446744073709551616 := by rw [Nat.mul_comm, hd]
              have h7 : c.toNat % 128 * 128 ^ k < 128 ^ (k + 1) := by
                rw [Nat.pow_succ, Nat.mul_comm]
                exact Nat.mul_lt_mul_of_pos_left (by omega) (Nat.pow_pos (by decide))
              rw [h5]; omega
          · rw [Nat.pow_succ 128 (f + 1)]; omega
      · rename_i hlt
        split at h
        · cases h
        · rename_i hz
          simp only [Option.some.injEq, Prod.mk.injEq] at h
          obtain ⟨rfl, rfl⟩ := h
          have hpow : (128 : Nat) ≤ 128 ^ (f + 1) := by rw [Nat.pow_succ]; have := Nat.pow_pos (n := f) (show 0 < 128 by decide); omega
          refine ⟨c.toNat % 128, rfl, ?_, by omega, by simp, fun h => by omega, seven_bits (by omega) (by omega), by omega⟩
          have e : k + 1 - k = 1 := by omega
          rw [e]
          have e2 : c.toNat % 128 = c.toNat := by omega
          rw [e2]
          cases f with
          | zero => simp [putF, byt_of]
          | succ f => simp [putF, byt_of, show c.toNat < 128 by omega]
theorem get_inv {c : List UInt8} {n : Int} {k : Int} (h : get c 0 = (n, k, 0)) : 0 ≤ n ∧ n ≤ 18446744073709551615 ∧ 1 ≤ k ∧ k ≤ (c.length : Int) ∧ put n = c.take k.toNat := by
  unfold get at h
  split at h
  · simp at h
  · cases hg : getG 10 0 0 (c.drop (0 : Int).toNat) with
    | none => rw [hg] at h; simp at h
    | some p =>
      obtain ⟨v, j⟩ := p
      rw [hg] at h
      simp only [Prod.mk.injEq, Int.zero_add, and_true] at h
      obtain ⟨rfl, rfl⟩ := h
      obtain ⟨m, hv, ht, hkj, hjl, _, hb, _⟩ := getG_inv 9 0 0 _ v j rfl hg
      simp only [Int.toNat_zero, List.drop_zero, Nat.sub_zero] at ht hjl
      simp only [Nat.pow_zero, Nat.mul_one, Nat.zero_add] at hv hb
      subst hv
      refine ⟨by omega, by omega, by omega, by omega, ?_⟩
      unfold put
      rw [Int.toNat_natCast, Int.toNat_natCast, ht]
/-- More bytes behind change nothing. -/
theorem getG_append : ∀ (f k acc : Nat) (l post : List UInt8) (r : Nat × Nat), getG f k acc l = some r → getG f k acc (l ++ post) = some r
  | 0, k, acc, l, post, r, h => by cases l <;> simp [getG] at h
  | f + 1, k, acc, [], post, r, h => by simp [getG] at h
  | f + 1, k, acc, c :: l, post, r, h => by
    simp only [List.cons_append, getG] at h ⊢
    split
    · rename_i h9; rw [if_pos h9] at h; exact h
    · rename_i h9
      rw [if_neg h9] at h
      split
      · rename_i hc; rw [if_pos hc] at h; exact getG_append f (k + 1) _ l post r h
      · rename_i hc; rw [if_neg hc] at h; exact h
theorem get_cut {n : Int} (h0 : 0 ≤ n) (h1 : n ≤ 18446744073709551615) {i : Nat} (hi : i < (put n).length) : get ((put n).take i) 0 = (0, 0, 2) := by
  cases hg : getG 10 0 0 (((put n).take i).drop (0 : Int).toNat) with
  | none => exact get_none (by omega) (by omega) hg
  | some p =>
    exfalso
    obtain ⟨v, j⟩ := p
    simp only [Int.toNat_zero, List.drop_zero] at hg
    obtain ⟨m, _, _, _, hjl, _⟩ := getG_inv 9 0 0 _ v j rfl hg
    have h2 := getG_append 10 0 0 _ ((put n).drop i) _ hg
    rw [List.take_append_drop] at h2
    have h3 := getG_put h0 h1 []
    rw [List.append_nil, h2] at h3
    simp only [Option.some.injEq, Prod.mk.injEq] at h3
    rw [List.length_take] at hjl
    omega
theorem getG_high : ∀ (l : List UInt8) (f k acc : Nat), (∀ c ∈ l, 128 ≤ c.toNat) → 0 < k + l.length → getG f k acc (l ++ [byt 0]) = none
  | l, 0, k, acc, _, _ => by cases l <;> rfl
  | [], f + 1, k, acc, _, h => by
    have e : (byt 0).toNat = 0 := by decide
    have hk : 0 < k := by simpa using h
    simp [getG, e, hk]
  | c :: l, f + 1, k, acc, hl, _ => by
    have hc := hl c (by simp)
    simp only [List.cons_append, getG]
    split
    · rfl
    · try rw [if_pos hc]
      exact getG_high l f (k + 1) _ (fun d hd => hl d (by simp [hd])) (by omega)
theorem get_high {l : List UInt8} (hl : ∀ c ∈ l, 128 ≤ c.toNat) (h : 0 < l.length) : get (l ++ [byt 0]) 0 = (0, 0, 2) :=
  get_none (by omega) (by omega) (by simpa using getG_high l 10 0 0 hl (by omega))
theorem putF_high : ∀ (f m i : Nat) (h : i + 1 < (putF f m).length), 128 ≤ ((putF f m)[i]'(by omega)).toNat
  | 0, m, i, h => by simp [putF] at h
  | f + 1, m, i, h => by
    by_cases hlt : m < 128
    · simp [putF, hlt] at h
    · simp only [putF, if_neg hlt, List.length_cons] at h ⊢
      cases i with
      | zero =>
        simp only [List.getElem_cons_zero]
        rw [byt_nat (by omega) (by omega)]; omega
      | succ i =>
        simp only [List.getElem_cons_succ]
        exact putF_high f (m / 128) i (by omega)
/-- Lengths. -/
theorem putF_mono : ∀ (f a b : Nat), a ≤ b → (putF f a).length ≤ (putF f b).length
  | 0, a, b, _ => by simp [putF]
  | f + 1, a, b, h => by
    unfold putF
    split
    · split <;> simp
    · rw [if_neg (by omega)]
      simp only [List.length_cons]
      have := putF_mono f (a / 128) (b / 128) (Nat.div_le_div_right h)
      omega
theorem put_mono {a b : Int} (h : a ≤ b) : (put a).length ≤ (put b).length := putF_mono 9 _ _ (by omega)
theorem putF_order : ∀ (f a b i : Nat), a < 128 ^ (f + 1) → b < 128 ^ (f + 1) → (putF f a).length = (putF f b).length → ∀ (ha : i < (putF f a).length) (hb : i < (putF f b).length), (∀ j, i < j → (putF f a)[j]? = (putF f b)[j]?) → (putF f a)[i] ≠ (putF f b)[i] →
    ((putF f b)[i].toNat % 128 < (putF f a)[i].toNat % 128 ↔ b < a)
  | 0, a, b, i, h1, h2, _, ha, hb, _, _ => by
    have hi : i = 0 := by simp [putF] at ha; omega
    subst hi
    simp only [putF, List.getElem_cons_zero]
    simp at h1 h2
    rw [byt_nat (by omega) (by omega), byt_nat (by omega) (by omega)]; omega
  | f + 1, a, b, i, h1, h2, hl, ha, hb, hr, hne => by
    by_cases hA : a < 128
    · have hB : b < 128 := by
        rcases Nat.lt_or_ge b 128 with h | h
        · exact h
        · rw [putF, if_pos hA, putF, if_neg (by omega)] at hl
          have := (putF_length f (b / 128)).1
          simp only [List.length_cons, List.length_nil] at hl; omega
      have hi : i = 0 := by simp [putF, hA] at ha; omega
      subst hi
      simp only [putF, if_pos hA, if_pos hB, List.getElem_cons_zero]
      rw [byt_nat (by omega) (by omega), byt_nat (by omega) (by omega)]; omega
    · have hB : ¬ b < 128 := by
        intro h
        rw [putF, if_neg hA, putF, if_pos h] at hl
        have := (putF_length f (a / 128)).1
        simp only [List.length_cons, List.length_nil] at hl; omega
      have eA : putF (f + 1) a = byt ((a : Int) % 256 % 128 + 128) :: putF f (a / 128) := by rw [putF, if_neg hA]
      have eB : putF (f + 1) b = byt ((b : Int) % 256 % 128 + 128) :: putF f (b / 128) := by rw [putF, if_neg hB]
      have hda : a / 128 < 128 ^ (f + 1) := by rw [Nat.div_lt_iff_lt_mul (by decide)]; rw [Nat.pow_succ] at h1; exact h1
      have hdb : b / 128 < 128 ^ (f + 1) := by rw [Nat.div_lt_iff_lt_mul (by decide)]; rw [Nat.pow_succ] at h2; exact h2
      simp only [eA, eB, List.length_cons] at hl ha hb hr hne ⊢
      cases i with
      | zero =>
        simp only [List.getElem_cons_zero] at hne ⊢
        have htail : putF f (a / 128) = putF f (b / 128) := by
          apply List.ext_getElem?
          intro j
          have := hr (j + 1) (by omega)
          simpa using this
        have hdiv : a / 128 = b / 128 := by
          rcases Nat.lt_trichotomy (a / 128) (b / 128) with h | h | h
          · exfalso; exact putF_ne f _ _ hda hdb (by omega) htail
          · exact h
          · exfalso; exact putF_ne f _ _ hda hdb (by omega) htail
        rw [byt_nat (by omega) (by omega), byt_nat (by omega) (by omega)]
        omega
      | succ i =>
        simp only [List.getElem_cons_succ] at hne ⊢
        have hne2 : a / 128 ≠ b / 128 := by
          intro e
          apply hne
          simp only [e]
        have ih := putF_order f (a / 128) (b / 128) i hda hdb (by omega) (by omega) (by omega) (fun j hj => by have := hr (j + 1) (by omega); simpa using this) hne
        rw [ih]
        omega
where
  putF_ne : ∀ (f a b : Nat), a < 128 ^ (f + 1) → b < 128 ^ (f + 1) → a ≠ b → putF f a ≠ putF f b
  | 0, a, b, h1, h2, hne => by
    simp at h1 h2
    simp only [putF, ne_eq, List.cons.injEq, and_true]
    intro e
    have e2 := congrArg UInt8.toNat e
    rw [byt_nat (by omega) (by omega), byt_nat (by omega) (by omega)] at e2
    omega
  | f + 1, a, b, h1, h2, hne => by
    intro e
    have hda : a / 128 < 128 ^ (f + 1) := by rw [Nat.div_lt_iff_lt_mul (by decide)]; rw [Nat.pow_succ] at h1; exact h1
    have hdb : b / 128 < 128 ^ (f + 1) := by rw [Nat.div_lt_iff_lt_mul (by decide)]; rw [Nat.pow_succ] at h2; exact h2
    unfold putF at e
    split at e <;> split at e
    · simp only [List.cons.injEq, and_true] at e
      have e2 := congrArg UInt8.toNat e
      rw [byt_nat (by omega) (by omega), byt_nat (by omega) (by omega)] at e2
      omega
    · have h3 := congrArg List.length e
      have := (putF_length f (b / 128)).1
      simp only [List.length_cons, List.length_nil] at h3; omega
    · have h3 := congrArg List.length e
      have := (putF_length f (a / 128)).1
      simp only [List.length_cons, List.length_nil] at h3; omega
    · simp only [List.cons.injEq] at e
      have e2 := congrArg UInt8.toNat e.1
      rw [byt_nat (by omega) (by omega), byt_nat (by omega) (by omega)] at e2
      have hdiv : a / 128 ≠ b / 128 := by omega
      exact putF_ne f _ _ hda hdb hdiv e.2
theorem put_order {a b : Int} {i : Nat} (a0 : 0 ≤ a) (a1 : a ≤ 18446744073709551615) (b0 : 0 ≤ b) (b1 : b ≤ 18446744073709551615) (hl : (put a).length = (put b).length) (ha : i < (put a).length) (hb : i < (put b).length) (hr : ∀ j, i < j → (put a)[j]? = (put b)[j]?)
    (hne : (put a)[i] ≠ (put b)[i]) : (decide ((((put b)[i].toNat : Int) % 128) < (((put a)[i].toNat : Int) % 128)) == decide (b < a)) = true := by
  have hp : (128 : Nat) ^ (9 + 1) = 1180591620717411303424 := by decide
  have h := putF_order 9 a.toNat b.toNat i (by omega) (by omega) hl ha hb hr hne
  rw [beq_iff_eq, decide_eq_decide]
  show (((putF 9 b.toNat)[i].toNat : Int) % 128 < ((putF 9 a.toNat)[i].toNat : Int) % 128) ↔ b < a
  omega
theorem get_inv2 {c : List UInt8} (h : (get c 0).2.2 = 0) : 0 ≤ (get c 0).1 ∧ (get c 0).1 ≤ 18446744073709551615 ∧ 1 ≤ (get c 0).2.1 ∧ (get c 0).2.1 ≤ (c.length : Int) ∧ put (get c 0).1 = c.take (get c 0).2.1.toNat :=
  get_inv (Prod.ext rfl (Prod.ext rfl h))
theorem and127b {x : UInt8} : bits .and .u8 (x.toNat : Int) 127 = (x.toNat : Int) % 128 := and127 (by omega) (by have := x.toNat_lt; omega)
theorem ne_u8 {x y : UInt8} (h : ¬ ((x.toNat : Int) = (y.toNat : Int))) : x ≠ y := fun e => h (by rw [e])
theorem none_both {a b : Int} {t : Nat} (hl : (put a).length = (put b).length) (h : (put a).length ≤ t) : (put a)[t]? = (put b)[t]? := by
  rw [List.getElem?_eq_none h, List.getElem?_eq_none (by omega)]
theorem eq_step {x y : List UInt8} {j : Nat} (he : ∀ t, j ≤ t → x[t]? = y[t]?) (hj : 1 ≤ j) (hx : j - 1 < x.length) (hy : j - 1 < y.length) (h : ((x[j - 1].toNat : Int)) = (y[j - 1].toNat : Int)) : ∀ t, j - 1 ≤ t → x[t]? = y[t]? := by
  intro t ht
  rcases Nat.lt_or_ge t j with hlt | hge
  · have e : t = j - 1 := by omega
    subst e
    rw [List.getElem?_eq_getElem hx, List.getElem?_eq_getElem hy]
    congr 1
    exact UInt8.toNat_inj.1 (by omega)
  · exact he t hge
theorem put_len_lt {a b : Int} (h : ¬ (((put a).length : Int) = ((put b).length : Int))) : (decide (((put a).length : Int) < ((put b).length : Int)) == decide (a < b)) = true := by
  have h1 := fun x : a ≤ b => put_mono x
  have h2 := fun x : b ≤ a => put_mono x
  rw [beq_iff_eq, decide_eq_decide]
  rcases Int.lt_or_le a b with hl | hl
  · have := h1 (by omega); omega
  · have := h2 hl; omega
theorem set_high (n : Int) {h : (put n).length - 1 < (put n).length} : ∀ c ∈ (put n).set ((put n).length - 1) (byt (((put n)[(put n).length - 1]'h).toNat % 128 + 128)), 128 ≤ c.toNat := by
  intro c hc
  obtain ⟨i, hi, rfl⟩ := List.mem_iff_getElem.1 hc
  rw [List.getElem_set]
  split
  · rw [byt_nat (by omega) (by omega)]; omega
  · rename_i hne
    rw [List.length_set] at hi
    exact putF_high 9 n.toNat i (by unfold put at hi hne h; omega)
theorem high_snoc {l : List UInt8} (h : ∀ c ∈ l, 128 ≤ c.toNat) : ∀ c ∈ l ++ [byt 128], 128 ≤ c.toNat := by
  intro c hc
  rcases List.mem_append.1 hc with hc | hc
  · exact h c hc
  · rw [List.mem_singleton] at hc; subst hc; decide
theorem flat_succ (l : List Int) (k : Nat) (h : k < l.length) (ahead : List UInt8) : (ahead ++ (l.take k).flatMap put) ++ put (l[k]'h) = ahead ++ (l.take (k + 1)).flatMap put := by
  rw [List.take_succ_eq_append_getElem h, List.flatMap_append]; simp
theorem flat_len (l : List Int) (k : Nat) : ((l.take k).flatMap put).length ≤ 10 * k := by
  induction k with
  | zero => simp
  | succ k ih =>
    rcases Nat.lt_or_ge k l.length with h | h
    · rw [List.take_succ_eq_append_getElem h, List.flatMap_append]
      have := (put_length l[k]).2
      rw [List.length_append]; simp only [List.flatMap_cons, List.flatMap_nil, List.append_nil]; omega
    · rw [List.take_of_length_le (by omega)]; rw [List.take_of_length_le h] at ih; omega
theorem flat_len_succ (l : List Int) (k : Nat) (h : k < l.length) : ((l.take (k + 1)).flatMap put).length = ((l.take k).flatMap put).length + (put (l[k]'h)).length := by
  rw [List.take_succ_eq_append_getElem h, List.flatMap_append]; simp
theorem flat_le (l : List Int) (k i : Nat) (hk : k = l.length) (h : i < l.length) : ((l.take i).flatMap put).length + (put (l[i]'h)).length ≤ ((l.take k).flatMap put).length := by
  rw [← flat_len_succ l i h]
  have e : l.take k = l.take (i + 1) ++ l.drop (i + 1) := by rw [List.take_append_drop, List.take_of_length_le (by omega)]
  rw [e, List.flatMap_append]; simp
theorem get_back (ahead : List UInt8) (l : List Int) (k i : Nat) (hw : ∀ x ∈ l, 0 ≤ x ∧ x ≤ 18446744073709551615) (hk : k = l.length) (h : i < l.length) :
    get (ahead ++ (l.take k).flatMap put) ((ahead.length + ((l.take i).flatMap put).length : Nat) : Int) = (l[i]'h, ((ahead.length + ((l.take i).flatMap put).length : Nat) : Int) + ((put (l[i]'h)).length : Int), 0) := by
  have hr := hw l[i] (List.getElem_mem h)
  have e : ahead ++ (l.take k).flatMap put = (ahead ++ (l.take i).flatMap put) ++ (put l[i] ++ (l.drop (i + 1)).flatMap put) := by
    have e2 : l.take k = l.take i ++ l[i] :: l.drop (i + 1) := by
      rw [← List.drop_eq_getElem_cons h, List.take_append_drop, List.take_of_length_le (by omega)]
    rw [e2, List.flatMap_append, List.flatMap_cons]; simp
  have hg := get_put hr.1 hr.2 (ahead ++ (l.take i).flatMap put) ((l.drop (i + 1)).flatMap put)
  rw [List.length_append] at hg
  rw [e]; exact hg
end Go.Proofs.Ytpamjfbdgaamoaa
