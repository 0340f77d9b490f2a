/- Numbers as bytes, on lists of bytes. -/
import Derived.Test.YtpamjfbdgaamoaaB
namespace Go.Proofs.Ytpamjfbdgaamoaa
open Go.RowKit
/-- A number's bytes; f: how many more there may be. -/
def putF : Nat → Nat → List UInt8
  | 0, m => [byt (m : Int)]
  | f + 1, m => if m < 128 then [byt (m : Int)] else byt ((m : Int) % 256 % 128 + 128) :: putF f (m / 128)
def put (n : Int) : List UInt8 := putF 9 n.toNat
theorem put_start {n : Int} (h0 : 0 ≤ n) (h1 : n ≤ 18446744073709551615) : ∃ m : Nat, n = (m : Int) ∧ put n = [] ++ putF 9 m ∧ m < 128 ^ (9 + 1) := by
  refine ⟨n.toNat, by omega, rfl, ?_⟩
  have : (128 : Nat) ^ (9 + 1) = 1180591620717411303424 := by decide
  omega
theorem putF_next {f m : Nat} {l d : List UInt8} (hm : 128 ≤ m) (hb : m < 128 ^ (f + 1)) (h : l = d ++ putF f m) :
    ∃ g, f = g + 1 ∧ l = (d ++ [byt ((m : Int) % 256 % 128 + 128)]) ++ putF g (m / 128) ∧ m / 128 < 128 ^ (g + 1) := by
  cases f with
  | zero => simp at hb; omega
  | succ g =>
    refine ⟨g, rfl, ?_, ?_⟩
    · rw [h, putF, if_neg (by omega)]; simp
    · rw [Nat.div_lt_iff_lt_mul (by decide)]; rw [Nat.pow_succ] at hb; exact hb
theorem putF_last {f m : Nat} {l d : List UInt8} (hm : m < 128) (h : l = d ++ putF f m) : d ++ [byt ((m : Int) % 256)] = l := by
  have e : (m : Int) % 256 = m := by omega
  rw [h, e]
  cases f with
  | zero => rfl
  | succ g => rw [putF, if_pos hm]
theorem putF_length : ∀ f m, 1 ≤ (putF f m).length ∧ (putF f m).length ≤ f + 1
  | 0, m => by simp [putF]
  | f + 1, m => by
    have := putF_length f (m / 128)
    unfold putF
    split
    · simp
    · simp; omega
theorem put_length (n : Int) : 1 ≤ (put n).length ∧ (put n).length ≤ 10 := putF_length 9 n.toNat
/-- The number that begins here: k bytes were read, they came to n. -/
def getG : Nat → Nat → Nat → List UInt8 → Option (Nat × Nat)
  | 0, _, _, _ => none
  | _ + 1, _, _, [] => none
  | f + 1, k, n, c :: l =>
    if k = 9 ∧ 1 < c.toNat then none
    else if 128 ≤ c.toNat then getG f (k + 1) (n + c.toNat % 128 * 128 ^ k) l
    else if 0 < k ∧ c.toNat = 0 then none
    else some (n + c.toNat % 128 * 128 ^ k, k + 1)
/-- The answer of Get: the number, where it ends, the code. -/
def get (b : List UInt8) (at_ : Int) : Int × Int × Int :=
  if at_ < 0 ∨ (b.length : Int) < at_ then (0, at_, 1)
  else match getG 10 0 0 (b.drop at_.toNat) with
    | some (n, k) => ((n : Int), at_ + (k : Int), 0)
    | none => (0, at_, 2)

theorem or128 {a : Int} (h0 : 0 ≤ a) (h1 : a ≤ 255) : bits .or .u8 a 128 = a % 128 + 128 := by
  obtain ⟨n, rfl⟩ := Int.eq_ofNat_of_zero_le h0
  have h : ∀ m : Fin 256, bits .or .u8 ((m : Nat) : Int) 128 = ((m : Nat) : Int) % 128 + 128 := by decide +kernel
  exact h ⟨n, by omega⟩
theorem and127 {a : Int} (h0 : 0 ≤ a) (h1 : a ≤ 255) : bits .and .u8 a 127 = a % 128 := by
  obtain ⟨n, rfl⟩ := Int.eq_ofNat_of_zero_le h0
  have h : ∀ m : Fin 256, bits .and .u8 ((m : Nat) : Int) 127 = ((m : Nat) : Int) % 128 := by decide +kernel
  exact h ⟨n, by omega⟩
theorem pow7 (k : Nat) : (2 : Nat) ^ (7 * k) = 128 ^ k := by rw [Nat.pow_mul]
theorem ofNat64 {a : Nat} (h : a < 18446744073709551616) : (BitVec.ofInt 64 (a : Int)).toNat = a := by
  rw [BitVec.ofInt_natCast, BitVec.toNat_ofNat]; exact Nat.mod_eq_of_lt h
theorem or_disj {n a k : Nat} (hn : n < 128 ^ k) (hb : a * 128 ^ k < 18446744073709551616) (hk : 128 ^ k ≤ 18446744073709551616) : bits .or .u64 (n : Int) ((a : Int) * 128 ^ k) = (((n + a * 128 ^ k : Nat)) : Int) := by
  have e : ((a : Int) * 128 ^ k) = ((a * 128 ^ k : Nat) : Int) := by push_cast; rfl
  rw [e]
  show IntKind.u64.wrap ((BitVec.ofInt 64 (n : Int) ||| BitVec.ofInt 64 ((a * 128 ^ k : Nat) : Int)).toNat : Int) = _
  rw [BitVec.toNat_or, ofNat64 (by omega), ofNat64 hb]
  have hor : n ||| a * 128 ^ k = n + a * 128 ^ k := by
    rw [← pow7] at hn ⊢
    rw [Nat.or_comm, Nat.mul_comm, ← Nat.two_pow_add_eq_or_of_lt hn, Nat.add_comm]
  rw [hor, IntKind.wrap_u64]
  have hsum : n + a * 128 ^ k < 18446744073709551616 := by
    rw [← hor]
    have h1 : n < 2 ^ 64 := by
      have : (2 : Nat) ^ 64 = 18446744073709551616 := by decide
      omega
    have h2 : a * 128 ^ k < 2 ^ 64 := by
      have : (2 : Nat) ^ 64 = 18446744073709551616 := by decide
      omega
    have := Nat.or_lt_two_pow h1 h2
    have e2 : (2 : Nat) ^ 64 = 18446744073709551616 := by decide
    omega
  omega
theorem pow128_le {k : Nat} (h : k ≤ 9) : 128 ^ k ≤ 9223372036854775808 := by
  have h1 : (128 : Nat) ^ k ≤ 128 ^ 9 := Nat.pow_le_pow_right (by decide) h
  have : (128 : Nat) ^ 9 = 9223372036854775808 := by decide
  omega
theorem seven_bits {k : Nat} {c : UInt8} (hk : k < 10) (h9 : k = 9 → c.toNat ≤ 1) : c.toNat % 128 * 128 ^ k < 18446744073709551616 := by
  rcases Nat.lt_or_ge k 9 with h | h
  · have h1 : (128 : Nat) ^ k ≤ 128 ^ 8 := Nat.pow_le_pow_right (by decide) (by omega)
    have h2 : (128 : Nat) ^ 8 = 72057594037927936 := by decide
    have h3 : c.toNat % 128 ≤ 127 := by omega
    calc c.toNat % 128 * 128 ^ k ≤ 127 * 72057594037927936 := Nat.mul_le_mul h3 (by omega)
      _ < 18446744073709551616 := by decide
  · have hk9 : k = 9 := by omega
    subst hk9
    have := h9 rfl
    have h1 : c.toNat % 128 ≤ 1 := by omega
    have h2 : (128 : Nat) ^ 9 = 9223372036854775808 := by decide
    calc c.toNat % 128 * 128 ^ 9 ≤ 1 * 9223372036854775808 := Nat.mul_le_mul h1 (by omega)
      _ < 18446744073709551616 := by decide
theorem shl7 {k : Nat} {c : UInt8} (hk : k < 10) (h9 : k = 9 → c.toNat ≤ 1) : IntKind.u64.wrap (((c.toNat : Int) % 128) * 2 ^ (7 * (k : Int)).toNat) = ((c.toNat % 128 : Nat) : Int) * 128 ^ k := by
  have e : (7 * (k : Int)).toNat = 7 * k := by omega
  have h := seven_bits hk h9
  have e2 : ((c.toNat : Int) % 128) * 2 ^ (7 * k) = ((c.toNat % 128 * 128 ^ k : Nat) : Int) := by
    rw [← pow7]; push_cast; rfl
  rw [e, e2, IntKind.wrap_u64, Int.emod_eq_of_lt (by omega) (by omega)]
  push_cast; rfl
theorem or7 {k n : Nat} {c : UInt8} (hk : k < 10) (h9 : k = 9 → c.toNat ≤ 1) (hn : n < 128 ^ k) : bits .or .u64 (n : Int) (((c.toNat % 128 : Nat) : Int) * 128 ^ k) = ((n + c.toNat % 128 * 128 ^ k : Nat) : Int) :=
  or_disj hn (seven_bits hk h9) (by have := pow128_le (k := k) (by omega); omega)
theorem next_lt {k n : Nat} {c : UInt8} (hn : n < 128 ^ k) : n + c.toNat % 128 * 128 ^ k < 128 ^ (k + 1) := by
  have h3 : c.toNat % 128 ≤ 127 := by omega
  have : c.toNat % 128 * 128 ^ k ≤ 127 * 128 ^ k := Nat.mul_le_mul_right _ h3
  rw [Nat.pow_succ]; omega
/-! the steps of Get -/
theorem get_out {b : List UInt8} {at_ : Int} (h : at_ < 0 ∨ (b.length : Int) < at_) : get b at_ = (0, at_, 1) := by unfold get; rw [if_pos h]
theorem get_none {b : List UInt8} {at_ : Int} (h0 : 0 ≤ at_) (h1 : at_ ≤ (b.length : Int)) (h : getG 10 0 0 (b.drop at_.toNat) = none) : get b at_ = (0, at_, 2) := by
  unfold get; rw [if_neg (by omega), h]
theorem get_some {b : List UInt8} {at_ B : Int} {n k : Nat} (h0 : 0 ≤ at_) (h1 : at_ ≤ (b.length : Int)) (h : getG 10 0 0 (b.drop at_.toNat) = some (n, k)) (hB : at_ + (k : Int) = B) : get b at_ = ((n : Int), B, 0) := by
  unfold get; rw [if_neg (by omega), h, ← hB]
theorem getG_stop {b : List UInt8} {f k n a : Nat} (h : f = 0 ∨ b.length ≤ a) : getG f k n (b.drop a) = none := by
  rcases h with rfl | h
  · cases h : b.drop a <;> rfl
  · rw [List.drop_eq_nil_of_le h]; cases f <;> rfl
section
variable {b : List UInt8} {k n a j : Nat} (hj : j < b.length) (e : a = j) (hk : k < 10)
include hj e hk
theorem getG_step : getG (10 - k) k n (b.drop a) = if k = 9 ∧ 1 < b[j].toNat then none else if 128 ≤ b[j].toNat then getG (10 - (k + 1)) (k + 1) (n + b[j].toNat % 128 * 128 ^ k) (b.drop (a + 1))
    else if 0 < k ∧ b[j].toNat = 0 then none else some (n + b[j].toNat % 128 * 128 ^ k, k + 1) := by
  subst e
  have h1 : 10 - k = (10 - (k + 1)) + 1 := by omega
  rw [h1, List.drop_eq_getElem_cons hj, getG]
theorem getG_nine (h9 : k = 9) (hc : 1 < b[j].toNat) : getG (10 - k) k n (b.drop a) = none := by rw [getG_step hj e hk, if_pos ⟨h9, hc⟩]
theorem getG_more (h9 : k = 9 → b[j].toNat ≤ 1) (hc : 128 ≤ b[j].toNat) : getG (10 - k) k n (b.drop a) = getG (10 - (k + 1)) (k + 1) (n + b[j].toNat % 128 * 128 ^ k) (b.drop (a + 1)) := by
  rw [getG_step hj e hk, if_neg (by omega), if_pos hc]
theorem getG_zero (h9 : k = 9 → b[j].toNat ≤ 1) (h0 : 0 < k) (hc : b[j].toNat = 0) : getG (10 - k) k n (b.drop a) = none := by
  rw [getG_step hj e hk, if_neg (by omega), if_neg (by omega), if_pos ⟨h0, hc⟩]
theorem getG_end (h9 : k = 9 → b[j].toNat ≤ 1) (hc : b[j].toNat < 128) (h0 : 0 < k → b[j].toNat ≠ 0) : getG (10 - k) k n (b.drop a) = some (n + b[j].toNat % 128 * 128 ^ k, k + 1) := by
  rw [getG_step hj e hk, if_neg (by omega), if_neg (by omega), if_neg (by omega)]
end
theorem and127w {a : Int} (h0 : 0 ≤ a) (h1 : a ≤ 255) : bits .and .u64 a 127 = a % 128 := by
  obtain ⟨n, rfl⟩ := Int.eq_ofNat_of_zero_le h0
  have h : ∀ m : Fin 256, bits .and .u64 ((m : Nat) : Int) 127 = ((m : Nat) : Int) % 128 := by decide +kernel
  exact h ⟨n, by omega⟩
theorem and1w {a : Int} (h0 : 0 ≤ a) (h1 : a ≤ 18446744073709551615) : bits .and .u64 a 1 = a % 2 := by
  obtain ⟨n, rfl⟩ := Int.eq_ofNat_of_zero_le h0
  show IntKind.u64.wrap ((BitVec.ofInt 64 (n : Int) &&& BitVec.ofInt 64 ((1 : Nat) : Int)).toNat : Int) = _
  rw [BitVec.toNat_and, ofNat64 (by omega), ofNat64 (by omega), Nat.and_one_is_mod, IntKind.wrap_u64]
  omega
theorem or1w {a : Int} (h0 : 0 ≤ a) (h1 : 2 * a ≤ 18446744073709551615) : bits .or .u64 (a * 2) 1 = a * 2 + 1 := by
  obtain ⟨n, rfl⟩ := Int.eq_ofNat_of_zero_le h0
  have e : (n : Int) * 2 = ((n * 2 : Nat) : Int) := by push_cast; rfl
  rw [e]
  show IntKind.u64.wrap ((BitVec.ofInt 64 ((n * 2 : Nat) : Int) ||| BitVec.ofInt 64 ((1 : Nat) : Int)).toNat : Int) = _
  rw [BitVec.toNat_or, ofNat64 (by omega), ofNat64 (by omega)]
  have hor : n * 2 ||| 1 = n * 2 + 1 := by
    rw [Nat.mul_comm, ← Nat.two_pow_add_eq_or_of_lt (i := 1) (b := 1) (by decide)]
  rw [hor, IntKind.wrap_u64]
  omega
theorem compl64 {a : Int} (h0 : -9223372036854775808 ≤ a) (h1 : a ≤ 9223372036854775807) : bits .xor .i64 (if IntKind.i64.signed then -1 else IntKind.i64.max) a = -a - 1 := by
  show IntKind.i64.wrap ((BitVec.ofInt 64 (-1) ^^^ BitVec.ofInt 64 a).toNat : Int) = _
  have e : BitVec.ofInt 64 (-1) = BitVec.allOnes 64 := by decide
  have key : (BitVec.ofInt 64 a).toNat = (a % 18446744073709551616).toNat := by rw [BitVec.toNat_ofInt]; rfl
  have key2 : (~~~ BitVec.ofInt 64 a).toNat = 18446744073709551615 - (a % 18446744073709551616).toNat := by rw [BitVec.toNat_not, key]
  rw [e, BitVec.allOnes_xor, key2, IntKind.wrap_i64]
  omega
theorem shl1 {a : Int} (h0 : 0 ≤ a) (h1 : 2 * a ≤ 18446744073709551615) : IntKind.u64.wrap (a * 2 ^ (1 : Int).toNat) = a * 2 := by
  have e : a * 2 ^ (1 : Int).toNat = a * 2 := rfl
  rw [e, IntKind.wrap_u64]; omega
/-! Zig, Zag -/
def zig (m : Int) : Int := if m < 0 then -2 * m - 1 else 2 * m
def zag (n : Int) : Int := if n % 2 = 1 then -(n / 2) - 1 else n / 2
end Go.Proofs.Ytpamjfbdgaamoaa
