/- Checksums, on lists of bytes. -/
import Derived.Below
namespace Go.Proofs.Ytpamjfbdgaamoaa
def step (n : Int) (c : UInt8) : Int := (n * 257 + (c.toNat : Int) + 1) % 4294967291
def more (s : Int) (l : List UInt8) : Int := l.foldl step (s % 4294967291)
theorem more_range (s : Int) (l : List UInt8) : 0 ≤ more s l ∧ more s l < 4294967291 := by
  unfold more
  have h : ∀ (l : List UInt8) (n : Int), 0 ≤ n ∧ n < 4294967291 → 0 ≤ l.foldl step n ∧ l.foldl step n < 4294967291 := by
    intro l
    induction l with
    | nil => intro n h; exact h
    | cons c l ih => intro n _; exact ih _ (by unfold step; omega)
  exact h l _ (by omega)
theorem more_zero (s : Int) {b : List UInt8} : more s (b.take 0) = s % 4294967291 := rfl
theorem more_succ (s : Int) (b : List UInt8) (k : Nat) (h : k < b.length) : more s (b.take (k + 1)) = (more s (b.take k) * 257 + ((b[k]'h).toNat : Int) + 1) % 4294967291 := by
  unfold more
  rw [List.take_succ_eq_append_getElem h, List.foldl_append]; rfl
theorem more_end (s : Int) (b : List UInt8) (k : Nat) (h : b.length ≤ k) : more s (b.take k) = more s b := by rw [List.take_of_length_le h]
theorem more_append (s : Int) (a b : List UInt8) : more (more s a) b = more s (a ++ b) := by
  have h := more_range s a
  unfold more at h ⊢
  rw [List.foldl_append]
  congr 1
  omega
theorem more_parts (b : List UInt8) (k : Nat) : more (more 1 (b.take k)) (b.drop k) = more 1 b := by rw [more_append, List.take_append_drop]
theorem more_snoc (s : Int) (b : List UInt8) (c : UInt8) : more s (b ++ [c]) = (more s b * 257 + (c.toNat : Int) + 1) % 4294967291 := by
  unfold more; rw [List.foldl_append]; rfl
theorem more_one (b : List UInt8) (c : UInt8) : more (more 1 b) [c] = (more 1 b * 257 + (c.toNat : Int) + 1) % 4294967291 := by rw [more_append, more_snoc]
/-- A step tells two sums apart, and two bytes. -/
theorem step_inj {m n : Int} {c : UInt8} (hm : 0 ≤ m ∧ m < 4294967291) (hn : 0 ≤ n ∧ n < 4294967291) (h : step m c = step n c) : m = n := by
  unfold step at h
  generalize (c.toNat : Int) = x at h
  omega
theorem step_byte {m : Int} {c d : UInt8} (h : step m c = step m d) : c = d := by
  unfold step at h
  have hc := c.toNat_lt
  have hd := d.toNat_lt
  have : c.toNat = d.toNat := by omega
  exact UInt8.toNat_inj.1 this
theorem step_range (n : Int) (c : UInt8) : 0 ≤ step n c ∧ step n c < 4294967291 := by unfold step; omega
theorem fold_inj : ∀ (l : List UInt8) {m n : Int}, 0 ≤ m ∧ m < 4294967291 → 0 ≤ n ∧ n < 4294967291 → l.foldl step m = l.foldl step n → m = n
  | [], _, _, _, _, h => h
  | c :: l, m, n, hm, hn, h => step_inj hm hn (fold_inj l (step_range m c) (step_range n c) h)
theorem set_split (b : List UInt8) (k : Nat) (h : k < b.length) (c : UInt8) : b.set k c = b.take k ++ c :: b.drop (k + 1) := by
  rw [List.set_eq_take_append_cons_drop, if_pos h]
theorem self_split (b : List UInt8) (k : Nat) (h : k < b.length) : b = b.take k ++ b[k] :: b.drop (k + 1) := by
  rw [← List.drop_eq_getElem_cons h, List.take_append_drop]
theorem more_set_iff (s : Int) (b : List UInt8) (k : Nat) (c : UInt8) (h : k < b.length) : more s (b.set k c) = more s b ↔ c = b[k] := by
  constructor
  · intro e
    rw [set_split b k h c] at e
    conv at e => rhs; rw [self_split b k h]
    unfold more at e
    rw [List.foldl_append, List.foldl_append, List.foldl_cons, List.foldl_cons] at e
    exact step_byte (fold_inj _ (step_range _ _) (step_range _ _) e)
  · rintro rfl
    rw [List.set_getElem_self]
theorem toNat_eq (c d : UInt8) : ((c.toNat : Int) = (d.toNat : Int)) ↔ c = d := by
  rw [← UInt8.toNat_inj]; omega
theorem more_tells (b : List UInt8) (k : Nat) (c : UInt8) (h : k < b.length) : (decide (more 1 (b.set k c) = more 1 b) == decide ((c.toNat : Int) = (b[k].toNat : Int))) = true := by
  rw [beq_iff_eq, decide_eq_decide, more_set_iff 1 b k c h, toNat_eq]
theorem step_swap {m : Int} {x y : UInt8} : step (step m y) x = step (step m x) y ↔ x = y := by
  constructor
  · intro h
    have e : ∀ a c : Int, (a % 4294967291 * 257 + c) % 4294967291 = (a * 257 + c) % 4294967291 := fun a c => by
      rw [Int.add_emod, Int.mul_emod, Int.emod_emod_of_dvd _ (Int.dvd_refl _), ← Int.mul_emod, ← Int.add_emod]
    unfold step at h
    have h1 := e (m * 257 + (y.toNat : Int) + 1) ((x.toNat : Int) + 1)
    have h2 := e (m * 257 + (x.toNat : Int) + 1) ((y.toNat : Int) + 1)
    rw [← Int.add_assoc] at h1 h2
    rw [h1, h2] at h
    have hx := x.toNat_lt
    have hy := y.toNat_lt
    have : x.toNat = y.toNat := by
      generalize x.toNat = u at *
      generalize y.toNat = v at *
      clear h1 h2 e
      have h3 := Int.emod_emod_of_dvd ((m * 257 + (v : Int) + 1) * 257 + (u : Int) + 1) (Int.dvd_refl 4294967291)
      have h4 := Int.emod_eq_emod_iff_emod_sub_eq_zero.1 h
      have h5 : (m * 257 + (v : Int) + 1) * 257 + (u : Int) + 1 - ((m * 257 + (u : Int) + 1) * 257 + (v : Int) + 1) = 256 * ((v : Int) - u) := by omega
      have h6 : ((m * 257 + (v : Int) + 1) * 257 + ((u : Int) + 1) - ((m * 257 + (u : Int) + 1) * 257 + ((v : Int) + 1))) = 256 * ((v : Int) - u) := by omega
      first | rw [h5] at h4 | rw [h6] at h4
      omega
    exact UInt8.toNat_inj.1 this
  · rintro rfl; rfl
theorem swap_split (p q : List UInt8) (x y : UInt8) : ((p ++ x :: y :: q).set p.length y).set (p.length + 1) x = p ++ y :: x :: q := by
  simp [List.set_append]
theorem more_swaps (b : List UInt8) (k : Nat) (h : k + 1 < b.length) : (decide (more 1 ((b.set k b[k + 1]).set (k + 1) b[k]) = more 1 b) == decide ((b[k].toNat : Int) = (b[k + 1].toNat : Int))) = true := by
  obtain ⟨p, x, y, q, rfl, rfl⟩ : ∃ p x y q, b = p ++ x :: y :: q ∧ p.length = k :=
    ⟨b.take k, b[k], b[k + 1], b.drop (k + 2), by rw [← List.drop_eq_getElem_cons, ← List.drop_eq_getElem_cons, List.take_append_drop], by rw [List.length_take]; omega⟩
  have e1 : (p ++ x :: y :: q)[p.length]'(by omega) = x := by simp
  have e2 : (p ++ x :: y :: q)[p.length + 1]'h = y := by simp
  rw [beq_iff_eq, decide_eq_decide, toNat_eq]
  simp only [e1, e2]
  rw [swap_split]
  unfold more
  rw [List.foldl_append, List.foldl_append, List.foldl_cons, List.foldl_cons, List.foldl_cons, List.foldl_cons]
  constructor
  · intro e
    exact step_swap.1 (fold_inj _ (step_range _ _) (step_range _ _) e)
  · rintro rfl; rfl
end Go.Proofs.Ytpamjfbdgaamoaa
