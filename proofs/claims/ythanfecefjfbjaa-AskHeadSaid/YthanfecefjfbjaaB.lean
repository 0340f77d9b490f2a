/- New rows: literals; and small laws on numbers. -/
import Derived.Test.YthanfecefjfbjaaD
import Derived.Laws.BitsLemmas
import Derived.Laws.Bits64
namespace Go.Proofs.Ythanfecefjfbjaa
open Go.RowKit

theorem foldl_seg (vs : List Value) : ∀ (off j : Nat) (cells : Array Value), off + j + vs.length ≤ cells.size →
    ((vs.zipIdx j).foldl (fun cs (c, i) => cs.setIfInBounds (off + i) c) cells).toList = cells.toList.take (off + j) ++ vs ++ cells.toList.drop (off + j + vs.length) := by
  induction vs with
  | nil => intro off j cells _; simp
  | cons v vs ih =>
    intro off j cells h
    simp only [List.zipIdx_cons, List.foldl_cons, List.length_cons] at h ⊢
    rw [ih off (j + 1) _ (by simp; omega)]
    rw [Array.toList_setIfInBounds]
    have hlt : off + j < cells.toList.length := by simp; omega
    have e : off + (j + 1) = off + j + 1 := by omega
    rw [e, List.take_succ_eq_append_getElem (by simpa using hlt), List.take_set_of_le (Nat.le_refl _), List.getElem_set_self, List.drop_set_of_lt (by omega)]
    simp [List.append_assoc, Nat.add_comm, Nat.add_left_comm]

def partsOf {α : Type} (E : Enc α) : Nat → List (Nat × Value) → List α → Prop
  | _, [], ys => ys = []
  | k, (i, v) :: vs, ys => ∃ y r, ys = y :: r ∧ i = k ∧ v.cells.toList = E.enc y ∧ partsOf E (k + 1) vs r
theorem parts_nil {α : Type} {E : Enc α} {k : Nat} : partsOf E k [] [] := rfl
theorem parts_cons {α : Type} {E : Enc α} {k : Nat} {v : Value} {vs : List (Nat × Value)} {y : α} {ys : List α} (h : v.cells.toList = E.enc y) (hr : partsOf E (k + 1) vs ys) : partsOf E k ((k, v) :: vs) (y :: ys) := ⟨y, ys, rfl, rfl, h, hr⟩
theorem fill_parts {α : Type} {E : Enc α} : ∀ (vs : List (Nat × Value)) (ys : List α) (k : Nat) (cells : Array Value), partsOf E k vs ys → cells.size = (k + ys.length) * E.size →
    ∃ cs, Instr.fill (fun i => some (i * E.size, E.size)) cells vs = some cs ∧ cs.size = cells.size ∧ cs.toList = cells.toList.take (k * E.size) ++ ys.flatMap E.enc
  | [], ys, k, cells, h, hs => by
    cases h
    exact ⟨cells, rfl, rfl, by rw [List.take_of_length_le (by simpa using Nat.le_of_eq hs)]; simp⟩
  | (i, v) :: vs, ys, k, cells, h, hs => by
    obtain ⟨y, r, rfl, rfl, hv, hr⟩ := h
    have hvs : v.cells.size = E.size := by rw [← Array.length_toList, hv, E.len]
    have hroom : i * E.size + E.size ≤ cells.size := by
      rw [hs, ← Nat.succ_mul]; exact Nat.mul_le_mul_right _ (by simp)
    have hseg := foldl_seg v.cells.toList (i * E.size) 0 cells (by simp [hvs]; omega)
    generalize hc1 : (v.cells.toList.zipIdx 0).foldl (fun cs (x : Value × Nat) => cs.setIfInBounds (i * E.size + x.2) x.1) cells = c1 at hseg
    have hsz : c1.size = cells.size := by
      rw [← Array.length_toList, hseg]
      simp [hvs]
      omega
    obtain ⟨cs, h1, h2, h3⟩ := fill_parts vs r (i + 1) c1 hr (by rw [hsz, hs]; congr 1; simp; omega)
    refine ⟨cs, ?_, h2.trans hsz, ?_⟩
    · unfold Instr.fill
      simp only
      rw [if_neg (by simp [hvs]; omega)]
      rw [← h1]
      congr 1
      rw [← hc1, ← Array.foldl_toList, Array.toList_zipIdx]
    · rw [h3, hseg, Nat.succ_mul, List.flatMap_cons, ← hv]
      simp only [Nat.add_zero]
      have hl : (cells.toList.take (i * E.size) ++ v.cells.toList).length = i * E.size + E.size := by simp [hvs]; omega
      rw [List.take_append_of_le_length (by omega), List.take_of_length_le (by omega)]
      simp [List.append_assoc]

section
variable {P : Program} {ρ : Env} {w w0 : World} {L : List Item} {K : Value → World → Prop}
variable {dst : Option Tmp} {ty : TypeId} {pos : String} {aft : Array Edge} {g : Option (Nat × Bool)}
theorem op_buildSlice {α : Type} {E : Enc α} {T e : TypeId} {ps : List (Nat × Operand)} {vs : List (Nat × Value)} {z : Value} {n : Nat} (ys : List α) (hst : St w0 w L) (hT : P.underlying T = some (.slice e)) (hs : ∀ w, (sizeOf e).run P w = .ok E.size w) (hz : ∀ w, (zeroValue e).run P w = .ok z w)
    (hv : evp ρ ps vs) (hp : partsOf E 0 vs ys) (hn : ys.length = n) (hb : n * E.size ≤ 16777216)
    (h : ∀ v w', St w0 w' (rowT e E v ys :: L) → K v w') : opE P ⟨dst, .buildSlice T n ps.toArray, ty, pos, aft, g⟩ ρ w K := by
  have main : ∀ zero : Array Value, ∃ cs, Instr.fill (fun i => some (i * E.size, E.size)) ((Array.range (n * E.size)).map (zero[· % zero.size]!)) vs = some cs ∧ cs.size = n * E.size ∧ cs.toList = ys.flatMap E.enc := fun zero => by
    obtain ⟨cs, h1, h2, h3⟩ := fill_parts vs ys 0 ((Array.range (n * E.size)).map (zero[· % zero.size]!)) hp (by simp [hn])
    exact ⟨cs, h1, by simpa using h2, by simpa using h3⟩
  have fin : ∀ cs : Array Value, cs.size = n * E.size → cs.toList = ys.flatMap E.enc → St w0 (w.alloc (.cells cs e)) (rowT e E (.slice (some ⟨w.heap.size, 0, none⟩) n n) ys :: L) := fun cs h1 h2 => by
    subst hn
    have hp := E.pos
    have hle : ys.length ≤ ys.length * E.size := Nat.le_mul_of_pos_right _ hp
    refine hst.newRow e E ys cs ys.length (by unfold maxLen; omega) (Nat.le_refl _) h1 (by rw [h2, List.take_of_length_le (by rw [E.flat]; exact Nat.le_refl _)]) (E.flat ys)
  have hnb : ¬ n * E.size > 2 ^ 24 := by
    have : (2 : Nat) ^ 24 = 16777216 := by decide
    omega
  by_cases h0 : n * E.size = 0
  · obtain ⟨cs, h1, h2, h3⟩ := main #[]
    refine op_of (v := .slice (some ⟨w.heap.size, 0, none⟩) n n) (w' := w.alloc (.cells cs e)) ?_ (h _ _ (fin cs h2 h3))
    unfold execOp
    simp only
    rw [evp_map hv]
    simp only [Instr.buildSlice, Sem.run_bind, run_underlying hT, Result.andThen_ok, hs, Sem.run_ite, if_neg hnb, Sem.run_pure, if_pos h0, h1]
    simp [newRow]
  · obtain ⟨cs, h1, h2, h3⟩ := main z.cells
    refine op_of (v := .slice (some ⟨w.heap.size, 0, none⟩) n n) (w' := w.alloc (.cells cs e)) ?_ (h _ _ (fin cs h2 h3))
    unfold execOp
    simp only
    rw [evp_map hv]
    simp only [Instr.buildSlice, Sem.run_bind, run_underlying hT, Result.andThen_ok, hs, Sem.run_ite, if_neg hnb, Sem.run_pure, if_neg h0, hz, h1]
    simp [newRow]
end

/-! ### Numbers -/
theorem xi64 {n : Int} (h0 : -9223372036854775808 ≤ n) (h1 : n ≤ 9223372036854775807) : IntKind.i64.wrap n = n := by rw [IntKind.wrap_i64]; omega
theorem xu64 {n : Int} (h0 : 0 ≤ n) (h1 : n ≤ 18446744073709551615) : IntKind.u64.wrap n = n := by rw [IntKind.wrap_u64]; omega
theorem xu32 {n : Int} (h0 : 0 ≤ n) (h1 : n ≤ 4294967295) : IntKind.u32.wrap n = n := by rw [IntKind.wrap_u32]; omega
theorem xu8 {n : Int} (h0 : 0 ≤ n) (h1 : n ≤ 255) : IntKind.u8.wrap n = n := by rw [IntKind.wrap_u8]; omega
def byt (e : Int) : UInt8 := UInt8.ofNat e.toNat
theorem byt_toNat {e : Int} (h0 : 0 ≤ e) (h1 : e ≤ 255) : ((byt e).toNat : Int) = e := by
  unfold byt
  rw [UInt8.toNat_ofNat_of_lt' (by have : UInt8.size = 256 := rfl; omega)]
  omega
theorem byt_of (b : UInt8) : byt (b.toNat : Int) = b := by unfold byt; simp
theorem u8_lt (b : UInt8) : (b.toNat : Int) ≤ 255 := by have := b.toNat_lt; omega
theorem u8_ge (b : UInt8) : (0 : Int) ≤ (b.toNat : Int) := by omega
theorem tmod_nn {a b : Int} (h0 : 0 ≤ a) : a.tmod b = a % b := Int.tmod_eq_emod_of_nonneg h0
theorem tdiv_nn {a b : Int} (h0 : 0 ≤ a) : a.tdiv b = a / b := Int.tdiv_eq_ediv_of_nonneg h0
theorem Pt.of {w : World} {b off : Nat} {cs ds r : List Value} (h : Pt w b off cs) (e : cs = ds ++ r) : Pt w b off ds := by subst e; exact h.pre
section
variable {P : Program} {ρ : Env} {w : World} {K : Value → World → Prop}
variable {dst : Option Tmp} {ty : TypeId} {pos : String} {aft : Array Edge} {g : Option (Nat × Bool)}
theorem op_lenL {T : TypeId} {x : Operand} {s : List UInt8} (hT : P.underlying T = some .string) (hx : evE ρ x = .string (str s)) (h : K (.int .i64 (s.length : Int)) w) :
    opE P ⟨dst, .call ⟨.builtin .len, #[x], #[T]⟩, ty, pos, aft, g⟩ ρ w K := op_len_str hT hx h
theorem op_index_strL {T : TypeId} {x i : Operand} {s : List UInt8} {k : IntKind} {m : Int} (hT : P.underlying T = some .string) (hx : evE ρ x = .string (str s)) (hi : evE ρ i = .int k m) (h0 : 0 ≤ m) (hm : m.toNat < s.length)
    (h : K (.int .u8 ((s[m.toNat]'hm).toNat : Int)) w) : opE P ⟨dst, .index T x i, ty, pos, aft, g⟩ ρ w K := op_index_str hT hx hi h0 hm h
end
section
variable {P : Program} {ρ : Env} {w w0 : World} {L : List Item} {K : Value → World → Prop}
variable {dst : Option Tmp} {ty : TypeId} {pos : String} {aft : Array Edge} {g : Option (Nat × Bool)}
theorem op_indexAddrN {α : Type} {E : Enc α} {T e : TypeId} {x i : Operand} {v : Value} {xs : List α} {k : IntKind} {m : Int} {w1 : World} (n : Nat) (hT : P.underlying T = some (.slice e)) (hs : ∀ w, (sizeOf e).run P w = .ok E.size w)
    (hx : evE ρ x = v) (hsl : Sl w1 E v xs) (hi : evE ρ i = .int k m) (hn : m = (n : Int)) (hm : n < xs.length)
    (h : ∀ b off, Pt w1 b off (E.enc (xs[n]'hm)) → K (.pointer (some ⟨b, off, none⟩)) w) : opE P ⟨dst, .indexAddr T x i, ty, pos, aft, g⟩ ρ w K := by
  subst hn; exact op_indexAddr hT hs hx hsl hi (by omega) (by omega) h
theorem op_indexRowN {α : Type} {E : Enc α} {T e Tr : TypeId} {x i : Operand} {v : Value} {xs : List α} {k : IntKind} {m : Int} (hst : St w0 w L) (j : Nat) (hj : L[j]? = some (rowT Tr E v xs)) (n : Nat) (hT : P.underlying T = some (.slice e)) (hs : ∀ w, (sizeOf e).run P w = .ok E.size w)
    (hx : evE ρ x = v) (hi : evE ρ i = .int k m) (hn : m = (n : Int)) (hm : n < xs.length)
    (h : ∀ b, v.ownBlock = some b → Pt w b (n * E.size) (E.enc (xs[n]'hm)) → K (.pointer (some ⟨b, n * E.size, none⟩)) w) : opE P ⟨dst, .indexAddr T x i, ty, pos, aft, g⟩ ρ w K := by
  subst hn; exact op_indexRow hst j hj hT hs hx hi (by omega) (by omega) h
theorem op_index_strN {T : TypeId} {x i : Operand} {s : List UInt8} {k : IntKind} {m : Int} (n : Nat) (hT : P.underlying T = some .string) (hx : evE ρ x = .string (str s)) (hi : evE ρ i = .int k m) (hn : m = (n : Int)) (hm : n < s.length)
    (h : K (.int .u8 ((s[n]'hm).toNat : Int)) w) : opE P ⟨dst, .index T x i, ty, pos, aft, g⟩ ρ w K := by
  subst hn; exact op_index_strL hT hx hi (by omega) (by omega) h
theorem op_slice_fromN {α : Type} {E : Enc α} {T e : TypeId} {x lo : Operand} {v : Value} {xs : List α} {k : IntKind} {m : Int} {w1 : World} (n : Nat) (hT : P.underlying T = some (.slice e)) (hs : ∀ w, (sizeOf e).run P w = .ok E.size w)
    (hx : evE ρ x = v) (hsl : Sl w1 E v xs) (hi : evE ρ lo = .int k m) (hn : m = (n : Int)) (hm : n ≤ xs.length)
    (h : ∀ v', Sl w1 E v' (xs.drop n) → K v' w) : opE P ⟨dst, .slice T x (some lo) none none, ty, pos, aft, g⟩ ρ w K := by
  subst hn; exact op_slice_from hT hs hx hsl hi (by omega) (by omega) h
theorem op_slice_toN {α : Type} {E : Enc α} {T e : TypeId} {x hi : Operand} {v : Value} {xs : List α} {k : IntKind} {m : Int} {w1 : World} (n : Nat) (hT : P.underlying T = some (.slice e)) (hs : ∀ w, (sizeOf e).run P w = .ok E.size w)
    (hx : evE ρ x = v) (hsl : Sl w1 E v xs) (hh : evE ρ hi = .int k m) (hn : m = (n : Int)) (hm : n ≤ xs.length)
    (h : ∀ v', Sl w1 E v' (xs.take n) → K v' w) : opE P ⟨dst, .slice T x none (some hi) none, ty, pos, aft, g⟩ ρ w K := by
  subst hn; exact op_slice_to hT hs hx hsl hh (by omega) (by omega) h
theorem op_slice_fromF {α : Type} {E : Enc α} {T e : TypeId} {x lo : Operand} {v : Value} {xs : List α} {k : IntKind} {m : Int} {w1 : World} (n : Nat) (hT : P.underlying T = some (.slice e)) (hs : ∀ w, (sizeOf e).run P w = .ok E.size w)
    (hx : evE ρ x = v) (hsl : Sl w1 E v xs) (hi : evE ρ lo = .int k m) (hn : m = (n : Int)) (hm : n ≤ xs.length)
    (h : ∀ v', (∀ w2, Sl w2 E v xs → Sl w2 E v' (xs.drop n)) → K v' w) : opE P ⟨dst, .slice T x (some lo) none none, ty, pos, aft, g⟩ ρ w K := by
  subst hn
  obtain ⟨A, c, rfl, h2, h3, h4⟩ := hsl
  have hle : ((n : Int)) ≤ (xs.length : Int) := by omega
  refine op_of (v := .slice (if c = n then A else A.map (·.add (n * E.size))) (xs.length - n) (c - n)) ?_ (h _ (fun w2 h5 => h5.drop n hm))
  simp [execOp, hx, hi, Instr.sliceAt, Instr.slice, run_underlying hT, Instr.sliceBounds, run_sliceBound w k (n : Int) _ _ (Int.natCast_nonneg n) hle, hs]
theorem op_slice_toF {α : Type} {E : Enc α} {T e : TypeId} {x hi : Operand} {v : Value} {xs : List α} {k : IntKind} {m : Int} {w1 : World} (n : Nat) (hT : P.underlying T = some (.slice e)) (hs : ∀ w, (sizeOf e).run P w = .ok E.size w)
    (hx : evE ρ x = v) (hsl : Sl w1 E v xs) (hh : evE ρ hi = .int k m) (hn : m = (n : Int)) (hm : n ≤ xs.length)
    (h : ∀ v', (∀ w2, Sl w2 E v xs → Sl w2 E v' (xs.take n)) → K v' w) : opE P ⟨dst, .slice T x none (some hi) none, ty, pos, aft, g⟩ ρ w K := by
  subst hn
  obtain ⟨A, c, rfl, h2, h3, h4⟩ := hsl
  have hle : (n : Int) ≤ (c : Int) := by omega
  have hA : (if c = 0 then A else Option.map (fun x => x.add 0) A) = A := by split <;> simp [Addr.add_zero']
  refine op_of (v := .slice A n c) ?_ (h _ (fun w2 h5 => h5.take n c hm (by omega) (Nat.le_refl _)))
  simp [execOp, hx, hh, Instr.sliceAt, Instr.slice, run_underlying hT, Instr.sliceBounds, run_sliceBound w k (n : Int) _ _ (Int.natCast_nonneg n) hle, hs, hA]
theorem op_slice_bothN {α : Type} {E : Enc α} {T e : TypeId} {x lo hi : Operand} {v : Value} {xs : List α} {k k' : IntKind} {m n : Int} {w1 : World} (m' n' : Nat) (hT : P.underlying T = some (.slice e)) (hs : ∀ w, (sizeOf e).run P w = .ok E.size w)
    (hx : evE ρ x = v) (hsl : Sl w1 E v xs) (hl : evE ρ lo = .int k m) (hh : evE ρ hi = .int k' n) (hm : m = (m' : Int)) (hn : n = (n' : Int)) (hmn : m' ≤ n') (hle : n' ≤ xs.length)
    (h : ∀ v', Sl w1 E v' ((xs.take n').drop m') → K v' w) : opE P ⟨dst, .slice T x (some lo) (some hi) none, ty, pos, aft, g⟩ ρ w K := by
  subst hm hn; exact op_slice_both hT hs hx hsl hl hh (by omega) (by omega) (by omega) h
end
theorem u8_of {x : Int} (h : 0 ≤ x ∧ x ≤ 255) : ∃ c : UInt8, x = (c.toNat : Int) := ⟨byt x, (byt_toNat h.1 h.2).symm⟩
theorem rem_nat {a b : Int} (ha : 0 ≤ a) (hb : 0 < b) : ∃ k : Nat, a.tmod b = (k : Int) ∧ (k : Int) < b := by
  refine ⟨(a % b).toNat, ?_, ?_⟩
  · rw [tmod_nn ha, Int.toNat_of_nonneg (Int.emod_nonneg _ (by omega))]
  · rw [Int.toNat_of_nonneg (Int.emod_nonneg _ (by omega))]; exact Int.emod_lt_of_pos _ hb
theorem u8cell {e : Int} : u8E.enc (byt e) = [.int .u8 ((byt e).toNat : Int)] := rfl
theorem byt_cell {e : Int} (h0 : 0 ≤ e) (h1 : e ≤ 255) : (Value.int .u8 e).cells.toList = [.int .u8 ((byt e).toNat : Int)] := by rw [byt_toNat h0 h1]; rfl
theorem quo_x {k : IntKind} {a b : Int} (h0 : 0 ≤ a) (_hb : 0 < b) (hw : k.wrap (a / b) = a / b) : k.wrap (a.tdiv b) = a / b := by rw [tdiv_nn h0]; exact hw
theorem beq_decide {a b : Bool} : (a == b) = decide (a = b) := by cases a <;> cases b <;> rfl
theorem retv1 {a a' : Value} (h : a = a') : Ending.returned a = .returned a' := by rw [h]
theorem retv2 {a a' b b' : Value} (h : a = a') (h2 : b = b') : Ending.returned (.tuple #[a, b]) = .returned (.tuple #[a', b']) := by rw [h, h2]
theorem retv3 {a a' b b' c c' : Value} (h : a = a') (h2 : b = b') (h3 : c = c') : Ending.returned (.tuple #[a, b, c]) = .returned (.tuple #[a', b', c']) := by rw [h, h2, h3]
theorem shr7 {a : Int} : a / 2 ^ (7 : Int).toNat = a / 128 := rfl
theorem shr1 {a : Int} : a / 2 ^ (1 : Int).toNat = a / 2 := rfl
end Go.Proofs.Ythanfecefjfbjaa
