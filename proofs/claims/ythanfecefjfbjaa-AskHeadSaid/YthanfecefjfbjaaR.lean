/- One rule for each kind of operation, over any program. -/
import Derived.Test.YthanfecefjfbjaaM
namespace Go.Proofs.Ythanfecefjfbjaa
open Go.RowKit

section
variable {P : Program} {ops : Array Oper} {l : List Oper} {ρ : Env} {w : World} {KR : Env → World → Prop} {K : Value → World → Prop}
variable {dst : Option Tmp} {op : Op} {ty : TypeId} {pos : String} {aft : Array Edge} {g : Option (Nat × Bool)}

/-! ### The operations of a region -/
theorem s_nil (h : KR ρ w) : seqE P ops [] ρ w KR := h
theorem s_cons {d : Tmp} (h : opE P ⟨some d, op, ty, pos, aft, none⟩ ρ w (fun v w' => seqE P ops l (upd ρ d v) w' KR)) : seqE P ops (⟨some d, op, ty, pos, aft, none⟩ :: l) ρ w KR := by
  unfold seqE; exact h
theorem s_cons0 (h : opE P ⟨none, op, ty, pos, aft, none⟩ ρ w (fun _ w' => seqE P ops l ρ w' KR)) : seqE P ops (⟨none, op, ty, pos, aft, none⟩ :: l) ρ w KR := by
  unfold seqE; exact h
theorem guard_yes {j : Nat} {want : Bool} (d : Nat) (hd : dstOf ops j = some d) (hb : ρ d = .bool want) : guardE ops ρ ⟨dst, op, ty, pos, aft, some (j, want)⟩ = true := by
  simp [guardE, hd, hb]
theorem guard_no {j : Nat} {want : Bool} (d : Nat) (hd : dstOf ops j = some d) (hb : ρ d = .bool (!want)) : guardE ops ρ ⟨dst, op, ty, pos, aft, some (j, want)⟩ = false := by
  simp [guardE, hd, hb]
theorem guard_un {j : Nat} {want : Bool} (d : Nat) (hd : dstOf ops j = some d) (hb : ρ d = undef) : guardE ops ρ ⟨dst, op, ty, pos, aft, some (j, want)⟩ = false := by
  simp [guardE, hd, hb, undef]
theorem s_yes {d : Tmp} {j : Nat} {want : Bool} (e : Nat) (hd : dstOf ops j = some e) (hb : ρ e = .bool want)
    (h : opE P ⟨some d, op, ty, pos, aft, some (j, want)⟩ ρ w (fun v w' => seqE P ops l (upd ρ d v) w' KR)) : seqE P ops (⟨some d, op, ty, pos, aft, some (j, want)⟩ :: l) ρ w KR := by
  unfold seqE; rw [if_pos (guard_yes e hd hb)]; exact h
theorem s_no {d : Tmp} {j : Nat} {want : Bool} (e : Nat) (hd : dstOf ops j = some e) (hb : ρ e = .bool (!want))
    (h : seqE P ops l (upd ρ d undef) w KR) : seqE P ops (⟨some d, op, ty, pos, aft, some (j, want)⟩ :: l) ρ w KR := by
  unfold seqE; rw [if_neg (by rw [guard_no e hd hb]; simp)]; exact h
theorem s_un {d : Tmp} {j : Nat} {want : Bool} (e : Nat) (hd : dstOf ops j = some e) (hb : ρ e = undef)
    (h : seqE P ops l (upd ρ d undef) w KR) : seqE P ops (⟨some d, op, ty, pos, aft, some (j, want)⟩ :: l) ρ w KR := by
  unfold seqE; rw [if_neg (by rw [guard_un e hd hb]; simp)]; exact h

/-! ### Lists of operands -/
def evs (ρ : Env) : List Operand → List Value → Prop
  | [], vs => vs = []
  | x :: xs, vs => ∃ v r, vs = v :: r ∧ evE ρ x = v ∧ evs ρ xs r
theorem evs_nil : evs ρ [] [] := rfl
theorem evs_cons {x : Operand} {xs : List Operand} {v : Value} {vs : List Value} (h : evE ρ x = v) (hs : evs ρ xs vs) : evs ρ (x :: xs) (v :: vs) := ⟨v, vs, rfl, h, hs⟩
theorem evs_map : ∀ {xs : List Operand} {vs : List Value}, evs ρ xs vs → xs.toArray.map (evE ρ) = vs.toArray
  | [], vs, h => by cases h; simp
  | x :: xs, vs, h => by
    obtain ⟨v, r, rfl, h1, h2⟩ := h
    have := evs_map h2
    simp only [List.map_toArray, List.map_cons] at this ⊢
    rw [h1]
    congr 2
    simpa using this
def evp (ρ : Env) : List (Nat × Operand) → List (Nat × Value) → Prop
  | [], vs => vs = []
  | (i, x) :: xs, vs => ∃ v r, vs = (i, v) :: r ∧ evE ρ x = v ∧ evp ρ xs r
theorem evp_nil : evp ρ [] [] := rfl
theorem evp_cons {i : Nat} {x : Operand} {xs : List (Nat × Operand)} {v : Value} {vs : List (Nat × Value)} (h : evE ρ x = v) (hs : evp ρ xs vs) : evp ρ ((i, x) :: xs) ((i, v) :: vs) := ⟨v, vs, rfl, h, hs⟩
theorem evp_map : ∀ {xs : List (Nat × Operand)} {vs : List (Nat × Value)}, evp ρ xs vs → (xs.toArray.map fun (i, x) => (i, evE ρ x)) = vs.toArray
  | [], vs, h => by cases h; simp
  | (i, x) :: xs, vs, h => by
    obtain ⟨v, r, rfl, h1, h2⟩ := h
    have := evp_map h2
    simp only [List.map_toArray, List.map_cons] at this ⊢
    rw [h1]
    congr 2
    simpa using this

/-! ### One operation -/
theorem op_of {v : Value} {w' : World} (hr : (execOp (evE ρ) ⟨dst, op, ty, pos, aft, g⟩).run P w = .ok (.value v) w') (h : K v w') : opE P ⟨dst, op, ty, pos, aft, g⟩ ρ w K := by
  unfold opE; rw [hr]; exact h
theorem op_skip_of {w' : World} (hr : (execOp (evE ρ) ⟨dst, op, ty, pos, aft, g⟩).run P w = .ok .skip w') (h : K undef w') : opE P ⟨dst, op, ty, pos, aft, g⟩ ρ w K := by
  unfold opE; rw [hr]; exact h
theorem op_move {x : Operand} (v : Value) (hx : evE ρ x = v) (h : K v w) : opE P ⟨dst, .move x, ty, pos, aft, g⟩ ρ w K := op_of (by simp [execOp, hx]) h
theorem op_assign {x : Operand} (v : Value) (hx : evE ρ x = v) (h : K v w) : opE P ⟨dst, .assign x, ty, pos, aft, g⟩ ρ w K := op_of (by simp [execOp, hx]) h
theorem op_pick_t {c x y : Operand} (v : Value) (hc : evE ρ c = .bool true) (hx : evE ρ x = v) (h : K v w) : opE P ⟨dst, .pick c x y, ty, pos, aft, g⟩ ρ w K := op_of (by simp [execOp, hc, hx, asBool]) h
theorem op_pick_f {c x y : Operand} (v : Value) (hc : evE ρ c = .bool false) (hx : evE ρ y = v) (h : K v w) : opE P ⟨dst, .pick c x y, ty, pos, aft, g⟩ ρ w K := op_of (by simp [execOp, hc, hx, asBool]) h

/-! integers -/
section
variable {T T' : TypeId} {x y : Operand} {k : IntKind} {a b : Int}
theorem op_int {o : BinOp} {r : Value} (hx : evE ρ x = .int k a) (hy : evE ρ y = .int k b) (hr : (binOp o T (.int k a) (.int k b)).run P w = .ok r w) (h : K r w) : opE P ⟨dst, .binOp o T x y T', ty, pos, aft, g⟩ ρ w K :=
  op_of (by simp [execOp, hx, hy, eqGuard_at_int, hr]) h
theorem op_add (c : Int) (hx : evE ρ x = .int k a) (hy : evE ρ y = .int k b) (hc : k.wrap (a + b) = c) (h : K (.int k c) w) : opE P ⟨dst, .binOp .add T x y T', ty, pos, aft, g⟩ ρ w K :=
  op_int hx hy (by simp [binOp_add, Op.intArith, hc]) h
theorem op_sub (c : Int) (hx : evE ρ x = .int k a) (hy : evE ρ y = .int k b) (hc : k.wrap (a - b) = c) (h : K (.int k c) w) : opE P ⟨dst, .binOp .sub T x y T', ty, pos, aft, g⟩ ρ w K :=
  op_int hx hy (by simp [binOp_sub, Op.intArith, hc]) h
theorem op_mul (c : Int) (hx : evE ρ x = .int k a) (hy : evE ρ y = .int k b) (hc : k.wrap (a * b) = c) (h : K (.int k c) w) : opE P ⟨dst, .binOp .mul T x y T', ty, pos, aft, g⟩ ρ w K :=
  op_int hx hy (by simp [binOp_mul, Op.intArith, hc]) h
theorem op_quo (c : Int) (hx : evE ρ x = .int k a) (hy : evE ρ y = .int k b) (h0 : b ≠ 0) (hc : k.wrap (a.tdiv b) = c) (h : K (.int k c) w) : opE P ⟨dst, .binOp .quo T x y T', ty, pos, aft, g⟩ ρ w K :=
  op_int hx hy (by simp [binOp_quo, Op.intDiv, h0, hc]) h
theorem op_rem (c : Int) (hx : evE ρ x = .int k a) (hy : evE ρ y = .int k b) (h0 : b ≠ 0) (hc : a.tmod b = c) (h : K (.int k c) w) : opE P ⟨dst, .binOp .rem T x y T', ty, pos, aft, g⟩ ρ w K :=
  op_int hx hy (by simp [binOp_rem, Op.intDiv, h0, hc]) h
theorem op_and (c : Int) (hx : evE ρ x = .int k a) (hy : evE ρ y = .int k b) (hc : bits .and k a b = c) (h : K (.int k c) w) : opE P ⟨dst, .binOp .and T x y T', ty, pos, aft, g⟩ ρ w K :=
  op_int hx hy (by simp [binOp_and, intBits_and, hc]) h
theorem op_or (c : Int) (hx : evE ρ x = .int k a) (hy : evE ρ y = .int k b) (hc : bits .or k a b = c) (h : K (.int k c) w) : opE P ⟨dst, .binOp .or T x y T', ty, pos, aft, g⟩ ρ w K :=
  op_int hx hy (by simp [binOp_or, intBits_or, hc]) h
theorem op_xor (c : Int) (hx : evE ρ x = .int k a) (hy : evE ρ y = .int k b) (hc : bits .xor k a b = c) (h : K (.int k c) w) : opE P ⟨dst, .binOp .xor T x y T', ty, pos, aft, g⟩ ρ w K :=
  op_int hx hy (by simp [binOp_xor, intBits_xor, hc]) h
theorem op_shl {k' : IntKind} (c : Int) (hx : evE ρ x = .int k a) (hy : evE ρ y = .int k' b) (h0 : 0 ≤ b) (h1 : b ≤ k.bits) (hc : k.wrap (a * 2 ^ b.toNat) = c) (h : K (.int k c) w) : opE P ⟨dst, .binOp .shl T x y T', ty, pos, aft, g⟩ ρ w K :=
  op_of (by simp [execOp, hx, hy, eqGuard_shl, binOp_shl, shift_shl k k' a b h0 h1, hc]) h
theorem op_shr {k' : IntKind} (c : Int) (hx : evE ρ x = .int k a) (hy : evE ρ y = .int k' b) (h0 : 0 ≤ b) (h1 : b ≤ k.bits) (hc : a / 2 ^ b.toNat = c) (h : K (.int k c) w) : opE P ⟨dst, .binOp .shr T x y T', ty, pos, aft, g⟩ ρ w K :=
  op_of (by simp [execOp, hx, hy, eqGuard_shr, binOp_shr, shift_shr k k' a b h0 h1, hc]) h
theorem op_eql (hx : evE ρ x = .int k a) (hy : evE ρ y = .int k b) (h : K (.bool (decide (a = b))) w) : opE P ⟨dst, .binOp .eql T x y T', ty, pos, aft, g⟩ ρ w K := op_int hx hy (by rw [binOp_eql]; rfl) h
theorem op_neq (hx : evE ρ x = .int k a) (hy : evE ρ y = .int k b) (h : K (.bool (!decide (a = b))) w) : opE P ⟨dst, .binOp .neq T x y T', ty, pos, aft, g⟩ ρ w K := op_int hx hy (by rw [binOp_neq]; rfl) h
theorem op_lss (hx : evE ρ x = .int k a) (hy : evE ρ y = .int k b) (h : K (.bool (decide (a < b))) w) : opE P ⟨dst, .binOp .lss T x y T', ty, pos, aft, g⟩ ρ w K := op_int hx hy (by rw [binOp_lss]; rfl) h
theorem op_leq (hx : evE ρ x = .int k a) (hy : evE ρ y = .int k b) (h : K (.bool (decide (a ≤ b))) w) : opE P ⟨dst, .binOp .leq T x y T', ty, pos, aft, g⟩ ρ w K := op_int hx hy (by rw [binOp_leq]; rfl) h
theorem op_gtr (hx : evE ρ x = .int k a) (hy : evE ρ y = .int k b) (h : K (.bool (decide (b < a))) w) : opE P ⟨dst, .binOp .gtr T x y T', ty, pos, aft, g⟩ ρ w K := op_int hx hy (by rw [binOp_gtr]; rfl) h
theorem op_geq (hx : evE ρ x = .int k a) (hy : evE ρ y = .int k b) (h : K (.bool (decide (b ≤ a))) w) : opE P ⟨dst, .binOp .geq T x y T', ty, pos, aft, g⟩ ρ w K := op_int hx hy (by rw [binOp_geq]; rfl) h
theorem op_neg (c : Int) (hx : evE ρ x = .int k a) (hc : k.wrap (-a) = c) (h : K (.int k c) w) : opE P ⟨dst, .unOp .neg T x, ty, pos, aft, g⟩ ρ w K :=
  op_of (by simp [execOp, hx, Op.unary, Op.intArith, hc]) h
theorem op_compl (c : Int) (hx : evE ρ x = .int k a) (hc : bits .xor k (if k.signed then -1 else k.max) a = c) (h : K (.int k c) w) : opE P ⟨dst, .unOp .xor T x, ty, pos, aft, g⟩ ρ w K :=
  op_of (by simp [execOp, hx, Op.unary, intBits_xor, hc]) h
theorem op_conv {k' : IntKind} (c : Int) (hd : P.underlying T' = some (.int k')) (hs : (P.underlying T).isSome = true) (hx : evE ρ x = .int k a) (hc : k'.wrap a = c) (h : K (.int k' c) w) : opE P ⟨dst, .convert T T' x, ty, pos, aft, g⟩ ρ w K := by
  have hk : P.intKind T' = k' := by simp [Program.intKind, hd]
  exact op_of (by simp [execOp, hx, run_convert_int w T T' k a hs (by rw [hk]; exact hd), hk, hc]) h
end
/-! booleans -/
theorem op_not {T : TypeId} {x : Operand} {b : Bool} (hx : evE ρ x = .bool b) (h : K (.bool (!b)) w) : opE P ⟨dst, .unOp .not T x, ty, pos, aft, g⟩ ρ w K := op_of (by simp [execOp, hx, Op.unary]) h
theorem op_eqlb {T T' : TypeId} {x y : Operand} {a b : Bool} (hT : P.underlying T = some .bool) (hx : evE ρ x = .bool a) (hy : evE ρ y = .bool b) (h : K (.bool (a == b)) w) : opE P ⟨dst, .binOp .eql T x y T', ty, pos, aft, g⟩ ρ w K :=
  op_of (by simp [execOp, hx, hy, eqGuard_at_bool, run_eql_bool w T a b hT]) h

/-! parts -/
theorem op_extract {x : Operand} {i : Nat} {vs : Array Value} (v : Value) (hx : evE ρ x = .tuple vs) (hi : vs[i]? = some v) (h : K v w) : opE P ⟨dst, .extract x i, ty, pos, aft, g⟩ ρ w K :=
  op_of (by simp [execOp, hx, Instr.extract, hi]) h
theorem op_field1 {T : TypeId} {x : Operand} {i : Nat} {fs : Array Field} {f : Field} {cs : Array Value} {o : Nat} (v : Value) (hT : P.underlying T = some (.struct fs)) (hf : fs[i]? = some f) (ho : f.offset = o)
    (hA : ∀ w, (isAgg f.type).run P w = .ok false w) (hx : evE ρ x = .agg cs) (hv : cs[o]? = some v) (h : K v w) : opE P ⟨dst, .field T x i, ty, pos, aft, g⟩ ρ w K :=
  op_of (by subst ho; simp [execOp, hx, Instr.field, run_underlying hT, hf, part, hA, hv, asAgg]) h
theorem op_fieldN {T : TypeId} {x : Operand} {i : Nat} {fs : Array Field} {f : Field} {cs : Array Value} {o s : Nat} (r : Array Value) (hT : P.underlying T = some (.struct fs)) (hf : fs[i]? = some f) (ho : f.offset = o)
    (hA : ∀ w, (isAgg f.type).run P w = .ok true w) (hs : ∀ w, (sizeOf f.type).run P w = .ok s w) (hx : evE ρ x = .agg cs) (hv : cs.extract o (o + s) = r) (h : K (.agg r) w) : opE P ⟨dst, .field T x i, ty, pos, aft, g⟩ ρ w K :=
  op_of (by subst ho; simp [execOp, hx, Instr.field, run_underlying hT, hf, part, hA, hs, hv, asAgg]) h
theorem op_build {T : TypeId} {ps : List (Nat × Operand)} {vs : List (Nat × Value)} {r : Value} (hv : evp ρ ps vs) (hr : (Instr.build T vs.toArray).run P w = .ok r w) (h : K r w) : opE P ⟨dst, .build T ps.toArray, ty, pos, aft, g⟩ ρ w K :=
  op_of (by unfold execOp; simp only; rw [evp_map hv]; simp [hr]) h

/-! memory that is read -/
theorem op_load1 {T : TypeId} {x : Operand} {b off : Nat} {u : Value} {cs : List Value} (hA : ∀ w, (isAgg T).run P w = .ok false w) (hx : evE ρ x = .pointer (some ⟨b, off, none⟩)) (hp : Pt w b off (u :: cs)) (h : K u w) : opE P ⟨dst, .load T x, ty, pos, aft, g⟩ ρ w K := by
  have hc : w.cell? ⟨b, off, none⟩ = some u := hp 0 u rfl
  exact op_of (by simp [execOp, hx, Instr.loadAt, Instr.sureAddr, loadVar, hA, hc]) h
theorem op_loadN {T : TypeId} {x : Operand} {b off : Nat} {cs : List Value} {s : Nat} (hA : ∀ w, (isAgg T).run P w = .ok true w) (hs : ∀ w, (sizeOf T).run P w = .ok s w) (hx : evE ρ x = .pointer (some ⟨b, off, none⟩)) (hp : Pt w b off cs) (hl : cs.length = s)
    (h : K (.agg cs.toArray) w) : opE P ⟨dst, .load T x, ty, pos, aft, g⟩ ρ w K := by
  have hc : (loadCells ⟨b, off, none⟩ cs.length).run P w = .ok cs.toArray w := run_loadCells_list (P := P) w ⟨b, off, none⟩ cs (fun j v hv => by rw [Addr.add_lit]; exact hp j v hv)
  subst hl
  exact op_of (by simp [execOp, hx, Instr.loadAt, Instr.sureAddr, loadVar, hA, hs, hc]) h
theorem op_fieldAddr {T : TypeId} {x : Operand} {i : Nat} {fs : Array Field} {f : Field} {b off o s : Nat} (hT : P.underlying T = some (.struct fs)) (hf : fs[i]? = some f) (ho : f.offset = o) (hs : ∀ w, (sizeOf f.type).run P w = .ok (s + 1) w)
    (hx : evE ρ x = .pointer (some ⟨b, off, none⟩)) (h : K (.pointer (some ⟨b, off + o, none⟩)) w) : opE P ⟨dst, .fieldAddr T x i, ty, pos, aft, g⟩ ρ w K :=
  op_of (by subst ho; simp [execOp, hx, Instr.fieldAt, Instr.sureAddr, run_underlying hT, hf, fieldPlace, hs, Addr.add_lit]) h
theorem op_indexAddr {α : Type} {E : Enc α} {T e : TypeId} {x i : Operand} {v : Value} {xs : List α} {k : IntKind} {m : Int} {w1 : World} (hT : P.underlying T = some (.slice e)) (hs : ∀ w, (sizeOf e).run P w = .ok E.size w)
    (hx : evE ρ x = v) (hsl : Sl w1 E v xs) (hi : evE ρ i = .int k m) (h0 : 0 ≤ m) (hm : m.toNat < xs.length)
    (h : ∀ b off, Pt w1 b off (E.enc (xs[m.toNat]'hm)) → K (.pointer (some ⟨b, off, none⟩)) w) : opE P ⟨dst, .indexAddr T x i, ty, pos, aft, g⟩ ρ w K := by
  obtain ⟨A, c, rfl, h2, h3, h4⟩ := hsl
  obtain ⟨b, off, rfl, hp⟩ := h4 (by rintro rfl; simp at hm)
  have hlt : m < (xs.length : Int) := by omega
  exact op_of (by simp [execOp, hx, hi, Instr.indexAt, asIntOf, run_underlying hT, h0, hlt, hs, Addr.add_lit]) (h _ _ (hp m.toNat _ (List.getElem?_eq_getElem hm)))
theorem op_index_str {T : TypeId} {x i : Operand} {s : ByteArray} {k : IntKind} {m : Int} (hT : P.underlying T = some .string) (hx : evE ρ x = .string s) (hi : evE ρ i = .int k m) (h0 : 0 ≤ m) (hm : m.toNat < s.size)
    (h : K (.int .u8 ((s[m.toNat]'hm).toNat : Int)) w) : opE P ⟨dst, .index T x i, ty, pos, aft, g⟩ ρ w K := by
  have hg : s[m.toNat]? = some (s[m.toNat]'hm) := getElem?_pos s m.toNat hm
  exact op_of (by simp [execOp, hx, hi, Instr.index, asIntOf, run_underlying hT, h0, hg]) h

/-! lengths, slices of slices -/
theorem op_len {α : Type} {E : Enc α} {T e : TypeId} {x : Operand} {v : Value} {xs : List α} {w1 : World} (hT : P.underlying T = some (.slice e)) (hx : evE ρ x = v) (hsl : Sl w1 E v xs) (h : K (.int .i64 (xs.length : Int)) w) :
    opE P ⟨dst, .call ⟨.builtin .len, #[x], #[T]⟩, ty, pos, aft, g⟩ ρ w K := by
  obtain ⟨A, c, rfl, _⟩ := hsl
  exact op_of (by simp [execOp, resolve, invoke, builtin, hx, Builtin.len_, run_underlying hT, goInt]) h
theorem op_len_str {T : TypeId} {x : Operand} {s : ByteArray} (hT : P.underlying T = some .string) (hx : evE ρ x = .string s) (h : K (.int .i64 (s.size : Int)) w) :
    opE P ⟨dst, .call ⟨.builtin .len, #[x], #[T]⟩, ty, pos, aft, g⟩ ρ w K :=
  op_of (by simp [execOp, resolve, invoke, builtin, hx, Builtin.len_, run_underlying hT, goInt]) h
theorem op_slice_from {α : Type} {E : Enc α} {T e : TypeId} {x lo : Operand} {v : Value} {xs : List α} {k : IntKind} {m : Int} {w1 : World} (hT : P.underlying T = some (.slice e)) (hs : ∀ w, (sizeOf e).run P w = .ok E.size w)
    (hx : evE ρ x = v) (hsl : Sl w1 E v xs) (hi : evE ρ lo = .int k m) (h0 : 0 ≤ m) (hm : m.toNat ≤ xs.length)
    (h : ∀ v', Sl w1 E v' (xs.drop m.toNat) → K v' w) : opE P ⟨dst, .slice T x (some lo) none none, ty, pos, aft, g⟩ ρ w K := by
  have hsl' := hsl
  obtain ⟨A, c, rfl, h2, h3, h4⟩ := hsl
  have hle : m ≤ (xs.length : Int) := by omega
  refine op_of (v := .slice (if c = m.toNat then A else A.map (·.add (m.toNat * E.size))) (xs.length - m.toNat) (c - m.toNat)) ?_ (h _ (hsl'.drop m.toNat hm))
  simp [execOp, hx, hi, Instr.sliceAt, Instr.slice, run_underlying hT, Instr.sliceBounds, run_sliceBound w k m _ _ h0 hle, hs]
theorem op_slice_to {α : Type} {E : Enc α} {T e : TypeId} {x hi : Operand} {v : Value} {xs : List α} {k : IntKind} {m : Int} {w1 : World} (hT : P.underlying T = some (.slice e)) (hs : ∀ w, (sizeOf e).run P w = .ok E.size w)
    (hx : evE ρ x = v) (hsl : Sl w1 E v xs) (hh : evE ρ hi = .int k m) (h0 : 0 ≤ m) (hm : m.toNat ≤ xs.length)
    (h : ∀ v', Sl w1 E v' (xs.take m.toNat) → K v' w) : opE P ⟨dst, .slice T x none (some hi) none, ty, pos, aft, g⟩ ρ w K := by
  have hsl' := hsl
  obtain ⟨A, c, rfl, h2, h3, h4⟩ := hsl
  have hle : m ≤ (c : Int) := by omega
  have hA : (if c = 0 then A else Option.map (fun x => x.add 0) A) = A := by split <;> simp [Addr.add_zero']
  refine op_of (v := .slice A m.toNat c) ?_ (h _ (hsl'.take m.toNat c hm (by omega) (Nat.le_refl _)))
  simp [execOp, hx, hh, Instr.sliceAt, Instr.slice, run_underlying hT, Instr.sliceBounds, run_sliceBound w k m _ _ h0 hle, hs, hA]
theorem op_slice_both {α : Type} {E : Enc α} {T e : TypeId} {x lo hi : Operand} {v : Value} {xs : List α} {k k' : IntKind} {m n : Int} {w1 : World} (hT : P.underlying T = some (.slice e)) (hs : ∀ w, (sizeOf e).run P w = .ok E.size w)
    (hx : evE ρ x = v) (hsl : Sl w1 E v xs) (hl : evE ρ lo = .int k m) (hh : evE ρ hi = .int k' n) (h0 : 0 ≤ m) (hmn : m ≤ n) (hn : n.toNat ≤ xs.length)
    (h : ∀ v', Sl w1 E v' ((xs.take n.toNat).drop m.toNat) → K v' w) : opE P ⟨dst, .slice T x (some lo) (some hi) none, ty, pos, aft, g⟩ ρ w K := by
  have hsl' := hsl
  obtain ⟨A, c, rfl, h2, h3, h4⟩ := hsl
  have hle : n ≤ (c : Int) := by omega
  have en : (n.toNat : Int) = n := Int.toNat_of_nonneg (by omega)
  have ht := hsl'.take n.toNat c hn (by omega) (Nat.le_refl _)
  have hlen : (xs.take n.toNat).length = n.toNat := by rw [List.length_take, Nat.min_eq_left hn]
  have ht2 := Sl.drop (xs := xs.take n.toNat) (A := A) (c := c) (by rw [hlen]; exact ht) m.toNat (by omega)
  rw [hlen] at ht2
  refine op_of (v := .slice (if c = m.toNat then A else A.map (·.add (m.toNat * E.size))) (n.toNat - m.toNat) (c - m.toNat)) ?_ (h _ ht2)
  simp [execOp, hx, hl, hh, Instr.sliceAt, Instr.slice, run_underlying hT, Instr.sliceBounds, run_sliceBound w k' n _ _ (by omega) hle, run_sliceBound w k m _ _ h0 (by omega : m ≤ (n.toNat : Int)), hs]

/-! calls -/
theorem op_call {f : FuncId} {xs : List Operand} {vs : List Value} {ts : Array TypeId} {R : Ending → World → Prop} (hc : ∀ a w, (callFunc f a).run P w = .ok (.enter f a) w) (hv : evs ρ xs vs)
    (hf : Calls P f vs.toArray w R) (h : ∀ e w', R e w' → ∃ v, e = .returned v ∧ K v w') : opE P ⟨dst, .call ⟨.value (.func f), xs.toArray, ts⟩, ty, pos, aft, g⟩ ρ w K := by
  have he : (execOp (evE ρ) ⟨dst, .call ⟨.value (.func f), xs.toArray, ts⟩, ty, pos, aft, g⟩).run P w = .ok (.enter f vs.toArray) w := by
    unfold execOp resolve
    simp only
    rw [evs_map hv]
    simp [evE, Deferred.ofValue, invoke, hc]
  unfold opE
  rw [he]
  refine hf.mono fun e w' hr => ?_
  obtain ⟨v, rfl, hk⟩ := h e w' hr
  exact hk
end
end Go.Proofs.Ythanfecefjfbjaa
