/- Calls that turn what their caller has; more rules: closures, texts cut, new slices. -/
import Derived.Test.YthanfecefjfbjaaK
import Derived.Test.YthanfecefjfbjaaC
import Derived.Lib.ConvBytes
import Derived.Laws.MakeOwn
namespace Go.Proofs.Ythanfecefjfbjaa
open Go.RowKit

section
variable {w0 w w' : World} {L L' : List Item}
theorem St.perm (h : St w0 w L) (hp : L.Perm L') : St w0 w L' :=
  ⟨h.below, fun i hi => h.all i (hp.mem_iff.2 hi), hp.pairwise h.apart (fun h k hk e => h k e hk)⟩
theorem List.getElem_cons_eraseIdx_perm' {α : Type} : ∀ {l : List α} {i : Nat} (h : i < l.length), (l[i] :: l.eraseIdx i).Perm l
  | [], i, h => by simp at h
  | x :: l, 0, h => by simp
  | x :: l, i + 1, h => by
    simp only [List.getElem_cons_succ, List.eraseIdx_cons_succ]
    exact (List.Perm.swap _ _ _).trans ((List.getElem_cons_eraseIdx_perm' (by simpa using h)).cons x)
theorem St.front (h : St w0 w L) (i : Nat) {it : Item} (hi : L[i]? = some it) : St w0 w (it :: L.eraseIdx i) := by
  obtain ⟨hlt, e⟩ := List.getElem?_eq_some_iff.1 hi
  subst e
  exact h.perm (List.getElem_cons_eraseIdx_perm' hlt).symm
theorem St.nilTxt {α : Type} (h : St w0 w L) (T : Nat) (E : Enc α) : St w0 w (txtT T E (.slice none 0 0) [] :: L) := by
  refine ⟨h.below, fun i hi => ?_, List.pairwise_cons.2 ⟨fun j _ k hk => (by cases hk), h.apart⟩⟩
  rcases List.mem_cons.1 hi with rfl | hi
  · exact .inl ⟨rfl, rfl, rfl⟩
  · exact h.all i hi
end

section
variable {P : Program} {ρ : Env} {w w0 : World} {L : List Item} {K : Value → World → Prop}
variable {dst : Option Tmp} {ty : TypeId} {pos : String} {aft : Array Edge} {g : Option (Nat × Bool)}
theorem op_makeFunc {fn : Fn} {xs : List Operand} {vs : List Value} (hv : evs ρ xs vs) (h : K (.func fn #[] vs.toArray) w) : opE P ⟨dst, .makeFunc fn #[] xs.toArray, ty, pos, aft, g⟩ ρ w K :=
  op_of (by unfold execOp; simp only; rw [evs_map hv]; simp [Instr.makeFunc]) h
theorem op_callv {f : FuncId} {fo : Operand} {xs : List Operand} {vs cs : List Value} {ts : Array TypeId} {R : Ending → World → Prop} (hc : ∀ a w, (callFunc f a).run P w = .ok (.enter f a) w) (hfv : evE ρ fo = .func (.func f) #[] cs.toArray) (hv : evs ρ xs vs)
    (hf : Calls P f (vs ++ cs).toArray w R) (h : ∀ e w', R e w' → ∃ v, e = .returned v ∧ K v w') : opE P ⟨dst, .call ⟨.value fo, xs.toArray, ts⟩, ty, pos, aft, g⟩ ρ w K := by
  have he : (execOp (evE ρ) ⟨dst, .call ⟨.value fo, xs.toArray, ts⟩, ty, pos, aft, g⟩).run P w = .ok (.enter f (vs ++ cs).toArray) w := by
    unfold execOp resolve
    simp only
    rw [evs_map hv]
    simp [hfv, Deferred.ofValue, invoke, hc]
  unfold opE
  rw [he]
  refine hf.mono fun e w' hr => ?_
  obtain ⟨v, rfl, hk⟩ := h e w' hr
  exact hk
theorem str_extract (l : List UInt8) (a b : Nat) : (str l).extract a b = str ((l.take b).drop a) := by
  apply ByteArray.ext
  rw [ByteArray.data_extract]
  apply Array.toList_inj.1
  simp [str, List.extract, List.drop_take]
theorem op_sliceStr {T : TypeId} {x lo hi : Operand} {s : List UInt8} {k k' : IntKind} {a b : Int} (m n : Nat) (hT : P.underlying T = some .string) (hx : evE ρ x = .string (str s)) (hl : evE ρ lo = .int k a) (hh : evE ρ hi = .int k' b)
    (hm : a = (m : Int)) (hn : b = (n : Int)) (hmn : m ≤ n) (hle : n ≤ s.length) (h : K (.string (str ((s.take n).drop m))) w) : opE P ⟨dst, .slice T x (some lo) (some hi) none, ty, pos, aft, g⟩ ρ w K := by
  subst hm hn
  refine op_of ?_ h
  simp [execOp, hx, hl, hh, Instr.sliceAt, Instr.slice, run_underlying hT, Instr.sliceBounds, run_sliceBound w k' (n : Int) _ _ (by omega) (by rw [size_str]; omega : (n : Int) ≤ ((str s).size : Int)), run_sliceBound w k (m : Int) n _ (by omega) (by omega : (m : Int) ≤ (n : Int)), str_extract]
theorem u8_flat : ∀ s : List UInt8, List.map (fun b : UInt8 => Value.int .u8 (b.toNat : Int)) s = s.flatMap (fun b => [Value.int .u8 (b.toNat : Int)])
  | [] => rfl
  | a :: s => by rw [List.map_cons, List.flatMap_cons, u8_flat s]; rfl
theorem op_bytesOf {T T' e : TypeId} {x : Operand} {s : List UInt8} (hst : St w0 w L) (hs : P.underlying T = some .string) (hd : P.underlying T' = some (.slice e)) (he : P.underlying e = some (.int .u8)) (hx : evE ρ x = .string (str s)) (hl : s.length ≤ 9223372036854775807)
    (h : ∀ v w', St w0 w' (txtT e u8E v s :: L) → K v w') : opE P ⟨dst, .convert T T' x, ty, pos, aft, g⟩ ρ w K := by
  have hrun := Lib.run_convert_string_bytes (P := P) w T T' e (str s) hs hd he
  have hcap := grownCap_ge w (str s).size 0 e
  have hb : Below w.heap.size w (Lib.bytesWorld w e (str s)) :=
    ⟨rfl, rfl, rfl, by rw [Lib.bytesWorld_size]; omega, fun k hk => Lib.bytesWorld_at_old w e (str s) k hk⟩
  have hit : (txtT e u8E (.slice (some ⟨w.heap.size, 0, none⟩) (str s).size (grownCap w (str s).size 0 e)) s).holds w.heap.size (Lib.bytesWorld w e (str s)) := by
    refine .inr ⟨w.heap.size, _, _, _, rfl, Nat.le_refl _, Lib.bytesWorld_at_new w e (str s), hcap, grownCap_le_maxLen w _ 0 e (by rw [size_str]; unfold maxLen; omega), ?_⟩
    have e1 : (Lib.bytesCells w e (str s)).toList = s.flatMap u8E.enc ++ List.replicate (grownCap w (str s).size 0 e - (str s).size) (.int .u8 0) := by
      simp only [Lib.bytesCells, Array.toList_append, Array.toList_map, Array.toList_replicate]
      congr 1
      simp only [str, u8E]
      exact u8_flat s
    rw [e1, List.take_append_of_le_length (by rw [u8E.flat]; exact Nat.le_refl _), List.take_of_length_le (by rw [u8E.flat]; exact Nat.le_refl _)]
  refine op_of (v := .slice (some ⟨w.heap.size, 0, none⟩) (str s).size (grownCap w (str s).size 0 e)) (w' := Lib.bytesWorld w e (str s)) (by simp [execOp, hx, hrun]) (h _ _ (hst.call (L' := [_]) ⟨hb, fun i hi => ?_, List.pairwise_singleton _ _⟩))
  rw [List.mem_singleton] at hi
  subst hi
  exact hit
theorem op_eqlNil {α : Type} {E : Enc α} {T T' e : TypeId} {x y : Operand} {v : Value} {xs : List α} {w1 : World} (hT : P.underlying T = some (.slice e)) (hx : evE ρ x = v) (hsl : Sl w1 E v xs) (hy : evE ρ y = .slice none 0 0)
    (h : ∀ b : Bool, (b = true → xs = []) → K (.bool b) w) : opE P ⟨dst, .binOp .eql T x y T', ty, pos, aft, g⟩ ρ w K := by
  obtain ⟨A, c, rfl, h2, h3, h4⟩ := hsl
  refine op_of (v := .bool A.isNone) (by simp [execOp, hx, hy, eqGuard_at_slice, Lib.run_eql_slice_nil w T e A xs.length c 0 0 hT]) (h _ fun hb => ?_)
  cases A with
  | none =>
    rcases xs with _ | ⟨a, xs⟩
    · rfl
    · obtain ⟨b, off, e1, _⟩ := h4 (by simp); cases e1
  | some a => cases hb
theorem op_convMark {T e : TypeId} {x : Operand} {v : Value} {xs : List UInt8} (hst : St w0 w L) (i : Nat) (hi : L[i]? = some (rowT e u8E v xs)) (hT : P.underlying T = some (.slice e)) (he : P.underlying e = some (.int .u8)) (hx : evE ρ x = v) (hne : 0 < xs.length)
    (h : ∀ w', St w0 w' (L.set i (txtT e u8E v xs)) → K v w') : opE P ⟨dst, .convert T T x, ty, pos, aft, g⟩ ρ w K := by
  have hown := hst.at i hi
  rcases hown.2 with ⟨rfl, hl⟩ | ⟨b, cap, cur, rfl, hb, hg, hnc, hcm, hcs, htake⟩
  · omega
  · have hlt : b < w.heap.size := (Array.getElem?_eq_some_iff.1 hg).1
    have hsh : w.shape? b = some (e, cur.size) := by simp [World.shape?, hg]
    have hrun : (convert T T (.slice (some ⟨b, 0, none⟩) xs.length cap)).run P w = .ok (.slice (some ⟨b, 0, none⟩) xs.length cap) (w.freeze ⟨b, cur.size, none⟩ 1) := by
      simp [convert, run_underlying hT, run_underlying he, markStringish, hsh]
    have hat : (w.freeze ⟨b, cur.size, none⟩ 1).heap[b]? = some (.cells cur e (cur.size, cur.size + 1)) := by
      simp [World.freeze, Array.getElem?_modify, hg]
    have hoth : ∀ k, k ≠ b → (w.freeze ⟨b, cur.size, none⟩ 1).heap[k]? = w.heap[k]? := fun k hk => by
      simp [World.freeze, Array.getElem?_modify, Ne.symm hk]
    refine op_of (v := .slice (some ⟨b, 0, none⟩) xs.length cap) (w' := w.freeze ⟨b, cur.size, none⟩ 1) (by simp [execOp, hx, hrun]) (h _ (hst.turn i hi (txtT e u8E (.slice (some ⟨b, 0, none⟩) xs.length cap) xs) ⟨rfl, rfl, rfl, by simp [World.freeze], fun k _ hk => hoth k (fun e => hk (by simp [Item.block, Value.ownBlock, e]))⟩ ?_ (.inl rfl)))
    exact .inr ⟨b, cap, cur, _, rfl, hb, hat, hnc, hcm, htake⟩
theorem madeCells_list (z : Array Value) (n : Nat) : (madeCells z (n * z.size)).toList = (List.replicate n z.toList).flatten := by
  induction n with
  | zero => simp [madeCells]
  | succ n ih =>
    have hr : List.range ((n + 1) * z.size) = List.range (n * z.size) ++ (List.range z.size).map (n * z.size + ·) := by rw [Nat.succ_mul, List.range_add]
    have hz : z.toList = (List.range z.size).map (fun i => z[(n * z.size + i) % z.size]!) := by
      apply List.ext_getElem
      · simp
      · intro i h1 h2
        simp only [List.length_map, List.length_range] at h2
        have e : (n * z.size + i) % z.size = i := by rw [Nat.add_comm, Nat.add_mul_mod_self_right, Nat.mod_eq_of_lt h2]
        have e2 : i % z.size = i := Nat.mod_eq_of_lt h2
        simp [e, e2, h2]
    rw [List.replicate_succ', List.flatten_append, ← ih]
    simp only [madeCells, Array.toList_map, Array.toList_range, List.flatten_cons, List.flatten_nil, List.append_nil]
    rw [hr, List.map_append, List.map_map]
    congr 1
    exact hz.symm
theorem op_makeSl {α : Type} {E : Enc α} {T e : TypeId} {x y : Operand} {k k' : IntKind} {n : Nat} {a b : Int} {z : α} {zv : Value} {bytes : Nat} (hst : St w0 w L) (hT : P.underlying T = some (.slice e))
    (hinfo : (P.info? e).map (fun i => (i.zero, i.size, i.bytes)) = some (some zv, E.size, bytes)) (hz : zv.cells.toList = E.enc z) (hx : evE ρ x = .int k a) (hy : evE ρ y = .int k' b) (ha : a = (n : Int)) (hb : b = (n : Int)) (hbt : bytes * n ≤ 281474976710656) (h63 : n ≤ 9223372036854775807)
    (h : ∀ v w', St w0 w' (rowT e E v (List.replicate n z) :: L) → K v w') : opE P ⟨dst, .makeSlice T x y, ty, pos, aft, g⟩ ρ w K := by
  subst ha hb
  obtain ⟨i0, hi0, hz0, hz1, hz2⟩ := info_parts hinfo
  subst hz2
  have h9 : ((i0.bytes * n : Nat) : Int) ≤ 281474976710656 := by omega
  rw [Int.natCast_mul] at h9
  have hr := run_make (P := P) w T e i0 zv hT hi0 hz0 k k' (n : Int) (n : Int) (by omega) (Int.le_refl _) h9 (by omega)
  simp only [Int.toNat_natCast] at hr
  have hzs : zv.cells.size = E.size := by rw [← Array.length_toList, hz, E.len]
  have hcur := madeCells_list zv.cells n
  rw [hzs, hz] at hcur
  rw [hz1] at hr
  have hfl : (List.replicate n (E.enc z)).flatten = (List.replicate n z).flatMap E.enc := by rw [List.flatMap_def, List.map_replicate]
  have hrow := hst.newRow e E (List.replicate n z) (madeCells zv.cells (n * E.size)) n (by unfold maxLen; omega) (by simp) (by simp [size_madeCells]) (by
    rw [hcur, hfl, List.length_replicate, List.take_of_length_le (by rw [E.flat, List.length_replicate]; exact Nat.le_refl _)]) (E.flat _)
  rw [List.length_replicate] at hrow
  exact op_of (by simp [execOp, hx, hy, hr]) (h _ _ hrow)
theorem op_nilCheck {x : Operand} {a : Addr} (hx : evE ρ x = .pointer (some a)) (h : K (.pointer (some a)) w) : opE P ⟨dst, .nilCheck x, ty, pos, aft, g⟩ ρ w K :=
  op_of (by simp [execOp, hx]) h
end
theorem sl_cells {α : Type} {E : Enc α} {w : World} {v : Value} {xs : List α} (h : Sl w E v xs) : v.cells = #[v] := by obtain ⟨A, c, rfl, _⟩ := h; rfl
theorem sl_one {α : Type} {E : Enc α} {w : World} {v : Value} {xs : List α} (h : Sl w E v xs) : v.oneCell' = true := by obtain ⟨A, c, rfl, _⟩ := h; rfl
theorem cells_int (k : IntKind) (n : Int) : (Value.int k n).cells = #[.int k n] := rfl
theorem cells_bool (b : Bool) : (Value.bool b).cells = #[.bool b] := rfl
theorem cells_str (s : ByteArray) : (Value.string s).cells = #[.string s] := rfl
theorem cells_agg (cs : Array Value) : (Value.agg cs).cells = cs := rfl
theorem cells_nil : (Value.slice none 0 0).cells = #[.slice none 0 0] := rfl
def oneL : List Value → Prop
  | [] => True
  | v :: l => v.oneCell' = true ∧ oneL l
theorem oneL_all : ∀ {l : List Value}, oneL l → ∀ v ∈ l, v.oneCell' = true
  | [], _, v, hv => by cases hv
  | a :: l, h, v, hv => by
    rcases List.mem_cons.1 hv with rfl | hv
    · exact h.1
    · exact oneL_all h.2 v hv
theorem arr2 {a a' b b' : Value} (h : a = a') (h1 : b = b') : Value.agg #[a, b] = .agg #[a', b'] := by rw [h, h1]
theorem arr3 {a a' b b' c c' : Value} (h : a = a') (h1 : b = b') (h2 : c = c') : Value.agg #[a, b, c] = .agg #[a', b', c'] := by rw [h, h1, h2]
theorem arr4 {a a' b b' c c' d d' : Value} (h : a = a') (h1 : b = b') (h2 : c = c') (h3 : d = d') : Value.agg #[a, b, c, d] = .agg #[a', b', c', d'] := by rw [h, h1, h2, h3]
theorem arr5 {a a' b b' c c' d d' e e' : Value} (h : a = a') (h1 : b = b') (h2 : c = c') (h3 : d = d') (h4 : e = e') : Value.agg #[a, b, c, d, e] = .agg #[a', b', c', d', e'] := by rw [h, h1, h2, h3, h4]
theorem arr6 {a a' b b' c c' d d' e e' f f' : Value} (h : a = a') (h1 : b = b') (h2 : c = c') (h3 : d = d') (h4 : e = e') (h5 : f = f') : Value.agg #[a, b, c, d, e, f] = .agg #[a', b', c', d', e', f'] := by rw [h, h1, h2, h3, h4, h5]
end Go.Proofs.Ythanfecefjfbjaa
