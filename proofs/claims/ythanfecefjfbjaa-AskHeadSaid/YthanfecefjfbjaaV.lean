/- Rules for operations that make or write memory, and for texts. -/
import Derived.Test.YthanfecefjfbjaaR
import Derived.Lib.MinMax
namespace Go.Proofs.Ythanfecefjfbjaa
open Go.RowKit

/-- An integer of a kind, in one cell. -/
def intE (k : IntKind) : Enc Int := ⟨1, fun n => [.int k n], fun _ => rfl, by decide, fun _ u hu => by simp at hu; subst hu; rfl⟩
def u8E : Enc UInt8 := ⟨1, fun b => [.int .u8 (b.toNat : Int)], fun _ => rfl, by decide, fun _ u hu => by simp at hu; subst hu; rfl⟩
def str (l : List UInt8) : ByteArray := ⟨l.toArray⟩

section
variable {P : Program} {ops : Array Oper} {l : List Oper} {ρ : Env} {w w0 : World} {L : List Item} {KR : Env → World → Prop} {K : Value → World → Prop}
variable {dst : Option Tmp} {op : Op} {ty : TypeId} {pos : String} {aft : Array Edge} {g : Option (Nat × Bool)}

theorem op_box {T : TypeId} {x : Operand} {v : Value} {cs : Array Value} (hst : St w0 w L) (hx : evE ρ x = v) (hc : v.cells = cs)
    (h : ∀ g w', St w0 w' (.blk g T cs :: L) → w.heap.size ≤ g → K (.pointer (some ⟨g, 0, none⟩)) w') : opE P ⟨dst, .box T x, ty, pos, aft, g⟩ ρ w K := by
  subst hc
  exact op_of (w' := w.alloc (.cells v.cells T)) (by simp [execOp, hx, Instr.box, newVar, newRow]) (h _ _ (hst.new T v.cells) (Nat.le_refl _))
theorem op_alloc {T : TypeId} {v : Value} {cs : Array Value} (hst : St w0 w L) (hz : ∀ w, (zeroValue T).run P w = .ok v w) (hc : v.cells = cs)
    (h : ∀ g w', St w0 w' (.blk g T cs :: L) → w.heap.size ≤ g → K (.pointer (some ⟨g, 0, none⟩)) w') : opE P ⟨dst, .alloc T, ty, pos, aft, g⟩ ρ w K := by
  subst hc
  exact op_of (w' := w.alloc (.cells v.cells T)) (by simp [execOp, Instr.alloc, hz, newVar, newRow]) (h _ _ (hst.new T v.cells) (Nat.le_refl _))

theorem cell_of_blk {w : World} {g T : Nat} {cs : Array Value} (hg : w.heap[g]? = some (.cells cs T (0, 0))) (k : Nat) (hk : k < cs.size) : w.cell? ⟨g, k, none⟩ = some cs[k] ∧ w.frozen? ⟨g, k, none⟩ = false := by
  simp [World.cell?, World.frozen?, hg, hk]
theorem St.storeBlk (hst : St w0 w L) (i : Nat) {b T : Nat} {cs : Array Value} (hi : L[i]? = some (.blk b T cs)) (cs' : Array Value) (_hs : cs'.size = cs.size) : St w0 (w.setRow b cs') (L.set i (.blk b T cs')) :=
  hst.turn i hi (.blk b T cs') ⟨rfl, rfl, rfl, by simp, fun k _ hk => setRow_other w b k cs' (fun e => hk (by simp [Item.block, e]))⟩ ⟨(hst.at i hi).1, setRow_heap w b cs cs' T (0, 0) (hst.at i hi).2⟩ (.inl rfl)

/-- A store of one cell into a block of the call's own. -/
theorem op_store1 {T Tb : TypeId} {x y : Operand} {b off : Nat} {cs : Array Value} {v : Value} (hst : St w0 w L) (i : Nat) (hi : L[i]? = some (.blk b Tb cs)) (hs : ∀ w, (sizeOf T).run P w = .ok 1 w)
    (hx : evE ρ x = .pointer (some ⟨b, off, none⟩)) (hy : evE ρ y = v) (h1 : v.oneCell' = true) (ho : off < cs.size)
    (h : ∀ w', St w0 w' (L.set i (.blk b Tb (cs.setIfInBounds off v))) → K undef w') : opE P ⟨dst, .store T x y, ty, pos, aft, g⟩ ρ w K := by
  have hg := (hst.at i hi).2
  obtain ⟨hc, hf⟩ := cell_of_blk hg off ho
  have hcells : v.cells = #[v] := by cases v <;> first | rfl | (simp [Value.oneCell'] at h1)
  have hrun : (execOp (evE ρ) ⟨dst, .store T x y, ty, pos, aft, g⟩).run P w = .ok .skip (w.setCell ⟨b, off, none⟩ v) := by
    simp only [execOp, hx, hy, Instr.storeAt, Instr.sureAddr, Sem.run_bind, Sem.run_pure, Result.andThen_ok, storeVar, hs, hcells]
    simp [storeCells, run_store P w _ v _ h1, hc, hf, Addr.add_zero']
  refine op_skip_of hrun (h _ ?_)
  rw [setCell_eq_setRow w b off cs Tb (0, 0) v hg]
  exact hst.storeBlk i hi _ (by simp)
/-- A store of a whole struct into a block of the call's own. -/
theorem op_storeAll {T Tb : TypeId} {x y : Operand} {b : Nat} {cs vs : Array Value} {s : Nat} (hst : St w0 w L) (i : Nat) (hi : L[i]? = some (.blk b Tb cs)) (hs : ∀ w, (sizeOf T).run P w = .ok s w)
    (hx : evE ρ x = .pointer (some ⟨b, 0, none⟩)) (hy : evE ρ y = .agg vs) (hl : vs.size = s) (hl' : cs.size = s) (h1 : ∀ v ∈ vs.toList, v.oneCell' = true)
    (h : ∀ w', St w0 w' (L.set i (.blk b Tb vs)) → K undef w') : opE P ⟨dst, .store T x y, ty, pos, aft, g⟩ ρ w K := by
  have hg := (hst.at i hi).2
  have hsc := run_storeCells_at P b 0 Tb vs.toList 0 cs w hg (by simp; omega) h1
  have hrow : (cs.toList.take (0 + 0) ++ vs.toList ++ cs.toList.drop (0 + 0 + vs.toList.length)).toArray = vs := by
    rw [List.drop_eq_nil_of_le (by simp; omega)]; simp
  rw [hrow] at hsc
  have hrun : (execOp (evE ρ) ⟨dst, .store T x y, ty, pos, aft, g⟩).run P w = .ok .skip (w.setRow b vs) := by
    simp only [execOp, hx, hy, Instr.storeAt, Instr.sureAddr, Sem.run_bind, Sem.run_pure, Result.andThen_ok, storeVar, hs, Value.cells]
    simp [hl, hsc]
  exact op_skip_of hrun (h _ (hst.storeBlk i hi _ (by omega)))

/-- The address of an element of a row of the call's own: readable, and known. -/
theorem op_indexRow {α : Type} {E : Enc α} {T e Tr : TypeId} {x i : Operand} {v : Value} {xs : List α} {k : IntKind} {m : Int} (hst : St w0 w L) (j : Nat) (hj : L[j]? = some (rowT Tr E v xs)) (hT : P.underlying T = some (.slice e)) (hs : ∀ w, (sizeOf e).run P w = .ok E.size w)
    (hx : evE ρ x = v) (hi : evE ρ i = .int k m) (h0 : 0 ≤ m) (hm : m.toNat < xs.length)
    (h : ∀ b, v.ownBlock = some b → Pt w b (m.toNat * E.size) (E.enc (xs[m.toNat]'hm)) → K (.pointer (some ⟨b, m.toNat * E.size, none⟩)) w) : opE P ⟨dst, .indexAddr T x i, ty, pos, aft, g⟩ ρ w K := by
  have hown := hst.at j hj
  have hsl := hst.sl j hj
  rcases hown.2 with ⟨rfl, hl⟩ | ⟨b, cap, cur, rfl, hb, hg, hnc, hcm, hcs, htake⟩
  · omega
  · obtain ⟨A, c, he, h2, h3, h4⟩ := hsl
    injection he with e1 e2 e3
    subst e1
    obtain ⟨b', off, e4, hp⟩ := h4 (by rintro rfl; simp at hm)
    injection e4 with e4
    injection e4 with e5 e6
    subst e5 e6
    have hlt : m < (xs.length : Int) := by omega
    have hp' := hp m.toNat _ (List.getElem?_eq_getElem hm)
    rw [Nat.zero_add] at hp'
    exact op_of (by simp [execOp, hx, hi, Instr.indexAt, asIntOf, run_underlying hT, h0, hlt, hs, Addr.add_lit]) (h b rfl hp')

theorem take_seg {α : Type} (cur : List α) (n o : Nat) (vs : List α) (h : o + vs.length ≤ n) : (cur.take o ++ vs ++ cur.drop (o + vs.length)).take n = (cur.take n).take o ++ vs ++ (cur.take n).drop (o + vs.length) := by
  by_cases hl : o ≤ cur.length
  · rw [List.take_append, List.take_append, List.take_take, List.take_take]
    simp only [List.length_take, List.length_append, Nat.min_eq_left hl, Nat.min_eq_right (by omega : o ≤ n), Nat.min_eq_left (by omega : o ≤ n)]
    rw [List.take_of_length_le (by omega : vs.length ≤ n - o), List.drop_take]
  · have h1 : cur.drop (o + vs.length) = [] := List.drop_eq_nil_of_le (by omega)
    rw [h1, List.append_nil, List.take_of_length_le (by simp; omega), List.take_of_length_le (by omega : cur.length ≤ n), h1, List.append_nil]

/-- An element of a row of the call's own is turned (its cells: some of them). -/
theorem St.storeRow {α : Type} {E : Enc α} {Tr : TypeId} {v : Value} {xs : List α} (hst : St w0 w L) (j : Nat) (hj : L[j]? = some (rowT Tr E v xs)) {b : Nat} (hb : v.ownBlock = some b) (m : Nat) (hm : m < xs.length) (f : Nat) (vs : List Value) (hf : f + vs.length ≤ E.size) (h1 : ∀ u ∈ vs, u.oneCell' = true)
    (y : α) (hy : E.enc y = (E.enc xs[m]).take f ++ vs ++ (E.enc xs[m]).drop (f + vs.length)) :
    ∃ w', (storeCells ⟨b, m * E.size + f, none⟩ vs).run P w = .ok () w' ∧ St w0 w' (L.set j (rowT Tr E v (xs.set m y))) := by
  have hown := hst.at j hj
  rcases hown.2 with ⟨rfl, hl⟩ | ⟨b', cap, cur, rfl, hbb, hg, hnc, hcm, hcs, htake⟩
  · cases hb
  · simp only [Value.ownBlock, Option.some.injEq] at hb
    subst hb
    have hms : m * E.size + E.size ≤ xs.length * E.size := by rw [← Nat.succ_mul]; exact Nat.mul_le_mul_right _ hm
    have hcap : xs.length * E.size ≤ cap * E.size := Nat.mul_le_mul_right _ hnc
    have hsc := run_storeCells_at P b' (m * E.size + f) Tr vs 0 cur w hg (by omega) h1
    simp only [Nat.add_zero] at hsc
    refine ⟨_, hsc, hst.turn j hj (rowT Tr E (.slice (some ⟨b', 0, none⟩) xs.length cap) (xs.set m y))
      ⟨rfl, rfl, rfl, by simp, fun k _ hk => setRow_other w b' k _ (fun e => hk (by simp [Item.block, Value.ownBlock, e]))⟩ ?_ (.inl rfl)⟩
    refine ⟨E.flat _, .inr ⟨b', cap, _, by simp, hbb, setRow_heap w b' cur _ Tr (0, 0) hg, by simpa using hnc, hcm, ?_, ?_⟩⟩
    · simp only [List.size_toArray, List.length_append, List.length_take, List.length_drop, Array.length_toList]
      omega
    · simp only [List.length_set]
      rw [take_seg _ _ _ _ (by omega), htake, E.split xs m hm, E.split (xs.set m y) m (by simpa using hm)]
      have hlt := E.splitLen xs m hm
      have hsz := E.len xs[m]
      simp only [List.getElem_set_self, List.take_set_of_le (Nat.le_refl m), List.drop_set_of_lt (Nat.lt_succ_self m)]
      rw [hy, List.take_append, List.take_of_length_le (by omega : _ ≤ m * E.size + f), hlt, Nat.add_sub_cancel_left, List.take_append_of_le_length (by omega)]
      rw [List.drop_append, List.drop_eq_nil_of_le (by omega : _ ≤ m * E.size + f + vs.length), hlt, List.drop_append_of_le_length (by omega)]
      have e : m * E.size + f + vs.length - m * E.size = f + vs.length := by omega
      rw [e]
      simp [List.append_assoc]
theorem op_storeRow1 {α : Type} {E : Enc α} {T Tr : TypeId} {x z : Operand} {v u : Value} {xs : List α} (hst : St w0 w L) (j : Nat) (hj : L[j]? = some (rowT Tr E v xs)) {b off : Nat} (hb : v.ownBlock = some b) (hs : ∀ w, (sizeOf T).run P w = .ok 1 w)
    (hx : evE ρ x = .pointer (some ⟨b, off, none⟩)) (hz : evE ρ z = u) (h1 : u.oneCell' = true) (m f : Nat) (hoff : off = m * E.size + f) (hm : m < xs.length) (hf : f < E.size) (y : α) (hy : E.enc y = (E.enc xs[m]).set f u)
    (h : ∀ w', St w0 w' (L.set j (rowT Tr E v (xs.set m y))) → K undef w') : opE P ⟨dst, .store T x z, ty, pos, aft, g⟩ ρ w K := by
  subst hoff
  have hcells : u.cells = #[u] := by cases u <;> first | rfl | (simp [Value.oneCell'] at h1)
  obtain ⟨w', hr, hst'⟩ := hst.storeRow (P := P) j hj hb m hm f [u] (by simp; omega) (by simpa using h1) y (by
    rw [hy, List.set_eq_take_append_cons_drop, if_pos (by rw [E.len]; exact hf)]; simp)
  have hrun : (execOp (evE ρ) ⟨dst, .store T x z, ty, pos, aft, g⟩).run P w = .ok .skip w' := by
    simp only [execOp, hx, hz, Instr.storeAt, Instr.sureAddr, Sem.run_bind, Sem.run_pure, Result.andThen_ok, storeVar, hs, hcells]
    simp [hr]
  exact op_skip_of hrun (h _ hst')
theorem op_storeRowN {α : Type} {E : Enc α} {T Tr : TypeId} {x z : Operand} {v : Value} {vs : Array Value} {xs : List α} (hst : St w0 w L) (j : Nat) (hj : L[j]? = some (rowT Tr E v xs)) {b off : Nat} (hb : v.ownBlock = some b) (hs : ∀ w, (sizeOf T).run P w = .ok E.size w)
    (hx : evE ρ x = .pointer (some ⟨b, off, none⟩)) (hz : evE ρ z = .agg vs) (m : Nat) (hoff : off = m * E.size) (hm : m < xs.length) (y : α) (hy : E.enc y = vs.toList)
    (h : ∀ w', St w0 w' (L.set j (rowT Tr E v (xs.set m y))) → K undef w') : opE P ⟨dst, .store T x z, ty, pos, aft, g⟩ ρ w K := by
  subst hoff
  have hsz := E.len y
  rw [hy, Array.length_toList] at hsz
  obtain ⟨w', hr, hst'⟩ := hst.storeRow (P := P) j hj hb m hm 0 vs.toList (by simp [hsz]) (by rw [← hy]; exact E.one y) y (by
    rw [hy]; simp [hsz, E.len])
  rw [Nat.add_zero] at hr
  have hrun : (execOp (evE ρ) ⟨dst, .store T x z, ty, pos, aft, g⟩).run P w = .ok .skip w' := by
    simp only [execOp, hx, hz, Instr.storeAt, Instr.sureAddr, Sem.run_bind, Sem.run_pure, Result.andThen_ok, storeVar, hs, Value.cells]
    simp [hsz, hr]
  exact op_skip_of hrun (h _ hst')

/-! append -/
theorem run_append_nilSrc (base : Nat) (t ty e : TypeId) (i : TypeInfo) (size : Nat) (ht : P.underlying t = some (.slice e)) (hi : P.info? e = some i)
    (v : Value) (n : Nat) (xs : List Value) (hown : w.ownsRow base e size v n xs) (c : Nat) : (Builtin.append_ #[t, t] ty #[v, .slice none 0 c]).run P w = .ok v w := by
  rcases hown.2 with ⟨rfl, rfl⟩ | ⟨g, cap, cur, rfl, _, _, hnc, _⟩
  · simp [Builtin.append_, run_underlying ht, sizeOf, typeInfo, hi, Builtin.lenOf, Builtin.firstCells]
  · simp [Builtin.append_, run_underlying ht, sizeOf, typeInfo, hi, Builtin.lenOf, Builtin.firstCells, hnc, storeCells]
theorem op_append {α : Type} {E : Enc α} {T e : TypeId} {s x : Operand} {v u : Value} {xs ys : List α} {z : Value} {bytes : Nat} (hst : St w0 w L) (i : Nat) (hi : L[i]? = some (rowT e E v xs)) (hT : P.underlying T = some (.slice e))
    (hinfo : (P.info? e).map (fun i => (i.zero, i.size, i.bytes)) = some (some z, E.size, bytes)) (hz : z.cells.size = E.size) (hs : evE ρ s = v) (hx : evE ρ x = u) (hsl : Sl w E u ys)
    (h63 : xs.length + ys.length ≤ 9223372036854775807) (hb : (xs.length + ys.length) * bytes ≤ 140737488355328)
    (h : ∀ v' w', St w0 w' (L.set i (rowT e E v' (xs ++ ys))) → K v' w') : opE P ⟨dst, .call ⟨.builtin .append, #[s, x], #[T, T]⟩, ty, pos, aft, g⟩ ρ w K := by
  obtain ⟨i0, hi0, hz0, hz1, hz2⟩ := info_parts hinfo
  have hown : w.ownsRow w0.heap.size e E.size v xs.length (xs.flatMap E.enc) := hst.at i hi
  have fin : ∀ v' w', (Builtin.append_ #[T, T] ty #[v, u]).run P w = .ok v' w' → w'.ownsRow w0.heap.size e E.size v' (xs.length + ys.length) (xs.flatMap E.enc ++ ys.flatMap E.enc) → w.grownBy w' v.ownBlock → (v'.ownBlock = v.ownBlock ∨ v'.ownBlock = some w.heap.size) →
      opE P ⟨dst, .call ⟨.builtin .append, #[s, x], #[T, T]⟩, ty, pos, aft, g⟩ ρ w K := by
    intro v' w' hr ho hg hbk
    refine op_of (v := v') (w' := w') (by simp [execOp, resolve, invoke, builtin, hs, hx, hr]) (h _ _ ?_)
    refine hst.turn i hi (rowT e E v' (xs ++ ys)) hg ?_ ?_
    · simp only [Item.holds, List.length_append, List.flatMap_append]; exact ho
    · rcases hbk with hbk | hbk
      · exact .inl hbk
      · exact .inr fun k hk => by simp only [Item.block] at hk; rw [hbk] at hk; injection hk with hk; omega
  obtain ⟨A, c, rfl, h2, h3, h4⟩ := hsl
  cases A with
  | none =>
    have hn : ys = [] := by
      rcases ys with _ | ⟨y, ys⟩
      · rfl
      · obtain ⟨b, off, hab, _⟩ := h4 (by simp)
        cases hab
    subst hn
    exact fin v w (run_append_nilSrc w0.heap.size T ty e i0 E.size hT hi0 v _ _ hown c) (by simpa using hown) (World.grownBy.refl w _) (.inl rfl)
  | some ad =>
    obtain ⟨v', w', hrun, h5, h6, _, h8⟩ := run_append_own_at (P := P) w w0.heap.size T ty e i0 z E.size bytes hT hi0 hz0 hz1 hz2 hz E.pos v _ _ hown ad ys.length c (ys.flatMap E.enc) (E.flat ys) (fun j u hu => by
      rcases ys with _ | ⟨y, ys⟩
      · simp at hu
      · obtain ⟨b, off, hab, hp⟩ := h4 (by simp)
        injection hab with hab
        subst hab
        rw [Addr.add_lit]
        have := Sl.flat (E := E) (w := w) (b := b) (off := off) (xs := y :: ys) (o := 0) (fun i x hx => by simpa using hp i x hx) j u hu
        simpa using this) (E.oneAll ys) (by unfold maxLen; omega) hb hst.size
    exact fin v' w' hrun h5 h6 h8

/-! texts -/
theorem op_str {T T' e : TypeId} {x : Operand} {v : Value} {xs : List UInt8} (hs : P.underlying T = some (.slice e)) (he : P.underlying e = some (.int .u8)) (hd : P.underlying T' = some .string) (hx : evE ρ x = v) (hsl : Sl w u8E v xs) (h : K (.string (str xs)) w) :
    opE P ⟨dst, .convert T T' x, ty, pos, aft, g⟩ ρ w K := by
  obtain ⟨A, c, rfl, h2, h3, h4⟩ := hsl
  cases A with
  | none =>
    have hn : xs = [] := by
      rcases xs with _ | ⟨y, ys⟩
      · rfl
      · obtain ⟨b, off, hab, _⟩ := h4 (by simp)
        cases hab
    subst hn
    exact op_of (v := .string (str [])) (by simp [execOp, hx, convert, run_underlying hs, run_underlying hd, run_underlying he, Conv.bytesToString]; rfl) h
  | some ad =>
    have hcell : ∀ j (hj : j < xs.length), w.cell? (ad.add j) = some (.int .u8 (xs[j].toNat : Int)) := fun j hj => by
      obtain ⟨b, off, hab, hp⟩ := h4 (by rintro rfl; simp at hj)
      injection hab with hab
      subst hab
      rw [Addr.add_lit]
      have := hp j _ (List.getElem?_eq_getElem hj) 0 _ rfl
      simpa [u8E] using this
    exact op_of (v := .string (str xs)) (by simp [execOp, hx, run_convert_bytes_back w T T' e ad c xs hs he hd hcell, str]) h
theorem toList_str (l : List UInt8) : (str l).toList = l := by rw [ByteArray.toList_eq]; rfl
theorem size_str (l : List UInt8) : (str l).size = l.length := rfl
theorem op_eqlStr {T T' : TypeId} {x y : Operand} {a b : List UInt8} (hx : evE ρ x = .string (str a)) (hy : evE ρ y = .string (str b)) (h : K (.bool (decide (a = b))) w) : opE P ⟨dst, .binOp .eql T x y T', ty, pos, aft, g⟩ ρ w K :=
  op_of (by simp only [execOp, hx, hy, eqGuard_at_string]; simp [binOp, Op.stringOp, toList_str]; by_cases e : a = b <;> simp [e]) h
theorem op_neqStr {T T' : TypeId} {x y : Operand} {a b : List UInt8} (hx : evE ρ x = .string (str a)) (hy : evE ρ y = .string (str b)) (h : K (.bool (!decide (a = b))) w) : opE P ⟨dst, .binOp .neq T x y T', ty, pos, aft, g⟩ ρ w K :=
  op_of (by simp only [execOp, hx, hy, eqGuard_at_string]; simp [binOp, Op.stringOp, toList_str]; by_cases e : a = b <;> simp [e]) h
theorem op_addStr {T T' : TypeId} {x y : Operand} {a b : List UInt8} (hx : evE ρ x = .string (str a)) (hy : evE ρ y = .string (str b)) (hl : a.length + b.length ≤ 9223372036854775807) (h : K (.string (str (a ++ b))) w) : opE P ⟨dst, .binOp .add T x y T', ty, pos, aft, g⟩ ρ w K := by
  have e : str a ++ str b = str (a ++ b) := by
    apply ByteArray.ext
    simp [str, ByteArray.data_append]
  exact op_of (by simp only [execOp, hx, hy, eqGuard_at_string]; simp [binOp, run_string_add_sum w (str a) (str b) (by simpa [size_str] using hl), e]) h

/-! min, max -/
theorem op_min2 {x y : Operand} {ts : Array TypeId} {k : IntKind} {a b : Int} (hx : evE ρ x = .int k a) (hy : evE ρ y = .int k b) (h : K (.int k (min a b)) w) : opE P ⟨dst, .call ⟨.builtin .min, #[x, y], ts⟩, ty, pos, aft, g⟩ ρ w K := by
  refine op_of (v := .int k (min a b)) ?_ h
  have e : (if b < a then b else a) = min a b := by rw [Int.min_def]; split <;> split <;> omega
  simp [execOp, resolve, invoke, builtin, hx, hy, Builtin.min_, Builtin.min2, e]
theorem op_max2 {x y : Operand} {ts : Array TypeId} {k : IntKind} {a b : Int} (hx : evE ρ x = .int k a) (hy : evE ρ y = .int k b) (h : K (.int k (max a b)) w) : opE P ⟨dst, .call ⟨.builtin .max, #[x, y], ts⟩, ty, pos, aft, g⟩ ρ w K := by
  refine op_of (v := .int k (max a b)) ?_ h
  have e : (if a < b then b else a) = max a b := by rw [Int.max_def]; split <;> split <;> omega
  simp [execOp, resolve, invoke, builtin, hx, hy, Builtin.max_, Builtin.max2, e]
theorem op_min3 {x y z : Operand} {ts : Array TypeId} {k : IntKind} {a b c : Int} (hx : evE ρ x = .int k a) (hy : evE ρ y = .int k b) (hz : evE ρ z = .int k c) (h : K (.int k (min (min a b) c)) w) : opE P ⟨dst, .call ⟨.builtin .min, #[x, y, z], ts⟩, ty, pos, aft, g⟩ ρ w K := by
  refine op_of (v := .int k (min (min a b) c)) ?_ h
  have e : ∀ a b : Int, (if b < a then b else a) = min a b := fun a b => by rw [Int.min_def]; split <;> split <;> omega
  simp [execOp, resolve, invoke, builtin, hx, hy, hz, Builtin.min_, Builtin.min2, e]
end
end Go.Proofs.Ythanfecefjfbjaa
