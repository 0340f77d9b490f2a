/- Structs of numbers: how they read, how two are compared, and results that stand in cells. -/
import Derived.Test.YthanfecefjfbjaaL
import Derived.Laws.StructEq
namespace Go.Proofs.Ythanfecefjfbjaa
open Go.RowKit Go.ChangeShapes Go.WideShapes Go.ChangeAt

/-! ### Results that stand in cells -/
/-- What the results hold at the end. -/
def RVs (P : Program) (ρ : Env) (w : World) : List ResultVar → List Value → Prop
  | [], [] => True
  | .tmp t :: rs, v :: vs => ρ t = v ∧ RVs P ρ w rs vs
  | .cell a T :: rs, v :: vs => (∃ p, ρ a = .pointer (some p) ∧ (loadVar T p).run P w = .ok v w) ∧ RVs P ρ w rs vs
  | _, _ => False
def valOf : List Value → Value
  | [v] => v
  | vs => .tuple vs.toArray
def postG (P : Program) (rs : List ResultVar) (R : Ending → World → Prop) : Exit → Env → World → Prop
  | .normal, ρ, w | .ret, ρ, w => ∃ vs, RVs P ρ w rs vs ∧ R (.returned (valOf vs)) w
  | _, _, _ => False
theorem postG_r {P : Program} {ρ : Env} {w : World} {rs : List ResultVar} {R : Ending → World → Prop} (vs : List Value) (hv : RVs P ρ w rs vs) (h : R (.returned (valOf vs)) w) : postG P rs R .ret ρ w := ⟨vs, hv, h⟩
theorem postG_n {P : Program} {ρ : Env} {w : World} {rs : List ResultVar} {R : Ending → World → Prop} (vs : List Value) (hv : RVs P ρ w rs vs) (h : R (.returned (valOf vs)) w) : postG P rs R .normal ρ w := ⟨vs, hv, h⟩
theorem rvN {P : Program} {ρ : Env} {w : World} {a T : Nat} {rs : List ResultVar} {cs : List Value} {vs : List Value} {b off s : Nat} (hA : ∀ w, (isAgg T).run P w = .ok true w) (hs : ∀ w, (sizeOf T).run P w = .ok s w)
    (hx : ρ a = .pointer (some ⟨b, off, none⟩)) (hp : Pt w b off cs) (hl : cs.length = s) (h : RVs P ρ w rs vs) : RVs P ρ w (.cell a T :: rs) (.agg cs.toArray :: vs) := by
  refine ⟨⟨_, hx, ?_⟩, h⟩
  have hc : (loadCells ⟨b, off, none⟩ cs.length).run P w = .ok cs.toArray w := run_loadCells_list (P := P) w ⟨b, off, none⟩ cs (fun j v hv => by rw [Addr.add_lit]; exact hp j v hv)
  subst hl
  simp [loadVar, hA, hs, hc]
theorem rv1 {P : Program} {ρ : Env} {w : World} {a T : Nat} {rs : List ResultVar} {u : Value} {cs vs : List Value} {b off : Nat} (hA : ∀ w, (isAgg T).run P w = .ok false w)
    (hx : ρ a = .pointer (some ⟨b, off, none⟩)) (hp : Pt w b off (u :: cs)) (h : RVs P ρ w rs vs) : RVs P ρ w (.cell a T :: rs) (u :: vs) := by
  refine ⟨⟨_, hx, ?_⟩, h⟩
  have hc : w.cell? ⟨b, off, none⟩ = some u := hp 0 u rfl
  simp [loadVar, hA, hc]
theorem rvt {P : Program} {ρ : Env} {w : World} {t : Nat} {rs : List ResultVar} {v : Value} {vs : List Value} (hx : ρ t = v) (h : RVs P ρ w rs vs) : RVs P ρ w (.tmp t :: rs) (v :: vs) := ⟨hx, h⟩
theorem rvnil {P : Program} {ρ : Env} {w : World} : RVs P ρ w [] [] := trivial
theorem run_resultsG {fn : Func} {rs : List ResultVar} {ρ : Env} {vs : List Value} (h : fn.results = rs.toArray) (tmps : Array Value) (P : Program) (w : World) (hρ : ∀ k, tmps.getD k undef = ρ k) (hv : RVs P ρ w rs vs) :
    (results fn tmps).run P w = .ok (valOf vs) w := by
  have hm : ∀ (f : ResultVar → Sem Value), (∀ t, (f (.tmp t)).run P w = .ok (ρ t) w) → (∀ a T, f (.cell a T) = do loadVar T (← asAddr (tmps.getD a undef))) → ∀ (l : List ResultVar) (us : List Value), RVs P ρ w l us → (l.mapM f).run P w = .ok us w := by
    intro f hf hg l
    induction l with
    | nil =>
      intro us hu
      cases us with
      | nil => rfl
      | cons u us => exact hu.elim
    | cons r l ih =>
      intro us hu
      cases us with
      | nil => cases r <;> exact hu.elim
      | cons u us =>
        rw [List.mapM_cons]
        cases r with
        | tmp t =>
          obtain ⟨h1, h2⟩ := hu
          simp only [Sem.run_bind, Sem.run_pure, ih us h2, hf, Result.andThen_ok, h1]
        | cell a T =>
          obtain ⟨⟨p, h1, h3⟩, h2⟩ := hu
          rw [hg]
          simp only [Sem.run_bind, Sem.run_pure, ih us h2, hρ, h1, asAddr, Result.andThen_ok, h3]
  unfold results
  rw [h, List.mapM_toArray]
  simp only [Sem.run_bind, Sem.run_map]
  rw [hm _ (fun t => by simp only [Sem.run_pure, hρ]) (fun a T => rfl) rs vs hv]
  simp only [Result.andThen_ok, Sem.run_pure]
  cases vs with
  | nil => rfl
  | cons t l => cases l with
    | nil => rfl
    | cons u l => simp [valOf]
theorem calls_G {P : Program} {f : FuncId} {fn : Func} {c : Code} {args : Array Value} {w : World} {R : Ending → World → Prop} {n : Nat} {rs : List ResultVar}
    (hf : P.funcs[f]? = some fn) (hb : fn.body = some c) (hn : fn.ntmps = n) (hr : fn.results = rs.toArray) (hs : args.size ≤ n)
    (h : cE P n c (postG P rs R) (fun k => args.getD k undef) w) : Calls P f args w R := by
  refine calls_of_wp hf hb (wp_mono (h _ ⟨by simp; omega, rfl, fun k => ?_⟩) fun e a' w' ⟨ρ', h1, h2⟩ => ?_)
  · simp only [Array.getD_eq_getD_getElem?, Array.getElem?_append]
    split
    · rfl
    · rename_i hk
      rw [Array.getElem?_eq_none (xs := args) (by omega), Array.getElem?_replicate]
      split <;> rfl
  · cases e with
    | normal => obtain ⟨vs, h3, h4⟩ := h2; exact ⟨h1.defers, _, run_resultsG hr a'.tmps P w' h1.get h3, h4⟩
    | ret => obtain ⟨vs, h3, h4⟩ := h2; exact ⟨h1.defers, _, run_resultsG hr a'.tmps P w' h1.get h3, h4⟩
    | _ => exact h2.elim

/-! ### Structs of numbers, as a row reads them -/
section
variable {H : Type} {enc : TypeId × Value → H} {P : Program} {w : World} {base : Nat} {spare : Nat → Bool} {held : Bool}
def IntFields (P : Program) : Nat → List IntKind → List Field → Prop
  | _, [], [] => True
  | k, d :: ds, f :: fs => f.offset = k ∧ P.underlying f.type = some (.int d) ∧ P.cellsOf f.type = 1 ∧ f.name ≠ "_" ∧ IntFields P (k + 1) ds fs
  | _, _, _ => False
def IntCells : List IntKind → List Value → Prop
  | [], [] => True
  | d :: ds, c :: cs => (∃ n, c = .int d n ∧ d.min ≤ n ∧ n ≤ d.max) ∧ IntCells ds cs
  | _, _ => False
theorem IntCells.cons {d : IntKind} {ds : List IntKind} {cs : List Value} (h : IntCells (d :: ds) cs) : ∃ n cs', cs = .int d n :: cs' ∧ (d.min ≤ n ∧ n ≤ d.max) ∧ IntCells ds cs' := by
  cases cs with
  | nil => exact h.elim
  | cons c cs => obtain ⟨⟨n, e, hn⟩, hs⟩ := h; exact ⟨n, cs, by rw [e], hn, hs⟩
theorem IntCells.nil {cs : List Value} (h : IntCells [] cs) : cs = [] := by
  cases cs with
  | nil => rfl
  | cons c cs => exact h.elim
theorem int_cells {t : TypeId} {fs : Array Field} {ks : List IntKind} {fuel : Nat} {cs : List Value} {x : DataW H × List MemPlace} (ht : P.underlying t = some (.struct fs)) (hf : IntFields P 0 ks fs.toList) (hC : P.cellsOf t = ks.length)
    (h : DataW.trod enc P w base spare held fuel t cs = some x) : IntCells ks cs := by
  obtain ⟨xs, n, _, rfl, hl, hlen, hg⟩ := DataW.trod_struct ht h
  have key : ∀ (ks' : List IntKind) (fs' : List Field) (k : Nat), fs' = fs.toList.drop k → IntFields P k ks' fs' → cs.length = k + ks'.length → IntCells ks' (cs.drop k) := by
    intro ks'
    induction ks' with
    | nil =>
      intro fs' k _ _ hk
      rw [List.drop_eq_nil_of_le (by simp at hk; omega)]
      trivial
    | cons d ds ih =>
      intro fs' k hd hi hk
      cases fs' with
      | nil => exact hi.elim
      | cons f fs' =>
        obtain ⟨h1, h2, h3, _, h4⟩ := hi
        have hlt : k < cs.length := by simp at hk; omega
        have hfk : fs[k]? = some f := by
          have := congrArg (fun l => l[0]?) hd
          simp at this
          rw [← this]
        have hd' : fs' = fs.toList.drop (k + 1) := by
          have := congrArg List.tail hd
          simpa using this
        have := hg k f hfk
        rw [h1, h3] at this
        have hx : k < xs.length := by
          have := (Array.getElem?_eq_some_iff.1 hfk).1; omega
        rw [List.getElem?_eq_getElem hx] at this
        obtain ⟨m, e, _, hw⟩ := DataW.trod_int h2 this
        rw [List.drop_eq_getElem_cons hlt] at e ⊢
        simp only [List.take_succ_cons, List.take_zero, List.cons.injEq, and_true] at e
        refine ⟨⟨m, e, by simpa [Lit.wf] using hw⟩, ih fs' (k + 1) hd' h4 (by simp at hk; omega)⟩
  have := key ks fs.toList 0 rfl hf (by omega)
  simpa using this
end

/-! ### Comparing them -/
section
variable {P : Program} {ops : Array Oper} {l : List Oper} {ρ : Env} {w : World} {KR : Env → World → Prop} {K : Value → World → Prop}
variable {dst : Option Tmp} {op : Op} {ty : TypeId} {pos : String} {aft : Array Edge} {g : Option (Nat × Bool)}
theorem fieldsOf_eq {t : TypeId} {fs : Array Field} (ht : P.underlying t = some (.struct fs)) : P.fieldsOf t = fs := by simp [Program.fieldsOf, ht]
theorem eqFields_ints : ∀ (ks : List IntKind) (fs : List Field) (k d : Nat) (xs ys : Array Value) (as bs : List Int), IntFields P k ks fs → as.length = ks.length → bs.length = ks.length →
    (∀ i (h : i < ks.length) (h1 : i < as.length), xs[k + i]? = some (.int ks[i] as[i])) → (∀ i (h : i < ks.length) (h1 : i < bs.length), ys[k + i]? = some (.int ks[i] bs[i])) →
    (Op.eqFields (d + 1) xs ys fs).run P w = .ok (decide (as = bs)) w
  | [], fs, k, d, xs, ys, as, bs, hi, ha, hb, hx, hy => by
    have e1 := List.length_eq_zero_iff.1 ha
    have e2 := List.length_eq_zero_iff.1 hb
    subst e1; subst e2
    cases fs with
    | nil => simp [Op.eqFields]
    | cons f fs => exact hi.elim
  | kd :: ks, fs, k, d, xs, ys, as, bs, hi, ha, hb, hx, hy => by
    cases fs with
    | nil => exact hi.elim
    | cons f fs =>
      obtain ⟨h1, h2, _, h3, h4⟩ := hi
      cases as with
      | nil => simp at ha
      | cons a as =>
        cases bs with
        | nil => simp at hb
        | cons b bs =>
          have ih := eqFields_ints ks fs (k + 1) d xs ys as bs h4 (by simpa using ha) (by simpa using hb)
            (fun i h h1 => by have := hx (i + 1) (by simp; omega) (by simp; omega); simp only [List.getElem_cons_succ] at this; rw [← this]; congr 1; omega)
            (fun i h h1 => by have := hy (i + 1) (by simp; omega) (by simp; omega); simp only [List.getElem_cons_succ] at this; rw [← this]; congr 1; omega)
          have hA : ∀ w, (isAgg f.type).run P w = .ok false w := fun w => by simp [isAgg, run_underlying h2]
          have hx0 := hx 0 (by simp) (by simp)
          have hy0 := hy 0 (by simp) (by simp)
          simp only [Nat.add_zero, List.getElem_cons_zero] at hx0 hy0
          simp only [Op.eqFields, h3, ne_eq, not_false_eq_true, if_true, part, h1, hx0, hy0, Sem.run_bind, hA, Result.andThen_ok, Bool.false_eq_true, if_false, Sem.run_pure, run_equalIn_int w d f.type kd kd a b h2, Sem.run_ite]
          by_cases e : a = b
          · simp [e, ih]
          · simp [e]
theorem op_neqb {T T' : TypeId} {x y : Operand} {a b : Bool} (hT : P.underlying T = some .bool) (hx : evE ρ x = .bool a) (hy : evE ρ y = .bool b) (h : K (.bool (!(a == b))) w) : opE P ⟨dst, .binOp .neq T x y T', ty, pos, aft, g⟩ ρ w K :=
  op_of (by simp [execOp, hx, hy, eqGuard_at_bool, run_neq_bool w T a b hT]) h
theorem op_eqlG {T T' : TypeId} {x y : Operand} {xs ys : Array Value} {b : Bool} (hm : P.eqGuardType P.depth T = false) (he : (Op.equalIn 10000 T (.agg xs) (.agg ys)).run P w = .ok b w) (hx : evE ρ x = .agg xs) (hy : evE ρ y = .agg ys) (h : K (.bool b) w) :
    opE P ⟨dst, .binOp .eql T x y T', ty, pos, aft, g⟩ ρ w K :=
  op_of (by simp only [execOp, hx, hy, Sem.run_bind, run_eqGuard_agg w _ T x y xs ys hm, Result.andThen_ok, run_eql_struct, he, Sem.run_pure]) h
theorem op_neqG {T T' : TypeId} {x y : Operand} {xs ys : Array Value} {b : Bool} (hm : P.eqGuardType P.depth T = false) (he : (Op.equalIn 10000 T (.agg xs) (.agg ys)).run P w = .ok b w) (hx : evE ρ x = .agg xs) (hy : evE ρ y = .agg ys) (h : K (.bool (!b)) w) :
    opE P ⟨dst, .binOp .neq T x y T', ty, pos, aft, g⟩ ρ w K :=
  op_of (by simp only [execOp, hx, hy, Sem.run_bind, run_eqGuard_agg w _ T x y xs ys hm, Result.andThen_ok, run_neq_struct, he, Sem.run_pure]) h
end

/-! ### The program's own structs -/
structure Sample where
  T : Int
  V : Int
  deriving DecidableEq
structure Agg where
  From : Int
  Count : Int
  Sum : Int
  Min : Int
  Max : Int
  First : Int
  Last : Int
  deriving DecidableEq
def sampE : Enc Sample := ⟨2, fun s => [.int .i64 s.T, .int .i64 s.V], fun _ => rfl, by decide, fun _ u hu => by simp at hu; rcases hu with rfl | rfl <;> rfl⟩
def aggE : Enc Agg := ⟨7, fun a => [.int .i64 a.From, .int .i64 a.Count, .int .i64 a.Sum, .int .i64 a.Min, .int .i64 a.Max, .int .i64 a.First, .int .i64 a.Last], fun _ => rfl, by decide,
  fun _ u hu => by simp at hu; rcases hu with rfl | rfl | rfl | rfl | rfl | rfl | rfl <;> rfl⟩
def sampleV (s : Sample) : Value := .agg #[.int .i64 s.T, .int .i64 s.V]
def aggV (a : Agg) : Value := .agg #[.int .i64 a.From, .int .i64 a.Count, .int .i64 a.Sum, .int .i64 a.Min, .int .i64 a.Max, .int .i64 a.First, .int .i64 a.Last]
abbrev i64R (n : Int) : Prop := -9223372036854775808 ≤ n ∧ n ≤ 9223372036854775807
abbrev Sample.ok (s : Sample) : Prop := i64R s.T ∧ i64R s.V
abbrev Agg.ok (a : Agg) : Prop := i64R a.From ∧ i64R a.Count ∧ i64R a.Sum ∧ i64R a.Min ∧ i64R a.Max ∧ i64R a.First ∧ i64R a.Last
theorem i64R_of {n : Int} (h : IntKind.i64.min ≤ n ∧ n ≤ IntKind.i64.max) : i64R n := by
  have h1 : IntKind.i64.min = -9223372036854775808 := by decide
  have h2 : IntKind.i64.max = 9223372036854775807 := by decide
  rw [h1, h2] at h; exact h
section
variable {P : Program}
theorem opens_samp {t : TypeId} {fs : Array Field} (ht : P.underlying t = some (.struct fs)) (hf : IntFields P 0 [.i64, .i64] fs.toList) (hC : P.cellsOf t = 2) : Opens P t sampE Sample.ok := by
  intro H enc w base spare held fuel cs x h
  have := int_cells ht hf hC h
  obtain ⟨n0, c0, rfl, hn0, h0⟩ := this.cons
  obtain ⟨n1, c1, rfl, hn1, h1⟩ := h0.cons
  obtain rfl := h1.nil
  exact ⟨⟨n0, n1⟩, rfl, i64R_of hn0, i64R_of hn1⟩
theorem opens_agg {t : TypeId} {fs : Array Field} (ht : P.underlying t = some (.struct fs)) (hf : IntFields P 0 [.i64, .i64, .i64, .i64, .i64, .i64, .i64] fs.toList) (hC : P.cellsOf t = 7) : Opens P t aggE Agg.ok := by
  intro H enc w base spare held fuel cs x h
  have := int_cells ht hf hC h
  obtain ⟨n0, c0, rfl, hn0, h0⟩ := this.cons
  obtain ⟨n1, c1, rfl, hn1, h1⟩ := h0.cons
  obtain ⟨n2, c2, rfl, hn2, h2⟩ := h1.cons
  obtain ⟨n3, c3, rfl, hn3, h3⟩ := h2.cons
  obtain ⟨n4, c4, rfl, hn4, h4⟩ := h3.cons
  obtain ⟨n5, c5, rfl, hn5, h5⟩ := h4.cons
  obtain ⟨n6, c6, rfl, hn6, h6⟩ := h5.cons
  obtain rfl := h6.nil
  exact ⟨⟨n0, n1, n2, n3, n4, n5, n6⟩, rfl, i64R_of hn0, i64R_of hn1, i64R_of hn2, i64R_of hn3, i64R_of hn4, i64R_of hn5, i64R_of hn6⟩
theorem open_rec {α : Type} {E : Enc α} {wf : α → Prop} {T : TypeId} {fs : Array Field} {v : Value} {H : Type} {enc : TypeId × Value → H} {w : World} {base : Nat} {spare : Nat → Bool} {held : Bool} {d : DataW H} {ps : List MemPlace} {r : Reach} {b0 : Nat} (ho : Opens P T E wf) (hT : P.underlying T = some (.struct fs))
    (hv : Value.okWide P w r b0 T v) (h : DataW.Trod enc P w base spare held T v d ps) : ∃ x, v = .agg (E.enc x).toArray ∧ wf x := by
  obtain ⟨cs, rfl, _⟩ := okWide_struct hT hv
  obtain ⟨fuel, hf⟩ := h
  obtain ⟨y, e, hw⟩ := ho H enc w base spare held fuel _ _ hf
  refine ⟨y, ?_, hw⟩
  congr 1
  exact Array.toList_inj.1 e
theorem eq_samp (d : Nat) {t : TypeId} {fs : Array Field} (ht : P.underlying t = some (.struct fs)) (hf : IntFields P 0 [.i64, .i64] fs.toList) (hp : P.stoodInHeld t = false) (a b : Sample) (w : World) :
    (Op.equalIn (d + 1 + 1) t (.agg #[.int .i64 a.T, .int .i64 a.V]) (.agg #[.int .i64 b.T, .int .i64 b.V])).run P w = .ok (decide (a = b)) w := by
  refine (run_equalIn_agg w (d + 1) t _ _ (by rw [fieldsOf_eq ht]; exact ht) hp).trans ?_
  rewrite [fieldsOf_eq ht]
  refine (eqFields_ints [.i64, .i64] _ 0 d _ _ [a.T, a.V] [b.T, b.V] hf rfl rfl
    (fun i h h1 => by match i, h with | 0, _ => rfl | 1, _ => rfl) (fun i h h1 => by match i, h with | 0, _ => rfl | 1, _ => rfl)).trans ?_
  congr 1
  rw [decide_eq_decide]
  cases a; cases b; simp
theorem eq_agg (d : Nat) {t : TypeId} {fs : Array Field} (ht : P.underlying t = some (.struct fs)) (hf : IntFields P 0 [.i64, .i64, .i64, .i64, .i64, .i64, .i64] fs.toList) (hp : P.stoodInHeld t = false) (a b : Agg) (w : World) :
    (Op.equalIn (d + 1 + 1) t (.agg #[.int .i64 a.From, .int .i64 a.Count, .int .i64 a.Sum, .int .i64 a.Min, .int .i64 a.Max, .int .i64 a.First, .int .i64 a.Last]) (.agg #[.int .i64 b.From, .int .i64 b.Count, .int .i64 b.Sum, .int .i64 b.Min, .int .i64 b.Max, .int .i64 b.First, .int .i64 b.Last])).run P w = .ok (decide (a = b)) w := by
  refine (run_equalIn_agg w (d + 1) t _ _ (by rw [fieldsOf_eq ht]; exact ht) hp).trans ?_
  rewrite [fieldsOf_eq ht]
  refine (eqFields_ints [.i64, .i64, .i64, .i64, .i64, .i64, .i64] _ 0 d _ _ [a.From, a.Count, a.Sum, a.Min, a.Max, a.First, a.Last] [b.From, b.Count, b.Sum, b.Min, b.Max, b.First, b.Last] hf rfl rfl
    (fun i h h1 => by match i, h with | 0, _ => rfl | 1, _ => rfl | 2, _ => rfl | 3, _ => rfl | 4, _ => rfl | 5, _ => rfl | 6, _ => rfl) (fun i h h1 => by match i, h with | 0, _ => rfl | 1, _ => rfl | 2, _ => rfl | 3, _ => rfl | 4, _ => rfl | 5, _ => rfl | 6, _ => rfl)).trans ?_
  congr 1
  rw [decide_eq_decide]
  cases a; cases b; simp
end
end Go.Proofs.Ythanfecefjfbjaa
