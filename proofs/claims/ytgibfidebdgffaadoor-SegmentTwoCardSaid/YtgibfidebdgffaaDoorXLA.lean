/- The library of this proof, part 1: The walk by an environment that is a function: small rules, one for each kind of step, over any program. Memory words and one rule for each kind of operation, over any program. One rule for each kind of operation, over any program. Rules for operations that make or write memory, and for texts. A region that draws its order: one obligation an operation, whatever the order. New rows: literals; and small laws on numbers. From a row's reading of its arguments to the words of the walks, and back. Opening a slice argument, with what it weighs. Numbers as bytes, on lists of bytes. Laws of numbers as bytes. Structs of numbers: how they read, how two are compared, and results that stand in cells. What samples come to: in plain numbers. What samples come to: bounds, order. A region that draws its order and writes: one obligation an operation, told what is done. Windows: in plain numbers and lists. The reference's ways to the same windows: by place. Checksums, on lists of bytes. Calls that turn what their caller has; more rules: closures, texts cut, new slices. Frames, on lists of bytes. What is read of a frame's bytes, step by step. Blocks of samples, on lists of bytes. What the laws of blocks need. Samples whose times rise, as they are made. Floors of times: in plain numbers. The windows of samples that rise: none fails, and what they hold. Sums over windows, by parts. Windows of rising samples, where they are made, are aligned. A struct with slices as a row reads it. Guards that stan -/
import Derived.WalkKit
import Derived.WalkSpells
import Derived.WalkLawsBesides
import Derived.Scope
import Derived.Orders
import Derived.Deep.AppendLies
import Derived.Maps.AppendAt
import Derived.Laws.StructEq
import Derived.Lib.MinMax
import Derived.Laws.BitsLemmas
import Derived.Laws.Bits64
import Derived.ProofKit
import Derived.Deep.Slices
import Derived.ChangeSame
import Derived.SizedLaws
import Derived.Below
import Derived.Lib.ConvBytes
import Derived.Laws.MakeOwn
section
namespace Go.Proofs.YtgibfidebdgffaaDoor
open Go.RowKit

abbrev Env := Nat → Value

def upd (ρ : Env) (k : Nat) (v : Value) : Env := fun i => bif Nat.beq i k then v else ρ i
def updO (ρ : Env) : Option Nat → Value → Env
  | none, _ => ρ
  | some k, v => upd ρ k v
def evE (ρ : Env) : Operand → Value
  | .tmp t => ρ t
  | .const v => v
  | .global g => .pointer (some ⟨g, 0, none⟩)
  | .func f => .func (.func f) #[] #[]

theorem upd_same (ρ : Env) (k : Nat) (v : Value) : upd ρ k v k = v := by simp [upd]
theorem upd_other (ρ : Env) {k i : Nat} (v : Value) (h : i ≠ k) : upd ρ k v i = ρ i := by
  have : Nat.beq i k = false := by rw [← Bool.not_eq_true]; simpa using h
  simp [upd, this]
structure At (a : Act) (n : Nat) (ρ : Env) : Prop where
  size : a.tmps.size = n
  defers : a.defers = []
  get : ∀ k, a.tmps.getD k undef = ρ k

theorem At.ev {a : Act} {n : Nat} {ρ : Env} (h : At a n ρ) : a.eval = evE ρ := by
  funext x
  cases x with
  | tmp t => exact h.get t
  | _ => rfl
theorem At.put {a : Act} {n : Nat} {ρ : Env} (h : At a n ρ) {d : Option Nat} (hd : d.all (· < n) = true) (v : Value) : At (a.put d v) n (updO ρ d v) := by
  cases d with
  | none => exact h
  | some k =>
    have hk : k < a.tmps.size := by rw [h.size]; simpa using hd
    refine ⟨by simp [Act.put, h.size], h.defers, fun i => ?_⟩
    have := h.get i
    simp only [Act.put, updO, Array.getD_eq_getD_getElem?] at this ⊢
    by_cases e : i = k
    · subst e; rw [upd_same, Array.getElem?_setIfInBounds_self_of_lt hk]; rfl
    · rw [upd_other _ _ e, Array.getElem?_setIfInBounds_ne (Ne.symm e)]; exact this

def opUpon (P : Program) (K : Value → World → Prop) : Result Next → Prop
  | .ok (.value v) w' => K v w'
  | .ok .skip w' => K undef w'
  | .ok (.enter f args) w' => Calls P f args w' fun
      | .returned v, w'' => K v w''
      | _, _ => False
  | _ => False
def opE (P : Program) (o : Oper) (ρ : Env) (w : World) (K : Value → World → Prop) : Prop := opUpon P K ((execOp (evE ρ) o).run P w)

theorem opUpon_mono {P : Program} {K K' : Value → World → Prop} (h : ∀ v w, K v w → K' v w) : ∀ r, opUpon P K r → opUpon P K' r
  | .ok (.value v) w', hk => h _ _ hk
  | .ok .skip w', hk => h _ _ hk
  | .ok (.enter f args) w', hk => Calls.mono hk fun e w'' he => by
      cases e with
      | returned v => exact h _ _ he
      | _ => exact he
theorem opE_mono {P : Program} {o : Oper} {ρ : Env} {w : World} {K K' : Value → World → Prop} (h : ∀ v w, K v w → K' v w) (hk : opE P o ρ w K) : opE P o ρ w K' := opUpon_mono h _ hk

theorem opE_wp {P : Program} {o : Oper} {a : Act} {n : Nat} {ρ : Env} {w : World} {K : Value → World → Prop} {next : Act → World → Prop} {Q : Exit → Act → World → Prop}
    (ha : At a n ρ) (h : opE P o ρ w K) (hn : ∀ v w', K v w' → next (a.put o.dst v) w') : o.wp P a w next Q := by
  unfold Oper.wp
  unfold opE at h
  rw [ha.ev]
  generalize (execOp (evE ρ) o).run P w = r at h
  cases r with
  | halt x w' => exact h.elim
  | ok x w' =>
    cases x with
    | value v => exact hn _ _ h
    | skip => exact hn _ _ h
    | enter f args =>
      refine Calls.mono (P := P) h fun e w'' he => ?_
      cases e with
      | returned v => exact hn _ _ he
      | _ => exact he.elim
    | _ => exact h.elim

def dstOf (ops : Array Oper) (j : Nat) : Option Nat := (ops[j]?).bind (·.dst)
def guardE (ops : Array Oper) (ρ : Env) (o : Oper) : Bool :=
  match o.guard with
  | none => true
  | some (j, want) => match dstOf ops j with
    | some d => (match ρ d with | .bool b => b == want | _ => false)
    | none => false
theorem guardE_wanted {ops : Array Oper} {a : Act} {n : Nat} {ρ : Env} (ha : At a n ρ) (hd : ops.all (fun o => o.dst.all (· < n)) = true) (o : Oper) :
    Region.wanted o (yielded ops a.tmps) = guardE ops ρ o := by
  unfold Region.wanted guardE
  cases hg : o.guard with
  | none => rfl
  | some p =>
    obtain ⟨j, want⟩ := p
    simp only [dstOf, yielded]
    cases hj : (ops[j]?).bind (·.dst) with
    | none => simp
    | some d =>
      simp only [Option.bind_some]
      have hdn : d < n := by
        cases ho : ops[j]? with
        | none => rw [ho] at hj; cases hj
        | some o' =>
          rw [ho] at hj
          simp only [Option.bind_some] at hj
          have hm : o' ∈ ops := Array.mem_of_getElem? ho
          have := Array.all_eq_true'.1 hd o' hm
          rw [hj] at this
          simpa using this
      have hs : d < a.tmps.size := by rw [ha.size]; exact hdn
      have hget := ha.get d
      rw [Array.getD_eq_getD_getElem?, Array.getElem?_eq_getElem hs] at hget
      simp only [Option.getD_some] at hget
      rw [Array.getElem?_eq_getElem hs, hget]
      cases ρ d <;> simp

def seqE (P : Program) (ops : Array Oper) : List Oper → Env → World → (Env → World → Prop) → Prop
  | [], ρ, w, K => K ρ w
  | o :: l, ρ, w, K => if guardE ops ρ o then opE P o ρ w (fun v w' => seqE P ops l (updO ρ o.dst v) w' K) else seqE P ops l (updO ρ o.dst undef) w K

theorem seqE_wp {P : Program} {ops : Array Oper} {n : Nat} {Q : Exit → Act → World → Prop} {K : Env → World → Prop} (hd : ops.all (fun o => o.dst.all (· < n)) = true)
    (hK : ∀ a ρ w, At a n ρ → K ρ w → Q .normal a w) : ∀ (l : List Oper), (∀ o ∈ l, o ∈ ops) → ∀ (a : Act) (ρ : Env) (w : World), At a n ρ → seqE P ops l ρ w K → wpList P ops Q l a w
  | [], _, a, ρ, w, ha, h => hK a ρ w ha h
  | o :: l, hl, a, ρ, w, ha, h => by
    have hod : o.dst.all (· < n) = true := Array.all_eq_true'.1 hd o (hl o (by simp))
    unfold wpList
    unfold seqE at h
    rw [guardE_wanted ha hd o]
    split
    · rename_i hg
      rw [if_pos hg] at h
      exact .inl (opE_wp ha h fun v w' hv => seqE_wp hd hK l (fun x hx => hl x (by simp [hx])) _ _ _ (ha.put hod v) hv)
    · rename_i hg
      rw [if_neg hg] at h
      exact seqE_wp hd hK l (fun x hx => hl x (by simp [hx])) _ _ _ (ha.put hod undef) h

def cE (P : Program) (n : Nat) (c : Code) (Q : Exit → Env → World → Prop) (ρ : Env) (w : World) : Prop :=
  ∀ a, At a n ρ → c.wp P (fun e a' w' => ∃ ρ', At a' n ρ' ∧ Q e ρ' w') a w

section
variable {P : Program} {n : Nat} {Q : Exit → Env → World → Prop} {ρ : Env} {w : World}
def thenE (next : Env → World → Prop) (Q : Exit → Env → World → Prop) : Exit → Env → World → Prop
  | .normal, ρ, w => next ρ w
  | e, ρ, w => Q e ρ w
def blockE (id : Nat) (Q : Exit → Env → World → Prop) : Exit → Env → World → Prop
  | .exit id', ρ, w => if id' = id then Q .normal ρ w else Q (.exit id') ρ w
  | e, ρ, w => Q e ρ w
def scopeE (Q : Exit → Env → World → Prop) : Exit → Env → World → Prop
  | .goto _, _, _ => False
  | e, ρ, w => Q e ρ w
theorem cE_skip (h : Q .normal ρ w) : cE P n .skip Q ρ w := fun _ ha => wp_skip ⟨ρ, ha, h⟩
theorem cE_label {l : Nat} (h : Q .normal ρ w) : cE P n (.label l) Q ρ w := fun _ ha => wp_label ⟨ρ, ha, h⟩
theorem cE_ret (h : Q .ret ρ w) : cE P n .ret Q ρ w := fun _ ha => wp_ret ⟨ρ, ha, h⟩
theorem cE_exit {id : Nat} (h : Q (.exit id) ρ w) : cE P n (.exit id) Q ρ w := fun _ ha => wp_exit ⟨ρ, ha, h⟩
theorem cE_seq {x y : Code} (h : cE P n x (thenE (cE P n y Q) Q) ρ w) : cE P n (.seq x y) Q ρ w := fun a ha =>
  wp_seq (wp_mono (h a ha) fun e a' w' ⟨ρ', h1, h2⟩ => by
    cases e with
    | normal => exact h2 a' h1
    | _ => exact ⟨ρ', h1, h2⟩)
theorem cE_cond {c : Operand} {x y : Code} (b : Bool) (hc : evE ρ c = .bool b) (ht : b = true → cE P n x Q ρ w) (hf : b = false → cE P n y Q ρ w) : cE P n (.cond c x y) Q ρ w := fun a ha =>
  wp_cond_split (t := b) (by rw [ha.ev]; exact hc) (fun e => ht e a ha) (fun e => hf e a ha)
theorem cE_block {id : Nat} {c : Code} (h : cE P n c (blockE id Q) ρ w) : cE P n (.block id c) Q ρ w := fun a ha =>
  wp_block (wp_mono (h a ha) fun e a' w' ⟨ρ', h1, h2⟩ => by
    cases e with
    | exit id' =>
      simp only [blockE, Exit.inBlock] at h2 ⊢
      split
      · rename_i e; rw [if_pos e] at h2; exact ⟨ρ', h1, h2⟩
      · rename_i e; rw [if_neg e] at h2; exact ⟨ρ', h1, h2⟩
    | _ => exact ⟨ρ', h1, h2⟩)
theorem cE_scope {c : Code} (h : cE P n c (scopeE Q) ρ w) : cE P n (.scope c) Q ρ w := fun a ha =>
  wp_scope_straight (wp_mono (h a ha) fun e a' w' ⟨ρ', h1, h2⟩ => by
    cases e with
    | goto l => exact h2.elim
    | _ => exact ⟨ρ', h1, h2⟩)
theorem cE_loop {c : Code} {G : Type} (I : G → Env → World → Prop) (μ : G → Nat) (g : G) (h0 : I g ρ w)
    (round : ∀ g ρ w, I g ρ w → cE P n c (thenE (fun ρ' w' => ∃ g', I g' ρ' w' ∧ μ g' < μ g) Q) ρ w) : cE P n (.loop c) Q ρ w := by
  intro a ha b k cs
  have key : ∀ (m : Nat) (g : G) (a : Act) (ρ : Env) (w : World), μ g = m → At a n ρ → I g ρ w →
      ∃ e a' w', (∃ ρ', At a' n ρ' ∧ Q e ρ' w') ∧ Arrives P (lone (b.at a (.code c :: .inLoop c :: k)) cs w) b k cs e a' w' := by
    intro m
    induction m using Nat.strongRecOn with
    | _ m ih =>
      intro g a ρ w hm ha hI
      obtain ⟨e, a₁, w₁, ⟨ρ₁, h1, h2⟩, harr⟩ := round g ρ w hI a ha b (.inLoop c :: k) cs
      cases e with
      | normal =>
        obtain ⟨g', hI', hlt⟩ := h2
        obtain ⟨e₂, a₂, w₂, hq₂, harr₂⟩ := ih (μ g') (hm ▸ hlt) g' a₁ ρ₁ w₁ rfl h1 hI'
        exact ⟨e₂, a₂, w₂, hq₂, .of_steps (Steps.trans harr (.one step_inLoop)) harr₂⟩
      | exit id => exact ⟨_, a₁, w₁, ⟨ρ₁, h1, h2⟩, .pass (x := .inLoop c) rfl (fun _ _ => .inl (by simp)) harr⟩
      | goto l => exact ⟨_, a₁, w₁, ⟨ρ₁, h1, h2⟩, .pass (x := .inLoop c) rfl (fun _ _ => .inl (by simp)) harr⟩
      | ret => exact ⟨_, a₁, w₁, ⟨ρ₁, h1, h2⟩, .pass (x := .inLoop c) rfl (fun _ _ => .inl (by simp)) harr⟩
      | panic ch => exact ⟨_, a₁, w₁, ⟨ρ₁, h1, h2⟩, .pass (x := .inLoop c) rfl (fun _ _ => .inl (by simp)) harr⟩
      | outgrown => exact ⟨_, a₁, w₁, ⟨ρ₁, h1, h2⟩, .pass (x := .inLoop c) rfl (fun _ _ => .inl (by simp)) harr⟩
  obtain ⟨e, a', w', hq, harr⟩ := key _ g a ρ w rfl ha h0
  exact ⟨e, a', w', hq, .of_steps (.one step_loop) harr⟩
def dstOk (n : Nat) : List Oper → Bool
  | [] => true
  | o :: l => (match o.dst with | some d => Nat.blt d n | none => true) && dstOk n l
theorem dstOk_all : ∀ {l : List Oper}, dstOk n l = true → l.toArray.all (fun o => o.dst.all (· < n)) = true := by
  intro l
  induction l with
  | nil => intro _; simp
  | cons o l ih =>
    intro h
    simp only [dstOk, Bool.and_eq_true] at h
    have h2 := ih h.2
    simp only [List.all_toArray, List.all_cons, Bool.and_eq_true] at h2 ⊢
    refine ⟨?_, h2⟩
    cases hd : o.dst with
    | none => rfl
    | some d => rw [hd] at h; simpa [Nat.blt_eq] using h.1
theorem cE_region {id : Nat} {l : List Oper} (hd : dstOk n l = true) (h : seqE P l.toArray l ρ w (Q .normal)) : cE P n (.region id l.toArray false) Q ρ w :=
  fun a ha => wp_region_list (seqE_wp (dstOk_all hd) (fun a ρ w ha hk => ⟨ρ, ha, hk⟩) l.toArray.toList (fun o ho => by simpa using ho) a ρ w ha (by simpa using h))
/-! How an exit goes on. -/
theorem then_n {next : Env → World → Prop} (h : next ρ w) : thenE next Q .normal ρ w := h
theorem then_x {next : Env → World → Prop} {id : Nat} (h : Q (.exit id) ρ w) : thenE next Q (.exit id) ρ w := h
theorem then_r {next : Env → World → Prop} (h : Q .ret ρ w) : thenE next Q .ret ρ w := h
theorem block_n {id : Nat} (h : Q .normal ρ w) : blockE id Q .normal ρ w := h
theorem block_r {id : Nat} (h : Q .ret ρ w) : blockE id Q .ret ρ w := h
theorem block_hit {id : Nat} (h : Q .normal ρ w) : blockE id Q (.exit id) ρ w := by
  show (if id = id then Q .normal ρ w else Q (.exit id) ρ w)
  rw [if_pos rfl]; exact h
theorem block_miss {id id' : Nat} (hne : id' ≠ id) (h : Q (.exit id') ρ w) : blockE id Q (.exit id') ρ w := by
  show (if id' = id then Q .normal ρ w else Q (.exit id') ρ w)
  rw [if_neg hne]; exact h
theorem scope_r (h : Q .ret ρ w) : scopeE Q .ret ρ w := h
theorem scope_x {id : Nat} (h : Q (.exit id) ρ w) : scopeE Q (.exit id) ρ w := h
end

def resV (ρ : Env) : List Nat → Value
  | [t] => ρ t
  | l => .tuple (l.map ρ).toArray
def postE (ts : List Nat) (R : Ending → World → Prop) : Exit → Env → World → Prop
  | .normal, ρ, w | .ret, ρ, w => R (.returned (resV ρ ts)) w
  | _, _, _ => False

theorem post_r {ρ : Env} {w : World} {ts : List Nat} {R : Ending → World → Prop} (v : Value) (hv : resV ρ ts = v) (h : R (.returned v) w) : postE ts R .ret ρ w := by subst hv; exact h
theorem post_n {ρ : Env} {w : World} {ts : List Nat} {R : Ending → World → Prop} (v : Value) (hv : resV ρ ts = v) (h : R (.returned v) w) : postE ts R .normal ρ w := by subst hv; exact h
theorem res1 {ρ : Env} {t : Nat} {v : Value} (h : ρ t = v) : resV ρ [t] = v := h
theorem res2 {ρ : Env} {t u : Nat} {v x : Value} (h : ρ t = v) (h2 : ρ u = x) : resV ρ [t, u] = .tuple #[v, x] := by simp [resV, h, h2]
theorem res3 {ρ : Env} {t u s : Nat} {v x y : Value} (h : ρ t = v) (h2 : ρ u = x) (h3 : ρ s = y) : resV ρ [t, u, s] = .tuple #[v, x, y] := by simp [resV, h, h2, h3]
theorem run_results {fn : Func} {ts : List Nat} {ρ : Env} (h : fn.results = (ts.map ResultVar.tmp).toArray) (tmps : Array Value) (P : Program) (w : World) (hρ : ∀ k, tmps.getD k undef = ρ k) :
    (results fn tmps).run P w = .ok (resV ρ ts) w := by
  have hm : ∀ (f : ResultVar → Sem Value), (∀ t, (f (.tmp t)).run P w = .ok (ρ t) w) → ∀ (l : List Nat), ((l.map ResultVar.tmp).mapM f).run P w = .ok (l.map ρ) w := by
    intro f hf l
    induction l with
    | nil => rfl
    | cons t l ih =>
      rw [List.map_cons, List.mapM_cons]
      simp only [Sem.run_bind, Sem.run_pure, ih, hf, Result.andThen_ok, List.map_cons]
  unfold results
  rw [h, List.mapM_toArray]
  simp only [Sem.run_bind, Sem.run_map]
  rw [hm _ (fun t => by simp only [Sem.run_pure, hρ]) ts]
  simp only [Result.andThen_ok, Sem.run_pure]
  cases ts with
  | nil => rfl
  | cons t l => cases l with
    | nil => rfl
    | cons u l => simp [resV]

theorem calls_E {P : Program} {f : FuncId} {fn : Func} {c : Code} {args : Array Value} {w : World} {R : Ending → World → Prop} {n : Nat} {ts : List Nat}
    (hf : P.funcs[f]? = some fn) (hb : fn.body = some c) (hn : fn.ntmps = n) (hr : fn.results = (ts.map ResultVar.tmp).toArray) (hs : args.size ≤ n)
    (h : cE P n c (postE ts R) (fun k => args.getD k undef) w) : Calls P f args w R := by
  refine calls_of_wp hf hb (wp_mono (h _ ⟨by simp; omega, rfl, fun k => ?_⟩) fun e a' w' ⟨ρ', h1, h2⟩ => ?_)
  · simp only [Array.getD_eq_getD_getElem?, Array.getElem?_append]
    split
    · rfl
    · rename_i hk
      rw [Array.getElem?_eq_none (xs := args) (by omega), Array.getElem?_replicate]
      split <;> rfl
  · have hres := run_results hr a'.tmps P w' h1.get
    cases e with
    | normal => exact ⟨h1.defers, _, hres, h2⟩
    | ret => exact ⟨h1.defers, _, hres, h2⟩
    | _ => exact h2.elim

end Go.Proofs.YtgibfidebdgffaaDoor
end
section
namespace Go.Proofs.YtgibfidebdgffaaDoor
open Go.RowKit

/-! ### Readings -/
structure Enc (α : Type) where
  size : Nat
  enc : α → List Value
  len : ∀ x, (enc x).length = size
  pos : 0 < size
  one : ∀ x, ∀ u ∈ enc x, u.oneCell' = true

def Pt (w : World) (b off : Nat) (cs : List Value) : Prop := ∀ j u, cs[j]? = some u → w.cell? ⟨b, off + j, none⟩ = some u
def Sl {α : Type} (w : World) (E : Enc α) (v : Value) (xs : List α) : Prop :=
  ∃ A c, v = .slice A xs.length c ∧ xs.length ≤ c ∧ c ≤ maxLen ∧ (xs ≠ [] → ∃ b off, A = some ⟨b, off, none⟩ ∧ ∀ i x, xs[i]? = some x → Pt w b (off + i * E.size) (E.enc x))

theorem lt_of_cell {w : World} {a : Addr} {v : Value} (h : w.cell? a = some v) : a.block < w.heap.size := World.block_lt_of_cell? w a h

theorem Pt.below {w w' : World} {b off : Nat} {cs : List Value} (h : Pt w b off cs) (hb : Below w.heap.size w w') : Pt w' b off cs := fun j u hu => by
  have := h j u hu
  rw [hb.cell (lt_of_cell this)]; exact this
theorem Pt.drop {w : World} {b off : Nat} {cs : List Value} (h : Pt w b off cs) (k : Nat) : Pt w b (off + k) (cs.drop k) := fun j u hu => by
  rw [List.getElem?_drop] at hu
  rw [Nat.add_assoc]; exact h _ u hu
theorem Pt.pre {w : World} {b off : Nat} {cs ds : List Value} (h : Pt w b off (cs ++ ds)) : Pt w b off cs := fun j u hu => h j u (by
  rw [List.getElem?_append_left (List.getElem?_eq_some_iff.1 hu).1]; exact hu)
theorem Sl.below {α : Type} {E : Enc α} {w w' : World} {v : Value} {xs : List α} (h : Sl w E v xs) (hb : Below w.heap.size w w') : Sl w' E v xs := by
  obtain ⟨A, c, h1, h2, h3, h4⟩ := h
  refine ⟨A, c, h1, h2, h3, fun hne => ?_⟩
  obtain ⟨b, off, ha, hp⟩ := h4 hne
  exact ⟨b, off, ha, fun i x hx => (hp i x hx).below hb⟩
theorem Sl.nil {α : Type} (E : Enc α) (w : World) : Sl w E (.slice none 0 0) [] := ⟨none, 0, rfl, Nat.le_refl _, Nat.zero_le _, fun h => absurd rfl h⟩
theorem Sl.len {α : Type} {E : Enc α} {w : World} {v : Value} {xs : List α} (h : Sl w E v xs) : xs.length ≤ 9223372036854775807 := by
  obtain ⟨_, _, _, h2, h3, _⟩ := h
  unfold maxLen at h3; omega
theorem Sl.drop {α : Type} {E : Enc α} {w : World} {A : Option Addr} {c : Nat} {xs : List α} (h : Sl w E (.slice A xs.length c) xs) (k : Nat) (hk : k ≤ xs.length) :
    Sl w E (.slice (if c = k then A else A.map (·.add (k * E.size))) (xs.length - k) (c - k)) (xs.drop k) := by
  obtain ⟨A', c', h1, h2, h3, h4⟩ := h
  injection h1 with e1 e2 e3
  subst e1 e3
  refine ⟨_, c - k, by rw [List.length_drop], by rw [List.length_drop]; omega, by omega, fun hne => ?_⟩
  have hlt : k < xs.length := by
    rcases Nat.lt_or_ge k xs.length with h | h
    · exact h
    · exact absurd (List.drop_eq_nil_of_le h) hne
  obtain ⟨b, off, ha, hp⟩ := h4 (by intro e; subst e; simp at hlt)
  subst ha
  rw [if_neg (by omega)]
  refine ⟨b, off + k * E.size, ?_, fun i x hx => ?_⟩
  · simp [Addr.add_lit]
  · rw [List.getElem?_drop] at hx
    have := hp _ x hx
    rw [Nat.add_mul, ← Nat.add_assoc] at this
    exact this
theorem Sl.take {α : Type} {E : Enc α} {w : World} {A : Option Addr} {c : Nat} {xs : List α} (h : Sl w E (.slice A xs.length c) xs) (k m : Nat) (hk : k ≤ xs.length) (hm : k ≤ m) (hmc : m ≤ c) :
    Sl w E (.slice A k m) (xs.take k) := by
  obtain ⟨A', c', h1, h2, h3, h4⟩ := h
  injection h1 with e1 e2 e3
  subst e1 e3
  refine ⟨A, m, by rw [List.length_take, Nat.min_eq_left hk], by rw [List.length_take]; omega, by omega, fun hne => ?_⟩
  obtain ⟨b, off, ha, hp⟩ := h4 (by intro e; subst e; simp at hne)
  refine ⟨b, off, ha, fun i x hx => hp i x ?_⟩
  rw [List.getElem?_take] at hx
  split at hx
  · exact hx
  · cases hx

/-! ### What the call itself made -/
inductive Item where
  | row (T size : Nat) (v : Value) (n : Nat) (cs : List Value)
  | blk (g T : Nat) (cs : Array Value)
  | rd (g T : Nat) (cs : Array Value) (fr : Nat × Nat)
  | txt (T size : Nat) (v : Value) (n : Nat) (cs : List Value)
  | obj (g : Nat) (o : Obj)
def Item.block : Item → Option Nat
  | .row _ _ v _ _ => v.ownBlock
  | .blk g _ _ => some g
  | .rd g _ _ _ => some g
  | .txt _ _ v _ _ => v.ownBlock
  | .obj g _ => some g
def Item.holds (base : Nat) (w : World) : Item → Prop
  | .row T size v n cs => w.ownsRow base T size v n cs
  | .blk g T cs => base ≤ g ∧ w.heap[g]? = some (.cells cs T (0, 0))
  | .rd g T cs fr => base ≤ g ∧ w.heap[g]? = some (.cells cs T fr)
  | .txt T size v n cs => (v = .slice none 0 0 ∧ n = 0 ∧ cs = []) ∨ ∃ g cap cur fr, v = .slice (some ⟨g, 0, none⟩) n cap ∧ base ≤ g ∧ w.heap[g]? = some (.cells cur T fr) ∧ n ≤ cap ∧ cap ≤ maxLen ∧ cur.toList.take (n * size) = cs
  | .obj g o => base ≤ g ∧ w.heap[g]? = some o
abbrev rowT {α : Type} (T : Nat) (E : Enc α) (v : Value) (xs : List α) : Item := .row T E.size v xs.length (xs.flatMap E.enc)

theorem Item.lt {base : Nat} {w : World} {i : Item} (h : i.holds base w) : ∀ k, i.block = some k → base ≤ k ∧ k < w.heap.size := by
  intro k hk
  cases i with
  | row T size v n cs => exact World.ownsRow.lt h k hk
  | blk g T cs =>
    simp only [Item.block, Option.some.injEq] at hk
    subst hk
    exact ⟨h.1, (Array.getElem?_eq_some_iff.1 h.2).1⟩
  | rd g T cs fr =>
    simp only [Item.block, Option.some.injEq] at hk
    subst hk
    exact ⟨h.1, (Array.getElem?_eq_some_iff.1 h.2).1⟩
  | txt T size v n cs =>
    rcases h with ⟨rfl, _⟩ | ⟨g, cap, cur, fr, rfl, h1, h2, _⟩
    · cases hk
    simp only [Item.block, Value.ownBlock, Option.some.injEq] at hk
    subst hk
    exact ⟨h1, (Array.getElem?_eq_some_iff.1 h2).1⟩
  | obj g o =>
    simp only [Item.block, Option.some.injEq] at hk
    subst hk
    exact ⟨h.1, (Array.getElem?_eq_some_iff.1 h.2).1⟩
theorem Item.kept {base : Nat} {w w' : World} {i : Item} (h : i.holds base w) (hk : ∀ k, i.block = some k → w'.heap[k]? = w.heap[k]?) : i.holds base w' := by
  cases i with
  | row T size v n cs =>
    refine ⟨h.1, ?_⟩
    rcases h.2 with hn | ⟨g, cap, cur, rfl, hb, hg, rest⟩
    · exact .inl hn
    · exact .inr ⟨g, cap, cur, rfl, hb, by rw [hk g rfl]; exact hg, rest⟩
  | blk g T cs => exact ⟨h.1, by rw [hk g rfl]; exact h.2⟩
  | rd g T cs fr => exact ⟨h.1, by rw [hk g rfl]; exact h.2⟩
  | txt T size v n cs =>
    rcases h with h | ⟨g, cap, cur, fr, rfl, h1, h2, rest⟩
    · exact .inl h
    · exact .inr ⟨g, cap, cur, fr, rfl, h1, by rw [hk g rfl]; exact h2, rest⟩
  | obj g o => exact ⟨h.1, by rw [hk g rfl]; exact h.2⟩
theorem Item.base {base base' : Nat} {w : World} {i : Item} (h : i.holds base w) (hb : base' ≤ base) : i.holds base' w := by
  cases i with
  | row T size v n cs =>
    refine ⟨h.1, ?_⟩
    rcases h.2 with hn | ⟨g, cap, cur, e, h1, rest⟩
    · exact .inl hn
    · exact .inr ⟨g, cap, cur, e, by omega, rest⟩
  | blk g T cs => exact ⟨Nat.le_trans hb h.1, h.2⟩
  | rd g T cs fr => exact ⟨Nat.le_trans hb h.1, h.2⟩
  | txt T size v n cs =>
    rcases h with h | ⟨g, cap, cur, fr, e, h1, rest⟩
    · exact .inl h
    · exact .inr ⟨g, cap, cur, fr, e, Nat.le_trans hb h1, rest⟩
  | obj g o => exact ⟨Nat.le_trans hb h.1, h.2⟩

def Item.apart (i j : Item) : Prop := ∀ k, i.block = some k → j.block ≠ some k
structure St (w0 w : World) (L : List Item) : Prop where
  below : Below w0.heap.size w0 w
  all : ∀ i ∈ L, i.holds w0.heap.size w
  apart : L.Pairwise Item.apart

section
variable {w0 w w' : World} {L L' : List Item}
theorem St.start (w : World) : St w w [] := ⟨Below.refl _ _, by simp, .nil⟩
theorem St.at (h : St w0 w L) (i : Nat) {it : Item} (hi : L[i]? = some it) : it.holds w0.heap.size w := h.all it (List.mem_of_getElem? hi)
theorem St.sub (h : St w0 w L) (hs : L'.Sublist L) : St w0 w L' := ⟨h.below, fun i hi => h.all i (hs.subset hi), h.apart.sublist hs⟩
theorem St.bare (h : St w0 w L) : St w0 w [] := h.sub (List.nil_sublist _)
theorem St.size (h : St w0 w L) : w0.heap.size ≤ w.heap.size := h.below.size
theorem St.ext (h : St w0 w L) (hb : Below w.heap.size w w') : St w0 w' L :=
  ⟨h.below.trans (hb.mono h.below.size), fun i hi => Item.kept (h.all i hi) fun k hk => hb.block k (Item.lt (h.all i hi) k hk).2, h.apart⟩
theorem St.call (h : St w0 w L) (h' : St w w' L') : St w0 w' (L' ++ L) := by
  have hx := h.ext h'.below
  refine ⟨hx.below, fun i hi => ?_, ?_⟩
  · rcases List.mem_append.1 hi with hi | hi
    · exact Item.base (h'.all i hi) h.size
    · exact hx.all i hi
  · refine List.pairwise_append.2 ⟨h'.apart, h.apart, fun i hi j hj k hk e => ?_⟩
    have h1 := Item.lt (h'.all i hi) k hk
    have h2 := Item.lt (h.all j hj) k e
    omega
theorem St.drewW (h : St w0 w L) : St w0 w.drew L := h.ext (Below.refl _ _).drew
theorem St.new (h : St w0 w L) (T : Nat) (cs : Array Value) : St w0 (w.alloc (.cells cs T)) (.blk w.heap.size T cs :: L) := by
  refine St.call (L' := [.blk w.heap.size T cs]) h ⟨(Below.refl _ _).alloc (Nat.le_refl _) _, fun i hi => ?_, List.pairwise_singleton _ _⟩
  rw [List.mem_singleton] at hi
  subst hi
  exact ⟨Nat.le_refl _, heap_alloc_new w _⟩
theorem St.nilRow {α : Type} (h : St w0 w L) (T : Nat) (E : Enc α) : St w0 w (rowT T E (.slice none 0 0) [] :: L) := by
  refine ⟨h.below, fun i hi => ?_, List.pairwise_cons.2 ⟨fun j _ k hk => (by cases hk), h.apart⟩⟩
  rcases List.mem_cons.1 hi with rfl | hi
  · exact World.ownsRow_nil w _ T E.size
  · exact h.all i hi
theorem St.newRow {α : Type} (h : St w0 w L) (T : Nat) (E : Enc α) (xs : List α) (cur : Array Value) (cap : Nat) (hc : cap ≤ maxLen) (hn : xs.length ≤ cap) (hs : cur.size = cap * E.size) (ht : cur.toList.take (xs.length * E.size) = xs.flatMap E.enc) (hl : (xs.flatMap E.enc).length = xs.length * E.size) :
    St w0 (w.alloc (.cells cur T)) (rowT T E (.slice (some ⟨w.heap.size, 0, none⟩) xs.length cap) xs :: L) := by
  refine St.call (L' := [rowT T E (.slice (some ⟨w.heap.size, 0, none⟩) xs.length cap) xs]) h ⟨(Below.refl _ _).alloc (Nat.le_refl _) _, fun i hi => ?_, List.pairwise_singleton _ _⟩
  rw [List.mem_singleton] at hi
  subst hi
  exact ⟨hl, .inr ⟨w.heap.size, cap, cur, rfl, Nat.le_refl _, heap_alloc_new w _, hn, hc, hs, ht⟩⟩
theorem St.turn (h : St w0 w L) (i : Nat) {it : Item} (hi : L[i]? = some it) (it' : Item) (hg : w.grownBy w' it.block) (hn : it'.holds w0.heap.size w')
    (hb : it'.block = it.block ∨ ∀ k, it'.block = some k → w.heap.size ≤ k) : St w0 w' (L.set i it') := by
  have hit := h.at i hi
  have hlt : i < L.length := (List.getElem?_eq_some_iff.1 hi).1
  have hbel : Below w0.heap.size w0 w' := h.below.grown hg h.size fun k hk => (Item.lt hit k hk).1
  have hap := List.pairwise_iff_getElem.1 h.apart
  have hgi : L[i] = it := (List.getElem?_eq_some_iff.1 hi).2
  have far : ∀ j (hj : j < L.length), j ≠ i → ∀ k, (L[j]).block = some k → it.block ≠ some k := by
    intro j hj hne k hk e
    rcases Nat.lt_or_gt_of_ne hne with h1 | h1
    · exact hap j i hj hlt h1 k hk (by rw [hgi]; exact e)
    · exact hap i j hlt hj h1 k (by rw [hgi]; exact e) hk
  have keep : ∀ j (hj : j < L.length), j ≠ i → (L[j]).holds w0.heap.size w' := fun j hj hne =>
    Item.kept (h.all _ (List.getElem_mem hj)) fun k hk => hg.block k (Item.lt (h.all _ (List.getElem_mem hj)) k hk).2 fun e => far j hj hne k hk e.symm
  have far' : ∀ j (hj : j < L.length), j ≠ i → ∀ k, (L[j]).block = some k → it'.block ≠ some k := by
    intro j hj hne k hk e
    rcases hb with hb | hb
    · exact far j hj hne k hk (hb ▸ e)
    · have := hb k e
      have := (Item.lt (h.all _ (List.getElem_mem hj)) k hk).2
      omega
  refine ⟨hbel, fun x hx => ?_, List.pairwise_iff_getElem.2 fun a b ha hb' hab => ?_⟩
  · obtain ⟨j, hj, e⟩ := List.mem_iff_getElem.1 hx
    rw [List.getElem_set] at e
    split at e
    · subst e; exact hn
    · rename_i hne
      subst e
      exact keep j (by simpa using hj) (Ne.symm hne)
  · simp only [List.length_set] at ha hb'
    rw [List.getElem_set, List.getElem_set]
    intro k hk e
    split at hk <;> split at e
    · omega
    · rename_i h1 h2
      exact far' b hb' (Ne.symm h2) k e hk
    · rename_i h1 h2
      exact far' a ha (Ne.symm h1) k hk e
    · exact hap a b ha hb' hab k hk e
end

theorem Enc.flat {α : Type} (E : Enc α) : ∀ (ys : List α), (ys.flatMap E.enc).length = ys.length * E.size
  | [] => by simp
  | y :: ys => by simp [List.flatMap_cons, E.len, Enc.flat E ys, Nat.add_mul, Nat.add_comm]
theorem Enc.oneAll {α : Type} (E : Enc α) (ys : List α) : ∀ u ∈ ys.flatMap E.enc, u.oneCell' = true := fun u hu => by
  obtain ⟨y, _, h⟩ := List.mem_flatMap.1 hu
  exact E.one y u h
theorem Enc.split {α : Type} (E : Enc α) (xs : List α) (i : Nat) (hi : i < xs.length) : xs.flatMap E.enc = (xs.take i).flatMap E.enc ++ (E.enc xs[i] ++ (xs.drop (i + 1)).flatMap E.enc) := by
  conv => lhs; rw [← List.take_append_drop i xs, List.flatMap_append]
  rw [List.drop_eq_getElem_cons hi, List.flatMap_cons]
theorem Enc.splitLen {α : Type} (E : Enc α) (xs : List α) (i : Nat) (hi : i < xs.length) : ((xs.take i).flatMap E.enc).length = i * E.size := by
  rw [E.flat, List.length_take, Nat.min_eq_left (Nat.le_of_lt hi)]
theorem Sl.flat {α : Type} {E : Enc α} {w : World} {b off : Nat} : ∀ {xs : List α} {o : Nat}, (∀ i x, xs[i]? = some x → Pt w b (off + o + i * E.size) (E.enc x)) → ∀ j u, (xs.flatMap E.enc)[j]? = some u → w.cell? ⟨b, off + o + j, none⟩ = some u
  | [], _, _, j, u, hu => by simp at hu
  | x :: xs, o, h, j, u, hu => by
    rw [List.flatMap_cons] at hu
    by_cases hj : j < (E.enc x).length
    · rw [List.getElem?_append_left hj] at hu
      have := h 0 x rfl j u hu
      simpa using this
    · rw [List.getElem?_append_right (by omega)] at hu
      rw [E.len] at hu hj
      have ih := Sl.flat (E := E) (w := w) (b := b) (off := off) (xs := xs) (o := o + E.size) (fun i y hy => by
        have := h (i + 1) y (by simpa using hy)
        rw [Nat.add_mul, Nat.one_mul] at this
        have e : off + (o + E.size) + i * E.size = off + o + (i * E.size + E.size) := by omega
        rw [e]; exact this) _ _ hu
      have e : off + (o + E.size) + (j - E.size) = off + o + j := by omega
      rw [e] at ih; exact ih
theorem ownsRow_sl {α : Type} {E : Enc α} {w : World} {base T : Nat} {v : Value} {xs : List α} (h : w.ownsRow base T E.size v xs.length (xs.flatMap E.enc)) : Sl w E v xs := by
  rcases h.2 with ⟨rfl, hl⟩ | ⟨g, cap, cur, rfl, hb, hg, hnc, hcm, hcs, htake⟩
  · have : xs = [] := List.eq_nil_of_length_eq_zero hl
    subst this
    exact Sl.nil E w
  · refine ⟨_, cap, rfl, hnc, hcm, fun _ => ⟨g, 0, rfl, fun i x hx j u hu => ?_⟩⟩
    have hi : i < xs.length := (List.getElem?_eq_some_iff.1 hx).1
    have hsplit := E.split xs i hi
    rw [(List.getElem?_eq_some_iff.1 hx).2] at hsplit
    have hj : j < (E.enc x).length := (List.getElem?_eq_some_iff.1 hu).1
    have hlt := E.splitLen xs i hi
    have hget : (xs.flatMap E.enc)[i * E.size + j]? = some u := by
      rw [hsplit, List.getElem?_append_right (by omega), hlt, Nat.add_sub_cancel_left, List.getElem?_append_left hj]
      exact hu
    rw [← htake, List.getElem?_take] at hget
    rw [cell_of_row w g _ cur T (0, 0) hg]
    split at hget
    · simpa using hget
    · cases hget
theorem St.sl {α : Type} {E : Enc α} {w0 w : World} {L : List Item} (h : St w0 w L) (i : Nat) {T : Nat} {v : Value} {xs : List α} (hi : L[i]? = some (rowT T E v xs)) : Sl w E v xs :=
  ownsRow_sl (h.at i hi)
theorem St.cell {w0 w : World} {L : List Item} (h : St w0 w L) (i : Nat) {g T : Nat} {cs : Array Value} (hi : L[i]? = some (.blk g T cs)) : Pt w g 0 cs.toList := fun j u hu => by
  rw [cell_of_row w g _ cs T (0, 0) (h.at i hi).2]
  simpa using hu

end Go.Proofs.YtgibfidebdgffaaDoor
end
section
namespace Go.Proofs.YtgibfidebdgffaaDoor
open Go.RowKit

section
variable {P : Program} {ops : Array Oper} {l : List Oper} {ρ : Env} {w : World} {KR : Env → World → Prop} {K : Value → World → Prop}
variable {dst : Option Tmp} {op : Op} {ty : TypeId} {pos : String} {aft : Array Edge} {g : Option (Nat × Bool)}

/-! ### The operations of a region -/
theorem s_nil (h : KR ρ w) : seqE P ops [] ρ w KR := h
theorem s_cons {d : Tmp} (h : opE P ⟨some d, op, ty, pos, aft, none⟩ ρ w (fun v w' => seqE P ops l (upd ρ d v) w' KR)) : seqE P ops (⟨some d, op, ty, pos, aft, none⟩ :: l) ρ w KR := by
  unfold seqE; exact h
theorem s_cons0 (h : opE P ⟨none, op, ty, pos, aft, none⟩ ρ w (fun _ w' => seqE P ops l ρ w' KR)) : seqE P ops (⟨none, op, ty, pos, aft, none⟩ :: l) ρ w KR := by
  unfold seqE; exact h
theorem guard_yes {j : Nat} {want : Bool} (d : Nat) (hd : dstOf ops j = some d) (hb : ρ d = .bool want) : guardE ops ρ ⟨dst, op, ty, pos, aft, some (j, want)⟩ = true := by
  simp [guardE, hd, hb]
theorem guard_no {j : Nat} {want : Bool} (d : Nat) (hd : dstOf ops j = some d) (hb : ρ d = .bool (!want)) : guardE ops ρ ⟨dst, op, ty, pos, aft, some (j, want)⟩ = false := by
  simp [guardE, hd, hb]
theorem guard_un {j : Nat} {want : Bool} (d : Nat) (hd : dstOf ops j = some d) (hb : ρ d = undef) : guardE ops ρ ⟨dst, op, ty, pos, aft, some (j, want)⟩ = false := by
  simp [guardE, hd, hb, undef]
theorem s_yes {d : Tmp} {j : Nat} {want : Bool} (e : Nat) (hd : dstOf ops j = some e) (hb : ρ e = .bool want)
    (h : opE P ⟨some d, op, ty, pos, aft, some (j, want)⟩ ρ w (fun v w' => seqE P ops l (upd ρ d v) w' KR)) : seqE P ops (⟨some d, op, ty, pos, aft, some (j, want)⟩ :: l) ρ w KR := by
  unfold seqE; rw [if_pos (guard_yes e hd hb)]; exact h
theorem s_no {d : Tmp} {j : Nat} {want : Bool} (e : Nat) (hd : dstOf ops j = some e) (hb : ρ e = .bool (!want))
    (h : seqE P ops l (upd ρ d undef) w KR) : seqE P ops (⟨some d, op, ty, pos, aft, some (j, want)⟩ :: l) ρ w KR := by
  unfold seqE; rw [if_neg (by rw [guard_no e hd hb]; simp)]; exact h
theorem s_un {d : Tmp} {j : Nat} {want : Bool} (e : Nat) (hd : dstOf ops j = some e) (hb : ρ e = undef)
    (h : seqE P ops l (upd ρ d undef) w KR) : seqE P ops (⟨some d, op, ty, pos, aft, some (j, want)⟩ :: l) ρ w KR := by
  unfold seqE; rw [if_neg (by rw [guard_un e hd hb]; simp)]; exact h

/-! ### Lists of operands -/
def evs (ρ : Env) : List Operand → List Value → Prop
  | [], vs => vs = []
  | x :: xs, vs => ∃ v r, vs = v :: r ∧ evE ρ x = v ∧ evs ρ xs r
theorem evs_nil : evs ρ [] [] := rfl
theorem evs_cons {x : Operand} {xs : List Operand} {v : Value} {vs : List Value} (h : evE ρ x = v) (hs : evs ρ xs vs) : evs ρ (x :: xs) (v :: vs) := ⟨v, vs, rfl, h, hs⟩
theorem evs_map : ∀ {xs : List Operand} {vs : List Value}, evs ρ xs vs → xs.toArray.map (evE ρ) = vs.toArray
  | [], vs, h => by cases h; simp
  | x :: xs, vs, h => by
    obtain ⟨v, r, rfl, h1, h2⟩ := h
    have := evs_map h2
    simp only [List.map_toArray, List.map_cons] at this ⊢
    rw [h1]
    congr 2
    simpa using this
def evp (ρ : Env) : List (Nat × Operand) → List (Nat × Value) → Prop
  | [], vs => vs = []
  | (i, x) :: xs, vs => ∃ v r, vs = (i, v) :: r ∧ evE ρ x = v ∧ evp ρ xs r
theorem evp_nil : evp ρ [] [] := rfl
theorem evp_cons {i : Nat} {x : Operand} {xs : List (Nat × Operand)} {v : Value} {vs : List (Nat × Value)} (h : evE ρ x = v) (hs : evp ρ xs vs) : evp ρ ((i, x) :: xs) ((i, v) :: vs) := ⟨v, vs, rfl, h, hs⟩
theorem evp_map : ∀ {xs : List (Nat × Operand)} {vs : List (Nat × Value)}, evp ρ xs vs → (xs.toArray.map fun (i, x) => (i, evE ρ x)) = vs.toArray
  | [], vs, h => by cases h; simp
  | (i, x) :: xs, vs, h => by
    obtain ⟨v, r, rfl, h1, h2⟩ := h
    have := evp_map h2
    simp only [List.map_toArray, List.map_cons] at this ⊢
    rw [h1]
    congr 2
    simpa using this

/-! ### One operation -/
theorem op_of {v : Value} {w' : World} (hr : (execOp (evE ρ) ⟨dst, op, ty, pos, aft, g⟩).run P w = .ok (.value v) w') (h : K v w') : opE P ⟨dst, op, ty, pos, aft, g⟩ ρ w K := by
  unfold opE; rw [hr]; exact h
theorem op_skip_of {w' : World} (hr : (execOp (evE ρ) ⟨dst, op, ty, pos, aft, g⟩).run P w = .ok .skip w') (h : K undef w') : opE P ⟨dst, op, ty, pos, aft, g⟩ ρ w K := by
  unfold opE; rw [hr]; exact h
theorem op_move {x : Operand} (v : Value) (hx : evE ρ x = v) (h : K v w) : opE P ⟨dst, .move x, ty, pos, aft, g⟩ ρ w K := op_of (by simp [execOp, hx]) h
theorem op_assign {x : Operand} (v : Value) (hx : evE ρ x = v) (h : K v w) : opE P ⟨dst, .assign x, ty, pos, aft, g⟩ ρ w K := op_of (by simp [execOp, hx]) h
theorem op_pick_t {c x y : Operand} (v : Value) (hc : evE ρ c = .bool true) (hx : evE ρ x = v) (h : K v w) : opE P ⟨dst, .pick c x y, ty, pos, aft, g⟩ ρ w K := op_of (by simp [execOp, hc, hx, asBool]) h
theorem op_pick_f {c x y : Operand} (v : Value) (hc : evE ρ c = .bool false) (hx : evE ρ y = v) (h : K v w) : opE P ⟨dst, .pick c x y, ty, pos, aft, g⟩ ρ w K := op_of (by simp [execOp, hc, hx, asBool]) h

/-! integers -/
section
variable {T T' : TypeId} {x y : Operand} {k : IntKind} {a b : Int}
theorem op_int {o : BinOp} {r : Value} (hx : evE ρ x = .int k a) (hy : evE ρ y = .int k b) (hr : (binOp o T (.int k a) (.int k b)).run P w = .ok r w) (h : K r w) : opE P ⟨dst, .binOp o T x y T', ty, pos, aft, g⟩ ρ w K :=
  op_of (by simp [execOp, hx, hy, eqGuard_at_int, hr]) h
theorem op_add (c : Int) (hx : evE ρ x = .int k a) (hy : evE ρ y = .int k b) (hc : k.wrap (a + b) = c) (h : K (.int k c) w) : opE P ⟨dst, .binOp .add T x y T', ty, pos, aft, g⟩ ρ w K :=
  op_int hx hy (by simp [binOp_add, Op.intArith, hc]) h
theorem op_sub (c : Int) (hx : evE ρ x = .int k a) (hy : evE ρ y = .int k b) (hc : k.wrap (a - b) = c) (h : K (.int k c) w) : opE P ⟨dst, .binOp .sub T x y T', ty, pos, aft, g⟩ ρ w K :=
  op_int hx hy (by simp [binOp_sub, Op.intArith, hc]) h
theorem op_mul (c : Int) (hx : evE ρ x = .int k a) (hy : evE ρ y = .int k b) (hc : k.wrap (a * b) = c) (h : K (.int k c) w) : opE P ⟨dst, .binOp .mul T x y T', ty, pos, aft, g⟩ ρ w K :=
  op_int hx hy (by simp [binOp_mul, Op.intArith, hc]) h
theorem op_quo (c : Int) (hx : evE ρ x = .int k a) (hy : evE ρ y = .int k b) (h0 : b ≠ 0) (hc : k.wrap (a.tdiv b) = c) (h : K (.int k c) w) : opE P ⟨dst, .binOp .quo T x y T', ty, pos, aft, g⟩ ρ w K :=
  op_int hx hy (by simp [binOp_quo, Op.intDiv, h0, hc]) h
theorem op_rem (c : Int) (hx : evE ρ x = .int k a) (hy : evE ρ y = .int k b) (h0 : b ≠ 0) (hc : a.tmod b = c) (h : K (.int k c) w) : opE P ⟨dst, .binOp .rem T x y T', ty, pos, aft, g⟩ ρ w K :=
  op_int hx hy (by simp [binOp_rem, Op.intDiv, h0, hc]) h
theorem op_and (c : Int) (hx : evE ρ x = .int k a) (hy : evE ρ y = .int k b) (hc : bits .and k a b = c) (h : K (.int k c) w) : opE P ⟨dst, .binOp .and T x y T', ty, pos, aft, g⟩ ρ w K :=
  op_int hx hy (by simp [binOp_and, intBits_and, hc]) h
theorem op_or (c : Int) (hx : evE ρ x = .int k a) (hy : evE ρ y = .int k b) (hc : bits .or k a b = c) (h : K (.int k c) w) : opE P ⟨dst, .binOp .or T x y T', ty, pos, aft, g⟩ ρ w K :=
  op_int hx hy (by simp [binOp_or, intBits_or, hc]) h
theorem op_shl {k' : IntKind} (c : Int) (hx : evE ρ x = .int k a) (hy : evE ρ y = .int k' b) (h0 : 0 ≤ b) (h1 : b ≤ k.bits) (hc : k.wrap (a * 2 ^ b.toNat) = c) (h : K (.int k c) w) : opE P ⟨dst, .binOp .shl T x y T', ty, pos, aft, g⟩ ρ w K :=
  op_of (by simp [execOp, hx, hy, eqGuard_shl, binOp_shl, shift_shl k k' a b h0 h1, hc]) h
theorem op_shr {k' : IntKind} (c : Int) (hx : evE ρ x = .int k a) (hy : evE ρ y = .int k' b) (h0 : 0 ≤ b) (h1 : b ≤ k.bits) (hc : a / 2 ^ b.toNat = c) (h : K (.int k c) w) : opE P ⟨dst, .binOp .shr T x y T', ty, pos, aft, g⟩ ρ w K :=
  op_of (by simp [execOp, hx, hy, eqGuard_shr, binOp_shr, shift_shr k k' a b h0 h1, hc]) h
theorem op_eql (hx : evE ρ x = .int k a) (hy : evE ρ y = .int k b) (h : K (.bool (decide (a = b))) w) : opE P ⟨dst, .binOp .eql T x y T', ty, pos, aft, g⟩ ρ w K := op_int hx hy (by rw [binOp_eql]; rfl) h
theorem op_neq (hx : evE ρ x = .int k a) (hy : evE ρ y = .int k b) (h : K (.bool (!decide (a = b))) w) : opE P ⟨dst, .binOp .neq T x y T', ty, pos, aft, g⟩ ρ w K := op_int hx hy (by rw [binOp_neq]; rfl) h
theorem op_lss (hx : evE ρ x = .int k a) (hy : evE ρ y = .int k b) (h : K (.bool (decide (a < b))) w) : opE P ⟨dst, .binOp .lss T x y T', ty, pos, aft, g⟩ ρ w K := op_int hx hy (by rw [binOp_lss]; rfl) h
theorem op_leq (hx : evE ρ x = .int k a) (hy : evE ρ y = .int k b) (h : K (.bool (decide (a ≤ b))) w) : opE P ⟨dst, .binOp .leq T x y T', ty, pos, aft, g⟩ ρ w K := op_int hx hy (by rw [binOp_leq]; rfl) h
theorem op_gtr (hx : evE ρ x = .int k a) (hy : evE ρ y = .int k b) (h : K (.bool (decide (b < a))) w) : opE P ⟨dst, .binOp .gtr T x y T', ty, pos, aft, g⟩ ρ w K := op_int hx hy (by rw [binOp_gtr]; rfl) h
theorem op_geq (hx : evE ρ x = .int k a) (hy : evE ρ y = .int k b) (h : K (.bool (decide (b ≤ a))) w) : opE P ⟨dst, .binOp .geq T x y T', ty, pos, aft, g⟩ ρ w K := op_int hx hy (by rw [binOp_geq]; rfl) h
theorem op_compl (c : Int) (hx : evE ρ x = .int k a) (hc : bits .xor k (if k.signed then -1 else k.max) a = c) (h : K (.int k c) w) : opE P ⟨dst, .unOp .xor T x, ty, pos, aft, g⟩ ρ w K :=
  op_of (by simp [execOp, hx, Op.unary, intBits_xor, hc]) h
theorem op_conv {k' : IntKind} (c : Int) (hd : P.underlying T' = some (.int k')) (hs : (P.underlying T).isSome = true) (hx : evE ρ x = .int k a) (hc : k'.wrap a = c) (h : K (.int k' c) w) : opE P ⟨dst, .convert T T' x, ty, pos, aft, g⟩ ρ w K := by
  have hk : P.intKind T' = k' := by simp [Program.intKind, hd]
  exact op_of (by simp [execOp, hx, run_convert_int w T T' k a hs (by rw [hk]; exact hd), hk, hc]) h
end
/-! booleans -/
theorem op_not {T : TypeId} {x : Operand} {b : Bool} (hx : evE ρ x = .bool b) (h : K (.bool (!b)) w) : opE P ⟨dst, .unOp .not T x, ty, pos, aft, g⟩ ρ w K := op_of (by simp [execOp, hx, Op.unary]) h
/-! parts -/
theorem op_extract {x : Operand} {i : Nat} {vs : Array Value} (v : Value) (hx : evE ρ x = .tuple vs) (hi : vs[i]? = some v) (h : K v w) : opE P ⟨dst, .extract x i, ty, pos, aft, g⟩ ρ w K :=
  op_of (by simp [execOp, hx, Instr.extract, hi]) h
theorem op_build {T : TypeId} {ps : List (Nat × Operand)} {vs : List (Nat × Value)} {r : Value} (hv : evp ρ ps vs) (hr : (Instr.build T vs.toArray).run P w = .ok r w) (h : K r w) : opE P ⟨dst, .build T ps.toArray, ty, pos, aft, g⟩ ρ w K :=
  op_of (by unfold execOp; simp only; rw [evp_map hv]; simp [hr]) h

/-! memory that is read -/
theorem op_load1 {T : TypeId} {x : Operand} {b off : Nat} {u : Value} {cs : List Value} (hA : ∀ w, (isAgg T).run P w = .ok false w) (hx : evE ρ x = .pointer (some ⟨b, off, none⟩)) (hp : Pt w b off (u :: cs)) (h : K u w) : opE P ⟨dst, .load T x, ty, pos, aft, g⟩ ρ w K := by
  have hc : w.cell? ⟨b, off, none⟩ = some u := hp 0 u rfl
  exact op_of (by simp [execOp, hx, Instr.loadAt, Instr.sureAddr, loadVar, hA, hc]) h
theorem op_loadN {T : TypeId} {x : Operand} {b off : Nat} {cs : List Value} {s : Nat} (hA : ∀ w, (isAgg T).run P w = .ok true w) (hs : ∀ w, (sizeOf T).run P w = .ok s w) (hx : evE ρ x = .pointer (some ⟨b, off, none⟩)) (hp : Pt w b off cs) (hl : cs.length = s)
    (h : K (.agg cs.toArray) w) : opE P ⟨dst, .load T x, ty, pos, aft, g⟩ ρ w K := by
  have hc : (loadCells ⟨b, off, none⟩ cs.length).run P w = .ok cs.toArray w := run_loadCells_list (P := P) w ⟨b, off, none⟩ cs (fun j v hv => by rw [Addr.add_lit]; exact hp j v hv)
  subst hl
  exact op_of (by simp [execOp, hx, Instr.loadAt, Instr.sureAddr, loadVar, hA, hs, hc]) h
theorem op_fieldAddr {T : TypeId} {x : Operand} {i : Nat} {fs : Array Field} {f : Field} {b off o s : Nat} (hT : P.underlying T = some (.struct fs)) (hf : fs[i]? = some f) (ho : f.offset = o) (hs : ∀ w, (sizeOf f.type).run P w = .ok (s + 1) w)
    (hx : evE ρ x = .pointer (some ⟨b, off, none⟩)) (h : K (.pointer (some ⟨b, off + o, none⟩)) w) : opE P ⟨dst, .fieldAddr T x i, ty, pos, aft, g⟩ ρ w K :=
  op_of (by subst ho; simp [execOp, hx, Instr.fieldAt, Instr.sureAddr, run_underlying hT, hf, fieldPlace, hs, Addr.add_lit]) h
theorem op_indexAddr {α : Type} {E : Enc α} {T e : TypeId} {x i : Operand} {v : Value} {xs : List α} {k : IntKind} {m : Int} {w1 : World} (hT : P.underlying T = some (.slice e)) (hs : ∀ w, (sizeOf e).run P w = .ok E.size w)
    (hx : evE ρ x = v) (hsl : Sl w1 E v xs) (hi : evE ρ i = .int k m) (h0 : 0 ≤ m) (hm : m.toNat < xs.length)
    (h : ∀ b off, Pt w1 b off (E.enc (xs[m.toNat]'hm)) → K (.pointer (some ⟨b, off, none⟩)) w) : opE P ⟨dst, .indexAddr T x i, ty, pos, aft, g⟩ ρ w K := by
  obtain ⟨A, c, rfl, h2, h3, h4⟩ := hsl
  obtain ⟨b, off, rfl, hp⟩ := h4 (by rintro rfl; simp at hm)
  have hlt : m < (xs.length : Int) := by omega
  exact op_of (by simp [execOp, hx, hi, Instr.indexAt, asIntOf, run_underlying hT, h0, hlt, hs, Addr.add_lit]) (h _ _ (hp m.toNat _ (List.getElem?_eq_getElem hm)))
/-! lengths, slices of slices -/
theorem op_len {α : Type} {E : Enc α} {T e : TypeId} {x : Operand} {v : Value} {xs : List α} {w1 : World} (hT : P.underlying T = some (.slice e)) (hx : evE ρ x = v) (hsl : Sl w1 E v xs) (h : K (.int .i64 (xs.length : Int)) w) :
    opE P ⟨dst, .call ⟨.builtin .len, #[x], #[T]⟩, ty, pos, aft, g⟩ ρ w K := by
  obtain ⟨A, c, rfl, _⟩ := hsl
  exact op_of (by simp [execOp, resolve, invoke, builtin, hx, Builtin.len_, run_underlying hT, goInt]) h
theorem op_slice_from {α : Type} {E : Enc α} {T e : TypeId} {x lo : Operand} {v : Value} {xs : List α} {k : IntKind} {m : Int} {w1 : World} (hT : P.underlying T = some (.slice e)) (hs : ∀ w, (sizeOf e).run P w = .ok E.size w)
    (hx : evE ρ x = v) (hsl : Sl w1 E v xs) (hi : evE ρ lo = .int k m) (h0 : 0 ≤ m) (hm : m.toNat ≤ xs.length)
    (h : ∀ v', Sl w1 E v' (xs.drop m.toNat) → K v' w) : opE P ⟨dst, .slice T x (some lo) none none, ty, pos, aft, g⟩ ρ w K := by
  have hsl' := hsl
  obtain ⟨A, c, rfl, h2, h3, h4⟩ := hsl
  have hle : m ≤ (xs.length : Int) := by omega
  refine op_of (v := .slice (if c = m.toNat then A else A.map (·.add (m.toNat * E.size))) (xs.length - m.toNat) (c - m.toNat)) ?_ (h _ (hsl'.drop m.toNat hm))
  simp [execOp, hx, hi, Instr.sliceAt, Instr.slice, run_underlying hT, Instr.sliceBounds, run_sliceBound w k m _ _ h0 hle, hs]
theorem op_slice_to {α : Type} {E : Enc α} {T e : TypeId} {x hi : Operand} {v : Value} {xs : List α} {k : IntKind} {m : Int} {w1 : World} (hT : P.underlying T = some (.slice e)) (hs : ∀ w, (sizeOf e).run P w = .ok E.size w)
    (hx : evE ρ x = v) (hsl : Sl w1 E v xs) (hh : evE ρ hi = .int k m) (h0 : 0 ≤ m) (hm : m.toNat ≤ xs.length)
    (h : ∀ v', Sl w1 E v' (xs.take m.toNat) → K v' w) : opE P ⟨dst, .slice T x none (some hi) none, ty, pos, aft, g⟩ ρ w K := by
  have hsl' := hsl
  obtain ⟨A, c, rfl, h2, h3, h4⟩ := hsl
  have hle : m ≤ (c : Int) := by omega
  have hA : (if c = 0 then A else Option.map (fun x => x.add 0) A) = A := by split <;> simp [Addr.add_zero']
  refine op_of (v := .slice A m.toNat c) ?_ (h _ (hsl'.take m.toNat c hm (by omega) (Nat.le_refl _)))
  simp [execOp, hx, hh, Instr.sliceAt, Instr.slice, run_underlying hT, Instr.sliceBounds, run_sliceBound w k m _ _ h0 hle, hs, hA]
theorem op_slice_both {α : Type} {E : Enc α} {T e : TypeId} {x lo hi : Operand} {v : Value} {xs : List α} {k k' : IntKind} {m n : Int} {w1 : World} (hT : P.underlying T = some (.slice e)) (hs : ∀ w, (sizeOf e).run P w = .ok E.size w)
    (hx : evE ρ x = v) (hsl : Sl w1 E v xs) (hl : evE ρ lo = .int k m) (hh : evE ρ hi = .int k' n) (h0 : 0 ≤ m) (hmn : m ≤ n) (hn : n.toNat ≤ xs.length)
    (h : ∀ v', Sl w1 E v' ((xs.take n.toNat).drop m.toNat) → K v' w) : opE P ⟨dst, .slice T x (some lo) (some hi) none, ty, pos, aft, g⟩ ρ w K := by
  have hsl' := hsl
  obtain ⟨A, c, rfl, h2, h3, h4⟩ := hsl
  have hle : n ≤ (c : Int) := by omega
  have en : (n.toNat : Int) = n := Int.toNat_of_nonneg (by omega)
  have ht := hsl'.take n.toNat c hn (by omega) (Nat.le_refl _)
  have hlen : (xs.take n.toNat).length = n.toNat := by rw [List.length_take, Nat.min_eq_left hn]
  have ht2 := Sl.drop (xs := xs.take n.toNat) (A := A) (c := c) (by rw [hlen]; exact ht) m.toNat (by omega)
  rw [hlen] at ht2
  refine op_of (v := .slice (if c = m.toNat then A else A.map (·.add (m.toNat * E.size))) (n.toNat - m.toNat) (c - m.toNat)) ?_ (h _ ht2)
  simp [execOp, hx, hl, hh, Instr.sliceAt, Instr.slice, run_underlying hT, Instr.sliceBounds, run_sliceBound w k' n _ _ (by omega) hle, run_sliceBound w k m _ _ h0 (by omega : m ≤ (n.toNat : Int)), hs]

/-! calls -/
theorem op_call {f : FuncId} {xs : List Operand} {vs : List Value} {ts : Array TypeId} {R : Ending → World → Prop} (hc : ∀ a w, (callFunc f a).run P w = .ok (.enter f a) w) (hv : evs ρ xs vs)
    (hf : Calls P f vs.toArray w R) (h : ∀ e w', R e w' → ∃ v, e = .returned v ∧ K v w') : opE P ⟨dst, .call ⟨.value (.func f), xs.toArray, ts⟩, ty, pos, aft, g⟩ ρ w K := by
  have he : (execOp (evE ρ) ⟨dst, .call ⟨.value (.func f), xs.toArray, ts⟩, ty, pos, aft, g⟩).run P w = .ok (.enter f vs.toArray) w := by
    unfold execOp resolve
    simp only
    rw [evs_map hv]
    simp [evE, Deferred.ofValue, invoke, hc]
  unfold opE
  rw [he]
  refine hf.mono fun e w' hr => ?_
  obtain ⟨v, rfl, hk⟩ := h e w' hr
  exact hk
end
end Go.Proofs.YtgibfidebdgffaaDoor
end
section
namespace Go.Proofs.YtgibfidebdgffaaDoor
open Go.RowKit

def intE (k : IntKind) : Enc Int := ⟨1, fun n => [.int k n], fun _ => rfl, by decide, fun _ u hu => by simp at hu; subst hu; rfl⟩
def u8E : Enc UInt8 := ⟨1, fun b => [.int .u8 (b.toNat : Int)], fun _ => rfl, by decide, fun _ u hu => by simp at hu; subst hu; rfl⟩
def str (l : List UInt8) : ByteArray := ⟨l.toArray⟩

section
variable {P : Program} {ops : Array Oper} {l : List Oper} {ρ : Env} {w w0 : World} {L : List Item} {KR : Env → World → Prop} {K : Value → World → Prop}
variable {dst : Option Tmp} {op : Op} {ty : TypeId} {pos : String} {aft : Array Edge} {g : Option (Nat × Bool)}

theorem op_box {T : TypeId} {x : Operand} {v : Value} {cs : Array Value} (hst : St w0 w L) (hx : evE ρ x = v) (hc : v.cells = cs)
    (h : ∀ g w', St w0 w' (.blk g T cs :: L) → w.heap.size ≤ g → K (.pointer (some ⟨g, 0, none⟩)) w') : opE P ⟨dst, .box T x, ty, pos, aft, g⟩ ρ w K := by
  subst hc
  exact op_of (w' := w.alloc (.cells v.cells T)) (by simp [execOp, hx, Instr.box, newVar, newRow]) (h _ _ (hst.new T v.cells) (Nat.le_refl _))
theorem op_alloc {T : TypeId} {v : Value} {cs : Array Value} (hst : St w0 w L) (hz : ∀ w, (zeroValue T).run P w = .ok v w) (hc : v.cells = cs)
    (h : ∀ g w', St w0 w' (.blk g T cs :: L) → w.heap.size ≤ g → K (.pointer (some ⟨g, 0, none⟩)) w') : opE P ⟨dst, .alloc T, ty, pos, aft, g⟩ ρ w K := by
  subst hc
  exact op_of (w' := w.alloc (.cells v.cells T)) (by simp [execOp, Instr.alloc, hz, newVar, newRow]) (h _ _ (hst.new T v.cells) (Nat.le_refl _))

theorem cell_of_blk {w : World} {g T : Nat} {cs : Array Value} (hg : w.heap[g]? = some (.cells cs T (0, 0))) (k : Nat) (hk : k < cs.size) : w.cell? ⟨g, k, none⟩ = some cs[k] ∧ w.frozen? ⟨g, k, none⟩ = false := by
  simp [World.cell?, World.frozen?, hg, hk]
theorem St.storeBlk (hst : St w0 w L) (i : Nat) {b T : Nat} {cs : Array Value} (hi : L[i]? = some (.blk b T cs)) (cs' : Array Value) (_hs : cs'.size = cs.size) : St w0 (w.setRow b cs') (L.set i (.blk b T cs')) :=
  hst.turn i hi (.blk b T cs') ⟨rfl, rfl, rfl, by simp, fun k _ hk => setRow_other w b k cs' (fun e => hk (by simp [Item.block, e]))⟩ ⟨(hst.at i hi).1, setRow_heap w b cs cs' T (0, 0) (hst.at i hi).2⟩ (.inl rfl)

theorem op_store1 {T Tb : TypeId} {x y : Operand} {b off : Nat} {cs : Array Value} {v : Value} (hst : St w0 w L) (i : Nat) (hi : L[i]? = some (.blk b Tb cs)) (hs : ∀ w, (sizeOf T).run P w = .ok 1 w)
    (hx : evE ρ x = .pointer (some ⟨b, off, none⟩)) (hy : evE ρ y = v) (h1 : v.oneCell' = true) (ho : off < cs.size)
    (h : ∀ w', St w0 w' (L.set i (.blk b Tb (cs.setIfInBounds off v))) → K undef w') : opE P ⟨dst, .store T x y, ty, pos, aft, g⟩ ρ w K := by
  have hg := (hst.at i hi).2
  obtain ⟨hc, hf⟩ := cell_of_blk hg off ho
  have hcells : v.cells = #[v] := by cases v <;> first | rfl | (simp [Value.oneCell'] at h1)
  have hrun : (execOp (evE ρ) ⟨dst, .store T x y, ty, pos, aft, g⟩).run P w = .ok .skip (w.setCell ⟨b, off, none⟩ v) := by
    simp only [execOp, hx, hy, Instr.storeAt, Instr.sureAddr, Sem.run_bind, Sem.run_pure, Result.andThen_ok, storeVar, hs, hcells]
    simp [storeCells, run_store P w _ v _ h1, hc, hf, Addr.add_zero']
  refine op_skip_of hrun (h _ ?_)
  rw [setCell_eq_setRow w b off cs Tb (0, 0) v hg]
  exact hst.storeBlk i hi _ (by simp)
theorem op_storeAll {T Tb : TypeId} {x y : Operand} {b : Nat} {cs vs : Array Value} {s : Nat} (hst : St w0 w L) (i : Nat) (hi : L[i]? = some (.blk b Tb cs)) (hs : ∀ w, (sizeOf T).run P w = .ok s w)
    (hx : evE ρ x = .pointer (some ⟨b, 0, none⟩)) (hy : evE ρ y = .agg vs) (hl : vs.size = s) (hl' : cs.size = s) (h1 : ∀ v ∈ vs.toList, v.oneCell' = true)
    (h : ∀ w', St w0 w' (L.set i (.blk b Tb vs)) → K undef w') : opE P ⟨dst, .store T x y, ty, pos, aft, g⟩ ρ w K := by
  have hg := (hst.at i hi).2
  have hsc := run_storeCells_at P b 0 Tb vs.toList 0 cs w hg (by simp; omega) h1
  have hrow : (cs.toList.take (0 + 0) ++ vs.toList ++ cs.toList.drop (0 + 0 + vs.toList.length)).toArray = vs := by
    rw [List.drop_eq_nil_of_le (by simp; omega)]; simp
  rw [hrow] at hsc
  have hrun : (execOp (evE ρ) ⟨dst, .store T x y, ty, pos, aft, g⟩).run P w = .ok .skip (w.setRow b vs) := by
    simp only [execOp, hx, hy, Instr.storeAt, Instr.sureAddr, Sem.run_bind, Sem.run_pure, Result.andThen_ok, storeVar, hs, Value.cells]
    simp [hl, hsc]
  exact op_skip_of hrun (h _ (hst.storeBlk i hi _ (by omega)))

theorem op_indexRow {α : Type} {E : Enc α} {T e Tr : TypeId} {x i : Operand} {v : Value} {xs : List α} {k : IntKind} {m : Int} (hst : St w0 w L) (j : Nat) (hj : L[j]? = some (rowT Tr E v xs)) (hT : P.underlying T = some (.slice e)) (hs : ∀ w, (sizeOf e).run P w = .ok E.size w)
    (hx : evE ρ x = v) (hi : evE ρ i = .int k m) (h0 : 0 ≤ m) (hm : m.toNat < xs.length)
    (h : ∀ b, v.ownBlock = some b → Pt w b (m.toNat * E.size) (E.enc (xs[m.toNat]'hm)) → K (.pointer (some ⟨b, m.toNat * E.size, none⟩)) w) : opE P ⟨dst, .indexAddr T x i, ty, pos, aft, g⟩ ρ w K := by
  have hown := hst.at j hj
  have hsl := hst.sl j hj
  rcases hown.2 with ⟨rfl, hl⟩ | ⟨b, cap, cur, rfl, hb, hg, hnc, hcm, hcs, htake⟩
  · omega
  · obtain ⟨A, c, he, h2, h3, h4⟩ := hsl
    injection he with e1 e2 e3
    subst e1
    obtain ⟨b', off, e4, hp⟩ := h4 (by rintro rfl; simp at hm)
    injection e4 with e4
    injection e4 with e5 e6
    subst e5 e6
    have hlt : m < (xs.length : Int) := by omega
    have hp' := hp m.toNat _ (List.getElem?_eq_getElem hm)
    rw [Nat.zero_add] at hp'
    exact op_of (by simp [execOp, hx, hi, Instr.indexAt, asIntOf, run_underlying hT, h0, hlt, hs, Addr.add_lit]) (h b rfl hp')

theorem take_seg {α : Type} (cur : List α) (n o : Nat) (vs : List α) (h : o + vs.length ≤ n) : (cur.take o ++ vs ++ cur.drop (o + vs.length)).take n = (cur.take n).take o ++ vs ++ (cur.take n).drop (o + vs.length) := by
  by_cases hl : o ≤ cur.length
  · rw [List.take_append, List.take_append, List.take_take, List.take_take]
    simp only [List.length_take, List.length_append, Nat.min_eq_left hl, Nat.min_eq_right (by omega : o ≤ n), Nat.min_eq_left (by omega : o ≤ n)]
    rw [List.take_of_length_le (by omega : vs.length ≤ n - o), List.drop_take]
  · have h1 : cur.drop (o + vs.length) = [] := List.drop_eq_nil_of_le (by omega)
    rw [h1, List.append_nil, List.take_of_length_le (by simp; omega), List.take_of_length_le (by omega : cur.length ≤ n), h1, List.append_nil]

theorem St.storeRow {α : Type} {E : Enc α} {Tr : TypeId} {v : Value} {xs : List α} (hst : St w0 w L) (j : Nat) (hj : L[j]? = some (rowT Tr E v xs)) {b : Nat} (hb : v.ownBlock = some b) (m : Nat) (hm : m < xs.length) (f : Nat) (vs : List Value) (hf : f + vs.length ≤ E.size) (h1 : ∀ u ∈ vs, u.oneCell' = true)
    (y : α) (hy : E.enc y = (E.enc xs[m]).take f ++ vs ++ (E.enc xs[m]).drop (f + vs.length)) :
    ∃ w', (storeCells ⟨b, m * E.size + f, none⟩ vs).run P w = .ok () w' ∧ St w0 w' (L.set j (rowT Tr E v (xs.set m y))) := by
  have hown := hst.at j hj
  rcases hown.2 with ⟨rfl, hl⟩ | ⟨b', cap, cur, rfl, hbb, hg, hnc, hcm, hcs, htake⟩
  · cases hb
  · simp only [Value.ownBlock, Option.some.injEq] at hb
    subst hb
    have hms : m * E.size + E.size ≤ xs.length * E.size := by rw [← Nat.succ_mul]; exact Nat.mul_le_mul_right _ hm
    have hcap : xs.length * E.size ≤ cap * E.size := Nat.mul_le_mul_right _ hnc
    have hsc := run_storeCells_at P b' (m * E.size + f) Tr vs 0 cur w hg (by omega) h1
    simp only [Nat.add_zero] at hsc
    refine ⟨_, hsc, hst.turn j hj (rowT Tr E (.slice (some ⟨b', 0, none⟩) xs.length cap) (xs.set m y))
      ⟨rfl, rfl, rfl, by simp, fun k _ hk => setRow_other w b' k _ (fun e => hk (by simp [Item.block, Value.ownBlock, e]))⟩ ?_ (.inl rfl)⟩
    refine ⟨E.flat _, .inr ⟨b', cap, _, by simp, hbb, setRow_heap w b' cur _ Tr (0, 0) hg, by simpa using hnc, hcm, ?_, ?_⟩⟩
    · simp only [List.size_toArray, List.length_append, List.length_take, List.length_drop, Array.length_toList]
      omega
    · simp only [List.length_set]
      rw [take_seg _ _ _ _ (by omega), htake, E.split xs m hm, E.split (xs.set m y) m (by simpa using hm)]
      have hlt := E.splitLen xs m hm
      have hsz := E.len xs[m]
      simp only [List.getElem_set_self, List.take_set_of_le (Nat.le_refl m), List.drop_set_of_lt (Nat.lt_succ_self m)]
      rw [hy, List.take_append, List.take_of_length_le (by omega : _ ≤ m * E.size + f), hlt, Nat.add_sub_cancel_left, List.take_append_of_le_length (by omega)]
      rw [List.drop_append, List.drop_eq_nil_of_le (by omega : _ ≤ m * E.size + f + vs.length), hlt, List.drop_append_of_le_length (by omega)]
      have e : m * E.size + f + vs.length - m * E.size = f + vs.length := by omega
      rw [e]
      simp [List.append_assoc]
theorem op_storeRow1 {α : Type} {E : Enc α} {T Tr : TypeId} {x z : Operand} {v u : Value} {xs : List α} (hst : St w0 w L) (j : Nat) (hj : L[j]? = some (rowT Tr E v xs)) {b off : Nat} (hb : v.ownBlock = some b) (hs : ∀ w, (sizeOf T).run P w = .ok 1 w)
    (hx : evE ρ x = .pointer (some ⟨b, off, none⟩)) (hz : evE ρ z = u) (h1 : u.oneCell' = true) (m f : Nat) (hoff : off = m * E.size + f) (hm : m < xs.length) (hf : f < E.size) (y : α) (hy : E.enc y = (E.enc xs[m]).set f u)
    (h : ∀ w', St w0 w' (L.set j (rowT Tr E v (xs.set m y))) → K undef w') : opE P ⟨dst, .store T x z, ty, pos, aft, g⟩ ρ w K := by
  subst hoff
  have hcells : u.cells = #[u] := by cases u <;> first | rfl | (simp [Value.oneCell'] at h1)
  obtain ⟨w', hr, hst'⟩ := hst.storeRow (P := P) j hj hb m hm f [u] (by simp; omega) (by simpa using h1) y (by
    rw [hy, List.set_eq_take_append_cons_drop, if_pos (by rw [E.len]; exact hf)]; simp)
  have hrun : (execOp (evE ρ) ⟨dst, .store T x z, ty, pos, aft, g⟩).run P w = .ok .skip w' := by
    simp only [execOp, hx, hz, Instr.storeAt, Instr.sureAddr, Sem.run_bind, Sem.run_pure, Result.andThen_ok, storeVar, hs, hcells]
    simp [hr]
  exact op_skip_of hrun (h _ hst')
theorem op_storeRowN {α : Type} {E : Enc α} {T Tr : TypeId} {x z : Operand} {v : Value} {vs : Array Value} {xs : List α} (hst : St w0 w L) (j : Nat) (hj : L[j]? = some (rowT Tr E v xs)) {b off : Nat} (hb : v.ownBlock = some b) (hs : ∀ w, (sizeOf T).run P w = .ok E.size w)
    (hx : evE ρ x = .pointer (some ⟨b, off, none⟩)) (hz : evE ρ z = .agg vs) (m : Nat) (hoff : off = m * E.size) (hm : m < xs.length) (y : α) (hy : E.enc y = vs.toList)
    (h : ∀ w', St w0 w' (L.set j (rowT Tr E v (xs.set m y))) → K undef w') : opE P ⟨dst, .store T x z, ty, pos, aft, g⟩ ρ w K := by
  subst hoff
  have hsz := E.len y
  rw [hy, Array.length_toList] at hsz
  obtain ⟨w', hr, hst'⟩ := hst.storeRow (P := P) j hj hb m hm 0 vs.toList (by simp [hsz]) (by rw [← hy]; exact E.one y) y (by
    rw [hy]; simp [hsz, E.len])
  rw [Nat.add_zero] at hr
  have hrun : (execOp (evE ρ) ⟨dst, .store T x z, ty, pos, aft, g⟩).run P w = .ok .skip w' := by
    simp only [execOp, hx, hz, Instr.storeAt, Instr.sureAddr, Sem.run_bind, Sem.run_pure, Result.andThen_ok, storeVar, hs, Value.cells]
    simp [hsz, hr]
  exact op_skip_of hrun (h _ hst')

/-! append -/
theorem run_append_nilSrc (base : Nat) (t ty e : TypeId) (i : TypeInfo) (size : Nat) (ht : P.underlying t = some (.slice e)) (hi : P.info? e = some i)
    (v : Value) (n : Nat) (xs : List Value) (hown : w.ownsRow base e size v n xs) (c : Nat) : (Builtin.append_ #[t, t] ty #[v, .slice none 0 c]).run P w = .ok v w := by
  rcases hown.2 with ⟨rfl, rfl⟩ | ⟨g, cap, cur, rfl, _, _, hnc, _⟩
  · simp [Builtin.append_, run_underlying ht, sizeOf, typeInfo, hi, Builtin.lenOf, Builtin.firstCells]
  · simp [Builtin.append_, run_underlying ht, sizeOf, typeInfo, hi, Builtin.lenOf, Builtin.firstCells, hnc, storeCells]
theorem op_append {α : Type} {E : Enc α} {T e : TypeId} {s x : Operand} {v u : Value} {xs ys : List α} {z : Value} {bytes : Nat} (hst : St w0 w L) (i : Nat) (hi : L[i]? = some (rowT e E v xs)) (hT : P.underlying T = some (.slice e))
    (hinfo : (P.info? e).map (fun i => (i.zero, i.size, i.bytes)) = some (some z, E.size, bytes)) (hz : z.cells.size = E.size) (hs : evE ρ s = v) (hx : evE ρ x = u) (hsl : Sl w E u ys)
    (h63 : xs.length + ys.length ≤ 9223372036854775807) (hb : (xs.length + ys.length) * bytes ≤ 140737488355328)
    (h : ∀ v' w', St w0 w' (L.set i (rowT e E v' (xs ++ ys))) → K v' w') : opE P ⟨dst, .call ⟨.builtin .append, #[s, x], #[T, T]⟩, ty, pos, aft, g⟩ ρ w K := by
  obtain ⟨i0, hi0, hz0, hz1, hz2⟩ := info_parts hinfo
  have hown : w.ownsRow w0.heap.size e E.size v xs.length (xs.flatMap E.enc) := hst.at i hi
  have fin : ∀ v' w', (Builtin.append_ #[T, T] ty #[v, u]).run P w = .ok v' w' → w'.ownsRow w0.heap.size e E.size v' (xs.length + ys.length) (xs.flatMap E.enc ++ ys.flatMap E.enc) → w.grownBy w' v.ownBlock → (v'.ownBlock = v.ownBlock ∨ v'.ownBlock = some w.heap.size) →
      opE P ⟨dst, .call ⟨.builtin .append, #[s, x], #[T, T]⟩, ty, pos, aft, g⟩ ρ w K := by
    intro v' w' hr ho hg hbk
    refine op_of (v := v') (w' := w') (by simp [execOp, resolve, invoke, builtin, hs, hx, hr]) (h _ _ ?_)
    refine hst.turn i hi (rowT e E v' (xs ++ ys)) hg ?_ ?_
    · simp only [Item.holds, List.length_append, List.flatMap_append]; exact ho
    · rcases hbk with hbk | hbk
      · exact .inl hbk
      · exact .inr fun k hk => by simp only [Item.block] at hk; rw [hbk] at hk; injection hk with hk; omega
  obtain ⟨A, c, rfl, h2, h3, h4⟩ := hsl
  cases A with
  | none =>
    have hn : ys = [] := by
      rcases ys with _ | ⟨y, ys⟩
      · rfl
      · obtain ⟨b, off, hab, _⟩ := h4 (by simp)
        cases hab
    subst hn
    exact fin v w (run_append_nilSrc w0.heap.size T ty e i0 E.size hT hi0 v _ _ hown c) (by simpa using hown) (World.grownBy.refl w _) (.inl rfl)
  | some ad =>
    obtain ⟨v', w', hrun, h5, h6, _, h8⟩ := run_append_own_at (P := P) w w0.heap.size T ty e i0 z E.size bytes hT hi0 hz0 hz1 hz2 hz E.pos v _ _ hown ad ys.length c (ys.flatMap E.enc) (E.flat ys) (fun j u hu => by
      rcases ys with _ | ⟨y, ys⟩
      · simp at hu
      · obtain ⟨b, off, hab, hp⟩ := h4 (by simp)
        injection hab with hab
        subst hab
        rw [Addr.add_lit]
        have := Sl.flat (E := E) (w := w) (b := b) (off := off) (xs := y :: ys) (o := 0) (fun i x hx => by simpa using hp i x hx) j u hu
        simpa using this) (E.oneAll ys) (by unfold maxLen; omega) hb hst.size
    exact fin v' w' hrun h5 h6 h8

/-! texts -/
theorem op_str {T T' e : TypeId} {x : Operand} {v : Value} {xs : List UInt8} (hs : P.underlying T = some (.slice e)) (he : P.underlying e = some (.int .u8)) (hd : P.underlying T' = some .string) (hx : evE ρ x = v) (hsl : Sl w u8E v xs) (h : K (.string (str xs)) w) :
    opE P ⟨dst, .convert T T' x, ty, pos, aft, g⟩ ρ w K := by
  obtain ⟨A, c, rfl, h2, h3, h4⟩ := hsl
  cases A with
  | none =>
    have hn : xs = [] := by
      rcases xs with _ | ⟨y, ys⟩
      · rfl
      · obtain ⟨b, off, hab, _⟩ := h4 (by simp)
        cases hab
    subst hn
    exact op_of (v := .string (str [])) (by simp [execOp, hx, convert, run_underlying hs, run_underlying hd, run_underlying he, Conv.bytesToString]; rfl) h
  | some ad =>
    have hcell : ∀ j (hj : j < xs.length), w.cell? (ad.add j) = some (.int .u8 (xs[j].toNat : Int)) := fun j hj => by
      obtain ⟨b, off, hab, hp⟩ := h4 (by rintro rfl; simp at hj)
      injection hab with hab
      subst hab
      rw [Addr.add_lit]
      have := hp j _ (List.getElem?_eq_getElem hj) 0 _ rfl
      simpa [u8E] using this
    exact op_of (v := .string (str xs)) (by simp [execOp, hx, run_convert_bytes_back w T T' e ad c xs hs he hd hcell, str]) h
theorem toList_str (l : List UInt8) : (str l).toList = l := by rw [ByteArray.toList_eq]; rfl
theorem size_str (l : List UInt8) : (str l).size = l.length := rfl
theorem op_eqlStr {T T' : TypeId} {x y : Operand} {a b : List UInt8} (hx : evE ρ x = .string (str a)) (hy : evE ρ y = .string (str b)) (h : K (.bool (decide (a = b))) w) : opE P ⟨dst, .binOp .eql T x y T', ty, pos, aft, g⟩ ρ w K :=
  op_of (by simp only [execOp, hx, hy, eqGuard_at_string]; simp [binOp, Op.stringOp, toList_str]; by_cases e : a = b <;> simp [e]) h
theorem op_addStr {T T' : TypeId} {x y : Operand} {a b : List UInt8} (hx : evE ρ x = .string (str a)) (hy : evE ρ y = .string (str b)) (hl : a.length + b.length ≤ 9223372036854775807) (h : K (.string (str (a ++ b))) w) : opE P ⟨dst, .binOp .add T x y T', ty, pos, aft, g⟩ ρ w K := by
  have e : str a ++ str b = str (a ++ b) := by
    apply ByteArray.ext
    simp [str, ByteArray.data_append]
  exact op_of (by simp only [execOp, hx, hy, eqGuard_at_string]; simp [binOp, run_string_add_sum w (str a) (str b) (by simpa [size_str] using hl), e]) h

/-! min, max -/
theorem op_min2 {x y : Operand} {ts : Array TypeId} {k : IntKind} {a b : Int} (hx : evE ρ x = .int k a) (hy : evE ρ y = .int k b) (h : K (.int k (min a b)) w) : opE P ⟨dst, .call ⟨.builtin .min, #[x, y], ts⟩, ty, pos, aft, g⟩ ρ w K := by
  refine op_of (v := .int k (min a b)) ?_ h
  have e : (if b < a then b else a) = min a b := by rw [Int.min_def]; split <;> split <;> omega
  simp [execOp, resolve, invoke, builtin, hx, hy, Builtin.min_, Builtin.min2, e]
theorem op_max2 {x y : Operand} {ts : Array TypeId} {k : IntKind} {a b : Int} (hx : evE ρ x = .int k a) (hy : evE ρ y = .int k b) (h : K (.int k (max a b)) w) : opE P ⟨dst, .call ⟨.builtin .max, #[x, y], ts⟩, ty, pos, aft, g⟩ ρ w K := by
  refine op_of (v := .int k (max a b)) ?_ h
  have e : (if a < b then b else a) = max a b := by rw [Int.max_def]; split <;> split <;> omega
  simp [execOp, resolve, invoke, builtin, hx, hy, Builtin.max_, Builtin.max2, e]
theorem op_min3 {x y z : Operand} {ts : Array TypeId} {k : IntKind} {a b c : Int} (hx : evE ρ x = .int k a) (hy : evE ρ y = .int k b) (hz : evE ρ z = .int k c) (h : K (.int k (min (min a b) c)) w) : opE P ⟨dst, .call ⟨.builtin .min, #[x, y, z], ts⟩, ty, pos, aft, g⟩ ρ w K := by
  refine op_of (v := .int k (min (min a b) c)) ?_ h
  have e : ∀ a b : Int, (if b < a then b else a) = min a b := fun a b => by rw [Int.min_def]; split <;> split <;> omega
  simp [execOp, resolve, invoke, builtin, hx, hy, hz, Builtin.min_, Builtin.min2, e]
end
end Go.Proofs.YtgibfidebdgffaaDoor
end
section
namespace Go.Proofs.YtgibfidebdgffaaDoor
open Go.RowKit

def edgesTo (ops : Array Oper) (i j : Nat) : Bool :=
  match ops[i]? with
  | some o => o.after.any fun e => e.on == j && Region.binds .any e
  | none => false
def factsE (R : Nat → Value → World → Prop) (ρ ρ' : Env) (w' : World) : List (Nat × Option Nat) → Prop
  | [] => True
  | (t, some j) :: r => R j (ρ' t) w' ∧ factsE R ρ ρ' w' r
  | (t, none) :: r => ρ' t = ρ t ∧ factsE R ρ ρ' w' r
def goE (P : Program) (ops : Array Oper) (o : Oper) (ρ : Env) (w : World) (K : Value → World → Prop) : Prop :=
  if guardE ops ρ o then opE P o ρ w K else K undef w
def oblG (P : Program) (ops : Array Oper) (ρ : Env) (J : World → Prop) (T : World → World → Prop) (R : Nat → Value → World → Prop) : Nat → List Oper → List (List (Nat × Option Nat)) → Prop
  | i, o :: l, f :: fs => (∀ ρ' w', J w' → factsE R ρ ρ' w' f → goE P ops o ρ' w' (fun v w'' => J w'' ∧ T w' w'' ∧ R i v w'')) ∧ oblG P ops ρ J T R (i + 1) l fs
  | _, _, _ => True
def rgOne (ops : Array Oper) (i : Nat) (p : Nat × Option Nat) : Bool :=
  match p.2 with
  | some j => dstOf ops j == some p.1 && edgesTo ops i j
  | none => (List.range ops.size).all fun j => dstOf ops j != some p.1 || j == i || edgesTo ops j i
def rgCheck (ops : Array Oper) (F : List (List (Nat × Option Nat))) : Bool :=
  F.length == ops.size &&
  ((List.range ops.size).all fun i => (F.getD i []).all (rgOne ops i)) &&
  ((List.range ops.size).all fun i => (List.range ops.size).all fun j => !edgesTo ops i j || Nat.blt j i) &&
  ((List.range ops.size).all fun i => ((ops[i]?).map (fun o => o.after.all fun e => !Region.binds .any e || Nat.blt e.on i)).getD true) &&
  ((List.range ops.size).all fun i => (List.range ops.size).all fun j => i == j || dstOf ops i == none || dstOf ops i != dstOf ops j)

theorem oblG_at {P : Program} {ops : Array Oper} {ρ : Env} {J : World → Prop} {T : World → World → Prop} {R : Nat → Value → World → Prop} : ∀ (l : List Oper) (fs : List (List (Nat × Option Nat))) (k : Nat), oblG P ops ρ J T R k l fs → l.length = fs.length →
    ∀ (i : Nat) (o : Oper), l[i]? = some o → ∀ ρ' w', J w' → factsE R ρ ρ' w' (fs.getD i []) → goE P ops o ρ' w' (fun v w'' => J w'' ∧ T w' w'' ∧ R (k + i) v w'')
  | [], _, _, _, _, i, o, ho, _, _, _, _ => by simp at ho
  | x :: l, [], _, _, hl, _, _, _, _, _, _, _ => by simp at hl
  | x :: l, f :: fs, k, h, hl, 0, o, ho, ρ', w', hb, hf => by
    simp only [List.getElem?_cons_zero, Option.some.injEq] at ho
    subst ho
    exact h.1 ρ' w' hb hf
  | x :: l, f :: fs, k, h, hl, i + 1, o, ho, ρ', w', hb, hf => by
    have := oblG_at l fs (k + 1) h.2 (by simpa using hl) i o (by simpa using ho) ρ' w' hb (by simpa using hf)
    rw [Nat.add_assoc, Nat.add_comm 1 i] at this
    exact this

structure RgInv (ops : Array Oper) (n : Nat) (ρ : Env) (J : World → Prop) (R : Nat → Value → World → Prop) (listed : Array Bool) (a : Act) (w' : World) (ρ' : Env) : Prop where
  act : At a n ρ'
  ext : J w'
  size : listed.size = ops.size
  done : ∀ j d, listed.getD j false = true → dstOf ops j = some d → R j (ρ' d) w'
  rest : ∀ t, (∀ j, dstOf ops j = some t → listed.getD j false = false) → ρ' t = ρ t
  closed : ∀ j, listed.getD j false = true → ∀ i, edgesTo ops j i = true → listed.getD i false = true

def cntF (l : Array Bool) : Nat := l.toList.count false
theorem cntF_set {l : Array Bool} {i : Nat} (hi : l.getD i true = false) : cntF (l.setIfInBounds i true) + 1 = cntF l := by
  have hlt : i < l.size := by
    rcases Nat.lt_or_ge i l.size with h | h
    · exact h
    · simp [Array.getD_eq_getD_getElem?, Array.getElem?_eq_none h] at hi
  have hg : l.toList[i]'(by simpa using hlt) = false := by
    simp only [Array.getD_eq_getD_getElem?, Array.getElem?_eq_getElem hlt, Option.getD_some] at hi
    simpa using hi
  unfold cntF
  rw [Array.toList_setIfInBounds]
  have h1 := List.count_set (l := l.toList) (i := i) (a := true) (b := false) (by simpa using hlt)
  have hpos : 0 < l.toList.count false := List.count_pos_iff.2 (by rw [← hg]; exact List.getElem_mem _)
  rw [hg] at h1
  simp only [beq_self_eq_true, if_true] at h1
  rw [h1, show (if (true == false) = true then 1 else 0 : Nat) = 0 from by decide]
  omega

theorem getD_tf {l : Array Bool} {i : Nat} (h : l.getD i true = false) : l.getD i false = false := by
  simp only [Array.getD_eq_getD_getElem?] at h ⊢
  cases hh : l[i]? with
  | none => rfl
  | some b => rw [hh] at h; simpa using h
theorem getD_set {l : Array Bool} {i j : Nat} (hi : l.getD i true = false) : (l.setIfInBounds i true).getD j false = if i = j then true else l.getD j false := by
  have hlt : i < l.size := by
    rcases Nat.lt_or_ge i l.size with h | h
    · exact h
    · simp [Array.getD_eq_getD_getElem?, Array.getElem?_eq_none h] at hi
  simp only [Array.getD_eq_getD_getElem?, Array.getElem?_setIfInBounds]
  split
  · rename_i e; subst e; simp
  · rfl

section
variable {P : Program} {ops : Array Oper} {n : Nat} {ρ : Env} {w : World} {J : World → Prop} {T : World → World → Prop} {R : Nat → Value → World → Prop} {F : List (List (Nat × Option Nat))} {Q : Exit → Act → World → Prop}

theorem rg_facts (hone : ∀ i, i < ops.size → ∀ p ∈ F.getD i [], rgOne ops i p = true) {listed : Array Bool} {a : Act} {w' : World} {ρ' : Env} (inv : RgInv ops n ρ J R listed a w' ρ') {i : Nat} (hi : i < ops.size) (hun : listed.getD i false = false)
    (hall : ∀ j, edgesTo ops i j = true → listed.getD j false = true) : factsE R ρ ρ' w' (F.getD i []) := by
  have h := hone i hi
  generalize F.getD i [] = f at h
  induction f with
  | nil => trivial
  | cons p r ih =>
    obtain ⟨t, s⟩ := p
    have hp := h (t, s) (by simp)
    have hr := ih fun p hp => h p (by simp [hp])
    cases s with
    | some j =>
      simp only [rgOne, Bool.and_eq_true, beq_iff_eq] at hp
      exact ⟨inv.done j t (hall j hp.2) hp.1, hr⟩
    | none =>
      refine ⟨inv.rest t fun j hj => ?_, hr⟩
      simp only [rgOne, List.all_eq_true, List.mem_range, Bool.or_eq_true, bne_iff_ne, beq_iff_eq] at hp
      have hjs : j < ops.size := by
        rcases Nat.lt_or_ge j ops.size with h | h
        · exact h
        · simp [dstOf, Array.getElem?_eq_none h] at hj
      rcases hp j hjs with (h1 | h1) | h1
      · exact absurd hj h1
      · rw [h1]; exact hun
      · rcases hb : listed.getD j false with _ | _
        · rfl
        · have := inv.closed j hb i h1
          rw [hun] at this; cases this

theorem rg_sound (hd : ops.all (fun o => o.dst.all (· < n)) = true) (hck : rgCheck ops F = true) (hR : ∀ i v w' w'', R i v w' → T w' w'' → R i v w'') (hop : oblG P ops ρ J T R 0 ops.toList F)
    (hQ : ∀ a w' ρ', At a n ρ' → J w' → (∀ i d, dstOf ops i = some d → R i (ρ' d) w') → (∀ t, (∀ j, dstOf ops j ≠ some t) → ρ' t = ρ t) → Q .normal a w') :
    ∀ (fuel : Nat) (listed : Array Bool) (a : Act) (w' : World) (ρ' : Env), cntF listed = fuel → RgInv ops n ρ J R listed a w' ρ' → wpAny P .any ops Q fuel listed a w' := by
  simp only [rgCheck, Bool.and_eq_true, List.all_eq_true, List.mem_range, beq_iff_eq] at hck
  obtain ⟨⟨⟨⟨hlen, hone⟩, _⟩, hdown⟩, hdst⟩ := hck
  have hready : ∀ (listed : Array Bool) (i : Nat), i ∈ Region.ready .any ops listed ↔ i < ops.size ∧ listed.getD i true = false ∧ ∃ o, ops[i]? = some o ∧ ∀ e ∈ o.after, Region.binds .any e = true → listed.getD e.on false = true := by
    intro listed i
    unfold Region.ready
    rw [List.mem_filter, List.mem_range]
    constructor
    · rintro ⟨h1, h2⟩
      rw [Bool.and_eq_true] at h2
      refine ⟨h1, by simpa using h2.1, ops[i], Array.getElem?_eq_getElem h1, fun e he hb => ?_⟩
      have := h2.2
      rw [Array.getElem?_eq_getElem h1] at this
      simp only [Option.map_some, Option.getD_some] at this
      have := Array.all_eq_true'.1 this e he
      simpa [hb] using this
    · rintro ⟨h1, h2, o, ho, h3⟩
      refine ⟨h1, ?_⟩
      rw [Bool.and_eq_true]
      refine ⟨by simp [h2], ?_⟩
      rw [ho]
      simp only [Option.map_some, Option.getD_some]
      exact Array.all_eq_true'.2 fun e he => by
        cases hb : Region.binds .any e with
        | false => simp
        | true => simpa using h3 e he hb
  have allListed : ∀ listed : Array Bool, listed.size = ops.size → cntF listed = 0 → ∀ j, j < ops.size → listed.getD j false = true := by
    intro listed hs hc j hj
    have hlt : j < listed.size := by omega
    have hno : false ∉ listed.toList := List.count_eq_zero.1 hc
    rw [Array.getD_eq_getD_getElem?, Array.getElem?_eq_getElem hlt, Option.getD_some]
    cases hb : listed[j] with
    | true => rfl
    | false => exact absurd (by rw [← hb]; simp) hno
  have fin : ∀ listed a w' ρ', RgInv ops n ρ J R listed a w' ρ' → cntF listed = 0 → Q .normal a w' := by
    intro listed a w' ρ' inv hc
    have hall := allListed listed inv.size hc
    refine hQ a w' ρ' inv.act inv.ext (fun i d hi => inv.done i d (hall i ?_) hi) fun t ht => inv.rest t fun j hj => absurd hj (ht j)
    rcases Nat.lt_or_ge i ops.size with h | h
    · exact h
    · simp [dstOf, Array.getElem?_eq_none h] at hi
  intro fuel
  induction fuel with
  | zero =>
    intro listed a w' ρ' hc inv
    refine ⟨?_, fin listed a w' ρ' inv hc⟩
    apply List.eq_nil_iff_forall_not_mem.2
    intro i hi
    obtain ⟨h1, h2, _⟩ := (hready listed i).1 hi
    have := allListed listed inv.size hc i h1
    rw [getD_tf h2] at this; cases this
  | succ fuel ih =>
    intro listed a w' ρ' hc inv
    refine ⟨fun hnil => ?_, fun i hi => ?_⟩
    · exfalso
      -- the first one that is not listed is ready
      have hex : ∃ i, i < ops.size ∧ listed.getD i true = false := by
        have hpos : 0 < listed.toList.count false := by unfold cntF at hc; omega
        obtain ⟨i, hi, he⟩ := List.mem_iff_getElem.1 (List.count_pos_iff.1 hpos)
        have hlt : i < listed.size := by simpa using hi
        refine ⟨i, by rw [← inv.size]; exact hlt, ?_⟩
        rw [Array.getD_eq_getD_getElem?, Array.getElem?_eq_getElem hlt, Option.getD_some]
        simpa using he
      have hmin : ∃ i, (i < ops.size ∧ listed.getD i true = false) ∧ ∀ j, j < i → listed.getD j true = true := by
        obtain ⟨i, hi⟩ := hex
        induction i using Nat.strongRecOn with
        | _ i ihh =>
          by_cases hj : ∃ j, j < i ∧ listed.getD j true = false
          · obtain ⟨j, h1, h2⟩ := hj
            exact ihh j h1 ⟨by omega, h2⟩
          · refine ⟨i, hi, fun j hji => ?_⟩
            cases hb : listed.getD j true with
            | true => rfl
            | false => exact absurd ⟨j, hji, hb⟩ hj
      obtain ⟨i, ⟨h1, h2⟩, h3⟩ := hmin
      have hmem : i ∈ Region.ready .any ops listed := by
        refine (hready listed i).2 ⟨h1, h2, ops[i], Array.getElem?_eq_getElem h1, fun e he hb => ?_⟩
        have hde := hdown i h1
        rw [Array.getElem?_eq_getElem h1] at hde
        simp only [Option.map_some, Option.getD_some] at hde
        have hlt := Array.all_eq_true'.1 hde e he
        simp only [hb, Bool.not_true, Bool.false_or] at hlt
        have hlt' : e.on < i := by simpa [Nat.blt_eq] using hlt
        have h4 := h3 e.on hlt'
        have hsz : e.on < listed.size := by rw [inv.size]; omega
        rw [Array.getD_eq_getD_getElem?, Array.getElem?_eq_getElem hsz, Option.getD_some] at h4 ⊢
        exact h4
      rw [hnil] at hmem; cases hmem
    · obtain ⟨h1, h2, o, ho, h3⟩ := (hready listed i).1 hi
      have hun := getD_tf h2
      have hall : ∀ j, edgesTo ops i j = true → listed.getD j false = true := by
        intro j hj
        simp only [edgesTo, ho] at hj
        obtain ⟨e, he, hb⟩ := Array.any_eq_true'.1 hj
        simp only [Bool.and_eq_true, beq_iff_eq] at hb
        rw [← hb.1]; exact h3 e he hb.2
      have hf := rg_facts (fun i hi p hp => hone i hi p hp) inv h1 hun hall
      have hgo := oblG_at ops.toList F 0 hop (by simpa using hlen.symm) i o (by simpa using ho) ρ' w' inv.ext hf
      rw [Nat.zero_add] at hgo
      have hod : o.dst.all (· < n) = true := Array.all_eq_true'.1 hd o (Array.mem_of_getElem? ho)
      have hdi : dstOf ops i = o.dst := by simp [dstOf, ho]
      have next : ∀ v w'', J w'' ∧ T w' w'' ∧ R i v w'' → wpAny P .any ops Q fuel (listed.setIfInBounds i true) (a.put o.dst v) w'' := by
        rintro v w'' ⟨hj', hb, hr⟩
        refine ih _ _ _ (updO ρ' o.dst v) (by have := cntF_set h2; omega) ⟨inv.act.put hod v, hj', by simpa using inv.size, fun j d hj hjd => ?_, fun t ht => ?_, fun j hj k hk => ?_⟩
        · rw [getD_set h2] at hj
          by_cases e : i = j
          · subst e
            rw [hdi] at hjd
            rw [hjd]
            simp only [updO, upd_same]
            exact hr
          · rw [if_neg e] at hj
            have hold := hR _ _ _ _ (inv.done j d hj hjd) hb
            have hne : o.dst ≠ some d := by
              intro e'
              have hjs : j < ops.size := by
                rcases Nat.lt_or_ge j ops.size with h | h
                · exact h
                · simp [dstOf, Array.getElem?_eq_none h] at hjd
              have := hdst i h1 j hjs
              simp [hdi, e', hjd, e] at this
            cases hdd : o.dst with
            | none => exact hold
            | some k =>
              simp only [updO]
              rw [upd_other _ _ (by rintro rfl; exact hne hdd)]
              exact hold
        · have hti : o.dst ≠ some t := by
            intro e
            have := ht i (by rw [hdi]; exact e)
            rw [getD_set h2, if_pos rfl] at this; cases this
          have : ρ' t = ρ t := inv.rest t fun j hj => by
            have := ht j hj
            rw [getD_set h2] at this
            split at this
            · cases this
            · exact this
          cases hdd : o.dst with
          | none => exact this
          | some k =>
            simp only [updO]
            rw [upd_other _ _ (by rintro rfl; exact hti hdd)]
            exact this
        · rw [getD_set h2] at hj ⊢
          split
          · rfl
          · by_cases e : i = j
            · subst e; exact hall k hk
            · rw [if_neg e] at hj; exact inv.closed j hj k hk
      unfold wpOp
      rw [ho]
      simp only
      rw [guardE_wanted inv.act hd o]
      unfold goE at hgo
      split
      · rename_i hg
        rw [if_pos hg] at hgo
        exact .inl (opE_wp inv.act hgo next)
      · rename_i hg
        rw [if_neg hg] at hgo
        exact next undef w' hgo

theorem cE_regionG {Q : Exit → Env → World → Prop} {id : Nat} {l : List Oper} (J : World → Prop) (T : World → World → Prop) (F : List (List (Nat × Option Nat))) (R : Nat → Value → World → Prop) (hm : P.follows .mixedOrders = true) (hd : dstOk n l = true)
    (hck : rgCheck l.toArray F = true) (hJ : J w.drew) (hR : ∀ i v w' w'', R i v w' → T w' w'' → R i v w'') (hop : oblG P l.toArray ρ J T R 0 l F)
    (hQ : ∀ ρ' w', J w' → (∀ i d, dstOf l.toArray i = some d → R i (ρ' d) w') → (∀ t, (∀ j, dstOf l.toArray j ≠ some t) → ρ' t = ρ t) → Q .normal ρ' w') : cE P n (.region id l.toArray true) Q ρ w := by
  intro a ha
  refine wp_region_any hm (rg_sound (dstOk_all hd) hck hR (by simpa using hop) (fun a w' ρ' h1 h2 h3 h4 => ⟨ρ', h1, hQ ρ' w' h2 h3 h4⟩) l.toArray.size _ a _ ρ (by simp [cntF]) ⟨ha, hJ, by simp, fun j d hj => ?_, fun t _ => rfl, fun j hj => ?_⟩)
  · exfalso
    rw [Array.getD_eq_getD_getElem?, Array.getElem?_replicate] at hj
    split at hj <;> simp at hj
  · exfalso
    rw [Array.getD_eq_getD_getElem?, Array.getElem?_replicate] at hj
    split at hj <;> simp at hj
def noDst (l : List Oper) (t : Nat) : Bool := l.all fun o => match o.dst with | some d => !Nat.beq d t | none => true
theorem noDst_spec {l : List Oper} {t : Nat} (h : noDst l t = true) (j : Nat) : dstOf l.toArray j ≠ some t := by
  intro e
  unfold dstOf at e
  cases ho : l.toArray[j]? with
  | none => rw [ho] at e; cases e
  | some o =>
    rw [ho] at e
    simp only [Option.bind_some] at e
    have hm : o ∈ l := List.mem_of_getElem? (by simpa using ho)
    have := List.all_eq_true.1 h o hm
    rw [e] at this
    simp at this
def stJ (w0 w : World) (L : List Item) (w' : World) : Prop := Below w.heap.size w w' ∧ St w0 w' L
def extT (w' w'' : World) : Prop := Below w'.heap.size w' w''
theorem cE_regionD {Q : Exit → Env → World → Prop} {id : Nat} {l : List Oper} {w0 : World} {L : List Item} (hst : St w0 w L) (F : List (List (Nat × Option Nat))) (R : Nat → Value → World → Prop) (hm : P.follows .mixedOrders = true) (hd : dstOk n l = true)
    (hck : rgCheck l.toArray F = true) (hR : ∀ i v w' w'', R i v w' → Below w'.heap.size w' w'' → R i v w'') (hop : oblG P l.toArray ρ (stJ w0 w L) extT R 0 l F)
    (hQ : ∀ ρ' w', Below w.heap.size w w' → St w0 w' L → (∀ i d, dstOf l.toArray i = some d → R i (ρ' d) w') → (∀ t, noDst l t = true → ρ' t = ρ t) → Q .normal ρ' w') : cE P n (.region id l.toArray true) Q ρ w :=
  cE_regionG (stJ w0 w L) extT F R hm hd hck ⟨(Below.refl _ _).drew, hst.drewW⟩ hR hop fun ρ' w' h h1 h2 => hQ ρ' w' h.1 h.2 h1 fun t ht => h2 t (noDst_spec ht)
def Rof (Rs : List (Value → World → Prop)) (i : Nat) (v : Value) (w : World) : Prop := (Rs.getD i (fun _ _ => True)) v w
def Stab (T : World → World → Prop) (p : Value → World → Prop) : Prop := ∀ v w' w'', p v w' → T w' w'' → p v w''
def stabL (T : World → World → Prop) : List (Value → World → Prop) → Prop
  | [] => True
  | p :: r => Stab T p ∧ stabL T r
theorem stabL_at {T : World → World → Prop} : ∀ {Rs : List (Value → World → Prop)}, stabL T Rs → ∀ i v w' w'', Rof Rs i v w' → T w' w'' → Rof Rs i v w''
  | [], _, i, v, w', w'', h, _ => by simp [Rof]
  | p :: r, h, 0, v, w', w'', hp, ht => h.1 v w' w'' hp ht
  | p :: r, h, i + 1, v, w', w'', hp, ht => stabL_at (Rs := r) h.2 i v w' w'' hp ht
def rEq (x : Value) : Value → World → Prop := fun v _ => v = x
def rPt (cs : List Value) : Value → World → Prop := fun v w => ∃ b off, v = .pointer (some ⟨b, off, none⟩) ∧ Pt w b off cs
theorem sEq {T : World → World → Prop} {x : Value} : Stab T (rEq x) := fun _ _ _ h _ => h
theorem sPt {cs : List Value} : Stab extT (rPt cs) := fun _ _ _ ⟨b, off, h1, h2⟩ hb => ⟨b, off, h1, h2.below hb⟩
theorem cE_regionL {Q : Exit → Env → World → Prop} {id : Nat} {l : List Oper} {w0 : World} {L : List Item} (hst : St w0 w L) (F : List (List (Nat × Option Nat))) (Rs : List (Value → World → Prop)) (hm : P.follows .mixedOrders = true) (hd : dstOk n l = true)
    (hck : rgCheck l.toArray F = true) (hR : stabL extT Rs) (hop : oblG P l.toArray ρ (stJ w0 w L) extT (Rof Rs) 0 l F)
    (hQ : ∀ ρ' w', Below w.heap.size w w' → St w0 w' L → (∀ i d, dstOf l.toArray i = some d → Rof Rs i (ρ' d) w') → (∀ t, noDst l t = true → ρ' t = ρ t) → Q .normal ρ' w') : cE P n (.region id l.toArray true) Q ρ w :=
  cE_regionD hst F (Rof Rs) hm hd hck (stabL_at hR) hop hQ
theorem kD {w0 w w' w'' : World} {L L' : List Item} {p : Prop} (h : stJ w0 w L w') (h' : St w' w'' L') (hp : p) : stJ w0 w L w'' ∧ extT w' w'' ∧ p :=
  ⟨⟨h.1.trans (h'.below.mono h.1.size), h.2.ext h'.below⟩, h'.below, hp⟩
theorem kS {w0 w w' : World} {L : List Item} {p : Prop} (h : stJ w0 w L w') (hp : p) : stJ w0 w L w' ∧ extT w' w' ∧ p := ⟨h, Below.refl _ _, hp⟩

/-! One obligation. -/
variable {K : Value → World → Prop} {dst : Option Tmp} {op : Op} {ty : TypeId} {pos : String} {aft : Array Edge}
theorem go_plain (h : opE P ⟨dst, op, ty, pos, aft, none⟩ ρ w K) : goE P ops ⟨dst, op, ty, pos, aft, none⟩ ρ w K := by unfold goE; exact h
theorem go_yes {j : Nat} {want : Bool} (e : Nat) (hd : dstOf ops j = some e) (hb : ρ e = .bool want) (h : opE P ⟨dst, op, ty, pos, aft, some (j, want)⟩ ρ w K) : goE P ops ⟨dst, op, ty, pos, aft, some (j, want)⟩ ρ w K := by
  unfold goE; rw [if_pos (guard_yes e hd hb)]; exact h
theorem go_no {j : Nat} {want : Bool} (e : Nat) (hd : dstOf ops j = some e) (hb : ρ e = .bool (!want)) (h : K undef w) : goE P ops ⟨dst, op, ty, pos, aft, some (j, want)⟩ ρ w K := by
  unfold goE; rw [if_neg (by rw [guard_no e hd hb]; simp)]; exact h
end
end Go.Proofs.YtgibfidebdgffaaDoor
end
section
namespace Go.Proofs.YtgibfidebdgffaaDoor
open Go.RowKit

theorem foldl_seg (vs : List Value) : ∀ (off j : Nat) (cells : Array Value), off + j + vs.length ≤ cells.size →
    ((vs.zipIdx j).foldl (fun cs (c, i) => cs.setIfInBounds (off + i) c) cells).toList = cells.toList.take (off + j) ++ vs ++ cells.toList.drop (off + j + vs.length) := by
  induction vs with
  | nil => intro off j cells _; simp
  | cons v vs ih =>
    intro off j cells h
    simp only [List.zipIdx_cons, List.foldl_cons, List.length_cons] at h ⊢
    rw [ih off (j + 1) _ (by simp; omega)]
    rw [Array.toList_setIfInBounds]
    have hlt : off + j < cells.toList.length := by simp; omega
    have e : off + (j + 1) = off + j + 1 := by omega
    rw [e, List.take_succ_eq_append_getElem (by simpa using hlt), List.take_set_of_le (Nat.le_refl _), List.getElem_set_self, List.drop_set_of_lt (by omega)]
    simp [List.append_assoc, Nat.add_comm, Nat.add_left_comm]

def partsOf {α : Type} (E : Enc α) : Nat → List (Nat × Value) → List α → Prop
  | _, [], ys => ys = []
  | k, (i, v) :: vs, ys => ∃ y r, ys = y :: r ∧ i = k ∧ v.cells.toList = E.enc y ∧ partsOf E (k + 1) vs r
theorem parts_nil {α : Type} {E : Enc α} {k : Nat} : partsOf E k [] [] := rfl
theorem parts_cons {α : Type} {E : Enc α} {k : Nat} {v : Value} {vs : List (Nat × Value)} {y : α} {ys : List α} (h : v.cells.toList = E.enc y) (hr : partsOf E (k + 1) vs ys) : partsOf E k ((k, v) :: vs) (y :: ys) := ⟨y, ys, rfl, rfl, h, hr⟩
theorem fill_parts {α : Type} {E : Enc α} : ∀ (vs : List (Nat × Value)) (ys : List α) (k : Nat) (cells : Array Value), partsOf E k vs ys → cells.size = (k + ys.length) * E.size →
    ∃ cs, Instr.fill (fun i => some (i * E.size, E.size)) cells vs = some cs ∧ cs.size = cells.size ∧ cs.toList = cells.toList.take (k * E.size) ++ ys.flatMap E.enc
  | [], ys, k, cells, h, hs => by
    cases h
    exact ⟨cells, rfl, rfl, by rw [List.take_of_length_le (by simpa using Nat.le_of_eq hs)]; simp⟩
  | (i, v) :: vs, ys, k, cells, h, hs => by
    obtain ⟨y, r, rfl, rfl, hv, hr⟩ := h
    have hvs : v.cells.size = E.size := by rw [← Array.length_toList, hv, E.len]
    have hroom : i * E.size + E.size ≤ cells.size := by
      rw [hs, ← Nat.succ_mul]; exact Nat.mul_le_mul_right _ (by simp)
    have hseg := foldl_seg v.cells.toList (i * E.size) 0 cells (by simp [hvs]; omega)
    generalize hc1 : (v.cells.toList.zipIdx 0).foldl (fun cs (x : Value × Nat) => cs.setIfInBounds (i * E.size + x.2) x.1) cells = c1 at hseg
    have hsz : c1.size = cells.size := by
      rw [← Array.length_toList, hseg]
      simp [hvs]
      omega
    obtain ⟨cs, h1, h2, h3⟩ := fill_parts vs r (i + 1) c1 hr (by rw [hsz, hs]; congr 1; simp; omega)
    refine ⟨cs, ?_, h2.trans hsz, ?_⟩
    · unfold Instr.fill
      simp only
      rw [if_neg (by simp [hvs]; omega)]
      rw [← h1]
      congr 1
      rw [← hc1, ← Array.foldl_toList, Array.toList_zipIdx]
    · rw [h3, hseg, Nat.succ_mul, List.flatMap_cons, ← hv]
      simp only [Nat.add_zero]
      have hl : (cells.toList.take (i * E.size) ++ v.cells.toList).length = i * E.size + E.size := by simp [hvs]; omega
      rw [List.take_append_of_le_length (by omega), List.take_of_length_le (by omega)]
      simp [List.append_assoc]

section
variable {P : Program} {ρ : Env} {w w0 : World} {L : List Item} {K : Value → World → Prop}
variable {dst : Option Tmp} {ty : TypeId} {pos : String} {aft : Array Edge} {g : Option (Nat × Bool)}
theorem op_buildSlice {α : Type} {E : Enc α} {T e : TypeId} {ps : List (Nat × Operand)} {vs : List (Nat × Value)} {z : Value} {n : Nat} (ys : List α) (hst : St w0 w L) (hT : P.underlying T = some (.slice e)) (hs : ∀ w, (sizeOf e).run P w = .ok E.size w) (hz : ∀ w, (zeroValue e).run P w = .ok z w)
    (hv : evp ρ ps vs) (hp : partsOf E 0 vs ys) (hn : ys.length = n) (hb : n * E.size ≤ 16777216)
    (h : ∀ v w', St w0 w' (rowT e E v ys :: L) → K v w') : opE P ⟨dst, .buildSlice T n ps.toArray, ty, pos, aft, g⟩ ρ w K := by
  have main : ∀ zero : Array Value, ∃ cs, Instr.fill (fun i => some (i * E.size, E.size)) ((Array.range (n * E.size)).map (zero[· % zero.size]!)) vs = some cs ∧ cs.size = n * E.size ∧ cs.toList = ys.flatMap E.enc := fun zero => by
    obtain ⟨cs, h1, h2, h3⟩ := fill_parts vs ys 0 ((Array.range (n * E.size)).map (zero[· % zero.size]!)) hp (by simp [hn])
    exact ⟨cs, h1, by simpa using h2, by simpa using h3⟩
  have fin : ∀ cs : Array Value, cs.size = n * E.size → cs.toList = ys.flatMap E.enc → St w0 (w.alloc (.cells cs e)) (rowT e E (.slice (some ⟨w.heap.size, 0, none⟩) n n) ys :: L) := fun cs h1 h2 => by
    subst hn
    have hp := E.pos
    have hle : ys.length ≤ ys.length * E.size := Nat.le_mul_of_pos_right _ hp
    refine hst.newRow e E ys cs ys.length (by unfold maxLen; omega) (Nat.le_refl _) h1 (by rw [h2, List.take_of_length_le (by rw [E.flat]; exact Nat.le_refl _)]) (E.flat ys)
  have hnb : ¬ n * E.size > 2 ^ 24 := by
    have : (2 : Nat) ^ 24 = 16777216 := by decide
    omega
  by_cases h0 : n * E.size = 0
  · obtain ⟨cs, h1, h2, h3⟩ := main #[]
    refine op_of (v := .slice (some ⟨w.heap.size, 0, none⟩) n n) (w' := w.alloc (.cells cs e)) ?_ (h _ _ (fin cs h2 h3))
    unfold execOp
    simp only
    rw [evp_map hv]
    simp only [Instr.buildSlice, Sem.run_bind, run_underlying hT, Result.andThen_ok, hs, Sem.run_ite, if_neg hnb, Sem.run_pure, if_pos h0, h1]
    simp [newRow]
  · obtain ⟨cs, h1, h2, h3⟩ := main z.cells
    refine op_of (v := .slice (some ⟨w.heap.size, 0, none⟩) n n) (w' := w.alloc (.cells cs e)) ?_ (h _ _ (fin cs h2 h3))
    unfold execOp
    simp only
    rw [evp_map hv]
    simp only [Instr.buildSlice, Sem.run_bind, run_underlying hT, Result.andThen_ok, hs, Sem.run_ite, if_neg hnb, Sem.run_pure, if_neg h0, hz, h1]
    simp [newRow]
end

/-! ### Numbers -/
theorem xi64 {n : Int} (h0 : -9223372036854775808 ≤ n) (h1 : n ≤ 9223372036854775807) : IntKind.i64.wrap n = n := by rw [IntKind.wrap_i64]; omega
theorem xu64 {n : Int} (h0 : 0 ≤ n) (h1 : n ≤ 18446744073709551615) : IntKind.u64.wrap n = n := by rw [IntKind.wrap_u64]; omega
theorem xu32 {n : Int} (h0 : 0 ≤ n) (h1 : n ≤ 4294967295) : IntKind.u32.wrap n = n := by rw [IntKind.wrap_u32]; omega
def byt (e : Int) : UInt8 := UInt8.ofNat e.toNat
theorem byt_toNat {e : Int} (h0 : 0 ≤ e) (h1 : e ≤ 255) : ((byt e).toNat : Int) = e := by
  unfold byt
  rw [UInt8.toNat_ofNat_of_lt' (by have : UInt8.size = 256 := rfl; omega)]
  omega
theorem byt_of (b : UInt8) : byt (b.toNat : Int) = b := by unfold byt; simp
theorem u8_lt (b : UInt8) : (b.toNat : Int) ≤ 255 := by have := b.toNat_lt; omega
theorem tmod_nn {a b : Int} (h0 : 0 ≤ a) : a.tmod b = a % b := Int.tmod_eq_emod_of_nonneg h0
theorem tdiv_nn {a b : Int} (h0 : 0 ≤ a) : a.tdiv b = a / b := Int.tdiv_eq_ediv_of_nonneg h0
theorem Pt.of {w : World} {b off : Nat} {cs ds r : List Value} (h : Pt w b off cs) (e : cs = ds ++ r) : Pt w b off ds := by subst e; exact h.pre
section
variable {P : Program} {ρ : Env} {w : World} {K : Value → World → Prop}
variable {dst : Option Tmp} {ty : TypeId} {pos : String} {aft : Array Edge} {g : Option (Nat × Bool)}
end
section
variable {P : Program} {ρ : Env} {w w0 : World} {L : List Item} {K : Value → World → Prop}
variable {dst : Option Tmp} {ty : TypeId} {pos : String} {aft : Array Edge} {g : Option (Nat × Bool)}
theorem op_indexAddrN {α : Type} {E : Enc α} {T e : TypeId} {x i : Operand} {v : Value} {xs : List α} {k : IntKind} {m : Int} {w1 : World} (n : Nat) (hT : P.underlying T = some (.slice e)) (hs : ∀ w, (sizeOf e).run P w = .ok E.size w)
    (hx : evE ρ x = v) (hsl : Sl w1 E v xs) (hi : evE ρ i = .int k m) (hn : m = (n : Int)) (hm : n < xs.length)
    (h : ∀ b off, Pt w1 b off (E.enc (xs[n]'hm)) → K (.pointer (some ⟨b, off, none⟩)) w) : opE P ⟨dst, .indexAddr T x i, ty, pos, aft, g⟩ ρ w K := by
  subst hn; exact op_indexAddr hT hs hx hsl hi (by omega) (by omega) h
theorem op_indexRowN {α : Type} {E : Enc α} {T e Tr : TypeId} {x i : Operand} {v : Value} {xs : List α} {k : IntKind} {m : Int} (hst : St w0 w L) (j : Nat) (hj : L[j]? = some (rowT Tr E v xs)) (n : Nat) (hT : P.underlying T = some (.slice e)) (hs : ∀ w, (sizeOf e).run P w = .ok E.size w)
    (hx : evE ρ x = v) (hi : evE ρ i = .int k m) (hn : m = (n : Int)) (hm : n < xs.length)
    (h : ∀ b, v.ownBlock = some b → Pt w b (n * E.size) (E.enc (xs[n]'hm)) → K (.pointer (some ⟨b, n * E.size, none⟩)) w) : opE P ⟨dst, .indexAddr T x i, ty, pos, aft, g⟩ ρ w K := by
  subst hn; exact op_indexRow hst j hj hT hs hx hi (by omega) (by omega) h
theorem op_slice_fromN {α : Type} {E : Enc α} {T e : TypeId} {x lo : Operand} {v : Value} {xs : List α} {k : IntKind} {m : Int} {w1 : World} (n : Nat) (hT : P.underlying T = some (.slice e)) (hs : ∀ w, (sizeOf e).run P w = .ok E.size w)
    (hx : evE ρ x = v) (hsl : Sl w1 E v xs) (hi : evE ρ lo = .int k m) (hn : m = (n : Int)) (hm : n ≤ xs.length)
    (h : ∀ v', Sl w1 E v' (xs.drop n) → K v' w) : opE P ⟨dst, .slice T x (some lo) none none, ty, pos, aft, g⟩ ρ w K := by
  subst hn; exact op_slice_from hT hs hx hsl hi (by omega) (by omega) h
theorem op_slice_toN {α : Type} {E : Enc α} {T e : TypeId} {x hi : Operand} {v : Value} {xs : List α} {k : IntKind} {m : Int} {w1 : World} (n : Nat) (hT : P.underlying T = some (.slice e)) (hs : ∀ w, (sizeOf e).run P w = .ok E.size w)
    (hx : evE ρ x = v) (hsl : Sl w1 E v xs) (hh : evE ρ hi = .int k m) (hn : m = (n : Int)) (hm : n ≤ xs.length)
    (h : ∀ v', Sl w1 E v' (xs.take n) → K v' w) : opE P ⟨dst, .slice T x none (some hi) none, ty, pos, aft, g⟩ ρ w K := by
  subst hn; exact op_slice_to hT hs hx hsl hh (by omega) (by omega) h
theorem op_slice_bothN {α : Type} {E : Enc α} {T e : TypeId} {x lo hi : Operand} {v : Value} {xs : List α} {k k' : IntKind} {m n : Int} {w1 : World} (m' n' : Nat) (hT : P.underlying T = some (.slice e)) (hs : ∀ w, (sizeOf e).run P w = .ok E.size w)
    (hx : evE ρ x = v) (hsl : Sl w1 E v xs) (hl : evE ρ lo = .int k m) (hh : evE ρ hi = .int k' n) (hm : m = (m' : Int)) (hn : n = (n' : Int)) (hmn : m' ≤ n') (hle : n' ≤ xs.length)
    (h : ∀ v', Sl w1 E v' ((xs.take n').drop m') → K v' w) : opE P ⟨dst, .slice T x (some lo) (some hi) none, ty, pos, aft, g⟩ ρ w K := by
  subst hm hn; exact op_slice_both hT hs hx hsl hl hh (by omega) (by omega) (by omega) h
end
theorem u8cell {e : Int} : u8E.enc (byt e) = [.int .u8 ((byt e).toNat : Int)] := rfl
theorem byt_cell {e : Int} (h0 : 0 ≤ e) (h1 : e ≤ 255) : (Value.int .u8 e).cells.toList = [.int .u8 ((byt e).toNat : Int)] := by rw [byt_toNat h0 h1]; rfl
theorem quo_x {k : IntKind} {a b : Int} (h0 : 0 ≤ a) (_hb : 0 < b) (hw : k.wrap (a / b) = a / b) : k.wrap (a.tdiv b) = a / b := by rw [tdiv_nn h0]; exact hw
theorem retv1 {a a' : Value} (h : a = a') : Ending.returned a = .returned a' := by rw [h]
theorem retv2 {a a' b b' : Value} (h : a = a') (h2 : b = b') : Ending.returned (.tuple #[a, b]) = .returned (.tuple #[a', b']) := by rw [h, h2]
theorem retv3 {a a' b b' c c' : Value} (h : a = a') (h2 : b = b') (h3 : c = c') : Ending.returned (.tuple #[a, b, c]) = .returned (.tuple #[a', b', c']) := by rw [h, h2, h3]
theorem shr7 {a : Int} : a / 2 ^ (7 : Int).toNat = a / 128 := rfl
theorem shr1 {a : Int} : a / 2 ^ (1 : Int).toNat = a / 2 := rfl
end Go.Proofs.YtgibfidebdgffaaDoor
end
section
namespace Go.Proofs.YtgibfidebdgffaaDoor
open Go.RowKit Go.ChangeShapes Go.WideShapes Go.ChangeAt

section
variable {H : Type} {enc : TypeId × Value → H} {P : Program} {w : World} {base : Nat} {spare : Nat → Bool} {held : Bool}

def Opens {α : Type} (P : Program) (t : TypeId) (E : Enc α) (wf : α → Prop) : Prop :=
  ∀ (H : Type) (enc : TypeId × Value → H) (w : World) (base : Nat) (spare : Nat → Bool) (held : Bool) (fuel : Nat) (cs : List Value) (x : DataW H × List MemPlace),
    DataW.trod enc P w base spare held fuel t cs = some x → ∃ y : α, cs = E.enc y ∧ wf y

theorem opens_int {t : TypeId} {k : IntKind} (ht : P.underlying t = some (.int k)) : Opens P t (intE k) (fun n => k.min ≤ n ∧ n ≤ k.max) := by
  intro H enc w base spare held fuel cs x h
  obtain ⟨n, rfl, _, hw⟩ := DataW.trod_int ht h
  exact ⟨n, rfl, by simpa [Lit.wf] using hw⟩
theorem spot_of_cell {a : Addr} {v : Value} (h : w.cell? a = some v) : a = ⟨a.block, a.off, none⟩ := by
  obtain ⟨b, o, s⟩ := a
  cases s with
  | none => rfl
  | some x =>
    exfalso
    unfold World.cell? at h
    split at h <;> simp at h

end

theorem wf_bi64 {n : Int} (h : (Lit.int .i64 n).wf = true) : -9223372036854775808 ≤ n ∧ n ≤ 9223372036854775807 := by
  simp only [Lit.wf, Bool.and_eq_true, decide_eq_true_eq] at h
  have h1 : IntKind.i64.min = -9223372036854775808 := by decide
  have h2 : IntKind.i64.max = 9223372036854775807 := by decide
  rw [h1, h2] at h; exact h
/-! ### The end of a law's row -/
section
variable {H : Type} {enc : TypeId × Value → H} {P : Program}
theorem trodAll_kept (hl : laidOutB P = true) {W W' : World} {sp : Nat → Bool} : ∀ {ts : List TypeId} {vs : List Value} {ds : List (DataW H)} {ps : List MemPlace}, (ts.all fun t => P.readableRec t && decide (t < P.types.size)) = true →
    DataW.TrodAll enc P W 0 (fun _ => true) true ts vs ds ps → (∀ p ∈ ps, W.sameAt W' p) → (∀ p ∈ ps, sp p.block = true) → DataW.TrodAll enc P W' 0 sp true ts vs ds ps
  | [], vs, ds, ps, _, h, _, _ => by
    obtain ⟨rfl, rfl, rfl⟩ := trodAll_nil h
    exact trodAll_mk0
  | t :: ts, vs, ds, ps, ht, h, hs, hp => by
    obtain ⟨v, vs', d, ds', p, q, rfl, rfl, rfl, h1, h2⟩ := trodAll_cons h
    simp only [List.all_cons, Bool.and_eq_true, decide_eq_true_eq] at ht
    exact ⟨p, q, Go.WideElems.Trod_stays hl ht.1.1 ht.1.2 h1 (fun x hx => hs x (by simp [hx])) (fun x hx => hp x (by simp [hx])),
      trodAll_kept hl ht.2 h2 (fun x hx => hs x (by simp [hx])) (fun x hx => hp x (by simp [hx])), rfl⟩

theorem law_post {f : Func} {s : ChangeSpec} {apart fresh handsOn again : Bool} {W W' : World} {args : Array Value} {ds gs : List (DataW H)} {before : List MemPlace} {tb : TypeId} (hl : laidOutB P = true)
    (hr : (f.params.toList.all fun t => P.readableRec t && decide (t < P.types.size)) = true) (hrt : f.resultTypes = #[tb]) (hb : P.underlying tb = some .bool) (hv : s.vars = [])
    (hs : (s.fn H ds).results = [.lit (.bool true)] ∧ (s.fn H ds).args = ds ∧ (s.fn H ds).vars = [])
    (hW : DataW.Whole enc P f.params.toList s.vars apart W args.toList ds gs before) (hbel : Below W.heap.size W W') :
    s.post enc P f apart fresh handsOn again W args (.bool true) W' := by
  have hlt : ∀ p ∈ before, p.block < W.heap.size := fun p hp => hW.lt p hp
  have hW0 := hW
  obtain ⟨p, q, hA, hV, hpq, hz, hn⟩ := hW
  rw [hv] at hV
  obtain ⟨rfl, rfl⟩ := trodVars_none hV
  rw [List.append_nil] at hpq
  subst hpq
  obtain ⟨hs1, hs2, hs3⟩ := hs
  have hold : ∀ x ∈ before, (fun b => decide (b < W.heap.size)) x.block = true := fun x hx => by simpa using hlt x hx
  have hargs : ∀ sp : Nat → Bool, (∀ x ∈ before, sp x.block = true) → DataW.TrodAll enc P W' 0 sp true f.params.toList args.toList (s.fn H (ds ++ [])).args before := fun sp hsp => by
    rw [List.append_nil, hs2]
    exact trodAll_kept hl hr hA (fun x hx => hbel.same (hlt x hx)) hsp
  have hres : ∀ (b : Nat) (sp : Nat → Bool) (hd : Bool), DataW.TrodAll enc P W' b sp hd f.resultTypes.toList ((Value.bool true).resultList f.resultTypes.size) (s.fn H (ds ++ [])).results [] := fun b sp hd => by
    rw [List.append_nil, hs1, hrt]
    exact trodAll_mk1 (shut_bool hb true)
  have hvars : ∀ sp : Nat → Bool, DataW.TrodVars enc P W' sp s.vars (s.fn H (ds ++ [])).vars [] := fun sp => by
    rw [List.append_nil, hs3, hv]
    rfl
  have hok : ∀ (j : Nat) (t : TypeId) (r : Value), f.resultTypes[j]? = some t → ((Value.bool true).resultList f.resultTypes.size)[j]? = some r → Value.okWide P W' .any 0 t r := by
    rw [hrt]
    exact ok_one hrt rfl (okWide_bool_mk hb true) |> fun h => by simpa [hrt] using h
  refine ⟨ds, [], before, [], before, [], hW0, hres _ _ _, hargs _ hold, hvars _, World.keptBut_mono (fun x hx => ⟨hx, ?_⟩) (hbel.frame (· ∈ before)), fun _ => ?_⟩
  · exact Or.inr (Or.inl hx)
  · refine ⟨hok, _, _, ([] ++ before) ++ [], ⟨[] ++ before, [], trodAll_append (hargs _ (fun _ _ => rfl)) (hres _ _ _), hvars _, rfl, ?_, ?_⟩, ?_⟩
    · intro b off hp
      have hin : MemPlace.cell b off ∈ before := by simpa using hp
      rw [hbel.frozen (hlt _ hin)]
      exact hz b off hin
    · intro ha
      simpa using hn ha
    · intro x hx _
      simpa using hx
end
end Go.Proofs.YtgibfidebdgffaaDoor
end
section
namespace Go.Proofs.YtgibfidebdgffaaDoor
open Go.RowKit Go.ChangeShapes Go.WideShapes Go.ChangeAt
section
variable {H : Type} {enc : TypeId × Value → H} {P : Program} {w : World} {base : Nat} {spare : Nat → Bool} {held : Bool}
theorem open_slZ {α : Type} {E : Enc α} {wf : α → Prop} {T e : TypeId} {v : Value} {d : DataW H} {ps : List MemPlace} {r : Reach} {b0 : Nat} (hT : P.underlying T = some (.slice e)) (hC : P.cellsOf e = E.size) (ho : Opens P e E wf)
    (hv : Value.okWide P w r b0 T v) (h : DataW.Trod enc P w base spare held T v d ps) : ∃ xs : List α, Sl w E v xs ∧ (∀ x ∈ xs, wf x) ∧ ((d = .nil ∧ xs = []) ∨ ∃ el sp, d = .slice el sp ∧ el.length = xs.length) := by
  obtain ⟨a0, len0, cap0, rfl⟩ := okWide_slice hT hv
  obtain ⟨fuel, hf⟩ := h
  rcases Go.Deep.open_slice hT hf with ⟨hc, hx0⟩ | ⟨a, len, cap, m, n, D, Pl, hc, _, hl, hm, hmm, hx0, hi⟩
  · simp only [Value.cells, List.cons.injEq, and_true] at hc
    rw [hc]
    exact ⟨[], Sl.nil E w, by simp, Or.inl ⟨congrArg Prod.fst hx0, rfl⟩⟩
  · simp only [Value.cells, List.cons.injEq, and_true] at hc
    rw [hc]
    have hlm : len ≤ m := by rw [hmm]; split <;> omega
    have hdl : ∃ el sp, d = .slice el sp ∧ el.length = len := ⟨_, _, congrArg Prod.fst hx0, by simp⟩
    have each : ∀ i, i < len → ∃ y : α, wf y ∧ ∀ j u, (E.enc y)[j]? = some u → w.cell? (a.add (i * E.size + j)) = some u := by
      intro i hilt
      obtain ⟨cs', h1, h2⟩ := hi i (by omega)
      obtain ⟨y, rfl, hwf⟩ := ho H enc w base spare held n cs' _ h2
      refine ⟨y, hwf, fun j u hu => ?_⟩
      rw [hC] at h1
      obtain ⟨_, hlen, hat⟩ := World.cells?_some h1
      have hj : j < E.size := by rw [← E.len y]; exact (List.getElem?_eq_some_iff.1 hu).1
      rw [← Go.Deep.add_add, hat j hj, hu]
    have main : ∃ xs : List α, xs.length = len ∧ (∀ x ∈ xs, wf x) ∧ ∀ i x, xs[i]? = some x → ∀ j u, (E.enc x)[j]? = some u → w.cell? (a.add (i * E.size + j)) = some u := by
      clear hc hi hlm hmm hl hx0 hdl
      induction len with
      | zero => exact ⟨[], rfl, by simp, by simp⟩
      | succ k ih =>
        obtain ⟨xs, h1, h2, h3⟩ := ih fun i hi => each i (by omega)
        obtain ⟨y, hy, hcell⟩ := each k (by omega)
        refine ⟨xs ++ [y], by simp [h1], fun x hx => ?_, fun i x hx => ?_⟩
        · rcases List.mem_append.1 hx with hx | hx
          · exact h2 x hx
          · rw [List.mem_singleton] at hx; subst hx; exact hy
        · rcases Nat.lt_or_ge i xs.length with hlt | hge
          · rw [List.getElem?_append_left hlt] at hx; exact h3 i x hx
          · rw [List.getElem?_append_right hge] at hx
            have h0 : i - xs.length = 0 := by
              rcases Nat.eq_zero_or_pos (i - xs.length) with h | h
              · exact h
              · rw [List.getElem?_eq_none (by simp; omega)] at hx; cases hx
            rw [h0] at hx
            simp only [List.getElem?_cons_zero, Option.some.injEq] at hx
            subst hx
            have : i = k := by omega
            subst this
            exact hcell
    obtain ⟨xs, h1, h2, h3⟩ := main
    refine ⟨xs, ⟨some a, cap, by rw [h1], by omega, hm, fun hne => ?_⟩, h2, Or.inr (by rw [h1]; exact hdl)⟩
    rcases xs with _ | ⟨x, xs⟩
    · exact absurd rfl hne
    · have h0 := h3 0 x rfl 0 _ (List.getElem?_eq_getElem (by rw [E.len]; exact E.pos))
      simp only [Nat.zero_mul, Nat.zero_add, Addr.add_zero'] at h0
      have ha := spot_of_cell h0
      refine ⟨a.block, a.off, by rw [← ha], fun i y hy j u hu => ?_⟩
      have := h3 i y hy j u hu
      rw [ha, Addr.add_lit] at this
      rw [Nat.add_assoc]; exact this

theorem sized_of {α : Type} {ts : List TypeId} {ds : List (DataW H)} {d : DataW H} {xs : List α} {j : Nat} {t e : TypeId} {n : Nat} (h : (DataW.weightsEach P ts ds).all (· ≤ reachBytes) = true) (ht : ts[j]? = some t) (hd : ds[j]? = some d) (hu : P.underlying t = some (.slice e)) (hb : P.bytesOf e = n)
    (hs : (d = .nil ∧ xs = []) ∨ ∃ el sp, d = .slice el sp ∧ el.length = xs.length) : xs.length * n ≤ 140737488351232 := by
  rcases hs with ⟨_, rfl⟩ | ⟨el, sp, rfl, hl⟩
  · simp
  · have := sized_slice h ht hd hu
    rw [hb] at this
    have e : reachBytes = 140737488351232 := rfl
    rw [e, Nat.add_mul, hl] at this
    exact Nat.le_trans (Nat.le_add_right _ _) this
end
end Go.Proofs.YtgibfidebdgffaaDoor
end
section
namespace Go.Proofs.YtgibfidebdgffaaDoor
open Go.RowKit
def putF : Nat → Nat → List UInt8
  | 0, m => [byt (m : Int)]
  | f + 1, m => if m < 128 then [byt (m : Int)] else byt ((m : Int) % 256 % 128 + 128) :: putF f (m / 128)
def put (n : Int) : List UInt8 := putF 9 n.toNat
theorem put_start {n : Int} (h0 : 0 ≤ n) (h1 : n ≤ 18446744073709551615) : ∃ m : Nat, n = (m : Int) ∧ put n = [] ++ putF 9 m ∧ m < 128 ^ (9 + 1) := by
  refine ⟨n.toNat, by omega, rfl, ?_⟩
  have : (128 : Nat) ^ (9 + 1) = 1180591620717411303424 := by decide
  omega
theorem putF_next {f m : Nat} {l d : List UInt8} (hm : 128 ≤ m) (hb : m < 128 ^ (f + 1)) (h : l = d ++ putF f m) :
    ∃ g, f = g + 1 ∧ l = (d ++ [byt ((m : Int) % 256 % 128 + 128)]) ++ putF g (m / 128) ∧ m / 128 < 128 ^ (g + 1) := by
  cases f with
  | zero => simp at hb; omega
  | succ g =>
    refine ⟨g, rfl, ?_, ?_⟩
    · rw [h, putF, if_neg (by omega)]; simp
    · rw [Nat.div_lt_iff_lt_mul (by decide)]; rw [Nat.pow_succ] at hb; exact hb
theorem putF_last {f m : Nat} {l d : List UInt8} (hm : m < 128) (h : l = d ++ putF f m) : d ++ [byt ((m : Int) % 256)] = l := by
  have e : (m : Int) % 256 = m := by omega
  rw [h, e]
  cases f with
  | zero => rfl
  | succ g => rw [putF, if_pos hm]
theorem putF_length : ∀ f m, 1 ≤ (putF f m).length ∧ (putF f m).length ≤ f + 1
  | 0, m => by simp [putF]
  | f + 1, m => by
    have := putF_length f (m / 128)
    unfold putF
    split
    · simp
    · simp; omega
theorem put_length (n : Int) : 1 ≤ (put n).length ∧ (put n).length ≤ 10 := putF_length 9 n.toNat
def getG : Nat → Nat → Nat → List UInt8 → Option (Nat × Nat)
  | 0, _, _, _ => none
  | _ + 1, _, _, [] => none
  | f + 1, k, n, c :: l =>
    if k = 9 ∧ 1 < c.toNat then none
    else if 128 ≤ c.toNat then getG f (k + 1) (n + c.toNat % 128 * 128 ^ k) l
    else if 0 < k ∧ c.toNat = 0 then none
    else some (n + c.toNat % 128 * 128 ^ k, k + 1)
def get (b : List UInt8) (at_ : Int) : Int × Int × Int :=
  if at_ < 0 ∨ (b.length : Int) < at_ then (0, at_, 1)
  else match getG 10 0 0 (b.drop at_.toNat) with
    | some (n, k) => ((n : Int), at_ + (k : Int), 0)
    | none => (0, at_, 2)

theorem or128 {a : Int} (h0 : 0 ≤ a) (h1 : a ≤ 255) : bits .or .u8 a 128 = a % 128 + 128 := by
  obtain ⟨n, rfl⟩ := Int.eq_ofNat_of_zero_le h0
  have h : ∀ m : Fin 256, bits .or .u8 ((m : Nat) : Int) 128 = ((m : Nat) : Int) % 128 + 128 := by decide +kernel
  exact h ⟨n, by omega⟩
theorem and127 {a : Int} (h0 : 0 ≤ a) (h1 : a ≤ 255) : bits .and .u8 a 127 = a % 128 := by
  obtain ⟨n, rfl⟩ := Int.eq_ofNat_of_zero_le h0
  have h : ∀ m : Fin 256, bits .and .u8 ((m : Nat) : Int) 127 = ((m : Nat) : Int) % 128 := by decide +kernel
  exact h ⟨n, by omega⟩
theorem pow7 (k : Nat) : (2 : Nat) ^ (7 * k) = 128 ^ k := by rw [Nat.pow_mul]
theorem ofNat64 {a : Nat} (h : a < 18446744073709551616) : (BitVec.ofInt 64 (a : Int)).toNat = a := by
  rw [BitVec.ofInt_natCast, BitVec.toNat_ofNat]; exact Nat.mod_eq_of_lt h
theorem or_disj {n a k : Nat} (hn : n < 128 ^ k) (hb : a * 128 ^ k < 18446744073709551616) (hk : 128 ^ k ≤ 18446744073709551616) : bits .or .u64 (n : Int) ((a : Int) * 128 ^ k) = (((n + a * 128 ^ k : Nat)) : Int) := by
  have e : ((a : Int) * 128 ^ k) = ((a * 128 ^ k : Nat) : Int) := by push_cast; rfl
  rw [e]
  show IntKind.u64.wrap ((BitVec.ofInt 64 (n : Int) ||| BitVec.ofInt 64 ((a * 128 ^ k : Nat) : Int)).toNat : Int) = _
  rw [BitVec.toNat_or, ofNat64 (by omega), ofNat64 hb]
  have hor : n ||| a * 128 ^ k = n + a * 128 ^ k := by
    rw [← pow7] at hn ⊢
    rw [Nat.or_comm, Nat.mul_comm, ← Nat.two_pow_add_eq_or_of_lt hn, Nat.add_comm]
  rw [hor, IntKind.wrap_u64]
  have hsum : n + a * 128 ^ k < 18446744073709551616 := by
    rw [← hor]
    have h1 : n < 2 ^ 64 := by
      have : (2 : Nat) ^ 64 = 18446744073709551616 := by decide
      omega
    have h2 : a * 128 ^ k < 2 ^ 64 := by
      have : (2 : Nat) ^ 64 = 18446744073709551616 := by decide
      omega
    have := Nat.or_lt_two_pow h1 h2
    have e2 : (2 : Nat) ^ 64 = 18446744073709551616 := by decide
    omega
  omega
theorem pow128_le {k : Nat} (h : k ≤ 9) : 128 ^ k ≤ 9223372036854775808 := by
  have h1 : (128 : Nat) ^ k ≤ 128 ^ 9 := Nat.pow_le_pow_right (by decide) h
  have : (128 : Nat) ^ 9 = 9223372036854775808 := by decide
  omega
theorem seven_bits {k : Nat} {c : UInt8} (hk : k < 10) (h9 : k = 9 → c.toNat ≤ 1) : c.toNat % 128 * 128 ^ k < 18446744073709551616 := by
  rcases Nat.lt_or_ge k 9 with h | h
  · have h1 : (128 : Nat) ^ k ≤ 128 ^ 8 := Nat.pow_le_pow_right (by decide) (by omega)
    have h2 : (128 : Nat) ^ 8 = 72057594037927936 := by decide
    have h3 : c.toNat % 128 ≤ 127 := by omega
    calc c.toNat % 128 * 128 ^ k ≤ 127 * 72057594037927936 := Nat.mul_le_mul h3 (by omega)
      _ < 18446744073709551616 := by decide
  · have hk9 : k = 9 := by omega
    subst hk9
    have := h9 rfl
    have h1 : c.toNat % 128 ≤ 1 := by omega
    have h2 : (128 : Nat) ^ 9 = 9223372036854775808 := by decide
    calc c.toNat % 128 * 128 ^ 9 ≤ 1 * 9223372036854775808 := Nat.mul_le_mul h1 (by omega)
      _ < 18446744073709551616 := by decide
theorem shl7 {k : Nat} {c : UInt8} (hk : k < 10) (h9 : k = 9 → c.toNat ≤ 1) : IntKind.u64.wrap (((c.toNat : Int) % 128) * 2 ^ (7 * (k : Int)).toNat) = ((c.toNat % 128 : Nat) : Int) * 128 ^ k := by
  have e : (7 * (k : Int)).toNat = 7 * k := by omega
  have h := seven_bits hk h9
  have e2 : ((c.toNat : Int) % 128) * 2 ^ (7 * k) = ((c.toNat % 128 * 128 ^ k : Nat) : Int) := by
    rw [← pow7]; push_cast; rfl
  rw [e, e2, IntKind.wrap_u64, Int.emod_eq_of_lt (by omega) (by omega)]
  push_cast; rfl
theorem or7 {k n : Nat} {c : UInt8} (hk : k < 10) (h9 : k = 9 → c.toNat ≤ 1) (hn : n < 128 ^ k) : bits .or .u64 (n : Int) (((c.toNat % 128 : Nat) : Int) * 128 ^ k) = ((n + c.toNat % 128 * 128 ^ k : Nat) : Int) :=
  or_disj hn (seven_bits hk h9) (by have := pow128_le (k := k) (by omega); omega)
theorem next_lt {k n : Nat} {c : UInt8} (hn : n < 128 ^ k) : n + c.toNat % 128 * 128 ^ k < 128 ^ (k + 1) := by
  have h3 : c.toNat % 128 ≤ 127 := by omega
  have : c.toNat % 128 * 128 ^ k ≤ 127 * 128 ^ k := Nat.mul_le_mul_right _ h3
  rw [Nat.pow_succ]; omega
/-! the steps of Get -/
theorem get_out {b : List UInt8} {at_ : Int} (h : at_ < 0 ∨ (b.length : Int) < at_) : get b at_ = (0, at_, 1) := by unfold get; rw [if_pos h]
theorem get_none {b : List UInt8} {at_ : Int} (h0 : 0 ≤ at_) (h1 : at_ ≤ (b.length : Int)) (h : getG 10 0 0 (b.drop at_.toNat) = none) : get b at_ = (0, at_, 2) := by
  unfold get; rw [if_neg (by omega), h]
theorem get_some {b : List UInt8} {at_ B : Int} {n k : Nat} (h0 : 0 ≤ at_) (h1 : at_ ≤ (b.length : Int)) (h : getG 10 0 0 (b.drop at_.toNat) = some (n, k)) (hB : at_ + (k : Int) = B) : get b at_ = ((n : Int), B, 0) := by
  unfold get; rw [if_neg (by omega), h, ← hB]
theorem getG_stop {b : List UInt8} {f k n a : Nat} (h : f = 0 ∨ b.length ≤ a) : getG f k n (b.drop a) = none := by
  rcases h with rfl | h
  · cases h : b.drop a <;> rfl
  · rw [List.drop_eq_nil_of_le h]; cases f <;> rfl
section
variable {b : List UInt8} {k n a j : Nat} (hj : j < b.length) (e : a = j) (hk : k < 10)
include hj e hk
theorem getG_step : getG (10 - k) k n (b.drop a) = if k = 9 ∧ 1 < b[j].toNat then none else if 128 ≤ b[j].toNat then getG (10 - (k + 1)) (k + 1) (n + b[j].toNat % 128 * 128 ^ k) (b.drop (a + 1))
    else if 0 < k ∧ b[j].toNat = 0 then none else some (n + b[j].toNat % 128 * 128 ^ k, k + 1) := by
  subst e
  have h1 : 10 - k = (10 - (k + 1)) + 1 := by omega
  rw [h1, List.drop_eq_getElem_cons hj, getG]
theorem getG_nine (h9 : k = 9) (hc : 1 < b[j].toNat) : getG (10 - k) k n (b.drop a) = none := by rw [getG_step hj e hk, if_pos ⟨h9, hc⟩]
theorem getG_more (h9 : k = 9 → b[j].toNat ≤ 1) (hc : 128 ≤ b[j].toNat) : getG (10 - k) k n (b.drop a) = getG (10 - (k + 1)) (k + 1) (n + b[j].toNat % 128 * 128 ^ k) (b.drop (a + 1)) := by
  rw [getG_step hj e hk, if_neg (by omega), if_pos hc]
theorem getG_zero (h9 : k = 9 → b[j].toNat ≤ 1) (h0 : 0 < k) (hc : b[j].toNat = 0) : getG (10 - k) k n (b.drop a) = none := by
  rw [getG_step hj e hk, if_neg (by omega), if_neg (by omega), if_pos ⟨h0, hc⟩]
theorem getG_end (h9 : k = 9 → b[j].toNat ≤ 1) (hc : b[j].toNat < 128) (h0 : 0 < k → b[j].toNat ≠ 0) : getG (10 - k) k n (b.drop a) = some (n + b[j].toNat % 128 * 128 ^ k, k + 1) := by
  rw [getG_step hj e hk, if_neg (by omega), if_neg (by omega), if_neg (by omega)]
end
theorem and1w {a : Int} (h0 : 0 ≤ a) (h1 : a ≤ 18446744073709551615) : bits .and .u64 a 1 = a % 2 := by
  obtain ⟨n, rfl⟩ := Int.eq_ofNat_of_zero_le h0
  show IntKind.u64.wrap ((BitVec.ofInt 64 (n : Int) &&& BitVec.ofInt 64 ((1 : Nat) : Int)).toNat : Int) = _
  rw [BitVec.toNat_and, ofNat64 (by omega), ofNat64 (by omega), Nat.and_one_is_mod, IntKind.wrap_u64]
  omega
theorem or1w {a : Int} (h0 : 0 ≤ a) (h1 : 2 * a ≤ 18446744073709551615) : bits .or .u64 (a * 2) 1 = a * 2 + 1 := by
  obtain ⟨n, rfl⟩ := Int.eq_ofNat_of_zero_le h0
  have e : (n : Int) * 2 = ((n * 2 : Nat) : Int) := by push_cast; rfl
  rw [e]
  show IntKind.u64.wrap ((BitVec.ofInt 64 ((n * 2 : Nat) : Int) ||| BitVec.ofInt 64 ((1 : Nat) : Int)).toNat : Int) = _
  rw [BitVec.toNat_or, ofNat64 (by omega), ofNat64 (by omega)]
  have hor : n * 2 ||| 1 = n * 2 + 1 := by
    rw [Nat.mul_comm, ← Nat.two_pow_add_eq_or_of_lt (i := 1) (b := 1) (by decide)]
  rw [hor, IntKind.wrap_u64]
  omega
theorem compl64 {a : Int} (h0 : -9223372036854775808 ≤ a) (h1 : a ≤ 9223372036854775807) : bits .xor .i64 (if IntKind.i64.signed then -1 else IntKind.i64.max) a = -a - 1 := by
  show IntKind.i64.wrap ((BitVec.ofInt 64 (-1) ^^^ BitVec.ofInt 64 a).toNat : Int) = _
  have e : BitVec.ofInt 64 (-1) = BitVec.allOnes 64 := by decide
  have key : (BitVec.ofInt 64 a).toNat = (a % 18446744073709551616).toNat := by rw [BitVec.toNat_ofInt]; rfl
  have key2 : (~~~ BitVec.ofInt 64 a).toNat = 18446744073709551615 - (a % 18446744073709551616).toNat := by rw [BitVec.toNat_not, key]
  rw [e, BitVec.allOnes_xor, key2, IntKind.wrap_i64]
  omega
theorem shl1 {a : Int} (h0 : 0 ≤ a) (h1 : 2 * a ≤ 18446744073709551615) : IntKind.u64.wrap (a * 2 ^ (1 : Int).toNat) = a * 2 := by
  have e : a * 2 ^ (1 : Int).toNat = a * 2 := rfl
  rw [e, IntKind.wrap_u64]; omega
/-! Zig, Zag -/
def zig (m : Int) : Int := if m < 0 then -2 * m - 1 else 2 * m
def zag (n : Int) : Int := if n % 2 = 1 then -(n / 2) - 1 else n / 2
end Go.Proofs.YtgibfidebdgffaaDoor
end
section
namespace Go.Proofs.YtgibfidebdgffaaDoor
open Go.RowKit
theorem zig_cases (m : Int) : (m < 0 ∧ zig m = -2 * m - 1) ∨ (0 ≤ m ∧ zig m = 2 * m) := by unfold zig; split <;> omega
theorem zag_cases (n : Int) : (n % 2 = 1 ∧ zag n = -(n / 2) - 1) ∨ (n % 2 = 0 ∧ zag n = n / 2) := by unfold zag; split <;> omega
theorem zag_zig (m : Int) : zag (zig m) = m := by have := zig_cases m; have := zag_cases (zig m); omega
theorem byt_nat {e : Int} (h0 : 0 ≤ e) (h1 : e ≤ 255) : (byt e).toNat = e.toNat := by have := byt_toNat h0 h1; omega
theorem byt_eq {c : UInt8} {e : Int} (h : e = (c.toNat : Int)) : byt e = c := by rw [h, byt_of]
theorem getG_putF : ∀ (f k acc m : Nat) (post : List UInt8), f + k = 9 → m * 128 ^ k < 18446744073709551616 → m < 128 ^ (f + 1) → (0 < k → 0 < m) →
    getG (f + 1) k acc (putF f m ++ post) = some (acc + m * 128 ^ k, k + (putF f m).length)
  | 0, k, acc, m, post, hk, hb, _, h0 => by
    have hk9 : k = 9 := by omega
    subst hk9
    have h9 : (128 : Nat) ^ 9 = 9223372036854775808 := by decide
    have hm : m ≤ 1 := by omega
    have hc : (byt (m : Int)).toNat = m := by rw [byt_nat (by omega) (by omega)]; omega
    simp only [putF, List.cons_append, List.nil_append, getG, hc, List.length_cons, List.length_nil]
    rw [if_neg (by omega), if_neg (by omega), if_neg (by have := h0 (by omega); omega), Nat.mod_eq_of_lt (by omega)]
  | f + 1, k, acc, m, post, hk, hb, hm, h0 => by
    by_cases hlt : m < 128
    · have hc : (byt (m : Int)).toNat = m := by rw [byt_nat (by omega) (by omega)]; omega
      rw [putF, if_pos hlt]
      simp only [List.cons_append, List.nil_append, getG, hc, List.length_cons, List.length_nil]
      rw [if_neg (by omega), if_neg (by omega), if_neg (by omega), Nat.mod_eq_of_lt (by omega)]
    · have hc : (byt ((m : Int) % 256 % 128 + 128)).toNat = m % 128 + 128 := by rw [byt_nat (by omega) (by omega)]; omega
      have hb2 : m / 128 * 128 ^ (k + 1) < 18446744073709551616 := by
        have h1 : m / 128 * 128 ≤ m := Nat.div_mul_le_self m 128
        have h2 : m / 128 * 128 ^ (k + 1) = m / 128 * 128 * 128 ^ k := by rw [Nat.pow_succ, Nat.mul_assoc, Nat.mul_comm (128 ^ k)]
        rw [h2]
        exact Nat.lt_of_le_of_lt (Nat.mul_le_mul_right _ h1) hb
      have ih := getG_putF f (k + 1) (acc + m % 128 * 128 ^ k) (m / 128) post (by omega) hb2 (by rw [Nat.div_lt_iff_lt_mul (by decide)]; rw [Nat.pow_succ] at hm; exact hm) (fun _ => Nat.div_pos (by omega) (by decide))
      rw [putF, if_neg hlt]
      simp only [List.cons_append, getG, hc, List.length_cons]
      rw [if_neg (by omega), if_pos (by omega)]
      have e : (m % 128 + 128) % 128 = m % 128 := by omega
      rw [e, ih]
      congr 1
      have h3 : m % 128 * 128 ^ k + m / 128 * 128 ^ (k + 1) = m * 128 ^ k := by
        have h4 : m / 128 * 128 ^ (k + 1) = 128 * (m / 128) * 128 ^ k := by rw [Nat.pow_succ, Nat.mul_comm 128 (m / 128), Nat.mul_assoc, Nat.mul_comm (128 ^ k)]
        rw [h4, ← Nat.add_mul]
        congr 1
        have := Nat.mod_add_div m 128
        omega
      ext1
      · simp only; omega
      · simp only; omega
theorem getG_put {n : Int} (h0 : 0 ≤ n) (h1 : n ≤ 18446744073709551615) (post : List UInt8) : getG 10 0 0 (put n ++ post) = some (n.toNat, (put n).length) := by
  have h := getG_putF 9 0 0 n.toNat post rfl (by omega) (by have : (128 : Nat) ^ (9 + 1) = 1180591620717411303424 := by decide
                                                            omega) (by omega)
  simpa [put] using h
theorem get_put {n : Int} (h0 : 0 ≤ n) (h1 : n ≤ 18446744073709551615) (pre post : List UInt8) : get (pre ++ (put n ++ post)) (pre.length : Int) = (n, (pre.length : Int) + ((put n).length : Int), 0) := by
  have h := get_some (b := pre ++ (put n ++ post)) (at_ := (pre.length : Int)) (by omega) (by simp; omega) (by rw [Int.toNat_natCast, List.drop_left]; exact getG_put h0 h1 post) rfl
  rw [h, Int.toNat_of_nonneg h0]
theorem getG_inv : ∀ (f k acc : Nat) (l : List UInt8) (v j : Nat), f + k = 9 → getG (f + 1) k acc l = some (v, j) →
    ∃ m, v = acc + m * 128 ^ k ∧ l.take (j - k) = putF f m ∧ k < j ∧ j - k ≤ l.length ∧ (0 < k → 0 < m) ∧ m * 128 ^ k < 18446744073709551616 ∧ m < 128 ^ (f + 1)
  | f, k, acc, [], v, j, _, h => by simp [getG] at h
  | f, k, acc, c :: l, v, j, hk, h => by
    have hc := c.toNat_lt
    unfold getG at h
    split at h
    · cases h
    · rename_i h9
      split at h
      · rename_i hge
        cases f with
        | zero => cases hl : l <;> rw [hl] at h <;> simp [getG] at h
        | succ f =>
          obtain ⟨m, hv, ht, hkj, hjl, hm0, hb, hmf⟩ := getG_inv f (k + 1) _ l v j (by omega) h
          have hmpos := hm0 (by omega)
          refine ⟨c.toNat % 128 + 128 * m, ?_, ?_, by omega, by simp; omega, fun _ => by omega, ?_, ?_⟩
          · rw [hv, Nat.pow_succ, Nat.add_mul, Nat.mul_comm (128 ^ k) 128, ← Nat.mul_assoc, Nat.mul_comm m 128]; omega
          · have e : j - k = (j - (k + 1)) + 1 := by omega
            rw [e, List.take_succ_cons, ht, putF, if_neg (by omega)]
            have e1 : (c.toNat % 128 + 128 * m) / 128 = m := by omega
            rw [e1]
            congr 1
            exact (byt_eq (by push_cast; omega)).symm
          · -- below 2^64
            rcases Nat.lt_or_ge f 1 with hf | hf
            · have hf0 : f = 0 := by omega
              have hk8 : k = 8 := by omega
              subst hf0 hk8
              have h8 : (128 : Nat) ^ 8 = 72057594037927936 := by decide
              have h9' : (128 : Nat) ^ (8 + 1) = 9223372036854775808 := by decide
              rw [h9'] at hb
              rw [h8]
              clear h8 h9'
              have hm1 : m ≤ 1 := by omega
              have hx : c.toNat % 128 + 128 * m ≤ 255 := by omega
              exact Nat.lt_of_le_of_lt (Nat.mul_le_mul_right 72057594037927936 hx) (by decide)
            · have h1 : m < 128 ^ (f + 1) := hmf
              have h2 : c.toNat % 128 + 128 * m < 128 ^ (f + 2) := by rw [Nat.pow_succ 128 (f + 1)]; omega
              have hkk : k ≤ 7 := by omega
              have h3 : (128 : Nat) ^ (f + 2) * 128 ^ k = 128 ^ 10 := by rw [← Nat.pow_add]; congr 1; omega
              have h4 : m * 128 ^ (k + 1) < 18446744073709551616 := hb
              have h5 : (c.toNat % 128 + 128 * m) * 128 ^ k = c.toNat % 128 * 128 ^ k + m * 128 ^ (k + 1) := by rw [Nat.add_mul, Nat.pow_succ, Nat.mul_comm (128 ^ k) 128, ← Nat.mul_assoc, Nat.mul_comm m 128]
              have h6 : m * 128 ^ (k + 1) + 128 ^ (k + 1) ≤ 18446744073709551616 := by
                have hd : (128 : Nat) ^ (k + 1) * 2 ^ (64 - 7 * (k + 1)) = 18446744073709551616 := by
                  rw [← pow7, ← Nat.pow_add]
                  have : 7 * (k + 1) + (64 - 7 * (k + 1)) = 64 := by omega
                  rw [this]
                have hlt : m < 2 ^ (64 - 7 * (k + 1)) := by
                  apply Nat.lt_of_mul_lt_mul_right (a := 128 ^ (k + 1))
                  rw [Nat.mul_comm (2 ^ _), hd]; exact h4
                calc m * 128 ^ (k + 1) + 128 ^ (k + 1) = (m + 1) * 128 ^ (k + 1) := by rw [Nat.add_mul, Nat.one_mul]
                  _ ≤ 2 ^ (64 - 7 * (k + 1)) * 128 ^ (k + 1) := Nat.mul_le_mul_right _ hlt
                  _ = 18446744073709551616 := by rw [Nat.mul_comm, hd]
              have h7 : c.toNat % 128 * 128 ^ k < 128 ^ (k + 1) := by
                rw [Nat.pow_succ, Nat.mul_comm]
                exact Nat.mul_lt_mul_of_pos_left (by omega) (Nat.pow_pos (by decide))
              rw [h5]; omega
          · rw [Nat.pow_succ 128 (f + 1)]; omega
      · rename_i hlt
        split at h
        · cases h
        · rename_i hz
          simp only [Option.some.injEq, Prod.mk.injEq] at h
          obtain ⟨rfl, rfl⟩ := h
          have hpow : (128 : Nat) ≤ 128 ^ (f + 1) := by rw [Nat.pow_succ]; have := Nat.pow_pos (n := f) (show 0 < 128 by decide); omega
          refine ⟨c.toNat % 128, rfl, ?_, by omega, by simp, fun h => by omega, seven_bits (by omega) (by omega), by omega⟩
          have e : k + 1 - k = 1 := by omega
          rw [e]
          have e2 : c.toNat % 128 = c.toNat := by omega
          rw [e2]
          cases f with
          | zero => simp [putF, byt_of]
          | succ f => simp [putF, byt_of, show c.toNat < 128 by omega]
end Go.Proofs.YtgibfidebdgffaaDoor
end
section
namespace Go.Proofs.YtgibfidebdgffaaDoor
open Go.RowKit Go.ChangeShapes Go.WideShapes Go.ChangeAt

/-! ### Results that stand in cells -/
def RVs (P : Program) (ρ : Env) (w : World) : List ResultVar → List Value → Prop
  | [], [] => True
  | .tmp t :: rs, v :: vs => ρ t = v ∧ RVs P ρ w rs vs
  | .cell a T :: rs, v :: vs => (∃ p, ρ a = .pointer (some p) ∧ (loadVar T p).run P w = .ok v w) ∧ RVs P ρ w rs vs
  | _, _ => False
def valOf : List Value → Value
  | [v] => v
  | vs => .tuple vs.toArray
def postG (P : Program) (rs : List ResultVar) (R : Ending → World → Prop) : Exit → Env → World → Prop
  | .normal, ρ, w | .ret, ρ, w => ∃ vs, RVs P ρ w rs vs ∧ R (.returned (valOf vs)) w
  | _, _, _ => False
theorem postG_r {P : Program} {ρ : Env} {w : World} {rs : List ResultVar} {R : Ending → World → Prop} (vs : List Value) (hv : RVs P ρ w rs vs) (h : R (.returned (valOf vs)) w) : postG P rs R .ret ρ w := ⟨vs, hv, h⟩
theorem rvN {P : Program} {ρ : Env} {w : World} {a T : Nat} {rs : List ResultVar} {cs : List Value} {vs : List Value} {b off s : Nat} (hA : ∀ w, (isAgg T).run P w = .ok true w) (hs : ∀ w, (sizeOf T).run P w = .ok s w)
    (hx : ρ a = .pointer (some ⟨b, off, none⟩)) (hp : Pt w b off cs) (hl : cs.length = s) (h : RVs P ρ w rs vs) : RVs P ρ w (.cell a T :: rs) (.agg cs.toArray :: vs) := by
  refine ⟨⟨_, hx, ?_⟩, h⟩
  have hc : (loadCells ⟨b, off, none⟩ cs.length).run P w = .ok cs.toArray w := run_loadCells_list (P := P) w ⟨b, off, none⟩ cs (fun j v hv => by rw [Addr.add_lit]; exact hp j v hv)
  subst hl
  simp [loadVar, hA, hs, hc]
theorem rvt {P : Program} {ρ : Env} {w : World} {t : Nat} {rs : List ResultVar} {v : Value} {vs : List Value} (hx : ρ t = v) (h : RVs P ρ w rs vs) : RVs P ρ w (.tmp t :: rs) (v :: vs) := ⟨hx, h⟩
theorem rvnil {P : Program} {ρ : Env} {w : World} : RVs P ρ w [] [] := trivial
theorem run_resultsG {fn : Func} {rs : List ResultVar} {ρ : Env} {vs : List Value} (h : fn.results = rs.toArray) (tmps : Array Value) (P : Program) (w : World) (hρ : ∀ k, tmps.getD k undef = ρ k) (hv : RVs P ρ w rs vs) :
    (results fn tmps).run P w = .ok (valOf vs) w := by
  have hm : ∀ (f : ResultVar → Sem Value), (∀ t, (f (.tmp t)).run P w = .ok (ρ t) w) → (∀ a T, f (.cell a T) = do loadVar T (← asAddr (tmps.getD a undef))) → ∀ (l : List ResultVar) (us : List Value), RVs P ρ w l us → (l.mapM f).run P w = .ok us w := by
    intro f hf hg l
    induction l with
    | nil =>
      intro us hu
      cases us with
      | nil => rfl
      | cons u us => exact hu.elim
    | cons r l ih =>
      intro us hu
      cases us with
      | nil => cases r <;> exact hu.elim
      | cons u us =>
        rw [List.mapM_cons]
        cases r with
        | tmp t =>
          obtain ⟨h1, h2⟩ := hu
          simp only [Sem.run_bind, Sem.run_pure, ih us h2, hf, Result.andThen_ok, h1]
        | cell a T =>
          obtain ⟨⟨p, h1, h3⟩, h2⟩ := hu
          rw [hg]
          simp only [Sem.run_bind, Sem.run_pure, ih us h2, hρ, h1, asAddr, Result.andThen_ok, h3]
  unfold results
  rw [h, List.mapM_toArray]
  simp only [Sem.run_bind, Sem.run_map]
  rw [hm _ (fun t => by simp only [Sem.run_pure, hρ]) (fun a T => rfl) rs vs hv]
  simp only [Result.andThen_ok, Sem.run_pure]
  cases vs with
  | nil => rfl
  | cons t l => cases l with
    | nil => rfl
    | cons u l => simp [valOf]
theorem calls_G {P : Program} {f : FuncId} {fn : Func} {c : Code} {args : Array Value} {w : World} {R : Ending → World → Prop} {n : Nat} {rs : List ResultVar}
    (hf : P.funcs[f]? = some fn) (hb : fn.body = some c) (hn : fn.ntmps = n) (hr : fn.results = rs.toArray) (hs : args.size ≤ n)
    (h : cE P n c (postG P rs R) (fun k => args.getD k undef) w) : Calls P f args w R := by
  refine calls_of_wp hf hb (wp_mono (h _ ⟨by simp; omega, rfl, fun k => ?_⟩) fun e a' w' ⟨ρ', h1, h2⟩ => ?_)
  · simp only [Array.getD_eq_getD_getElem?, Array.getElem?_append]
    split
    · rfl
    · rename_i hk
      rw [Array.getElem?_eq_none (xs := args) (by omega), Array.getElem?_replicate]
      split <;> rfl
  · cases e with
    | normal => obtain ⟨vs, h3, h4⟩ := h2; exact ⟨h1.defers, _, run_resultsG hr a'.tmps P w' h1.get h3, h4⟩
    | ret => obtain ⟨vs, h3, h4⟩ := h2; exact ⟨h1.defers, _, run_resultsG hr a'.tmps P w' h1.get h3, h4⟩
    | _ => exact h2.elim

/-! ### Structs of numbers, as a row reads them -/
section
variable {H : Type} {enc : TypeId × Value → H} {P : Program} {w : World} {base : Nat} {spare : Nat → Bool} {held : Bool}
def IntFields (P : Program) : Nat → List IntKind → List Field → Prop
  | _, [], [] => True
  | k, d :: ds, f :: fs => f.offset = k ∧ P.underlying f.type = some (.int d) ∧ P.cellsOf f.type = 1 ∧ f.name ≠ "_" ∧ IntFields P (k + 1) ds fs
  | _, _, _ => False
def IntCells : List IntKind → List Value → Prop
  | [], [] => True
  | d :: ds, c :: cs => (∃ n, c = .int d n ∧ d.min ≤ n ∧ n ≤ d.max) ∧ IntCells ds cs
  | _, _ => False
theorem IntCells.cons {d : IntKind} {ds : List IntKind} {cs : List Value} (h : IntCells (d :: ds) cs) : ∃ n cs', cs = .int d n :: cs' ∧ (d.min ≤ n ∧ n ≤ d.max) ∧ IntCells ds cs' := by
  cases cs with
  | nil => exact h.elim
  | cons c cs => obtain ⟨⟨n, e, hn⟩, hs⟩ := h; exact ⟨n, cs, by rw [e], hn, hs⟩
theorem IntCells.nil {cs : List Value} (h : IntCells [] cs) : cs = [] := by
  cases cs with
  | nil => rfl
  | cons c cs => exact h.elim
theorem int_cells {t : TypeId} {fs : Array Field} {ks : List IntKind} {fuel : Nat} {cs : List Value} {x : DataW H × List MemPlace} (ht : P.underlying t = some (.struct fs)) (hf : IntFields P 0 ks fs.toList) (hC : P.cellsOf t = ks.length)
    (h : DataW.trod enc P w base spare held fuel t cs = some x) : IntCells ks cs := by
  obtain ⟨xs, n, _, rfl, hl, hlen, hg⟩ := DataW.trod_struct ht h
  have key : ∀ (ks' : List IntKind) (fs' : List Field) (k : Nat), fs' = fs.toList.drop k → IntFields P k ks' fs' → cs.length = k + ks'.length → IntCells ks' (cs.drop k) := by
    intro ks'
    induction ks' with
    | nil =>
      intro fs' k _ _ hk
      rw [List.drop_eq_nil_of_le (by simp at hk; omega)]
      trivial
    | cons d ds ih =>
      intro fs' k hd hi hk
      cases fs' with
      | nil => exact hi.elim
      | cons f fs' =>
        obtain ⟨h1, h2, h3, _, h4⟩ := hi
        have hlt : k < cs.length := by simp at hk; omega
        have hfk : fs[k]? = some f := by
          have := congrArg (fun l => l[0]?) hd
          simp at this
          rw [← this]
        have hd' : fs' = fs.toList.drop (k + 1) := by
          have := congrArg List.tail hd
          simpa using this
        have := hg k f hfk
        rw [h1, h3] at this
        have hx : k < xs.length := by
          have := (Array.getElem?_eq_some_iff.1 hfk).1; omega
        rw [List.getElem?_eq_getElem hx] at this
        obtain ⟨m, e, _, hw⟩ := DataW.trod_int h2 this
        rw [List.drop_eq_getElem_cons hlt] at e ⊢
        simp only [List.take_succ_cons, List.take_zero, List.cons.injEq, and_true] at e
        refine ⟨⟨m, e, by simpa [Lit.wf] using hw⟩, ih fs' (k + 1) hd' h4 (by simp at hk; omega)⟩
  have := key ks fs.toList 0 rfl hf (by omega)
  simpa using this
end

/-! ### Comparing them -/
section
variable {P : Program} {ops : Array Oper} {l : List Oper} {ρ : Env} {w : World} {KR : Env → World → Prop} {K : Value → World → Prop}
variable {dst : Option Tmp} {op : Op} {ty : TypeId} {pos : String} {aft : Array Edge} {g : Option (Nat × Bool)}
theorem fieldsOf_eq {t : TypeId} {fs : Array Field} (ht : P.underlying t = some (.struct fs)) : P.fieldsOf t = fs := by simp [Program.fieldsOf, ht]
theorem eqFields_ints : ∀ (ks : List IntKind) (fs : List Field) (k d : Nat) (xs ys : Array Value) (as bs : List Int), IntFields P k ks fs → as.length = ks.length → bs.length = ks.length →
    (∀ i (h : i < ks.length) (h1 : i < as.length), xs[k + i]? = some (.int ks[i] as[i])) → (∀ i (h : i < ks.length) (h1 : i < bs.length), ys[k + i]? = some (.int ks[i] bs[i])) →
    (Op.eqFields (d + 1) xs ys fs).run P w = .ok (decide (as = bs)) w
  | [], fs, k, d, xs, ys, as, bs, hi, ha, hb, hx, hy => by
    have e1 := List.length_eq_zero_iff.1 ha
    have e2 := List.length_eq_zero_iff.1 hb
    subst e1; subst e2
    cases fs with
    | nil => simp [Op.eqFields]
    | cons f fs => exact hi.elim
  | kd :: ks, fs, k, d, xs, ys, as, bs, hi, ha, hb, hx, hy => by
    cases fs with
    | nil => exact hi.elim
    | cons f fs =>
      obtain ⟨h1, h2, _, h3, h4⟩ := hi
      cases as with
      | nil => simp at ha
      | cons a as =>
        cases bs with
        | nil => simp at hb
        | cons b bs =>
          have ih := eqFields_ints ks fs (k + 1) d xs ys as bs h4 (by simpa using ha) (by simpa using hb)
            (fun i h h1 => by have := hx (i + 1) (by simp; omega) (by simp; omega); simp only [List.getElem_cons_succ] at this; rw [← this]; congr 1; omega)
            (fun i h h1 => by have := hy (i + 1) (by simp; omega) (by simp; omega); simp only [List.getElem_cons_succ] at this; rw [← this]; congr 1; omega)
          have hA : ∀ w, (isAgg f.type).run P w = .ok false w := fun w => by simp [isAgg, run_underlying h2]
          have hx0 := hx 0 (by simp) (by simp)
          have hy0 := hy 0 (by simp) (by simp)
          simp only [Nat.add_zero, List.getElem_cons_zero] at hx0 hy0
          simp only [Op.eqFields, h3, ne_eq, not_false_eq_true, if_true, part, h1, hx0, hy0, Sem.run_bind, hA, Result.andThen_ok, Bool.false_eq_true, if_false, Sem.run_pure, run_equalIn_int w d f.type kd kd a b h2, Sem.run_ite]
          by_cases e : a = b
          · simp [e, ih]
          · simp [e]
theorem op_eqlG {T T' : TypeId} {x y : Operand} {xs ys : Array Value} {b : Bool} (hm : P.eqGuardType P.depth T = false) (he : (Op.equalIn 10000 T (.agg xs) (.agg ys)).run P w = .ok b w) (hx : evE ρ x = .agg xs) (hy : evE ρ y = .agg ys) (h : K (.bool b) w) :
    opE P ⟨dst, .binOp .eql T x y T', ty, pos, aft, g⟩ ρ w K :=
  op_of (by simp only [execOp, hx, hy, Sem.run_bind, run_eqGuard_agg w _ T x y xs ys hm, Result.andThen_ok, run_eql_struct, he, Sem.run_pure]) h
theorem op_neqG {T T' : TypeId} {x y : Operand} {xs ys : Array Value} {b : Bool} (hm : P.eqGuardType P.depth T = false) (he : (Op.equalIn 10000 T (.agg xs) (.agg ys)).run P w = .ok b w) (hx : evE ρ x = .agg xs) (hy : evE ρ y = .agg ys) (h : K (.bool (!b)) w) :
    opE P ⟨dst, .binOp .neq T x y T', ty, pos, aft, g⟩ ρ w K :=
  op_of (by simp only [execOp, hx, hy, Sem.run_bind, run_eqGuard_agg w _ T x y xs ys hm, Result.andThen_ok, run_neq_struct, he, Sem.run_pure]) h
end

/-! ### The program's own structs -/
structure Sample where
  T : Int
  V : Int
  deriving DecidableEq
structure Agg where
  From : Int
  Count : Int
  Sum : Int
  Min : Int
  Max : Int
  First : Int
  Last : Int
  deriving DecidableEq
def sampE : Enc Sample := ⟨2, fun s => [.int .i64 s.T, .int .i64 s.V], fun _ => rfl, by decide, fun _ u hu => by simp at hu; rcases hu with rfl | rfl <;> rfl⟩
def aggE : Enc Agg := ⟨7, fun a => [.int .i64 a.From, .int .i64 a.Count, .int .i64 a.Sum, .int .i64 a.Min, .int .i64 a.Max, .int .i64 a.First, .int .i64 a.Last], fun _ => rfl, by decide,
  fun _ u hu => by simp at hu; rcases hu with rfl | rfl | rfl | rfl | rfl | rfl | rfl <;> rfl⟩
def aggV (a : Agg) : Value := .agg #[.int .i64 a.From, .int .i64 a.Count, .int .i64 a.Sum, .int .i64 a.Min, .int .i64 a.Max, .int .i64 a.First, .int .i64 a.Last]
abbrev i64R (n : Int) : Prop := -9223372036854775808 ≤ n ∧ n ≤ 9223372036854775807
abbrev Sample.ok (s : Sample) : Prop := i64R s.T ∧ i64R s.V
abbrev Agg.ok (a : Agg) : Prop := i64R a.From ∧ i64R a.Count ∧ i64R a.Sum ∧ i64R a.Min ∧ i64R a.Max ∧ i64R a.First ∧ i64R a.Last
theorem i64R_of {n : Int} (h : IntKind.i64.min ≤ n ∧ n ≤ IntKind.i64.max) : i64R n := by
  have h1 : IntKind.i64.min = -9223372036854775808 := by decide
  have h2 : IntKind.i64.max = 9223372036854775807 := by decide
  rw [h1, h2] at h; exact h
section
variable {P : Program}
theorem opens_samp {t : TypeId} {fs : Array Field} (ht : P.underlying t = some (.struct fs)) (hf : IntFields P 0 [.i64, .i64] fs.toList) (hC : P.cellsOf t = 2) : Opens P t sampE Sample.ok := by
  intro H enc w base spare held fuel cs x h
  have := int_cells ht hf hC h
  obtain ⟨n0, c0, rfl, hn0, h0⟩ := this.cons
  obtain ⟨n1, c1, rfl, hn1, h1⟩ := h0.cons
  obtain rfl := h1.nil
  exact ⟨⟨n0, n1⟩, rfl, i64R_of hn0, i64R_of hn1⟩
theorem opens_agg {t : TypeId} {fs : Array Field} (ht : P.underlying t = some (.struct fs)) (hf : IntFields P 0 [.i64, .i64, .i64, .i64, .i64, .i64, .i64] fs.toList) (hC : P.cellsOf t = 7) : Opens P t aggE Agg.ok := by
  intro H enc w base spare held fuel cs x h
  have := int_cells ht hf hC h
  obtain ⟨n0, c0, rfl, hn0, h0⟩ := this.cons
  obtain ⟨n1, c1, rfl, hn1, h1⟩ := h0.cons
  obtain ⟨n2, c2, rfl, hn2, h2⟩ := h1.cons
  obtain ⟨n3, c3, rfl, hn3, h3⟩ := h2.cons
  obtain ⟨n4, c4, rfl, hn4, h4⟩ := h3.cons
  obtain ⟨n5, c5, rfl, hn5, h5⟩ := h4.cons
  obtain ⟨n6, c6, rfl, hn6, h6⟩ := h5.cons
  obtain rfl := h6.nil
  exact ⟨⟨n0, n1, n2, n3, n4, n5, n6⟩, rfl, i64R_of hn0, i64R_of hn1, i64R_of hn2, i64R_of hn3, i64R_of hn4, i64R_of hn5, i64R_of hn6⟩
theorem eq_samp (d : Nat) {t : TypeId} {fs : Array Field} (ht : P.underlying t = some (.struct fs)) (hf : IntFields P 0 [.i64, .i64] fs.toList) (hp : P.stoodInHeld t = false) (a b : Sample) (w : World) :
    (Op.equalIn (d + 1 + 1) t (.agg #[.int .i64 a.T, .int .i64 a.V]) (.agg #[.int .i64 b.T, .int .i64 b.V])).run P w = .ok (decide (a = b)) w := by
  refine (run_equalIn_agg w (d + 1) t _ _ (by rw [fieldsOf_eq ht]; exact ht) hp).trans ?_
  rewrite [fieldsOf_eq ht]
  refine (eqFields_ints [.i64, .i64] _ 0 d _ _ [a.T, a.V] [b.T, b.V] hf rfl rfl
    (fun i h h1 => by match i, h with | 0, _ => rfl | 1, _ => rfl) (fun i h h1 => by match i, h with | 0, _ => rfl | 1, _ => rfl)).trans ?_
  congr 1
  rw [decide_eq_decide]
  cases a; cases b; simp
theorem eq_agg (d : Nat) {t : TypeId} {fs : Array Field} (ht : P.underlying t = some (.struct fs)) (hf : IntFields P 0 [.i64, .i64, .i64, .i64, .i64, .i64, .i64] fs.toList) (hp : P.stoodInHeld t = false) (a b : Agg) (w : World) :
    (Op.equalIn (d + 1 + 1) t (.agg #[.int .i64 a.From, .int .i64 a.Count, .int .i64 a.Sum, .int .i64 a.Min, .int .i64 a.Max, .int .i64 a.First, .int .i64 a.Last]) (.agg #[.int .i64 b.From, .int .i64 b.Count, .int .i64 b.Sum, .int .i64 b.Min, .int .i64 b.Max, .int .i64 b.First, .int .i64 b.Last])).run P w = .ok (decide (a = b)) w := by
  refine (run_equalIn_agg w (d + 1) t _ _ (by rw [fieldsOf_eq ht]; exact ht) hp).trans ?_
  rewrite [fieldsOf_eq ht]
  refine (eqFields_ints [.i64, .i64, .i64, .i64, .i64, .i64, .i64] _ 0 d _ _ [a.From, a.Count, a.Sum, a.Min, a.Max, a.First, a.Last] [b.From, b.Count, b.Sum, b.Min, b.Max, b.First, b.Last] hf rfl rfl
    (fun i h h1 => by match i, h with | 0, _ => rfl | 1, _ => rfl | 2, _ => rfl | 3, _ => rfl | 4, _ => rfl | 5, _ => rfl | 6, _ => rfl) (fun i h h1 => by match i, h with | 0, _ => rfl | 1, _ => rfl | 2, _ => rfl | 3, _ => rfl | 4, _ => rfl | 5, _ => rfl | 6, _ => rfl)).trans ?_
  congr 1
  rw [decide_eq_decide]
  cases a; cases b; simp
end
end Go.Proofs.YtgibfidebdgffaaDoor
end
section
namespace Go.Proofs.YtgibfidebdgffaaDoor
theorem agg_iff (a b : Agg) : a = b ↔ a.From = b.From ∧ a.Count = b.Count ∧ a.Sum = b.Sum ∧ a.Min = b.Min ∧ a.Max = b.Max ∧ a.First = b.First ∧ a.Last = b.Last := by
  cases a; cases b; simp
abbrev zeroA : Agg := ⟨0, 0, 0, 0, 0, 0, 0⟩
abbrev oneA (v fr : Int) : Agg := ⟨fr, 1, v, v, v, v, v⟩
abbrev mayP (a : Agg) : Prop := 1 ≤ a.Count ∧ a.Count ≤ 1099511627776 ∧ 0 ≤ a.From ∧ a.From ≤ 1099511627776 ∧ a.Min ≤ a.First ∧ a.Min ≤ a.Last ∧ a.Min ≤ a.Max ∧ a.First ≤ a.Max ∧ a.Last ≤ a.Max ∧ (¬ a.Count = 1 ∨ (a.Sum = a.Min ∧ a.Min = a.Max))
def mayA (a : Agg) : Bool := decide (mayP a)
def addB (a b : Int) : Bool := decide (i64R (a + b))
def addV (a b : Int) : Int := if i64R (a + b) then a + b else 0
theorem mayA_iff {a : Agg} : mayA a = true ↔ mayP a := by simp only [mayA, decide_eq_true_eq]
theorem mayA_true {a : Agg} (h : mayA a = true) : mayP a := mayA_iff.1 h
theorem addV_eq {a b : Int} (h : i64R (a + b)) : addV a b = a + b := if_pos h
theorem addV_r (a b : Int) : i64R (addV a b) := by unfold addV; split <;> omega
def joinA (a b : Agg) : Agg × Int :=
  if mayA a = true ∧ mayA b = true ∧ a.Count + b.Count ≤ 1099511627776 then
    if addB a.Sum b.Sum = true then (⟨a.From, a.Count + b.Count, addV a.Sum b.Sum, min a.Min b.Min, max a.Max b.Max, a.First, b.Last⟩, 0) else (zeroA, 3)
  else (zeroA, 1)
theorem zeroA_ok : zeroA.ok := by simp only [Agg.ok, i64R]; omega
theorem oneA_ok {v fr : Int} (h : i64R v) (h1 : i64R fr) : (oneA v fr).ok := ⟨h1, ⟨(by simp only []; omega), (by simp only []; omega)⟩, h, h, h, h, h⟩
theorem joinA_ok {a b : Agg} (ha : a.ok) (hb : b.ok) : (joinA a b).1.ok := by
  unfold joinA
  split
  · split
    · rename_i h _
      have h1 := mayA_true h.1
      have h2 := mayA_true h.2.1
      have h3 := addV_r a.Sum b.Sum
      have h4 := h.2.2
      refine ⟨ha.1, ?_, h3, ?_, ?_, ha.2.2.2.2.2.1, hb.2.2.2.2.2.2⟩ <;> simp only [] <;> omega
    · exact zeroA_ok
  · exact zeroA_ok
def goA : Agg → List Sample → Int → Agg × Int
  | a, [], _ => if mayA a = true then (a, 0) else (zeroA, 1)
  | a, s :: l, fr => if (joinA a (oneA s.V fr)).2 = 0 then goA (joinA a (oneA s.V fr)).1 l fr else (zeroA, (joinA a (oneA s.V fr)).2)
def allA : List Sample → Int → Agg × Int
  | [], _ => (zeroA, 1)
  | s :: l, fr => goA (oneA s.V fr) l fr
section
variable {l : List Sample} {fr : Int} {acc : Agg} {i : Nat}
theorem all_first (hi : (i : Int) = 0) (h : i < l.length) : allA l fr = goA (oneA (l[i]'h).V fr) (l.drop (i + 1)) fr := by
  obtain rfl : i = 0 := by omega
  cases l with
  | nil => simp at h
  | cons s l => rfl
abbrev AccI (l : List Sample) (fr : Int) (acc : Agg) (i : Nat) : Prop := (i = 0 ∧ acc = zeroA) ∨ (0 < i ∧ allA l fr = goA acc (l.drop i) fr)
theorem all_next (hI : AccI l fr acc i) (h0 : ¬ ((i : Int) = 0)) (h : i < l.length) (hc : (joinA acc (oneA (l[i]'h).V fr)).2 = 0) : allA l fr = goA (joinA acc (oneA (l[i]'h).V fr)).1 (l.drop (i + 1)) fr := by
  rcases hI with ⟨h1, _⟩ | ⟨_, h2⟩
  · omega
  · rw [h2, List.drop_eq_getElem_cons h, goA, if_pos hc]
theorem all_stop (hI : AccI l fr acc i) (h0 : ¬ ((i : Int) = 0)) (h : i < l.length) (hc : ¬ (joinA acc (oneA (l[i]'h).V fr)).2 = 0) : allA l fr = (zeroA, (joinA acc (oneA (l[i]'h).V fr)).2) := by
  rcases hI with ⟨h1, _⟩ | ⟨_, h2⟩
  · omega
  · rw [h2, List.drop_eq_getElem_cons h, goA, if_neg hc]
theorem may_zero : mayA zeroA = false := by decide
theorem all_may (hI : AccI l fr acc i) (hi : i = l.length) (hm : mayA acc = true) : allA l fr = (acc, 0) := by
  rcases hI with ⟨h1, h2⟩ | ⟨_, h2⟩
  · rw [h2, may_zero] at hm; cases hm
  · rw [h2, List.drop_eq_nil_of_le (by omega), goA, if_pos hm]
theorem all_not (hI : AccI l fr acc i) (hi : i = l.length) (hm : mayA acc = false) : allA l fr = (zeroA, 1) := by
  rcases hI with ⟨h1, h2⟩ | ⟨_, h2⟩
  · obtain rfl := List.length_eq_zero_iff.1 (by omega : l.length = 0); rfl
  · rw [h2, List.drop_eq_nil_of_le (by omega), goA, hm]; rfl
end
/-! ### The closed form -/
def stepA (a : Agg) (s : Sample) : Agg := ⟨a.From, a.Count + 1, a.Sum + s.V, min a.Min s.V, max a.Max s.V, a.First, s.V⟩
def accL : Agg → List Sample → Agg
  | a, [] => a
  | a, s :: l => accL (stepA a s) l
def J (a b : Agg) : Agg := ⟨a.From, a.Count + b.Count, a.Sum + b.Sum, min a.Min b.Min, max a.Max b.Max, a.First, b.Last⟩
theorem stepA_J (a : Agg) (s : Sample) (f : Int) : stepA a s = J a (oneA s.V f) := rfl
theorem J_assoc (a b c : Agg) : J (J a b) c = J a (J b c) := by
  simp only [J, Int.add_assoc, Agg.mk.injEq, true_and, and_true]; omega
theorem accL_J (a b : Agg) : ∀ l, accL (J a b) l = J a (accL b l)
  | [] => rfl
  | s :: l => by
    have h : stepA (J a b) s = J a (stepA b s) := by rw [stepA_J _ _ 0, stepA_J _ _ 0, J_assoc]
    rw [accL, accL, h, accL_J a (stepA b s) l]
theorem accL_append (a : Agg) : ∀ l r, accL a (l ++ r) = accL (accL a l) r
  | [], r => rfl
  | s :: l, r => by rw [List.cons_append, accL, accL, accL_append]
theorem accL_cons (a : Agg) (s : Sample) (f : Int) (l : List Sample) : accL a (s :: l) = J a (accL (oneA s.V f) l) := by rw [accL, stepA_J a s f, accL_J]
theorem accL_count : ∀ (l : List Sample) (a : Agg), (accL a l).Count = a.Count + l.length
  | [], a => by simp [accL]
  | s :: l, a => by rw [accL, accL_count l]; simp only [stepA, List.length_cons]; omega
theorem J_may {a b : Agg} (ha : mayP a) (hb : mayP b) (h : a.Count + b.Count ≤ 1099511627776) : mayP (J a b) := by
  simp only [mayP, J] at *; omega
theorem one_may {v fr : Int} (h0 : 0 ≤ fr) (h1 : fr ≤ 1099511627776) : mayP (oneA v fr) :=
  ⟨Int.le_refl _, by show (1 : Int) ≤ 1099511627776; decide, h0, h1, Int.le_refl _, Int.le_refl _, Int.le_refl _, Int.le_refl _, Int.le_refl _, Or.inr ⟨rfl, rfl⟩⟩
theorem joinA_may {a b : Agg} (ha : mayP a) (hb : mayP b) (h : a.Count + b.Count ≤ 1099511627776) : (joinA a b = (J a b, 0) ∧ i64R (a.Sum + b.Sum)) ∨ (joinA a b = (zeroA, 3) ∧ ¬ i64R (a.Sum + b.Sum)) := by
  unfold joinA
  rw [if_pos ⟨mayA_iff.2 ha, mayA_iff.2 hb, h⟩]
  by_cases h3 : i64R (a.Sum + b.Sum)
  · left
    rw [if_pos (by simpa only [addB, decide_eq_true_eq] using h3), addV_eq h3]; exact ⟨rfl, h3⟩
  · right
    rw [if_neg (by simpa only [addB, decide_eq_true_eq] using h3)]; exact ⟨rfl, h3⟩
end Go.Proofs.YtgibfidebdgffaaDoor
end
section
namespace Go.Proofs.YtgibfidebdgffaaDoor
def smallS (s : Sample) : Prop := -1000000000 < s.V ∧ s.V < 1000000000
theorem tmod_small (x : Int) : -1000000000 < x.tmod 1000000000 ∧ x.tmod 1000000000 < 1000000000 := by
  have h1 := Int.tmod_lt_of_pos x (b := 1000000000) (by decide)
  have h2 := Int.lt_tmod_of_pos x (b := 1000000000) (by decide)
  omega
theorem go_fine {fr : Int} (f0 : 0 ≤ fr) (f1 : fr ≤ 1099511627776) : ∀ (l : List Sample) (a : Agg), mayP a → a.Count + l.length ≤ 1000000 → -(1000000000 * a.Count) ≤ a.Sum → a.Sum ≤ 1000000000 * a.Count → (∀ s ∈ l, smallS s) → goA a l fr = (accL a l, 0) ∧ mayP (accL a l)
  | [], a, ha, _, _, _, _ => ⟨by rw [goA, if_pos (mayA_iff.2 ha)]; rfl, ha⟩
  | s :: l, a, ha, hn, h1, h2, hs => by
    have h3 : mayP (oneA s.V fr) := one_may f0 f1
    have h4 : smallS s := hs s (List.mem_cons_self ..)
    unfold smallS at h4
    simp only [List.length_cons] at hn
    have h0 := ha.1
    rcases joinA_may ha h3 (by simp only []; omega) with ⟨h, _⟩ | ⟨_, h⟩
    · have h5 : mayP (stepA a s) := J_may ha h3 (by simp only []; omega)
      rw [goA, h, if_pos rfl]
      exact go_fine f0 f1 l (stepA a s) h5 (by simp only [stepA]; omega) (by simp only [stepA]; omega) (by simp only [stepA]; omega) fun x hx => hs x (List.mem_cons_of_mem _ hx)
    · exfalso; simp only [i64R] at h; omega
def aggL (fr : Int) : List Sample → Agg
  | [] => zeroA
  | s :: l => accL (oneA s.V fr) l
theorem all_fine {fr : Int} (f0 : 0 ≤ fr) (f1 : fr ≤ 1099511627776) {l : List Sample} (h0 : 0 < l.length) (hn : l.length ≤ 1000000) (hs : ∀ s ∈ l, smallS s) : allA l fr = (aggL fr l, 0) ∧ mayP (aggL fr l) := by
  cases l with
  | nil => simp at h0
  | cons s l =>
    have h4 : smallS s := hs s (List.mem_cons_self ..)
    unfold smallS at h4
    exact go_fine f0 f1 l _ (one_may f0 f1) (by simp only [List.length_cons] at hn; simp only []; omega) (by simp only []; omega) (by simp only []; omega) fun x hx => hs x (List.mem_cons_of_mem _ hx)
theorem aggL_append (f g : Int) {x y : List Sample} (hx : x ≠ []) (hy : y ≠ []) : aggL f (x ++ y) = J (aggL f x) (aggL g y) := by
  cases x with
  | nil => exact absurd rfl hx
  | cons s x =>
    cases y with
    | nil => exact absurd rfl hy
    | cons u y => simp only [List.cons_append, aggL]; rw [accL_append, accL_cons _ u g]
def Turned (a b : Agg) : Prop := a.Count = b.Count ∧ a.Sum = b.Sum ∧ a.Min = b.Min ∧ a.Max = b.Max ∧ a.First = b.Last ∧ a.Last = b.First
theorem turned (f g : Int) : ∀ l : List Sample, l ≠ [] → Turned (aggL f l) (aggL g l.reverse)
  | [], h => absurd rfl h
  | [s], _ => ⟨rfl, rfl, rfl, rfl, rfl, rfl⟩
  | s :: u :: l, _ => by
    have ih := turned f g (u :: l) (by simp)
    have e1 : aggL f (s :: u :: l) = J (aggL f [s]) (aggL f (u :: l)) := aggL_append f f (x := [s]) (by simp) (by simp)
    have e2 : aggL g (s :: u :: l).reverse = J (aggL g (u :: l).reverse) (aggL g [s]) := by
      rw [List.reverse_cons]; exact aggL_append g g (by simp) (by simp)
    rw [e1, e2]
    generalize aggL f (u :: l) = p at *
    generalize aggL g (u :: l).reverse = q at *
    obtain ⟨h1, h2, h3, h4, h5, h6⟩ := ih
    refine ⟨?_, ?_, ?_, ?_, ?_, ?_⟩ <;> simp only [J, aggL, accL] <;> first | omega | assumption
def modS (s : Sample) : Sample := ⟨s.T, s.V.tmod 1000000000⟩
theorem map_cons (l : List Sample) (i : Nat) (h : i < l.length) : [(⟨(l[i]'h).T, (l[i]'h).V.tmod 1000000000⟩ : Sample)] ++ ((l.take i).map modS).reverse = ((l.take (i + 1)).map modS).reverse := by
  rw [List.take_succ_eq_append_getElem h, List.map_append, List.reverse_append]; rfl
/-! ### Bounds -/
def sumS (l : List Sample) : Int := (l.map Sample.V).sum
theorem accL_facts : ∀ (l : List Sample) (a : Agg), (accL a l).From = a.From ∧ (accL a l).First = a.First ∧ (accL a l).Sum = a.Sum + sumS l ∧ (accL a l).Min ≤ a.Min ∧ a.Max ≤ (accL a l).Max ∧
    (∀ s ∈ l, (accL a l).Min ≤ s.V ∧ s.V ≤ (accL a l).Max) ∧ ((accL a l).Min = a.Min ∨ ∃ s ∈ l, s.V = (accL a l).Min) ∧ ((accL a l).Max = a.Max ∨ ∃ s ∈ l, s.V = (accL a l).Max)
  | [], a => ⟨rfl, rfl, by simp [accL, sumS], Int.le_refl _, Int.le_refl _, by simp, Or.inl rfl, Or.inl rfl⟩
  | s :: l, a => by
    obtain ⟨h1, h2, h3, h4, h5, h6, h7, h8⟩ := accL_facts l (stepA a s)
    simp only [accL]
    have e1 : (stepA a s).Min = min a.Min s.V := rfl
    have e2 : (stepA a s).Max = max a.Max s.V := rfl
    refine ⟨h1, h2, ?_, by omega, by omega, ?_, ?_, ?_⟩
    · rw [h3]; simp only [sumS, stepA, List.map_cons, List.sum_cons]; omega
    · intro x hx
      rcases List.mem_cons.1 hx with rfl | hx
      · omega
      · exact h6 x hx
    · rcases h7 with h | ⟨x, hx, h⟩
      · rcases Int.le_total a.Min s.V with hc | hc
        · left; omega
        · right; exact ⟨s, List.mem_cons_self .., by omega⟩
      · right; exact ⟨x, List.mem_cons_of_mem _ hx, h⟩
    · rcases h8 with h | ⟨x, hx, h⟩
      · rcases Int.le_total s.V a.Max with hc | hc
        · left; omega
        · right; exact ⟨s, List.mem_cons_self .., by omega⟩
      · right; exact ⟨x, List.mem_cons_of_mem _ hx, h⟩
end Go.Proofs.YtgibfidebdgffaaDoor
end
section
namespace Go.Proofs.YtgibfidebdgffaaDoor
open Go.RowKit

def setD (D : Nat → Bool) (i : Nat) : Nat → Bool := fun j => bif Nat.beq i j then true else D j
theorem setD_eq (D : Nat → Bool) (i j : Nat) : setD D i j = if i = j then true else D j := by
  unfold setD
  by_cases h : i = j
  · subst h; simp
  · have : Nat.beq i j = false := by
      cases hb : Nat.beq i j with
      | false => rfl
      | true => exact absurd (Nat.eq_of_beq_eq_true hb) h
    rw [this, if_neg h]; rfl
theorem setD_other {D : Nat → Bool} {i m : Nat} (h : Nat.beq i m = false) : setD D i m = D m := by unfold setD; rw [h]; rfl
def dn (listed : Array Bool) : Nat → Bool := fun j => listed.getD j false
def factsK (R : Nat → (Nat → Bool) → Value → World → Prop) (D : Nat → Bool) (ρ ρ' : Env) (w' : World) : List (Nat × Option Nat) → Prop
  | [] => True
  | (t, some j) :: r => R j D (ρ' t) w' ∧ factsK R D ρ ρ' w' r
  | (t, none) :: r => ρ' t = ρ t ∧ factsK R D ρ ρ' w' r
def oblK (P : Program) (ops : Array Oper) (ρ : Env) (J : (Nat → Bool) → Env → World → Prop) (R : Nat → (Nat → Bool) → Value → World → Prop) : Nat → List Oper → List (List (Nat × Option Nat)) → Prop
  | i, o :: l, f :: fs => (∀ D ρ' w', D i = false → (∀ j, edgesTo ops i j = true → D j = true) → (∀ j k, D j = true → edgesTo ops j k = true → D k = true) → J D ρ' w' → (∀ j d, D j = true → dstOf ops j = some d → R j D (ρ' d) w') → factsK R D ρ ρ' w' f →
      goE P ops o ρ' w' (fun v w'' => J (setD D i) (updO ρ' o.dst v) w'' ∧ R i (setD D i) v w'' ∧ (∀ j d, j ≠ i → dstOf ops j = some d → D j = true → R j D (ρ' d) w' → R j (setD D i) (ρ' d) w''))) ∧ oblK P ops ρ J R (i + 1) l fs
  | _, _, _ => True
theorem oblK_at {P : Program} {ops : Array Oper} {ρ : Env} {J : (Nat → Bool) → Env → World → Prop} {R : Nat → (Nat → Bool) → Value → World → Prop} : ∀ (l : List Oper) (fs : List (List (Nat × Option Nat))) (k : Nat), oblK P ops ρ J R k l fs → l.length = fs.length →
    ∀ (i : Nat) (o : Oper), l[i]? = some o → ∀ D ρ' w', D (k + i) = false → (∀ j, edgesTo ops (k + i) j = true → D j = true) → (∀ j k, D j = true → edgesTo ops j k = true → D k = true) → J D ρ' w' → (∀ j d, D j = true → dstOf ops j = some d → R j D (ρ' d) w') → factsK R D ρ ρ' w' (fs.getD i []) →
      goE P ops o ρ' w' (fun v w'' => J (setD D (k + i)) (updO ρ' o.dst v) w'' ∧ R (k + i) (setD D (k + i)) v w'' ∧ (∀ j d, j ≠ k + i → dstOf ops j = some d → D j = true → R j D (ρ' d) w' → R j (setD D (k + i)) (ρ' d) w''))
  | [], _, _, _, _, i, o, ho => by simp at ho
  | x :: l, [], _, _, hl, _, _, _ => by simp at hl
  | x :: l, f :: fs, k, h, hl, 0, o, ho => by
    simp only [List.getElem?_cons_zero, Option.some.injEq] at ho
    subst ho
    intro D ρ' w' h1 h2 h3 h4 h5 h6
    exact h.1 D ρ' w' h1 h2 h3 h4 h5 h6
  | x :: l, f :: fs, k, h, hl, i + 1, o, ho => by
    have := oblK_at l fs (k + 1) h.2 (by simpa using hl) i o (by simpa using ho)
    rw [Nat.add_assoc, Nat.add_comm 1 i] at this
    intro D ρ' w' h1 h2 h3 h4 h5 h6
    exact this D ρ' w' h1 h2 h3 h4 h5 (by simpa using h6)
structure RkInv (ops : Array Oper) (n : Nat) (ρ : Env) (J : (Nat → Bool) → Env → World → Prop) (R : Nat → (Nat → Bool) → Value → World → Prop) (listed : Array Bool) (a : Act) (w' : World) (ρ' : Env) : Prop where
  act : At a n ρ'
  ext : J (dn listed) ρ' w'
  size : listed.size = ops.size
  done : ∀ j d, listed.getD j false = true → dstOf ops j = some d → R j (dn listed) (ρ' d) w'
  rest : ∀ t, (∀ j, dstOf ops j = some t → listed.getD j false = false) → ρ' t = ρ t
  closed : ∀ j, listed.getD j false = true → ∀ i, edgesTo ops j i = true → listed.getD i false = true

section
variable {P : Program} {ops : Array Oper} {n : Nat} {ρ : Env} {w : World} {J : (Nat → Bool) → Env → World → Prop} {R : Nat → (Nat → Bool) → Value → World → Prop} {F : List (List (Nat × Option Nat))} {Q : Exit → Act → World → Prop}
theorem rk_facts (hone : ∀ i, i < ops.size → ∀ p ∈ F.getD i [], rgOne ops i p = true) {listed : Array Bool} {a : Act} {w' : World} {ρ' : Env} (inv : RkInv ops n ρ J R listed a w' ρ') {i : Nat} (hi : i < ops.size) (hun : listed.getD i false = false)
    (hall : ∀ j, edgesTo ops i j = true → listed.getD j false = true) : factsK R (dn listed) ρ ρ' w' (F.getD i []) := by
  have h := hone i hi
  generalize F.getD i [] = f at h
  induction f with
  | nil => trivial
  | cons p r ih =>
    obtain ⟨t, s⟩ := p
    have hp := h (t, s) (by simp)
    have hr := ih fun p hp => h p (by simp [hp])
    cases s with
    | some j =>
      simp only [rgOne, Bool.and_eq_true, beq_iff_eq] at hp
      exact ⟨inv.done j t (hall j hp.2) hp.1, hr⟩
    | none =>
      refine ⟨inv.rest t fun j hj => ?_, hr⟩
      simp only [rgOne, List.all_eq_true, List.mem_range, Bool.or_eq_true, bne_iff_ne, beq_iff_eq] at hp
      have hjs : j < ops.size := by
        rcases Nat.lt_or_ge j ops.size with h | h
        · exact h
        · simp [dstOf, Array.getElem?_eq_none h] at hj
      rcases hp j hjs with (h1 | h1) | h1
      · exact absurd hj h1
      · rw [h1]; exact hun
      · rcases hb : listed.getD j false with _ | _
        · rfl
        · have := inv.closed j hb i h1
          rw [hun] at this; cases this

theorem rk_sound (hd : ops.all (fun o => o.dst.all (· < n)) = true) (hck : rgCheck ops F = true) (hop : oblK P ops ρ J R 0 ops.toList F)
    (hQ : ∀ a w' ρ' D, At a n ρ' → (∀ i, i < ops.size → D i = true) → J D ρ' w' → (∀ i d, dstOf ops i = some d → R i D (ρ' d) w') → (∀ t, (∀ j, dstOf ops j ≠ some t) → ρ' t = ρ t) → Q .normal a w') :
    ∀ (fuel : Nat) (listed : Array Bool) (a : Act) (w' : World) (ρ' : Env), cntF listed = fuel → RkInv ops n ρ J R listed a w' ρ' → wpAny P .any ops Q fuel listed a w' := by
  simp only [rgCheck, Bool.and_eq_true, List.all_eq_true, List.mem_range, beq_iff_eq] at hck
  obtain ⟨⟨⟨⟨hlen, hone⟩, _⟩, hdown⟩, hdst⟩ := hck
  have hready : ∀ (listed : Array Bool) (i : Nat), i ∈ Region.ready .any ops listed ↔ i < ops.size ∧ listed.getD i true = false ∧ ∃ o, ops[i]? = some o ∧ ∀ e ∈ o.after, Region.binds .any e = true → listed.getD e.on false = true := by
    intro listed i
    unfold Region.ready
    rw [List.mem_filter, List.mem_range]
    constructor
    · rintro ⟨h1, h2⟩
      rw [Bool.and_eq_true] at h2
      refine ⟨h1, by simpa using h2.1, ops[i], Array.getElem?_eq_getElem h1, fun e he hb => ?_⟩
      have := h2.2
      rw [Array.getElem?_eq_getElem h1] at this
      simp only [Option.map_some, Option.getD_some] at this
      have := Array.all_eq_true'.1 this e he
      simpa [hb] using this
    · rintro ⟨h1, h2, o, ho, h3⟩
      refine ⟨h1, ?_⟩
      rw [Bool.and_eq_true]
      refine ⟨by simp [h2], ?_⟩
      rw [ho]
      simp only [Option.map_some, Option.getD_some]
      exact Array.all_eq_true'.2 fun e he => by
        cases hb : Region.binds .any e with
        | false => simp
        | true => simpa using h3 e he hb
  have allListed : ∀ listed : Array Bool, listed.size = ops.size → cntF listed = 0 → ∀ j, j < ops.size → listed.getD j false = true := by
    intro listed hs hc j hj
    have hlt : j < listed.size := by omega
    have hno : false ∉ listed.toList := List.count_eq_zero.1 hc
    rw [Array.getD_eq_getD_getElem?, Array.getElem?_eq_getElem hlt, Option.getD_some]
    cases hb : listed[j] with
    | true => rfl
    | false => exact absurd (by rw [← hb]; simp) hno
  have fin : ∀ listed a w' ρ', RkInv ops n ρ J R listed a w' ρ' → cntF listed = 0 → Q .normal a w' := by
    intro listed a w' ρ' inv hc
    have hall := allListed listed inv.size hc
    refine hQ a w' ρ' (dn listed) inv.act (fun i hi => hall i hi) inv.ext (fun i d hi => inv.done i d (hall i ?_) hi) fun t ht => inv.rest t fun j hj => absurd hj (ht j)
    rcases Nat.lt_or_ge i ops.size with h | h
    · exact h
    · simp [dstOf, Array.getElem?_eq_none h] at hi
  intro fuel
  induction fuel with
  | zero =>
    intro listed a w' ρ' hc inv
    refine ⟨?_, fin listed a w' ρ' inv hc⟩
    apply List.eq_nil_iff_forall_not_mem.2
    intro i hi
    obtain ⟨h1, h2, _⟩ := (hready listed i).1 hi
    have := allListed listed inv.size hc i h1
    rw [getD_tf h2] at this; cases this
  | succ fuel ih =>
    intro listed a w' ρ' hc inv
    refine ⟨fun hnil => ?_, fun i hi => ?_⟩
    · exfalso
      -- the first one that is not listed is ready
      have hex : ∃ i, i < ops.size ∧ listed.getD i true = false := by
        have hpos : 0 < listed.toList.count false := by unfold cntF at hc; omega
        obtain ⟨i, hi, he⟩ := List.mem_iff_getElem.1 (List.count_pos_iff.1 hpos)
        have hlt : i < listed.size := by simpa using hi
        refine ⟨i, by rw [← inv.size]; exact hlt, ?_⟩
        rw [Array.getD_eq_getD_getElem?, Array.getElem?_eq_getElem hlt, Option.getD_some]
        simpa using he
      have hmin : ∃ i, (i < ops.size ∧ listed.getD i true = false) ∧ ∀ j, j < i → listed.getD j true = true := by
        obtain ⟨i, hi⟩ := hex
        induction i using Nat.strongRecOn with
        | _ i ihh =>
          by_cases hj : ∃ j, j < i ∧ listed.getD j true = false
          · obtain ⟨j, h1, h2⟩ := hj
            exact ihh j h1 ⟨by omega, h2⟩
          · refine ⟨i, hi, fun j hji => ?_⟩
            cases hb : listed.getD j true with
            | true => rfl
            | false => exact absurd ⟨j, hji, hb⟩ hj
      obtain ⟨i, ⟨h1, h2⟩, h3⟩ := hmin
      have hmem : i ∈ Region.ready .any ops listed := by
        refine (hready listed i).2 ⟨h1, h2, ops[i], Array.getElem?_eq_getElem h1, fun e he hb => ?_⟩
        have hde := hdown i h1
        rw [Array.getElem?_eq_getElem h1] at hde
        simp only [Option.map_some, Option.getD_some] at hde
        have hlt := Array.all_eq_true'.1 hde e he
        simp only [hb, Bool.not_true, Bool.false_or] at hlt
        have hlt' : e.on < i := by simpa [Nat.blt_eq] using hlt
        have h4 := h3 e.on hlt'
        have hsz : e.on < listed.size := by rw [inv.size]; omega
        rw [Array.getD_eq_getD_getElem?, Array.getElem?_eq_getElem hsz, Option.getD_some] at h4 ⊢
        exact h4
      rw [hnil] at hmem; cases hmem
    · obtain ⟨h1, h2, o, ho, h3⟩ := (hready listed i).1 hi
      have hun := getD_tf h2
      have hall : ∀ j, edgesTo ops i j = true → listed.getD j false = true := by
        intro j hj
        simp only [edgesTo, ho] at hj
        obtain ⟨e, he, hb⟩ := Array.any_eq_true'.1 hj
        simp only [Bool.and_eq_true, beq_iff_eq] at hb
        rw [← hb.1]; exact h3 e he hb.2
      have hf := rk_facts (fun i hi p hp => hone i hi p hp) inv h1 hun hall
      have hgo := oblK_at ops.toList F 0 hop (by simpa using hlen.symm) i o (by simpa using ho) (dn listed) ρ' w' (by rw [Nat.zero_add]; exact hun) (fun j hj => hall j (by rw [Nat.zero_add] at hj; exact hj)) (fun j k hj hk => inv.closed j hj k hk) inv.ext (fun j d hj hd => inv.done j d hj hd) hf
      simp only [Nat.zero_add] at hgo
      have hod : o.dst.all (· < n) = true := Array.all_eq_true'.1 hd o (Array.mem_of_getElem? ho)
      have hdi : dstOf ops i = o.dst := by simp [dstOf, ho]
      have hset : dn (listed.setIfInBounds i true) = setD (dn listed) i := funext fun j => (getD_set h2).trans (setD_eq (dn listed) i j).symm
      have next : ∀ v w'', J (setD (dn listed) i) (updO ρ' o.dst v) w'' ∧ R i (setD (dn listed) i) v w'' ∧ (∀ j d, j ≠ i → dstOf ops j = some d → dn listed j = true → R j (dn listed) (ρ' d) w' → R j (setD (dn listed) i) (ρ' d) w'') → wpAny P .any ops Q fuel (listed.setIfInBounds i true) (a.put o.dst v) w'' := by
        rintro v w'' ⟨hj', hr, hb⟩
        refine ih _ _ _ (updO ρ' o.dst v) (by have := cntF_set h2; omega) ⟨inv.act.put hod v, by rw [hset]; exact hj', by simpa using inv.size, fun j d hj hjd => ?_, fun t ht => ?_, fun j hj k hk => ?_⟩
        · rw [hset]
          rw [getD_set h2] at hj
          by_cases e : i = j
          · subst e
            rw [hdi] at hjd
            rw [hjd]
            simp only [updO, upd_same]
            exact hr
          · rw [if_neg e] at hj
            have hold := hb j d (fun q => e q.symm) hjd hj (inv.done j d hj hjd)
            have hne : o.dst ≠ some d := by
              intro e'
              have hjs : j < ops.size := by
                rcases Nat.lt_or_ge j ops.size with h | h
                · exact h
                · simp [dstOf, Array.getElem?_eq_none h] at hjd
              have := hdst i h1 j hjs
              simp [hdi, e', hjd, e] at this
            cases hdd : o.dst with
            | none => exact hold
            | some k =>
              simp only [updO]
              rw [upd_other _ _ (by rintro rfl; exact hne hdd)]
              exact hold
        · have hti : o.dst ≠ some t := by
            intro e
            have := ht i (by rw [hdi]; exact e)
            rw [getD_set h2, if_pos rfl] at this; cases this
          have : ρ' t = ρ t := inv.rest t fun j hj => by
            have := ht j hj
            rw [getD_set h2] at this
            split at this
            · cases this
            · exact this
          cases hdd : o.dst with
          | none => exact this
          | some k =>
            simp only [updO]
            rw [upd_other _ _ (by rintro rfl; exact hti hdd)]
            exact this
        · rw [getD_set h2] at hj ⊢
          split
          · rfl
          · by_cases e : i = j
            · subst e; exact hall k hk
            · rw [if_neg e] at hj; exact inv.closed j hj k hk
      unfold wpOp
      rw [ho]
      simp only
      rw [guardE_wanted inv.act hd o]
      unfold goE at hgo
      split
      · rename_i hg
        rw [if_pos hg] at hgo
        exact .inl (opE_wp inv.act hgo next)
      · rename_i hg
        rw [if_neg hg] at hgo
        exact next undef w' hgo

theorem cE_regionJ {Q : Exit → Env → World → Prop} {id : Nat} {l : List Oper} (J : (Nat → Bool) → Env → World → Prop) (F : List (List (Nat × Option Nat))) (R : Nat → (Nat → Bool) → Value → World → Prop) (hm : P.follows .mixedOrders = true) (hd : dstOk n l = true)
    (hck : rgCheck l.toArray F = true) (hJ : J (fun _ => false) ρ w.drew) (hop : oblK P l.toArray ρ J R 0 l F)
    (hQ : ∀ ρ' w' D, (∀ i, i < l.length → D i = true) → J D ρ' w' → (∀ i d, dstOf l.toArray i = some d → R i D (ρ' d) w') → (∀ t, noDst l t = true → ρ' t = ρ t) → Q .normal ρ' w') : cE P n (.region id l.toArray true) Q ρ w := by
  intro a ha
  have h0 : dn (Array.replicate l.toArray.size false) = fun _ => false := by
    funext j
    simp only [dn, Array.getD_eq_getD_getElem?, Array.getElem?_replicate]
    split <;> rfl
  refine wp_region_any hm (rk_sound (dstOk_all hd) hck (by simpa using hop) (fun a w' ρ' D h1 h2 h3 h4 h5 => ⟨ρ', h1, hQ ρ' w' D (by simpa using h2) h3 h4 fun t ht => h5 t (noDst_spec ht)⟩) l.toArray.size _ a _ ρ (by simp [cntF]) ⟨ha, by rw [h0]; exact hJ, by simp, fun j d hj => ?_, fun t _ => rfl, fun j hj => ?_⟩)
  · exfalso
    rw [Array.getD_eq_getD_getElem?, Array.getElem?_replicate] at hj
    split at hj <;> simp at hj
  · exfalso
    rw [Array.getD_eq_getD_getElem?, Array.getElem?_replicate] at hj
    split at hj <;> simp at hj
theorem cE_regionK {Q : Exit → Env → World → Prop} {id : Nat} {l : List Oper} (J : (Nat → Bool) → World → Prop) (F : List (List (Nat × Option Nat))) (R : Nat → (Nat → Bool) → Value → World → Prop) (hm : P.follows .mixedOrders = true) (hd : dstOk n l = true)
    (hck : rgCheck l.toArray F = true) (hJ : J (fun _ => false) w.drew) (hop : oblK P l.toArray ρ (fun D _ w => J D w) R 0 l F)
    (hQ : ∀ ρ' w' D, (∀ i, i < l.length → D i = true) → J D w' → (∀ i d, dstOf l.toArray i = some d → R i D (ρ' d) w') → (∀ t, noDst l t = true → ρ' t = ρ t) → Q .normal ρ' w') : cE P n (.region id l.toArray true) Q ρ w :=
  cE_regionJ (fun D _ w => J D w) F R hm hd hck hJ hop hQ
end
/-! ### What is told of each operation's value, by lists -/
abbrev KP := (Nat → Bool) → Value → World → Prop
def RofK (Rs : List KP) (i : Nat) (D : Nat → Bool) (v : Value) (w : World) : Prop := (Rs.getD i (fun _ _ _ => True)) D v w
def StabM (M : List Nat) (p : KP) : Prop := ∀ D D' v w w', (∀ m ∈ M, D' m = D m) → Below w.heap.size w w' → p D v w → p D' v w'
def StabI (i : Nat) (p : KP) : Prop := ∀ D D' v w w', D' i = true → p D v w → p D' v w'
def stabML (M : List Nat) : List KP → Prop
  | [] => True
  | p :: r => StabM M p ∧ stabML M r
def stabIL (i : Nat) (D : Nat → Bool) : Nat → List KP → Prop
  | _, [] => True
  | k, p :: r => (k = i ∨ D k = false ∨ StabI i p) ∧ stabIL i D (k + 1) r
theorem stabML_at {M : List Nat} {D D' : Nat → Bool} {v : Value} {w w' : World} (hD : ∀ m ∈ M, D' m = D m) (hb : Below w.heap.size w w') : ∀ {Rs : List KP}, stabML M Rs → ∀ j, RofK Rs j D v w → RofK Rs j D' v w'
  | [], _, j, _ => by simp [RofK]
  | p :: r, h, 0, hp => h.1 D D' v w w' hD hb hp
  | p :: r, h, j + 1, hp => stabML_at hD hb (Rs := r) h.2 j hp
theorem stabIL_at {i : Nat} {D D' : Nat → Bool} {v : Value} {w w' : World} (hD : D' i = true) : ∀ {Rs : List KP} (k : Nat), stabIL i D k Rs → ∀ j, k + j ≠ i → D (k + j) = true → RofK Rs j D v w → RofK Rs j D' v w'
  | [], _, _, j, _, _, _ => by simp [RofK]
  | p :: r, k, h, 0, hn, hd, hp => by
    rcases h.1 with e | e | e
    · exact absurd e hn
    · rw [Nat.add_zero] at hd; rw [hd] at e; cases e
    · exact e D D' v w w' hD hp
  | p :: r, k, h, j + 1, hn, hd, hp => stabIL_at hD (Rs := r) (k + 1) h.2 j (by omega) (by rw [Nat.add_assoc, Nat.add_comm 1 j]; exact hd) hp
def stabIX (i x : Nat) (D : Nat → Bool) : Nat → List KP → Prop
  | _, [] => True
  | k, p :: r => (k = i ∨ k = x ∨ D k = false ∨ StabI i p) ∧ stabIX i x D (k + 1) r
theorem stabIX_at {i x : Nat} {D D' : Nat → Bool} {v : Value} {w w' : World} (hD : D' i = true) : ∀ {Rs : List KP} (k : Nat), stabIX i x D k Rs → ∀ j, k + j ≠ i → k + j ≠ x → D (k + j) = true → RofK Rs j D v w → RofK Rs j D' v w'
  | [], _, _, j, _, _, _, _ => by simp [RofK]
  | p :: r, k, h, 0, hn, hx, hd, hp => by
    rcases h.1 with e | e | e | e
    · exact absurd e hn
    · exact absurd e hx
    · rw [Nat.add_zero] at hd; rw [hd] at e; cases e
    · exact e D D' v w w' hD hp
  | p :: r, k, h, j + 1, hn, hx, hd, hp => stabIX_at hD (Rs := r) (k + 1) h.2 j (by omega) (by omega) (by rw [Nat.add_assoc, Nat.add_comm 1 j]; exact hd) hp
def stabIXs (i : Nat) (xs : List Nat) (D : Nat → Bool) : Nat → List KP → Prop
  | _, [] => True
  | k, p :: r => (k = i ∨ k ∈ xs ∨ D k = false ∨ StabI i p) ∧ stabIXs i xs D (k + 1) r
theorem stabIXs_at {i : Nat} {xs : List Nat} {D D' : Nat → Bool} {v : Value} {w w' : World} (hD : D' i = true) : ∀ {Rs : List KP} (k : Nat), stabIXs i xs D k Rs → ∀ j, k + j ≠ i → k + j ∉ xs → D (k + j) = true → RofK Rs j D v w → RofK Rs j D' v w'
  | [], _, _, j, _, _, _, _ => by simp [RofK]
  | p :: r, k, h, 0, hn, hx, hd, hp => by
    rcases h.1 with e | e | e | e
    · exact absurd e hn
    · exact absurd e hx
    · rw [Nat.add_zero] at hd; rw [hd] at e; cases e
    · exact e D D' v w w' hD hp
  | p :: r, k, h, j + 1, hn, hx, hd, hp => stabIXs_at hD (Rs := r) (k + 1) h.2 j (by omega) (by rw [Nat.add_assoc, Nat.add_comm 1 j]; exact hx) (by rw [Nat.add_assoc, Nat.add_comm 1 j]; exact hd) hp
theorem kX {Rs : List KP} {D : Nat → Bool} {i : Nat} {w' w'' : World} {ρ' : Env} {ops : Array Oper} (xs : List Nat) (hI : stabIXs i xs D 0 Rs)
    (hx : ∀ j d, j ∈ xs → dstOf ops j = some d → D j = true → RofK Rs j D (ρ' d) w' → RofK Rs j (setD D i) (ρ' d) w'') :
    ∀ j d, j ≠ i → dstOf ops j = some d → D j = true → RofK Rs j D (ρ' d) w' → RofK Rs j (setD D i) (ρ' d) w'' := fun j d hn hjd hD h => by
  by_cases e : j ∈ xs
  · exact hx j d e hjd hD h
  · exact stabIXs_at (by rw [setD_eq, if_pos rfl]) 0 hI j (by omega) (by rw [Nat.zero_add]; exact e) (by rw [Nat.zero_add]; exact hD) h
def kAl (w0 : World) (m : Nat) (f f' : Nat → List Item) : KP := fun D v w => ∃ g, v = .pointer (some ⟨g, 0, none⟩) ∧ (D m = false → St w0 w (f g)) ∧ (D m = true → St w0 w (f' g))
theorem mAl {w0 : World} {m : Nat} {f f' : Nat → List Item} {M : List Nat} (hm : m ∈ M) : StabM M (kAl w0 m f f') := fun D D' v w w' hD hb ⟨g, h1, h2, h3⟩ =>
  ⟨g, h1, fun h => (h2 (by rw [← hD m hm]; exact h)).ext hb, fun h => (h3 (by rw [← hD m hm]; exact h)).ext hb⟩
def kAny : KP := fun _ _ _ => True
def kEq (x : Value) : KP := fun _ v _ => v = x
def kSl0 {α : Type} (w0 : World) (E : Enc α) (xs : List α) : KP := fun _ v _ => Sl w0 E v xs
def kSlU {α : Type} (M : List Nat) (E : Enc α) (xs : List α) : KP := fun D v w => (∀ m ∈ M, D m = false) → Sl w E v xs
def kPt0 (w0 : World) (cs : List Value) : KP := fun _ v _ => ∃ b off, v = .pointer (some ⟨b, off, none⟩) ∧ Pt w0 b off cs
def kPtU (M : List Nat) (cs : List Value) : KP := fun D v w => ∃ b off, v = .pointer (some ⟨b, off, none⟩) ∧ ((∀ m ∈ M, D m = false) → Pt w b off cs)
def kSt (w0 : World) (f : Value → List Item) : KP := fun _ v w => St w0 w (f v)
section
variable {M : List Nat} {i : Nat} {α : Type} {E : Enc α} {xs : List α} {x : Value} {cs : List Value} {w0 : World}
theorem mAny : StabM M kAny := fun _ _ _ _ _ _ _ _ => trivial
theorem mEq : StabM M (kEq x) := fun _ _ _ _ _ _ _ h => h
theorem mSl0 : StabM M (kSl0 w0 E xs) := fun _ _ _ _ _ _ _ h => h
theorem mSlU : StabM M (kSlU M E xs) := fun _ _ _ _ _ hD hb h hm => (h fun m hm' => by rw [← hD m hm']; exact hm m hm').below hb
theorem mSlUs {M' : List Nat} (hs : ∀ m ∈ M', m ∈ M) : StabM M (kSlU M' E xs) := fun _ _ _ _ _ hD hb h hm => (h fun m hm' => by rw [← hD m (hs m hm')]; exact hm m hm').below hb
theorem mPt0 : StabM M (kPt0 w0 cs) := fun _ _ _ _ _ _ _ h => h
theorem mPtU : StabM M (kPtU M cs) := fun _ _ _ _ _ hD hb ⟨b, off, h1, h2⟩ => ⟨b, off, h1, fun hm => (h2 fun m hm' => by rw [← hD m hm']; exact hm m hm').below hb⟩
theorem mSt {f : Value → List Item} : StabM M (kSt w0 f) := fun _ _ _ _ _ _ hb h => h.ext hb
theorem iAny : StabI i kAny := fun _ _ _ _ _ _ _ => trivial
theorem iEq : StabI i (kEq x) := fun _ _ _ _ _ _ h => h
theorem iSl0 : StabI i (kSl0 w0 E xs) := fun _ _ _ _ _ _ h => h
theorem iSlU (hi : i ∈ M) : StabI i (kSlU M E xs) := fun _ _ _ _ _ hD _ hm => by rw [hm i hi] at hD; cases hD
theorem iPt0 : StabI i (kPt0 w0 cs) := fun _ _ _ _ _ _ h => h
theorem iPtU (hi : i ∈ M) : StabI i (kPtU M cs) := fun _ _ _ _ _ hD ⟨b, off, h1, _⟩ => ⟨b, off, h1, fun hm => by rw [hm i hi] at hD; cases hD⟩
end
section
variable {M : List Nat} {Rs : List KP} {D : Nat → Bool} {i : Nat} {w' w'' : World} {v : Value} {ρ' : Env} {ops : Array Oper}
theorem kN {A : Prop} (hM : stabML M Rs) (hi : M.all (fun m => !Nat.beq i m) = true) (hb : Below w'.heap.size w' w'') (hJ : A) (hp : RofK Rs i (setD D i) v w'') :
    A ∧ RofK Rs i (setD D i) v w'' ∧ (∀ j d, j ≠ i → dstOf ops j = some d → D j = true → RofK Rs j D (ρ' d) w' → RofK Rs j (setD D i) (ρ' d) w'') :=
  ⟨hJ, hp, fun j _ _ _ _ h => stabML_at (fun m hm => setD_other (by have := List.all_eq_true.1 hi m hm; simpa using this)) hb hM j h⟩
theorem kN0 {A : Prop} (hM : stabML M Rs) (hi : M.all (fun m => !Nat.beq i m) = true) (hJ : A) (hp : RofK Rs i (setD D i) v w') :
    A ∧ RofK Rs i (setD D i) v w' ∧ (∀ j d, j ≠ i → dstOf ops j = some d → D j = true → RofK Rs j D (ρ' d) w' → RofK Rs j (setD D i) (ρ' d) w') := kN hM hi (Below.refl _ _) hJ hp
theorem kI {A : Prop} (hI : stabIL i D 0 Rs) (hJ : A) (hp : RofK Rs i (setD D i) v w'') :
    A ∧ RofK Rs i (setD D i) v w'' ∧ (∀ j d, j ≠ i → dstOf ops j = some d → D j = true → RofK Rs j D (ρ' d) w' → RofK Rs j (setD D i) (ρ' d) w'') :=
  ⟨hJ, hp, fun j _ hn _ hd h => stabIL_at (by rw [setD_eq, if_pos rfl]) 0 hI j (by omega) (by rw [Nat.zero_add]; exact hd) h⟩
theorem kIx {A : Prop} (x t : Nat) (hd : dstOf ops x = some t) (hI : stabIX i x D 0 Rs) (hJ : A) (hp : RofK Rs i (setD D i) v w'') (hx : RofK Rs x (setD D i) (ρ' t) w'') :
    A ∧ RofK Rs i (setD D i) v w'' ∧ (∀ j d, j ≠ i → dstOf ops j = some d → D j = true → RofK Rs j D (ρ' d) w' → RofK Rs j (setD D i) (ρ' d) w'') :=
  ⟨hJ, hp, fun j d hn hjd hd' h => by
    by_cases e : j = x
    · subst e
      rw [hd] at hjd
      obtain rfl := Option.some.inj hjd
      exact hx
    · exact stabIX_at (by rw [setD_eq, if_pos rfl]) 0 hI j (by omega) (by omega) (by rw [Nat.zero_add]; exact hd') h⟩
theorem not_yet {m : Nat} (hD : D i = false) (h : D m = true → D i = true) : D m = false := by
  cases hm : D m with
  | false => rfl
  | true => rw [h hm] at hD; cases hD
end
section
variable {P : Program} {n : Nat} {ρ : Env} {w : World}
theorem cE_regionM {Q : Exit → Env → World → Prop} {id : Nat} {l : List Oper} (J : (Nat → Bool) → World → Prop) (F : List (List (Nat × Option Nat))) (M : List Nat) (Rs : List KP) (hM : stabML M Rs) (hm : P.follows .mixedOrders = true) (hd : dstOk n l = true)
    (hck : rgCheck l.toArray F = true) (hJ : J (fun _ => false) w.drew) (hop : stabML M Rs → oblK P l.toArray ρ (fun D _ w => J D w) (RofK Rs) 0 l F)
    (hQ : ∀ ρ' w' D, (∀ i, i < l.length → D i = true) → J D w' → (∀ i d, dstOf l.toArray i = some d → RofK Rs i D (ρ' d) w') → (∀ t, noDst l t = true → ρ' t = ρ t) → Q .normal ρ' w') : cE P n (.region id l.toArray true) Q ρ w :=
  cE_regionK J F (RofK Rs) hm hd hck hJ (hop hM) hQ
end
end Go.Proofs.YtgibfidebdgffaaDoor
end
section
namespace Go.Proofs.YtgibfidebdgffaaDoor
section
variable {P : Program} {ops : Array Oper} {l : List Oper} {ρ : Env} {w : World} {KR : Env → World → Prop} {K : Value → World → Prop}
variable {dst : Option Tmp} {op : Op} {ty : TypeId} {pos : String} {aft : Array Edge} {g : Option (Nat × Bool)}
theorem op_indexArr {T e : TypeId} {x i : Operand} {n : Nat} {cs : Array Value} {k : IntKind} {m : Int} {v : Value} (hT : P.underlying T = some (.array n e)) (hA : ∀ w, (isAgg e).run P w = .ok false w) (hs : ∀ w, (sizeOf e).run P w = .ok 1 w)
    (hx : evE ρ x = .agg cs) (hi : evE ρ i = .int k m) (h0 : 0 ≤ m) (h1 : m < (n : Int)) (hv : cs[m.toNat]? = some v) (h : K v w) : opE P ⟨dst, .index T x i, ty, pos, aft, g⟩ ρ w K :=
  op_of (by simp [execOp, hx, hi, Instr.index, asIntOf, run_underlying hT, h0, h1, hs, part, hA, hv]) h
end
def widthA (k : Int) : Int := if k = 0 then 1 else if k = 1 then 5 else if k = 2 then 60 else if k = 3 then 1440 else 0
theorem width_none {k : Int} (h : k < 0 ∨ 4 ≤ k) : widthA k = 0 := by
  unfold widthA; rw [if_neg (by omega), if_neg (by omega), if_neg (by omega), if_neg (by omega)]
theorem width_at {k : Int} (h0 : 0 ≤ k) (h1 : k < 4) : (#[.int .i64 1, .int .i64 5, .int .i64 60, .int .i64 1440] : Array Value)[k.toNat]? = some (.int .i64 (widthA k)) := by
  have : k = 0 ∨ k = 1 ∨ k = 2 ∨ k = 3 := by omega
  rcases this with rfl | rfl | rfl | rfl <;> rfl
theorem width_r (k : Int) : 0 ≤ widthA k ∧ widthA k ≤ 1440 := by unfold widthA; split <;> (try split) <;> (try split) <;> (try split) <;> omega
def floorA (t k : Int) : Int := if widthA k = 0 ∨ t < 0 ∨ 1099511627776 < t then -1 else t - t % widthA k
theorem floor_none {t k : Int} (h : widthA k = 0 ∨ t < 0 ∨ 1099511627776 < t) : floorA t k = -1 := if_pos h
theorem floor_some {t k : Int} (h : ¬ (widthA k = 0)) (h0 : ¬ (t < 0)) (h1 : ¬ (1099511627776 < t)) : floorA t k = t - t % widthA k := if_neg (by omega)
theorem emod_w {t w : Int} (h0 : ¬ (t < 0)) (h : ¬ (w = 0)) (hw : 0 ≤ w) : 0 ≤ t % w ∧ t % w ≤ t := by
  have h1 := Int.emod_nonneg t h
  refine ⟨h1, ?_⟩
  have h2 := Int.ediv_nonneg (a := t) (b := w) (by omega) hw
  have h3 := Int.emod_add_mul_ediv t w
  have h4 := Int.mul_nonneg hw h2
  omega
theorem floorA_r (t k : Int) : -1 ≤ floorA t k ∧ floorA t k ≤ 1099511627776 := by
  unfold floorA
  split
  · omega
  · rename_i h
    have := emod_w (t := t) (w := widthA k) (by omega) (by omega) (width_r k).1
    omega
def coarseA (k : Int) : Bool := decide (0 < k ∧ k < 4)
def risesFrom : Int → List Sample → Bool
  | _, [] => true
  | last, s :: l => decide (last < s.T ∧ s.T ≤ 1099511627776) && risesFrom s.T l
def risingA (l : List Sample) : Bool := risesFrom (-1) l
theorem rises_go {l : List Sample} {i : Nat} {last : Int} (h : i < l.length) (h0 : ¬ ((l[i]'h).T ≤ last)) (h1 : ¬ (1099511627776 < (l[i]'h).T)) : risesFrom last (l.drop i) = risesFrom (l[i]'h).T (l.drop (i + 1)) := by
  rw [List.drop_eq_getElem_cons h, risesFrom, decide_eq_true (by omega), Bool.true_and]
theorem rises_no {l : List Sample} {i : Nat} {last : Int} (h : i < l.length) (h0 : (l[i]'h).T ≤ last ∨ 1099511627776 < (l[i]'h).T) : risesFrom last (l.drop i) = false := by
  rw [List.drop_eq_getElem_cons h, risesFrom, decide_eq_false (by omega), Bool.false_and]
theorem rises_end {l : List Sample} {i : Nat} {last : Int} (h : i = l.length) : risesFrom last (l.drop i) = true := by
  rw [List.drop_eq_nil_of_le (by omega)]; rfl
def alignsFrom (k : Int) : Int → List Agg → Bool
  | _, [] => true
  | last, a :: l => (mayA a && decide (a.From = floorA a.From k ∧ last < a.From)) && alignsFrom k a.From l
def alignedA (l : List Agg) (k : Int) : Bool := coarseA k && alignsFrom k (-1) l
theorem aligns_go {l : List Agg} {i : Nat} {last k : Int} (h : i < l.length) (hm : mayA (l[i]'h) = true) (h0 : (l[i]'h).From = floorA (l[i]'h).From k) (h1 : ¬ ((l[i]'h).From ≤ last)) : alignsFrom k last (l.drop i) = alignsFrom k (l[i]'h).From (l.drop (i + 1)) := by
  rw [List.drop_eq_getElem_cons h, alignsFrom, hm, decide_eq_true ⟨h0, by omega⟩, Bool.true_and, Bool.true_and]
theorem aligns_no {l : List Agg} {i : Nat} {last k : Int} (h : i < l.length) (h0 : mayA (l[i]'h) = false ∨ ¬ (l[i]'h).From = floorA (l[i]'h).From k ∨ (l[i]'h).From ≤ last) : alignsFrom k last (l.drop i) = false := by
  rw [List.drop_eq_getElem_cons h, alignsFrom]
  rcases h0 with h0 | h0 | h0
  · rw [h0]; rfl
  · rw [decide_eq_false (fun h => h0 h.1), Bool.and_false]; rfl
  · rw [decide_eq_false (by omega), Bool.and_false]; rfl
theorem aligns_end {l : List Agg} {i : Nat} {last k : Int} (h : i = l.length) : alignsFrom k last (l.drop i) = true := by
  rw [List.drop_eq_nil_of_le (by omega)]; rfl
/-! ### Samples in windows -/
def winLen (k fr : Int) : List Sample → Nat
  | [] => 0
  | s :: l => if floorA s.T k = fr then winLen k fr l + 1 else 0
def rawL (k : Int) : Nat → List Sample → List Agg → List Agg × Int
  | 0, _, out => (out, 0)
  | _ + 1, [], out => (out, 0)
  | f + 1, s :: l, out =>
    if (allA ((s :: l).take (winLen k (floorA s.T k) (s :: l))) (floorA s.T k)).2 = 0 then
      rawL k f ((s :: l).drop (winLen k (floorA s.T k) (s :: l))) (out ++ [(allA ((s :: l).take (winLen k (floorA s.T k) (s :: l))) (floorA s.T k)).1])
    else ([], (allA ((s :: l).take (winLen k (floorA s.T k) (s :: l))) (floorA s.T k)).2)
def rawA (l : List Sample) (k : Int) : List Agg × Int := if risingA l = true ∧ coarseA k = true then rawL k l.length l [] else ([], 1)
theorem raw_none {l : List Sample} {k : Int} (h : risingA l = false ∨ coarseA k = false) : rawA l k = ([], 1) := by
  unfold rawA
  rw [if_neg]
  rintro ⟨h1, h2⟩
  rcases h with h | h
  · rw [h1] at h; cases h
  · rw [h2] at h; cases h
theorem win_go {k fr : Int} {l : List Sample} {n : Nat} (h : n < l.length) (hf : floorA (l[n]'h).T k = fr) : winLen k fr (l.drop n) = winLen k fr (l.drop (n + 1)) + 1 := by
  rw [List.drop_eq_getElem_cons h, winLen, if_pos hf]
theorem win_no {k fr : Int} {l : List Sample} {n : Nat} (h : n < l.length) (hf : ¬ floorA (l[n]'h).T k = fr) : winLen k fr (l.drop n) = 0 := by
  rw [List.drop_eq_getElem_cons h, winLen, if_neg hf]
theorem win_end {k fr : Int} {l : List Sample} {n : Nat} (h : ¬ (n < l.length)) : winLen k fr (l.drop n) = 0 := by
  rw [List.drop_eq_nil_of_le (by omega)]; rfl
theorem win_pos {k : Int} {l : List Sample} (h : 0 < l.length) : 0 < winLen k (floorA (l[0]'h).T k) l := by
  cases l with
  | nil => simp at h
  | cons s l => simp [winLen]
theorem raw_go {k : Int} {f : Nat} {l : List Sample} {out : List Agg} (h : 0 < l.length) (hl : l.length ≤ f) {n : Nat} (hn : winLen k (floorA (l[0]'h).T k) l = n) (hc : (allA (l.take n) (floorA (l[0]'h).T k)).2 = 0) :
    rawL k f l out = rawL k (f - 1) (l.drop n) (out ++ [(allA (l.take n) (floorA (l[0]'h).T k)).1]) := by
  subst hn
  cases l with
  | nil => simp at h
  | cons s l =>
    cases f with
    | zero => simp at hl
    | succ f =>
      simp only [List.getElem_cons_zero] at hc ⊢
      rw [rawL, if_pos hc]; rfl
theorem raw_stop {k : Int} {f : Nat} {l : List Sample} {out : List Agg} (h : 0 < l.length) (hl : l.length ≤ f) {n : Nat} (hn : winLen k (floorA (l[0]'h).T k) l = n) (hc : ¬ (allA (l.take n) (floorA (l[0]'h).T k)).2 = 0) :
    rawL k f l out = ([], (allA (l.take n) (floorA (l[0]'h).T k)).2) := by
  subst hn
  cases l with
  | nil => simp at h
  | cons s l =>
    cases f with
    | zero => simp at hl
    | succ f =>
      simp only [List.getElem_cons_zero] at hc ⊢
      rw [rawL, if_neg hc]
theorem raw_end {k : Int} {f : Nat} {l : List Sample} {out : List Agg} (h : ¬ (0 < l.length)) : rawL k f l out = (out, 0) := by
  obtain rfl := List.length_eq_zero_iff.1 (by omega : l.length = 0)
  cases f <;> rfl
/-! ### Windows in windows -/
def atK (a : Agg) (k : Int) : Agg := ⟨floorA a.From k, a.Count, a.Sum, a.Min, a.Max, a.First, a.Last⟩
def downL (k : Int) : List Agg → List Agg → List Agg × Int
  | [], out => (out, 0)
  | a :: l, out =>
    match out.getLast? with
    | none => downL k l (out ++ [atK a k])
    | some x =>
      if x.From = floorA a.From k then
        if (joinA x (atK a k)).2 = 0 then downL k l (out.set (out.length - 1) (joinA x (atK a k)).1) else ([], (joinA x (atK a k)).2)
      else downL k l (out ++ [atK a k])
def downA (l : List Agg) (k : Int) : List Agg × Int := if 2 ≤ k ∧ alignedA l (k - 1) = true ∧ coarseA k = true then downL k l [] else ([], 1)
theorem down_none {l : List Agg} {k : Int} (h : k < 2 ∨ alignedA l (k - 1) = false ∨ coarseA k = false) : downA l k = ([], 1) := by
  unfold downA
  rw [if_neg]
  rintro ⟨h1, h2, h3⟩
  rcases h with h | h | h
  · omega
  · rw [h2] at h; cases h
  · rw [h3] at h; cases h
theorem down_start {l : List Agg} {k : Int} (h : ¬ (k < 2)) (h1 : alignedA l (k - 1) = true) (h2 : coarseA k = true) : downA l k = downL k (l.drop 0) [] := by
  unfold downA; rw [if_pos ⟨by omega, h1, h2⟩]; rfl
theorem getLast_some {out : List Agg} (h : 0 < out.length) : out.getLast? = some (out[out.length - 1]'(by omega)) := by
  rw [List.getLast?_eq_getElem?, List.getElem?_eq_getElem]
theorem down_new {l : List Agg} {k : Int} {i : Nat} {out : List Agg} (h : i < l.length) (hc : (out.length : Int) = 0) : downL k (l.drop i) out = downL k (l.drop (i + 1)) (out ++ [atK (l[i]'h) k]) := by
  obtain rfl := List.length_eq_zero_iff.1 (by omega : out.length = 0)
  rw [List.drop_eq_getElem_cons h, downL]; rfl
theorem down_next {l : List Agg} {k : Int} {i : Nat} {out : List Agg} (h : i < l.length) (h0 : 0 < out.length) (hc : ¬ ((out[out.length - 1]'(by omega)).From = floorA (l[i]'h).From k)) : downL k (l.drop i) out = downL k (l.drop (i + 1)) (out ++ [atK (l[i]'h) k]) := by
  rw [List.drop_eq_getElem_cons h, downL, getLast_some h0]
  simp only [if_neg hc]
theorem down_join {l : List Agg} {k : Int} {i : Nat} {out : List Agg} (h : i < l.length) (h0 : 0 < out.length) (he : (out[out.length - 1]'(by omega)).From = floorA (l[i]'h).From k) (hc : (joinA (out[out.length - 1]'(by omega)) (atK (l[i]'h) k)).2 = 0) :
    downL k (l.drop i) out = downL k (l.drop (i + 1)) (out.set (out.length - 1) (joinA (out[out.length - 1]'(by omega)) (atK (l[i]'h) k)).1) := by
  rw [List.drop_eq_getElem_cons h, downL, getLast_some h0]
  simp only [if_pos he, if_pos hc]
theorem down_stop {l : List Agg} {k : Int} {i : Nat} {out : List Agg} (h : i < l.length) (h0 : 0 < out.length) (he : (out[out.length - 1]'(by omega)).From = floorA (l[i]'h).From k) (hc : ¬ (joinA (out[out.length - 1]'(by omega)) (atK (l[i]'h) k)).2 = 0) :
    downL k (l.drop i) out = ([], (joinA (out[out.length - 1]'(by omega)) (atK (l[i]'h) k)).2) := by
  rw [List.drop_eq_getElem_cons h, downL, getLast_some h0]
  simp only [if_pos he, if_neg hc]
theorem down_end {l : List Agg} {k : Int} {i : Nat} {out : List Agg} (h : i = l.length) : downL k (l.drop i) out = (out, 0) := by
  rw [List.drop_eq_nil_of_le (by omega)]; rfl
theorem atK_ok {a : Agg} {k : Int} (h : a.ok) : (atK a k).ok := by
  have := floorA_r a.From k
  exact ⟨⟨by simp only [atK]; omega, by simp only [atK]; omega⟩, h.2⟩
theorem set_okA {xs : List Agg} (hl : ∀ s ∈ xs, s.ok) {i : Nat} {y : Agg} (hy : y.ok) : ∀ s ∈ xs.set i y, s.ok := by
  intro s hm
  rcases List.mem_or_eq_of_mem_set hm with h | rfl
  · exact hl s h
  · exact hy
theorem snoc_okA {xs : List Agg} (hl : ∀ s ∈ xs, s.ok) {y : Agg} (hy : y.ok) : ∀ s ∈ xs ++ [y], s.ok := by
  intro s hm
  rcases List.mem_append.1 hm with h | h
  · exact hl s h
  · rw [List.mem_singleton] at h; subst h; exact hy
theorem nil_okA : ∀ s ∈ ([] : List Agg), s.ok := by intro s h; cases h
end Go.Proofs.YtgibfidebdgffaaDoor
end
section
namespace Go.Proofs.YtgibfidebdgffaaDoor
/-! ### Sums -/
/-! ### All, in the reference's order of questions -/
/-! ### Rising, aligned -/
theorem coarse_yes {k : Int} (h0 : ¬ (k < 1)) (h1 : ¬ (3 < k)) : coarseA k = true := decide_eq_true (by omega)
theorem coarse_no {k : Int} (h : k < 1 ∨ 3 < k) : coarseA k = false := decide_eq_false (by omega)
/-! ### Windows, by place -/
/-! ### Windows of windows, by place -/
end Go.Proofs.YtgibfidebdgffaaDoor
end
section
namespace Go.Proofs.YtgibfidebdgffaaDoor
def step (n : Int) (c : UInt8) : Int := (n * 257 + (c.toNat : Int) + 1) % 4294967291
def more (s : Int) (l : List UInt8) : Int := l.foldl step (s % 4294967291)
theorem more_range (s : Int) (l : List UInt8) : 0 ≤ more s l ∧ more s l < 4294967291 := by
  unfold more
  have h : ∀ (l : List UInt8) (n : Int), 0 ≤ n ∧ n < 4294967291 → 0 ≤ l.foldl step n ∧ l.foldl step n < 4294967291 := by
    intro l
    induction l with
    | nil => intro n h; exact h
    | cons c l ih => intro n _; exact ih _ (by unfold step; omega)
  exact h l _ (by omega)
theorem more_zero (s : Int) {b : List UInt8} : more s (b.take 0) = s % 4294967291 := rfl
theorem more_succ (s : Int) (b : List UInt8) (k : Nat) (h : k < b.length) : more s (b.take (k + 1)) = (more s (b.take k) * 257 + ((b[k]'h).toNat : Int) + 1) % 4294967291 := by
  unfold more
  rw [List.take_succ_eq_append_getElem h, List.foldl_append]; rfl
theorem more_end (s : Int) (b : List UInt8) (k : Nat) (h : b.length ≤ k) : more s (b.take k) = more s b := by rw [List.take_of_length_le h]
end Go.Proofs.YtgibfidebdgffaaDoor
end
section
namespace Go.Proofs.YtgibfidebdgffaaDoor
open Go.RowKit

section
variable {w0 w w' : World} {L L' : List Item}
theorem St.perm (h : St w0 w L) (hp : L.Perm L') : St w0 w L' :=
  ⟨h.below, fun i hi => h.all i (hp.mem_iff.2 hi), hp.pairwise h.apart (fun h k hk e => h k e hk)⟩
theorem List.getElem_cons_eraseIdx_perm' {α : Type} : ∀ {l : List α} {i : Nat} (h : i < l.length), (l[i] :: l.eraseIdx i).Perm l
  | [], i, h => by simp at h
  | x :: l, 0, h => by simp
  | x :: l, i + 1, h => by
    simp only [List.getElem_cons_succ, List.eraseIdx_cons_succ]
    exact (List.Perm.swap _ _ _).trans ((List.getElem_cons_eraseIdx_perm' (by simpa using h)).cons x)
theorem St.front (h : St w0 w L) (i : Nat) {it : Item} (hi : L[i]? = some it) : St w0 w (it :: L.eraseIdx i) := by
  obtain ⟨hlt, e⟩ := List.getElem?_eq_some_iff.1 hi
  subst e
  exact h.perm (List.getElem_cons_eraseIdx_perm' hlt).symm
end

section
variable {P : Program} {ρ : Env} {w w0 : World} {L : List Item} {K : Value → World → Prop}
variable {dst : Option Tmp} {ty : TypeId} {pos : String} {aft : Array Edge} {g : Option (Nat × Bool)}
theorem op_makeFunc {fn : Fn} {xs : List Operand} {vs : List Value} (hv : evs ρ xs vs) (h : K (.func fn #[] vs.toArray) w) : opE P ⟨dst, .makeFunc fn #[] xs.toArray, ty, pos, aft, g⟩ ρ w K :=
  op_of (by unfold execOp; simp only; rw [evs_map hv]; simp [Instr.makeFunc]) h
theorem op_callv {f : FuncId} {fo : Operand} {xs : List Operand} {vs cs : List Value} {ts : Array TypeId} {R : Ending → World → Prop} (hc : ∀ a w, (callFunc f a).run P w = .ok (.enter f a) w) (hfv : evE ρ fo = .func (.func f) #[] cs.toArray) (hv : evs ρ xs vs)
    (hf : Calls P f (vs ++ cs).toArray w R) (h : ∀ e w', R e w' → ∃ v, e = .returned v ∧ K v w') : opE P ⟨dst, .call ⟨.value fo, xs.toArray, ts⟩, ty, pos, aft, g⟩ ρ w K := by
  have he : (execOp (evE ρ) ⟨dst, .call ⟨.value fo, xs.toArray, ts⟩, ty, pos, aft, g⟩).run P w = .ok (.enter f (vs ++ cs).toArray) w := by
    unfold execOp resolve
    simp only
    rw [evs_map hv]
    simp [hfv, Deferred.ofValue, invoke, hc]
  unfold opE
  rw [he]
  refine hf.mono fun e w' hr => ?_
  obtain ⟨v, rfl, hk⟩ := h e w' hr
  exact hk
theorem str_extract (l : List UInt8) (a b : Nat) : (str l).extract a b = str ((l.take b).drop a) := by
  apply ByteArray.ext
  rw [ByteArray.data_extract]
  apply Array.toList_inj.1
  simp [str, List.extract, List.drop_take]
theorem op_sliceStr {T : TypeId} {x lo hi : Operand} {s : List UInt8} {k k' : IntKind} {a b : Int} (m n : Nat) (hT : P.underlying T = some .string) (hx : evE ρ x = .string (str s)) (hl : evE ρ lo = .int k a) (hh : evE ρ hi = .int k' b)
    (hm : a = (m : Int)) (hn : b = (n : Int)) (hmn : m ≤ n) (hle : n ≤ s.length) (h : K (.string (str ((s.take n).drop m))) w) : opE P ⟨dst, .slice T x (some lo) (some hi) none, ty, pos, aft, g⟩ ρ w K := by
  subst hm hn
  refine op_of ?_ h
  simp [execOp, hx, hl, hh, Instr.sliceAt, Instr.slice, run_underlying hT, Instr.sliceBounds, run_sliceBound w k' (n : Int) _ _ (by omega) (by rw [size_str]; omega : (n : Int) ≤ ((str s).size : Int)), run_sliceBound w k (m : Int) n _ (by omega) (by omega : (m : Int) ≤ (n : Int)), str_extract]
theorem op_nilCheck {x : Operand} {a : Addr} (hx : evE ρ x = .pointer (some a)) (h : K (.pointer (some a)) w) : opE P ⟨dst, .nilCheck x, ty, pos, aft, g⟩ ρ w K :=
  op_of (by simp [execOp, hx]) h
end
theorem sl_cells {α : Type} {E : Enc α} {w : World} {v : Value} {xs : List α} (h : Sl w E v xs) : v.cells = #[v] := by obtain ⟨A, c, rfl, _⟩ := h; rfl
theorem sl_one {α : Type} {E : Enc α} {w : World} {v : Value} {xs : List α} (h : Sl w E v xs) : v.oneCell' = true := by obtain ⟨A, c, rfl, _⟩ := h; rfl
theorem cells_int (k : IntKind) (n : Int) : (Value.int k n).cells = #[.int k n] := rfl
theorem cells_bool (b : Bool) : (Value.bool b).cells = #[.bool b] := rfl
theorem cells_str (s : ByteArray) : (Value.string s).cells = #[.string s] := rfl
theorem cells_agg (cs : Array Value) : (Value.agg cs).cells = cs := rfl
theorem cells_nil : (Value.slice none 0 0).cells = #[.slice none 0 0] := rfl
def oneL : List Value → Prop
  | [] => True
  | v :: l => v.oneCell' = true ∧ oneL l
theorem oneL_all : ∀ {l : List Value}, oneL l → ∀ v ∈ l, v.oneCell' = true
  | [], _, v, hv => by cases hv
  | a :: l, h, v, hv => by
    rcases List.mem_cons.1 hv with rfl | hv
    · exact h.1
    · exact oneL_all h.2 v hv
end Go.Proofs.YtgibfidebdgffaaDoor
end
section
namespace Go.Proofs.YtgibfidebdgffaaDoor
structure Frame where
  Kind : Int
  View : Int
  Site : Int
  Seq : Int
  Body : List UInt8
  deriving DecidableEq
abbrev Frame.ok (f : Frame) : Prop := i64R f.Kind ∧ i64R f.View ∧ i64R f.Site ∧ i64R f.Seq
abbrev mayFP (f : Frame) : Prop := (0 ≤ f.View ∧ f.View ≤ 1073741824 ∧ 0 ≤ f.Seq ∧ f.Seq ≤ 1099511627776) ∧
  ((f.Kind = 1 ∧ 0 < f.Seq ∧ (f.Body.length : Int) ≤ 4100 ∧ f.Site = 0) ∨ (f.Kind = 2 ∧ (f.Body.length : Int) = 0 ∧ f.Site = 0) ∨
   ((f.Kind = 3 ∨ f.Kind = 4) ∧ f.Seq = 0 ∧ (f.Body.length : Int) = 0 ∧ 0 ≤ f.Site ∧ f.Site < 2))
def mayF (f : Frame) : Bool := decide (mayFP f)
def restF (f : Frame) : List UInt8 := if f.Kind = 1 then put f.Seq ++ (put (f.Body.length : Int) ++ f.Body) else if f.Kind = 2 then put f.Seq else put f.Site
def bodyF (f : Frame) : List UInt8 := byt (f.Kind % 256) :: (put f.View ++ restF f)
def four (n : Int) : List UInt8 := [byt (n % 256), byt (n / 256 % 256), byt (n / 65536 % 256), byt (n / 16777216 % 256)]
def putB (f : Frame) : List UInt8 := four (more 1 (bodyF f)) ++ bodyF f
@[simp] theorem four_len (n : Int) : (four n).length = 4 := rfl
theorem get_at {b pre post : List UInt8} {n p : Int} (h0 : 0 ≤ n) (h1 : n ≤ 18446744073709551615) (hb : b = pre ++ (put n ++ post)) (hp : p = (pre.length : Int)) : get b p = (n, p + ((put n).length : Int), 0) := by
  subst hb hp; exact get_put h0 h1 pre post
end Go.Proofs.YtgibfidebdgffaaDoor
end
section
namespace Go.Proofs.YtgibfidebdgffaaDoor
theorem get_nn (b : List UInt8) (p : Int) : 0 ≤ (get b p).1 ∧ (get b p).1 ≤ 18446744073709551615 := by
  unfold get
  split
  · simp
  · cases hg : getG 10 0 0 (b.drop p.toNat) with
    | none => simp
    | some q =>
      obtain ⟨v, j⟩ := q
      obtain ⟨m, hv, _, _, _, _, hb, _⟩ := getG_inv 9 0 0 _ v j rfl hg
      simp only [Nat.pow_zero, Nat.mul_one, Nat.zero_add] at hv hb
      simp only []
      omega
theorem get_to {b : List UInt8} {p : Int} (h0 : 0 ≤ p) (h1 : p ≤ (b.length : Int)) : p ≤ (get b p).2.1 ∧ (get b p).2.1 ≤ (b.length : Int) := by
  unfold get
  rw [if_neg (by omega)]
  cases hg : getG 10 0 0 (b.drop p.toNat) with
  | none => simp; omega
  | some q =>
    obtain ⟨v, j⟩ := q
    obtain ⟨m, _, _, hkj, hjl, _⟩ := getG_inv 9 0 0 _ v j rfl hg
    simp only [List.length_drop] at hjl ⊢
    omega
section
variable {b : List UInt8} {f0 : Frame} (h0 : mayF f0 = true) (hb : putB f0 = b) (h4 : 4 < b.length)
include h0 hb
end
/-! the reader of the reference -/
def rbad (bad : Bool) (b : List UInt8) (p : Int) : Bool := bad || !decide ((get b p).2.2 = 0)
def small (n m : Int) : Int := if m < n then m + 1 else n
end Go.Proofs.YtgibfidebdgffaaDoor
end
section
namespace Go.Proofs.YtgibfidebdgffaaDoor
abbrev wr (x : Int) : Int := IntKind.i64.wrap x
theorem wr_r (x : Int) : i64R (wr x) := by show i64R (IntKind.i64.wrap x); rw [IntKind.wrap_i64]; omega
theorem wr_id {x : Int} (h : i64R x) : wr x = x := by show IntKind.i64.wrap x = x; rw [IntKind.wrap_i64]; omega
theorem wr_sub {a b c : Int} (ha : i64R a) (hb : i64R b) (h : wr (a - c) = wr (b - c)) : a = b := by
  have h : IntKind.i64.wrap (a - c) = IntKind.i64.wrap (b - c) := h
  rw [IntKind.wrap_i64, IntKind.wrap_i64] at h; omega
theorem wr_back {a c : Int} (ha : i64R a) : wr (c + wr (a - c)) = a := by
  show IntKind.i64.wrap (c + IntKind.i64.wrap (a - c)) = a
  rw [IntKind.wrap_i64, IntKind.wrap_i64]; omega
abbrev zz (m : Int) : List UInt8 := put (zig m)
theorem zz_length (m : Int) : 1 ≤ (zz m).length ∧ (zz m).length ≤ 10 := put_length (zig m)
theorem zig_r {m : Int} (h : i64R m) : 0 ≤ zig m ∧ zig m ≤ 18446744073709551615 := by have := zig_cases m; omega
theorem zag_r {n : Int} (h0 : 0 ≤ n) (h1 : n ≤ 18446744073709551615) : i64R (zag n) := by have := zag_cases n; omega
theorem zig_inj {a b : Int} (h : zig a = zig b) : a = b := by have := congrArg zag h; rwa [zag_zig, zag_zig] at this
theorem put_split {a b : Int} {x y : List UInt8} (a0 : 0 ≤ a) (a1 : a ≤ 18446744073709551615) (b0 : 0 ≤ b) (b1 : b ≤ 18446744073709551615) (h : put a ++ x = put b ++ y) : a = b ∧ x = y := by
  have h1 := getG_put a0 a1 x
  have h2 := getG_put b0 b1 y
  rw [h] at h1
  rw [h1] at h2
  simp only [Option.some.injEq, Prod.mk.injEq] at h2
  have e : a = b := by omega
  subst e
  exact ⟨rfl, List.append_cancel_left h⟩
theorem zz_split {a b : Int} {x y : List UInt8} (ha : i64R a) (hb : i64R b) (h : zz a ++ x = zz b ++ y) : a = b ∧ x = y := by
  have h1 := zig_r ha
  have h2 := zig_r hb
  obtain ⟨e, h3⟩ := put_split h1.1 h1.2 h2.1 h2.2 h
  exact ⟨zig_inj e, h3⟩
theorem get_here {b rest : List UInt8} {n p : Int} (h0 : 0 ≤ n) (h1 : n ≤ 18446744073709551615) (p0 : 0 ≤ p) (p1 : p ≤ (b.length : Int)) (h : b.drop p.toNat = put n ++ rest) :
    get b p = (n, p + ((put n).length : Int), 0) ∧ b.drop (p + ((put n).length : Int)).toNat = rest ∧ p + ((put n).length : Int) ≤ (b.length : Int) := by
  have e : b = b.take p.toNat ++ (put n ++ rest) := by rw [← h, List.take_append_drop]
  have hl : (b.take p.toNat).length = p.toNat := by rw [List.length_take]; omega
  have hlen := congrArg List.length h
  simp only [List.length_drop, List.length_append] at hlen
  refine ⟨get_at h0 h1 e (by rw [hl]; omega), ?_, by omega⟩
  have e2 : (p + ((put n).length : Int)).toNat = p.toNat + (put n).length := by omega
  rw [e2, ← List.drop_drop, h, List.drop_left]
theorem get_zz {b rest : List UInt8} {m p : Int} (hm : i64R m) (p0 : 0 ≤ p) (p1 : p ≤ (b.length : Int)) (h : b.drop p.toNat = zz m ++ rest) :
    zag (get b p).1 = m ∧ (get b p).2.2 = 0 ∧ b.drop (get b p).2.1.toNat = rest ∧ p ≤ (get b p).2.1 ∧ (get b p).2.1 ≤ (b.length : Int) := by
  have hz := zig_r hm
  obtain ⟨h1, h2, h3⟩ := get_here hz.1 hz.2 p0 p1 h
  rw [h1]
  exact ⟨zag_zig m, rfl, h2, by simp only []; omega, h3⟩
theorem get_pp {b rest : List UInt8} {n p : Int} (h0 : 0 ≤ n) (h1 : n ≤ 18446744073709551615) (p0 : 0 ≤ p) (p1 : p ≤ (b.length : Int)) (h : b.drop p.toNat = put n ++ rest) :
    (get b p).1 = n ∧ (get b p).2.2 = 0 ∧ b.drop (get b p).2.1.toNat = rest ∧ p ≤ (get b p).2.1 ∧ (get b p).2.1 ≤ (b.length : Int) := by
  obtain ⟨h1, h2, h3⟩ := get_here h0 h1 p0 p1 h
  rw [h1]
  exact ⟨rfl, rfl, h2, by simp only []; omega, h3⟩
/-! ### Samples -/
def stepS : Int → Int → Int → List Sample → List UInt8
  | _, _, _, [] => []
  | T, V, st, s :: l => zz (s.T - T - st) ++ (zz (wr (s.V - V)) ++ stepS s.T s.V (s.T - T) l)
def bodyS : List Sample → List UInt8
  | [] => []
  | s :: l => put s.T ++ (zz s.V ++ stepS s.T s.V 0 l)
def putS (l : List Sample) : List UInt8 := put (l.length : Int) ++ bodyS l
def okS (l : List Sample) : Bool := risingA l && decide (l.length ≤ 64)
def encS (l : List Sample) : List UInt8 × Int := if okS l = true then (putS l, 0) else ([], 1)
theorem okS_iff {l : List Sample} : okS l = true ↔ risingA l = true ∧ l.length ≤ 64 := by unfold okS; simp
theorem encS_no {l : List Sample} (h : risingA l = false ∨ 64 < (l.length : Int)) : encS l = ([], 1) := by
  unfold encS; rw [if_neg]; rw [okS_iff]; rintro ⟨h1, h2⟩
  rcases h with h | h
  · rw [h1] at h; cases h
  · omega
theorem encS_yes {l : List Sample} (h : okS l = true) : encS l = (putS l, 0) := if_pos h
abbrev tR (t : Int) : Prop := 0 ≤ t ∧ t ≤ 1099511627776
theorem rises_tR : ∀ (l : List Sample) (last : Int), -1 ≤ last → risesFrom last l = true → ∀ s ∈ l, tR s.T
  | [], _, _, _, s, hs => by cases hs
  | t :: l, last, hl, h, s, hs => by
    rw [risesFrom] at h
    simp only [Bool.and_eq_true, decide_eq_true_eq] at h
    rcases List.mem_cons.1 hs with rfl | hs
    · exact ⟨by omega, by omega⟩
    · exact rises_tR l t.T (by omega) h.2 s hs
theorem rising_tR {l : List Sample} (h : risingA l = true) : ∀ s ∈ l, tR s.T := rises_tR l (-1) (by decide) h
theorem stepS_split : ∀ (l l' : List Sample) {T V st : Int} {r r' : List UInt8}, tR T → (-1099511627776 ≤ st ∧ st ≤ 1099511627776) → (∀ s ∈ l, tR s.T ∧ i64R s.V) → (∀ s ∈ l', tR s.T ∧ i64R s.V) → l.length = l'.length →
    stepS T V st l ++ r = stepS T V st l' ++ r' → l = l' ∧ r = r'
  | [], [], _, _, _, _, _, _, _, _, _, _, h => ⟨rfl, h⟩
  | [], _ :: _, _, _, _, _, _, _, _, _, _, hl, _ => by simp at hl
  | _ :: _, [], _, _, _, _, _, _, _, _, _, hl, _ => by simp at hl
  | s :: l, u :: l', T, V, st, r, r', hT, hst, h1, h2, hl, h => by
    have a := h1 s (List.mem_cons_self ..)
    have b := h2 u (List.mem_cons_self ..)
    rw [stepS, stepS, List.append_assoc, List.append_assoc, List.append_assoc, List.append_assoc] at h
    obtain ⟨e1, h⟩ := zz_split (by omega) (by omega) h
    obtain ⟨e2, h⟩ := zz_split (wr_r _) (wr_r _) h
    have eT : s.T = u.T := by omega
    have eV : s.V = u.V := wr_sub a.2 b.2 e2
    rw [eT, eV] at h
    obtain ⟨e3, e4⟩ := stepS_split l l' b.1 (by omega) (fun x hx => h1 x (List.mem_cons_of_mem _ hx)) (fun x hx => h2 x (List.mem_cons_of_mem _ hx)) (by simpa using hl) h
    refine ⟨?_, e4⟩
    rw [e3]; congr 1
    cases s; cases u; simp_all
theorem putS_split {l l' : List Sample} {r r' : List UInt8} (h1 : okS l = true) (h2 : okS l' = true) (o1 : ∀ s ∈ l, s.ok) (o2 : ∀ s ∈ l', s.ok) (h : putS l ++ r = putS l' ++ r') : l = l' ∧ r = r' := by
  have k1 := okS_iff.1 h1
  have k2 := okS_iff.1 h2
  have t1 := rising_tR k1.1
  have t2 := rising_tR k2.1
  unfold putS at h
  rw [List.append_assoc, List.append_assoc] at h
  obtain ⟨e, h⟩ := put_split (by omega) (by omega) (by omega) (by omega) h
  cases l with
  | nil =>
    cases l' with
    | nil => exact ⟨rfl, h⟩
    | cons u l' => simp at e; omega
  | cons s l =>
    cases l' with
    | nil => simp at e; omega
    | cons u l' =>
      have a := t1 s (List.mem_cons_self ..)
      have b := t2 u (List.mem_cons_self ..)
      rw [bodyS, bodyS, List.append_assoc, List.append_assoc, List.append_assoc, List.append_assoc] at h
      obtain ⟨e1, h⟩ := put_split (by omega) (by omega) (by omega) (by omega) h
      obtain ⟨e2, h⟩ := zz_split (o1 s (List.mem_cons_self ..)).2 (o2 u (List.mem_cons_self ..)).2 h
      rw [e1, e2] at h
      obtain ⟨e3, e4⟩ := stepS_split l l' b ⟨by decide, by decide⟩ (fun x hx => ⟨t1 x (List.mem_cons_of_mem _ hx), (o1 x (List.mem_cons_of_mem _ hx)).2⟩) (fun x hx => ⟨t2 x (List.mem_cons_of_mem _ hx), (o2 x (List.mem_cons_of_mem _ hx)).2⟩) (by simp at e; omega) h
      refine ⟨?_, e4⟩
      rw [e3]; congr 1
      cases s; cases u; simp_all
def DecS (b : List UInt8) (l : List Sample) (c : Int) : Prop :=
  (∀ s ∈ l, s.ok) ∧ ((c = 0 ∧ okS l = true ∧ putS l = b) ∨ (c = 2 ∧ l = [] ∧ ∀ l0, okS l0 = true → (∀ s ∈ l0, s.ok) → putS l0 ≠ b))
theorem decS_one {b : List UInt8} {l l' : List Sample} {c c' : Int} (h : DecS b l c) (h' : DecS b l' c') : l = l' ∧ c = c' := by
  obtain ⟨o, h⟩ := h
  obtain ⟨o', h'⟩ := h'
  rcases h with ⟨rfl, h1, h2⟩ | ⟨rfl, rfl, h1⟩
  · rcases h' with ⟨rfl, h3, h4⟩ | ⟨rfl, rfl, h3⟩
    · exact ⟨(putS_split (r := []) (r' := []) h1 h3 o o' (by rw [List.append_nil, List.append_nil, h2, h4])).1, rfl⟩
    · exact absurd h2 (h3 l h1 o)
  · rcases h' with ⟨rfl, h3, h4⟩ | ⟨rfl, rfl, h3⟩
    · exact absurd h4 (h1 l' h3 o')
    · exact ⟨rfl, rfl⟩
def restS (l : List Sample) (i : Nat) (st : Int) : List UInt8 :=
  if i = 0 then bodyS l else stepS (l.getD (i - 1) ⟨0, 0⟩).T (l.getD (i - 1) ⟨0, 0⟩).V st (l.drop i)
theorem getD_is {α : Type} {l : List α} {i : Nat} {d : α} (h : i < l.length) : l.getD i d = l[i] := by rw [List.getD_eq_getElem?_getD, List.getElem?_eq_getElem h]; rfl
theorem restS_zero {l : List Sample} {st : Int} : restS l 0 st = bodyS l := rfl
theorem restS_first {l : List Sample} {i : Nat} (hi : i = 0) (h : i < l.length) (st : Int) : restS l i st = put (l[i]'h).T ++ (zz (l[i]'h).V ++ restS l (i + 1) 0) := by
  subst hi
  cases l with
  | nil => simp at h
  | cons s l => rfl
theorem restS_next {l : List Sample} {i : Nat} (hi : 0 < i) (h : i < l.length) (st : Int) : restS l i st = zz ((l[i]'h).T - (l[i - 1]'(by omega)).T - st) ++ (zz (wr ((l[i]'h).V - (l[i - 1]'(by omega)).V)) ++ restS l (i + 1) ((l[i]'h).T - (l[i - 1]'(by omega)).T)) := by
  unfold restS
  rw [if_neg (by omega), if_neg (by omega), getD_is (by omega : i - 1 < l.length), List.drop_eq_getElem_cons h, stepS]
  have e : i + 1 - 1 = i := by omega
  rw [e, getD_is h]
theorem restS_end {l : List Sample} {i : Nat} (h : i = l.length) (st : Int) : restS l i st = [] := by
  unfold restS
  split
  · rename_i h0; rw [h0] at h; rw [List.eq_nil_of_length_eq_zero h.symm]; rfl
  · rw [List.drop_eq_nil_of_le (by omega)]; rfl
theorem putS_len : ∀ (l : List Sample) (i : Nat) (st : Int), (restS l i st).length ≤ 20 * (l.length - i) := by
  intro l i
  generalize hn : l.length - i = n
  induction n generalizing i with
  | zero =>
    intro st
    by_cases h0 : i = 0
    · subst h0; rw [List.eq_nil_of_length_eq_zero (by omega : l.length = 0)]; simp [restS, bodyS]
    · unfold restS; rw [if_neg h0, List.drop_eq_nil_of_le (by omega)]; simp [stepS]
  | succ n ih =>
    intro st
    by_cases h0 : i = 0
    · rw [restS_first h0 (by omega)]
      have h1 := put_length (l[i]'(by omega)).T
      have h2 := zz_length (l[i]'(by omega)).V
      have h3 := ih (i + 1) (by omega) 0
      simp only [List.length_append]; omega
    · rw [restS_next (by omega) (by omega)]
      have h1 := zz_length ((l[i]'(by omega)).T - (l[i - 1]'(by omega)).T - st)
      have h2 := zz_length (wr ((l[i]'(by omega)).V - (l[i - 1]'(by omega)).V))
      have h3 := ih (i + 1) (by omega) ((l[i]'(by omega)).T - (l[i - 1]'(by omega)).T)
      simp only [List.length_append]; omega

def cntV (b : List UInt8) (p most : Int) : Int := if most < (get b p).1 then 0 else (get b p).1
def cntBad (bad : Bool) (b : List UInt8) (p most : Int) : Bool := rbad bad b p || decide (most < (get b p).1)
theorem cntV_no {b : List UInt8} {p most : Int} (h : ¬ most < (get b p).1) : (get b p).1 = cntV b p most := by unfold cntV; rw [if_neg h]
theorem cntV_yes {b : List UInt8} {p most : Int} (h : most < (get b p).1) : 0 = cntV b p most := by unfold cntV; rw [if_pos h]
theorem cntV_r {b : List UInt8} {p most : Int} (hm : 0 ≤ most) : 0 ≤ cntV b p most ∧ cntV b p most ≤ most := by
  have := get_nn b p
  unfold cntV; split <;> omega
theorem rbad_of {b : List UInt8} {p : Int} (h : (get b p).2.2 = 0) : rbad false b p = false := by unfold rbad; rw [h]; rfl
def CS (b : List UInt8) (n : Int) (out : List Sample) (i : Nat) (p : Int) (bad : Bool) (st : Int) : Prop :=
  (0 ≤ p ∧ p ≤ (b.length : Int)) ∧ (i ≠ 0 ∨ st = 0) ∧ i64R st ∧ out.length = i ∧ (∀ s ∈ out, s.ok) ∧
  ∀ l0, okS l0 = true → (∀ s ∈ l0, s.ok) → putS l0 = b → bad = false ∧ n = (l0.length : Int) ∧ out = l0.take i ∧ b.drop p.toNat = restS l0 i st ∧ (-1099511627776 ≤ st ∧ st ≤ 1099511627776)
theorem CS_start {b : List UInt8} : CS b (cntV b 0 64) [] 0 (get b 0).2.1 (cntBad false b 0 64) 0 := by
  have h0 := get_to (b := b) (p := 0) (by omega) (by omega)
  refine ⟨⟨by omega, h0.2⟩, Or.inr rfl, by decide, rfl, (by intro s hs; cases hs), fun l0 h1 h2 h3 => ?_⟩
  have h4 := (okS_iff.1 h1).2
  obtain ⟨g1, g2, g3, _, _⟩ := get_pp (b := b) (rest := bodyS l0) (n := (l0.length : Int)) (p := 0) (by omega) (by omega) (by omega) (by omega) (by rw [← h3]; rfl)
  refine ⟨?_, ?_, rfl, g3, by omega, by omega⟩
  · unfold cntBad; rw [rbad_of g2, g1]; simp; omega
  · unfold cntV; rw [g1, if_neg (by omega)]
section
variable {b : List UInt8} {n : Int} {out : List Sample} {i : Nat} {p : Int} {bad : Bool} {st : Int}
theorem snoc_okS {xs : List Sample} (hl : ∀ s ∈ xs, s.ok) {y : Sample} (hy : y.ok) : ∀ s ∈ xs ++ [y], s.ok := by
  intro s hm
  rcases List.mem_append.1 hm with h | h
  · exact hl s h
  · rw [List.mem_singleton] at h; subst h; exact hy
theorem CS_first (h : CS b n out i p bad st) (hi : i = 0) (hn : (i : Int) < n) :
    CS b n (out ++ [⟨wr (get b p).1, zag (get b (get b p).2.1).1⟩]) (i + 1) (get b (get b p).2.1).2.1 (rbad (rbad bad b p) b (get b p).2.1) st := by
  obtain ⟨⟨p0, p1⟩, hs, hst, ho, hok, hC⟩ := h
  have t1 := get_to p0 p1
  have t2 := get_to (b := b) (p := (get b p).2.1) (by omega) (by omega)
  have hr := get_nn b (get b p).2.1
  refine ⟨⟨by omega, t2.2⟩, Or.inl (by omega), hst, by simp [ho], snoc_okS hok ⟨wr_r _, zag_r hr.1 hr.2⟩, fun l0 h1 h2 h3 => ?_⟩
  obtain ⟨c1, c2, c3, c4, c5⟩ := hC l0 h1 h2 h3
  have hlt : i < l0.length := by omega
  have hT := rising_tR (okS_iff.1 h1).1 _ (List.getElem_mem hlt)
  have hV := (h2 _ (List.getElem_mem hlt)).2
  rw [restS_first hi hlt] at c4
  obtain ⟨g1, g2, g3, _, _⟩ := get_pp (by omega) (by omega) p0 p1 c4
  obtain ⟨q1, q2, q3, _, _⟩ := get_zz hV (by omega) (by omega) g3
  have e0 : st = 0 := by omega
  refine ⟨?_, c2, ?_, ?_, c5⟩
  · rw [c1, rbad_of g2, rbad_of q2]
  · rw [g1, q1, wr_id (by omega), List.take_succ_eq_append_getElem hlt, c3]
  · rw [q3, e0]
theorem CS_next (h : CS b n out i p bad st) (hi : 0 < i) (hn : (i : Int) < n) (hl : i - 1 < out.length) :
    CS b n (out ++ [⟨wr ((out[i - 1]'hl).T + wr (st + zag (get b p).1)), wr ((out[i - 1]'hl).V + zag (get b (get b p).2.1).1)⟩]) (i + 1) (get b (get b p).2.1).2.1 (rbad (rbad bad b p) b (get b p).2.1) (wr (st + zag (get b p).1)) := by
  obtain ⟨⟨p0, p1⟩, hs, hst, ho, hok, hC⟩ := h
  have t1 := get_to p0 p1
  have t2 := get_to (b := b) (p := (get b p).2.1) (by omega) (by omega)
  refine ⟨⟨by omega, t2.2⟩, Or.inl (by omega), wr_r _, by simp [ho], snoc_okS hok ⟨wr_r _, wr_r _⟩, fun l0 h1 h2 h3 => ?_⟩
  obtain ⟨c1, c2, c3, c4, c5⟩ := hC l0 h1 h2 h3
  have hlt : i < l0.length := by omega
  have hT := rising_tR (okS_iff.1 h1).1 _ (List.getElem_mem hlt)
  have hT' := rising_tR (okS_iff.1 h1).1 _ (List.getElem_mem (show i - 1 < l0.length by omega))
  have hV := (h2 _ (List.getElem_mem hlt)).2
  have ew : out[i - 1]'hl = l0[i - 1]'(by omega) := by
    have : out[i - 1]? = (l0.take i)[i - 1]? := by rw [c3]
    rw [List.getElem?_eq_getElem hl, List.getElem?_take, if_pos (by omega), List.getElem?_eq_getElem (by omega)] at this
    exact Option.some.inj this
  rw [restS_next hi hlt] at c4
  obtain ⟨g1, g2, g3, _, _⟩ := get_zz (by omega) p0 p1 c4
  obtain ⟨q1, q2, q3, _, _⟩ := get_zz (wr_r _) (by omega) (by omega) g3
  have e1 : wr (st + zag (get b p).1) = (l0[i]'hlt).T - (l0[i - 1]'(by omega)).T := by
    rw [g1, wr_id (by omega)]; omega
  refine ⟨?_, c2, ?_, ?_, ?_⟩
  · rw [c1, rbad_of g2, rbad_of q2]
  · rw [e1, q1, ew, wr_id (by omega), wr_back hV, List.take_succ_eq_append_getElem hlt, ← c3]
    congr 2
    have : (l0[i - 1]'(by omega)).T + ((l0[i]'hlt).T - (l0[i - 1]'(by omega)).T) = (l0[i]'hlt).T := by omega
    rw [this]
  · rw [q3, e1]
  · rw [e1]; omega
theorem CS_yes (h : CS b n out i p bad st) (hc : (encS out).2 = 0) (he : (encS out).1 = b) : DecS b out 0 := by
  obtain ⟨_, _, _, _, hok, _⟩ := h
  refine ⟨hok, Or.inl ⟨rfl, ?_, ?_⟩⟩
  · cases hm : okS out with
    | true => rfl
    | false => unfold encS at hc; rw [hm] at hc; simp at hc
  · cases hm : okS out with
    | true => rw [encS_yes hm] at he; exact he
    | false => unfold encS at hc; rw [hm] at hc; simp at hc
theorem CS_no (h : CS b n out i p bad st) (hx : bad = true ∨ (¬ (i : Int) < n ∧ (¬ (encS out).2 = 0 ∨ ¬ (encS out).1 = b))) : DecS b [] 2 := by
  obtain ⟨_, _, _, _, _, hC⟩ := h
  refine ⟨(by intro s hs; cases hs), Or.inr ⟨rfl, rfl, fun l0 h1 h2 h3 => ?_⟩⟩
  obtain ⟨c1, c2, c3, _⟩ := hC l0 h1 h2 h3
  rcases hx with hx | ⟨hx, hy⟩
  · rw [c1] at hx; cases hx
  · have e : out = l0 := by rw [c3, List.take_of_length_le (by omega)]
    subst e
    rw [encS_yes h1] at hy
    rcases hy with hy | hy
    · exact hy rfl
    · exact hy h3
end

def aggB (a : Agg) (w last : Int) : List UInt8 := put (a.From / w - last - 1) ++ (put (a.Count - 1) ++ (zz a.Min ++ (if a.Count = 1 then [] else put (a.Max - a.Min) ++ (zz a.Sum ++ (put (a.First - a.Min) ++ put (a.Last - a.Min))))))
def stepA2 (w : Int) : Int → List Agg → List UInt8
  | _, [] => []
  | last, a :: l => aggB a w last ++ stepA2 w (a.From / w) l
def putA (k : Int) (l : List Agg) : List UInt8 := put (l.length : Int) ++ stepA2 (widthA k) (-1) l
def okA (k : Int) (l : List Agg) : Bool := alignedA l k && decide (l.length ≤ 64)
def encA (k : Int) (l : List Agg) : List UInt8 × Int := if okA k l = true then (putA k l, 0) else ([], 1)
theorem okA_iff {k : Int} {l : List Agg} : okA k l = true ↔ alignedA l k = true ∧ l.length ≤ 64 := by unfold okA; simp
theorem encA_no {k : Int} {l : List Agg} (h : alignedA l k = false ∨ 64 < (l.length : Int)) : encA k l = ([], 1) := by
  unfold encA; rw [if_neg]; rw [okA_iff]; rintro ⟨h1, h2⟩
  rcases h with h | h
  · rw [h1] at h; cases h
  · omega
theorem encA_yes {k : Int} {l : List Agg} (h : okA k l = true) : encA k l = (putA k l, 0) := if_pos h
theorem width_pos {k : Int} (h : coarseA k = true) : 0 < widthA k := by
  have hk := of_decide_eq_true h
  have : k = 1 ∨ k = 2 ∨ k = 3 := by omega
  rcases this with rfl | rfl | rfl <;> decide
def lastW (w : Int) (l : List Agg) : Nat → Int
  | 0 => -1
  | i + 1 => (l.getD i zeroA).From / w
theorem lastW_succ {w : Int} {l : List Agg} {i : Nat} (h : i < l.length) : lastW w l (i + 1) = (l[i]'h).From / w := by
  show (l.getD i zeroA).From / w = _
  rw [getD_is h]
abbrev Win1 (w last : Int) (a : Agg) : Prop := mayP a ∧ a.From / w * w = a.From ∧ last < a.From / w ∧ a.From / w ≤ 1099511627776
theorem aligns_at {k : Int} (hk : 0 < widthA k) : ∀ (l : List Agg) (last : Int) (m : Int), alignsFrom k last l = true → (last = -1 ∧ m = -1 ∨ 0 ≤ last ∧ last = m * widthA k) → ∀ (i : Nat) (h : i < l.length), Win1 (widthA k) (if i = 0 then m else (l.getD (i - 1) zeroA).From / widthA k) (l[i]'h)
  | [], _, _, _, _, i, h => by simp at h
  | a :: l, last, m, hal, hm, i, h => by
    rw [alignsFrom] at hal
    simp only [Bool.and_eq_true, decide_eq_true_eq] at hal
    obtain ⟨⟨h1, h2, h3⟩, h4⟩ := hal
    have hp := mayA_true h1
    have hf : a.From = a.From - a.From % widthA k := h2.trans (floor_some (by omega) (by simp only [mayP] at hp; omega) (by simp only [mayP] at hp; omega))
    have hd := Int.emod_add_mul_ediv a.From (widthA k)
    have hz : a.From % widthA k = 0 := by omega
    have e : a.From / widthA k * widthA k = a.From := by rw [Int.mul_comm]; omega
    have hq : 0 ≤ a.From / widthA k := Int.ediv_nonneg (by simp only [mayP] at hp; omega) (by omega)
    have hle : a.From / widthA k ≤ a.From / widthA k * widthA k := by
      have := Int.mul_le_mul_of_nonneg_left (show 1 ≤ widthA k by omega) hq
      omega
    cases i with
    | zero =>
      refine ⟨hp, e, ?_, by simp only [mayP] at hp; simp only [List.getElem_cons_zero]; omega⟩
      simp only [List.getElem_cons_zero, if_true]
      rcases hm with ⟨_, rfl⟩ | ⟨hm1, hm2⟩
      · omega
      · rw [← e, hm2] at h3
        exact Int.lt_of_mul_lt_mul_right h3 (by omega)
    | succ i =>
      have ih := aligns_at hk l a.From (a.From / widthA k) h4 (Or.inr ⟨by simp only [mayP] at hp; omega, e.symm⟩) i (by simpa using h)
      have e2 : (if i + 1 = 0 then m else ((a :: l).getD (i + 1 - 1) zeroA).From / widthA k) = (if i = 0 then a.From / widthA k else (l.getD (i - 1) zeroA).From / widthA k) := by
        rw [if_neg (by omega)]
        cases i with
        | zero => rfl
        | succ j => rfl
      simp only [List.getElem_cons_succ]
      rw [e2]; exact ih
theorem aligned_at {k : Int} {l : List Agg} (h : alignedA l k = true) {i : Nat} (hi : i < l.length) : Win1 (widthA k) (lastW (widthA k) l i) (l[i]'hi) := by
  unfold alignedA at h
  simp only [Bool.and_eq_true] at h
  have := aligns_at (width_pos h.1) l (-1) (-1) h.2 (Or.inl ⟨rfl, rfl⟩) i hi
  cases i with
  | zero => exact this
  | succ j => exact this
theorem agg_one {a : Agg} (h : mayP a) (hc : a.Count = 1) : a.Sum = a.Min ∧ a.Max = a.Min ∧ a.First = a.Min ∧ a.Last = a.Min := by
  simp only [mayP] at h; omega
theorem aggB_split {a b : Agg} {w last : Int} {r r' : List UInt8} (ha : Win1 w last a) (hb : Win1 w last b) (hl : -1 ≤ last) (oa : a.ok) (ob : b.ok) (h : aggB a w last ++ r = aggB b w last ++ r') : a = b ∧ r = r' := by
  obtain ⟨ma, ea, la, ua⟩ := ha
  obtain ⟨mb, eb, lb, ub⟩ := hb
  unfold aggB at h
  simp only [List.append_assoc] at h
  obtain ⟨e1, h⟩ := put_split (by omega) (by omega) (by omega) (by omega) h
  obtain ⟨e2, h⟩ := put_split (by simp only [mayP] at ma; omega) (by simp only [mayP] at ma; omega) (by simp only [mayP] at mb; omega) (by simp only [mayP] at mb; omega) h
  obtain ⟨e3, h⟩ := zz_split oa.2.2.2.1 ob.2.2.2.1 h
  have f1 : a.From = b.From := by rw [← ea, ← eb]; congr 1; omega
  have f2 : a.Count = b.Count := by omega
  by_cases hc : a.Count = 1
  · rw [if_pos hc, if_pos (by omega)] at h
    have q := agg_one ma hc
    have q' := agg_one mb (by omega)
    refine ⟨?_, h⟩
    rw [agg_iff]; omega
  · rw [if_neg hc, if_neg (by omega)] at h
    simp only [List.append_assoc] at h
    simp only [Agg.ok, i64R] at oa ob
    simp only [mayP] at ma mb
    obtain ⟨e4, h⟩ := put_split (by omega) (by omega) (by omega) (by omega) h
    obtain ⟨e5, h⟩ := zz_split (by simp only [i64R]; omega) (by simp only [i64R]; omega) h
    obtain ⟨e6, h⟩ := put_split (by omega) (by omega) (by omega) (by omega) h
    obtain ⟨e7, h⟩ := put_split (by omega) (by omega) (by omega) (by omega) h
    refine ⟨?_, h⟩
    rw [agg_iff]; omega
theorem lastW_ge {k : Int} {l : List Agg} (h : alignedA l k = true) {i : Nat} (hi : i ≤ l.length) : -1 ≤ lastW (widthA k) l i := by
  cases i with
  | zero => exact (by decide : (-1 : Int) ≤ -1)
  | succ j =>
    rw [lastW_succ (by omega)]
    have hw : 0 < widthA k := by unfold alignedA at h; simp only [Bool.and_eq_true] at h; exact width_pos h.1
    have := (aligned_at h (i := j) (by omega)).1
    have := Int.ediv_nonneg (a := (l[j]'(by omega)).From) (b := widthA k) (by simp only [mayP] at this; omega) (by omega)
    omega
theorem stepA2_split {k : Int} : ∀ (n : Nat) (l l' : List Agg) (i : Nat) {r r' : List UInt8}, alignedA l k = true → alignedA l' k = true → (∀ a ∈ l, a.ok) → (∀ a ∈ l', a.ok) → l.length = l'.length → l.length - i = n → l.take i = l'.take i → i ≤ l.length →
    stepA2 (widthA k) (lastW (widthA k) l i) (l.drop i) ++ r = stepA2 (widthA k) (lastW (widthA k) l' i) (l'.drop i) ++ r' → l = l' ∧ r = r'
  | 0, l, l', i, r, r', h1, h2, o1, o2, hl, hn, ht, hi, h => by
    rw [List.drop_eq_nil_of_le (by omega), List.drop_eq_nil_of_le (by omega)] at h
    rw [List.take_of_length_le (by omega), List.take_of_length_le (by omega)] at ht
    exact ⟨ht, h⟩
  | n + 1, l, l', i, r, r', h1, h2, o1, o2, hl, hn, ht, hi, h => by
    have hlt : i < l.length := by omega
    have hlt' : i < l'.length := by omega
    have elast : lastW (widthA k) l i = lastW (widthA k) l' i := by
      cases i with
      | zero => rfl
      | succ j =>
        rw [lastW_succ (by omega), lastW_succ (by omega)]
        have e : (l.take (j + 1))[j]? = (l'.take (j + 1))[j]? := by rw [ht]
        rw [List.getElem?_take, List.getElem?_take, if_pos (by omega), if_pos (by omega), List.getElem?_eq_getElem (by omega), List.getElem?_eq_getElem (by omega)] at e
        rw [Option.some.inj e]
    rw [List.drop_eq_getElem_cons hlt, List.drop_eq_getElem_cons hlt', stepA2, stepA2, List.append_assoc, List.append_assoc] at h
    have w1 := aligned_at h1 hlt
    have w2 := aligned_at h2 hlt'
    rw [elast] at h w1
    obtain ⟨e1, h⟩ := aggB_split w1 w2 (lastW_ge h2 (by omega)) (o1 _ (List.getElem_mem hlt)) (o2 _ (List.getElem_mem hlt')) h
    refine stepA2_split n l l' (i + 1) h1 h2 o1 o2 hl (by omega) ?_ (by omega) (by rw [lastW_succ hlt, lastW_succ hlt']; exact h)
    rw [List.take_succ_eq_append_getElem hlt, List.take_succ_eq_append_getElem hlt', ht, e1]
theorem putA_split {k : Int} {l l' : List Agg} {r r' : List UInt8} (h1 : okA k l = true) (h2 : okA k l' = true) (o1 : ∀ a ∈ l, a.ok) (o2 : ∀ a ∈ l', a.ok) (h : putA k l ++ r = putA k l' ++ r') : l = l' ∧ r = r' := by
  have k1 := okA_iff.1 h1
  have k2 := okA_iff.1 h2
  unfold putA at h
  rw [List.append_assoc, List.append_assoc] at h
  obtain ⟨e, h⟩ := put_split (by omega) (by omega) (by omega) (by omega) h
  exact stepA2_split (l.length - 0) l l' 0 k1.1 k2.1 o1 o2 (by omega) rfl rfl (by omega) h
def DecA (k : Int) (b : List UInt8) (l : List Agg) (c : Int) : Prop :=
  (∀ a ∈ l, a.ok) ∧ ((c = 0 ∧ coarseA k = true ∧ okA k l = true ∧ putA k l = b) ∨ (c = 2 ∧ l = [] ∧ coarseA k = true ∧ ∀ l0, okA k l0 = true → (∀ a ∈ l0, a.ok) → putA k l0 ≠ b) ∨ (c = 1 ∧ l = [] ∧ coarseA k = false))
theorem decA_one {k : Int} {b : List UInt8} {l l' : List Agg} {c c' : Int} (h : DecA k b l c) (h' : DecA k b l' c') : l = l' ∧ c = c' := by
  obtain ⟨o, h⟩ := h
  obtain ⟨o', h'⟩ := h'
  rcases h with ⟨rfl, h0, h1, h2⟩ | ⟨rfl, rfl, h0, h1⟩ | ⟨rfl, rfl, h0⟩
  · rcases h' with ⟨rfl, _, h3, h4⟩ | ⟨rfl, rfl, _, h3⟩ | ⟨rfl, rfl, h3⟩
    · exact ⟨(putA_split (r := []) (r' := []) h1 h3 o o' (by rw [List.append_nil, List.append_nil, h2, h4])).1, rfl⟩
    · exact absurd h2 (h3 l h1 o)
    · rw [h0] at h3; cases h3
  · rcases h' with ⟨rfl, _, h3, h4⟩ | ⟨rfl, rfl, _, h3⟩ | ⟨rfl, rfl, h3⟩
    · exact absurd h4 (h1 l' h3 o')
    · exact ⟨rfl, rfl⟩
    · rw [h0] at h3; cases h3
  · rcases h' with ⟨rfl, h3, _⟩ | ⟨rfl, rfl, h3, _⟩ | ⟨rfl, rfl, h3⟩
    · rw [h0] at h3; cases h3
    · rw [h0] at h3; cases h3
    · exact ⟨rfl, rfl⟩
theorem okA_coarse {k : Int} {l : List Agg} (h : okA k l = true) : coarseA k = true := by
  have := (okA_iff.1 h).1
  unfold alignedA at this; simp only [Bool.and_eq_true] at this; exact this.1
theorem aggB_len (a : Agg) (w last : Int) : (aggB a w last).length ≤ 70 := by
  have h1 := put_length (a.From / w - last - 1)
  have h2 := put_length (a.Count - 1)
  have h3 := zz_length a.Min
  have h4 := put_length (a.Max - a.Min)
  have h5 := zz_length a.Sum
  have h6 := put_length (a.First - a.Min)
  have h7 := put_length (a.Last - a.Min)
  unfold aggB
  split
  · simp only [List.length_append, List.length_nil]; omega
  · simp only [List.length_append]; omega
theorem u64_sub {a b : Int} (ha : i64R a) (hb : i64R b) (h : b ≤ a) : IntKind.u64.wrap (a % 18446744073709551616 - b % 18446744073709551616) = a - b := by
  rw [IntKind.wrap_u64]; omega
/-! ### Reading them -/
section
variable {b : List UInt8} {k n at_ : Int} {out : List Agg} {i : Nat} {p : Int} {bad : Bool}
def CA (b : List UInt8) (k n : Int) (out : List Agg) (i : Nat) (p : Int) (bad : Bool) (at_ : Int) : Prop :=
  (0 ≤ p ∧ p ≤ (b.length : Int)) ∧ i64R at_ ∧ out.length = i ∧ (∀ a ∈ out, a.ok) ∧
  ∀ l0, okA k l0 = true → (∀ a ∈ l0, a.ok) → putA k l0 = b → bad = false ∧ n = (l0.length : Int) ∧ out = l0.take i ∧ b.drop p.toNat = stepA2 (widthA k) (lastW (widthA k) l0 i) (l0.drop i) ∧ at_ = lastW (widthA k) l0 i
theorem CA_start : CA b k (cntV b 0 64) [] 0 (get b 0).2.1 (cntBad false b 0 64) (-1) := by
  have h0 := get_to (b := b) (p := 0) (by omega) (by omega)
  refine ⟨⟨by omega, h0.2⟩, by decide, rfl, (by intro s hs; cases hs), fun l0 h1 h2 h3 => ?_⟩
  have h4 := (okA_iff.1 h1).2
  obtain ⟨g1, g2, g3, _, _⟩ := get_pp (b := b) (rest := stepA2 (widthA k) (-1) l0) (n := (l0.length : Int)) (p := 0) (by omega) (by omega) (by omega) (by omega) (by rw [← h3]; rfl)
  refine ⟨?_, ?_, rfl, g3, rfl⟩
  · unfold cntBad; rw [rbad_of g2, g1]; simp; omega
  · unfold cntV; rw [g1, if_neg (by omega)]
theorem wr_sum {a m : Int} (ha : i64R a) (hm : i64R m) (h : m ≤ a) : wr ((m % 18446744073709551616 + (a - m)) % 18446744073709551616) = a := by
  show IntKind.i64.wrap _ = a; rw [IntKind.wrap_i64]; omega
theorem CA_one (h : CA b k n out i p bad at_) (hn : (i : Int) < n) (hc : wr (wr (get b (get b p).2.1).1 + 1) = 1) :
    CA b k n (out ++ [⟨wr ((wr (wr (at_ + 1) + wr (get b p).1)) * widthA k), wr (wr (get b (get b p).2.1).1 + 1), zag (get b (get b (get b p).2.1).2.1).1, zag (get b (get b (get b p).2.1).2.1).1, zag (get b (get b (get b p).2.1).2.1).1, zag (get b (get b (get b p).2.1).2.1).1, zag (get b (get b (get b p).2.1).2.1).1⟩]) (i + 1) (get b (get b (get b p).2.1).2.1).2.1 (rbad (rbad (rbad bad b p) b (get b p).2.1) b (get b (get b p).2.1).2.1) (wr (wr (at_ + 1) + wr (get b p).1)) := by
  obtain ⟨⟨p0, p1⟩, ha, ho, hok, hC⟩ := h
  have t0 := get_to (b := b) (p := p) (by omega) (by omega)
  have t1 := get_to (b := b) (p := (get b p).2.1) (by omega) (by omega)
  have t2 := get_to (b := b) (p := (get b (get b p).2.1).2.1) (by omega) (by omega)
  have r2 := get_nn b ((get b (get b p).2.1).2.1)
  have z2 := zag_r r2.1 r2.2
  refine ⟨⟨by omega, t2.2⟩, wr_r _, by simp [ho], snoc_okA hok ⟨wr_r _, wr_r _, z2, z2, z2, z2, z2⟩, fun l0 h1 h2 h3 => ?_⟩
  obtain ⟨c1, c2, c3, c4, c5⟩ := hC l0 h1 h2 h3
  have hal := (okA_iff.1 h1).1
  have hlt : i < l0.length := by omega
  obtain ⟨w1, w2, w3, w4⟩ := aligned_at hal hlt
  have oa := h2 _ (List.getElem_mem hlt)
  have hge := lastW_ge hal (i := i) (by omega)
  have hwr := width_r k
  rw [List.drop_eq_getElem_cons hlt, stepA2] at c4
  rw [← lastW_succ (w := widthA k) hlt] at c4
  rw [← c5] at c4 hge w3
  unfold aggB at c4
  simp only [List.append_assoc] at c4
  simp only [Agg.ok, i64R] at oa
  simp only [mayP] at w1
  obtain ⟨g0, f0, d0, _, _⟩ := get_pp (by omega) (by omega) p0 p1 c4
  obtain ⟨g1, f1, d1, _, _⟩ := get_pp (by omega) (by omega) (by omega) (by omega) d0
  obtain ⟨g2, f2, d2, _, _⟩ := get_zz (by simp only [i64R]; omega) (by omega) (by omega) d1
  have ea : wr (wr (at_ + 1) + wr (get b p).1) = (l0[i]'hlt).From / widthA k := by
    have q1 : wr (at_ + 1) = at_ + 1 := wr_id (by simp only [i64R]; omega)
    have q2 : wr (get b p).1 = (l0[i]'hlt).From / widthA k - at_ - 1 := by rw [g0]; exact wr_id (by simp only [i64R]; omega)
    rw [q1, q2, wr_id (by simp only [i64R]; omega)]; omega
  have ec : wr (wr (get b (get b p).2.1).1 + 1) = (l0[i]'hlt).Count := by
    have q3 : wr (get b (get b p).2.1).1 = (l0[i]'hlt).Count - 1 := by rw [g1]; exact wr_id (by simp only [i64R]; omega)
    rw [q3, wr_id (by simp only [i64R]; omega)]; omega
  have ef : wr ((wr (wr (at_ + 1) + wr (get b p).1)) * widthA k) = (l0[i]'hlt).From := by rw [ea, w2, wr_id (by simp only [i64R]; omega)]
  rw [ec] at hc
  rw [if_pos hc, List.nil_append] at d2
  have q := agg_one (a := l0[i]'hlt) (by simp only [mayP]; omega) hc
  refine ⟨by rw [c1, rbad_of f0, rbad_of f1, rbad_of f2], c2, ?_, d2, by rw [ea, lastW_succ hlt]⟩
  rw [List.take_succ_eq_append_getElem hlt, ← c3]
  congr 2
  rw [agg_iff]
  exact ⟨ef, ec, g2.trans q.1.symm, g2, g2.trans q.2.1.symm, g2.trans q.2.2.1.symm, g2.trans q.2.2.2.symm⟩
theorem CA_many (h : CA b k n out i p bad at_) (hn : (i : Int) < n) (hc : ¬ wr (wr (get b (get b p).2.1).1 + 1) = 1) :
    CA b k n (out ++ [⟨wr ((wr (wr (at_ + 1) + wr (get b p).1)) * widthA k), wr (wr (get b (get b p).2.1).1 + 1), zag (get b (get b (get b (get b (get b p).2.1).2.1).2.1).2.1).1, zag (get b (get b (get b p).2.1).2.1).1, wr ((zag (get b (get b (get b p).2.1).2.1).1 % 18446744073709551616 + (get b (get b (get b (get b p).2.1).2.1).2.1).1) % 18446744073709551616), wr ((zag (get b (get b (get b p).2.1).2.1).1 % 18446744073709551616 + (get b (get b (get b (get b (get b (get b p).2.1).2.1).2.1).2.1).2.1).1) % 18446744073709551616), wr ((zag (get b (get b (get b p).2.1).2.1).1 % 18446744073709551616 + (get b (get b (get b (get b (get b (get b (get b p).2.1).2.1).2.1).2.1).2.1).2.1).1) % 18446744073709551616)⟩]) (i + 1) (get b (get b (get b (get b (get b (get b (get b p).2.1).2.1).2.1).2.1).2.1).2.1).2.1 (rbad (rbad (rbad (rbad (rbad (rbad (rbad bad b p) b (get b p).2.1) b (get b (get b p).2.1).2.1) b (get b (get b (get b p).2.1).2.1).2.1) b (get b (get b (get b (get b p).2.1).2.1).2.1).2.1) b (get b (get b (get b (get b (get b p).2.1).2.1).2.1).2.1).2.1) b (get b (get b (get b (get b (get b (get b p).2.1).2.1).2.1).2.1).2.1).2.1) (wr (wr (at_ + 1) + wr (get b p).1)) := by
  obtain ⟨⟨p0, p1⟩, ha, ho, hok, hC⟩ := h
  have t0 := get_to (b := b) (p := p) (by omega) (by omega)
  have t1 := get_to (b := b) (p := (get b p).2.1) (by omega) (by omega)
  have t2 := get_to (b := b) (p := (get b (get b p).2.1).2.1) (by omega) (by omega)
  have t3 := get_to (b := b) (p := (get b (get b (get b p).2.1).2.1).2.1) (by omega) (by omega)
  have t4 := get_to (b := b) (p := (get b (get b (get b (get b p).2.1).2.1).2.1).2.1) (by omega) (by omega)
  have t5 := get_to (b := b) (p := (get b (get b (get b (get b (get b p).2.1).2.1).2.1).2.1).2.1) (by omega) (by omega)
  have t6 := get_to (b := b) (p := (get b (get b (get b (get b (get b (get b p).2.1).2.1).2.1).2.1).2.1).2.1) (by omega) (by omega)
  have r2 := get_nn b ((get b (get b p).2.1).2.1)
  have z2 := zag_r r2.1 r2.2
  have r4 := get_nn b ((get b (get b (get b (get b p).2.1).2.1).2.1).2.1)
  have z4 := zag_r r4.1 r4.2
  refine ⟨⟨by omega, t6.2⟩, wr_r _, by simp [ho], snoc_okA hok ⟨wr_r _, wr_r _, z4, z2, wr_r _, wr_r _, wr_r _⟩, fun l0 h1 h2 h3 => ?_⟩
  obtain ⟨c1, c2, c3, c4, c5⟩ := hC l0 h1 h2 h3
  have hal := (okA_iff.1 h1).1
  have hlt : i < l0.length := by omega
  obtain ⟨w1, w2, w3, w4⟩ := aligned_at hal hlt
  have oa := h2 _ (List.getElem_mem hlt)
  have hge := lastW_ge hal (i := i) (by omega)
  have hwr := width_r k
  rw [List.drop_eq_getElem_cons hlt, stepA2] at c4
  rw [← lastW_succ (w := widthA k) hlt] at c4
  rw [← c5] at c4 hge w3
  unfold aggB at c4
  simp only [List.append_assoc] at c4
  simp only [Agg.ok, i64R] at oa
  simp only [mayP] at w1
  obtain ⟨g0, f0, d0, _, _⟩ := get_pp (by omega) (by omega) p0 p1 c4
  obtain ⟨g1, f1, d1, _, _⟩ := get_pp (by omega) (by omega) (by omega) (by omega) d0
  obtain ⟨g2, f2, d2, _, _⟩ := get_zz (by simp only [i64R]; omega) (by omega) (by omega) d1
  have ea : wr (wr (at_ + 1) + wr (get b p).1) = (l0[i]'hlt).From / widthA k := by
    have q1 : wr (at_ + 1) = at_ + 1 := wr_id (by simp only [i64R]; omega)
    have q2 : wr (get b p).1 = (l0[i]'hlt).From / widthA k - at_ - 1 := by rw [g0]; exact wr_id (by simp only [i64R]; omega)
    rw [q1, q2, wr_id (by simp only [i64R]; omega)]; omega
  have ec : wr (wr (get b (get b p).2.1).1 + 1) = (l0[i]'hlt).Count := by
    have q3 : wr (get b (get b p).2.1).1 = (l0[i]'hlt).Count - 1 := by rw [g1]; exact wr_id (by simp only [i64R]; omega)
    rw [q3, wr_id (by simp only [i64R]; omega)]; omega
  have ef : wr ((wr (wr (at_ + 1) + wr (get b p).1)) * widthA k) = (l0[i]'hlt).From := by rw [ea, w2, wr_id (by simp only [i64R]; omega)]
  rw [ec] at hc
  rw [if_neg hc] at d2
  simp only [List.append_assoc] at d2
  obtain ⟨g3, f3, d3, _, _⟩ := get_pp (by omega) (by omega) (by omega) (by omega) d2
  obtain ⟨g4, f4, d4, _, _⟩ := get_zz (by simp only [i64R]; omega) (by omega) (by omega) d3
  obtain ⟨g5, f5, d5, _, _⟩ := get_pp (by omega) (by omega) (by omega) (by omega) d4
  obtain ⟨g6, f6, d6, _, _⟩ := get_pp (by omega) (by omega) (by omega) (by omega) d5
  refine ⟨by rw [c1, rbad_of f0, rbad_of f1, rbad_of f2, rbad_of f3, rbad_of f4, rbad_of f5, rbad_of f6], c2, ?_, d6, by rw [ea, lastW_succ hlt]⟩
  rw [List.take_succ_eq_append_getElem hlt, ← c3]
  congr 2
  rw [agg_iff]
  refine ⟨ef, ec, g4, g2, ?_, ?_, ?_⟩
  · show wr _ = _; rw [g2, g3]; exact wr_sum (by simp only [i64R]; omega) (by simp only [i64R]; omega) (by omega)
  · show wr _ = _; rw [g2, g5]; exact wr_sum (by simp only [i64R]; omega) (by simp only [i64R]; omega) (by omega)
  · show wr _ = _; rw [g2, g6]; exact wr_sum (by simp only [i64R]; omega) (by simp only [i64R]; omega) (by omega)
theorem CA_yes (h : CA b k n out i p bad at_) (hk : coarseA k = true) (hc : (encA k out).2 = 0) (he : (encA k out).1 = b) : DecA k b out 0 := by
  obtain ⟨_, _, _, hok, _⟩ := h
  have hm : okA k out = true := by
    cases hm : okA k out with
    | true => rfl
    | false => unfold encA at hc; rw [hm] at hc; simp at hc
  exact ⟨hok, Or.inl ⟨rfl, hk, hm, by rw [encA_yes hm] at he; exact he⟩⟩
theorem CA_no (h : CA b k n out i p bad at_) (hk : coarseA k = true) (hx : bad = true ∨ (¬ (i : Int) < n ∧ (¬ (encA k out).2 = 0 ∨ ¬ (encA k out).1 = b))) : DecA k b [] 2 := by
  obtain ⟨_, _, _, _, hC⟩ := h
  refine ⟨(by intro s hs; cases hs), Or.inr (Or.inl ⟨rfl, rfl, hk, fun l0 h1 h2 h3 => ?_⟩)⟩
  obtain ⟨c1, c2, c3, _⟩ := hC l0 h1 h2 h3
  rcases hx with hx | ⟨hx, hy⟩
  · rw [c1] at hx; cases hx
  · have e : out = l0 := by rw [c3, List.take_of_length_le (by omega)]
    subst e
    rw [encA_yes h1] at hy
    rcases hy with hy | hy
    · exact hy rfl
    · exact hy h3
theorem CA_out (hk : coarseA k = false) : DecA k b [] 1 := ⟨(by intro s hs; cases hs), Or.inr (Or.inr ⟨rfl, rfl, hk⟩)⟩
end

theorem stepA2_one {w : Int} {l : List Agg} {i : Nat} (h : i < l.length) (hc : (l[i]'h).Count = 1) : stepA2 w (lastW w l i) (l.drop i) = put ((l[i]'h).From / w - lastW w l i - 1) ++ (put ((l[i]'h).Count - 1) ++ (zz (l[i]'h).Min ++ stepA2 w (lastW w l (i + 1)) (l.drop (i + 1)))) := by
  rw [List.drop_eq_getElem_cons h, stepA2, lastW_succ h]; unfold aggB; rw [if_pos hc]; simp only [List.append_assoc, List.append_nil]
theorem stepA2_many {w : Int} {l : List Agg} {i : Nat} (h : i < l.length) (hc : ¬ (l[i]'h).Count = 1) : stepA2 w (lastW w l i) (l.drop i) = put ((l[i]'h).From / w - lastW w l i - 1) ++ (put ((l[i]'h).Count - 1) ++ (zz (l[i]'h).Min ++ (put ((l[i]'h).Max - (l[i]'h).Min) ++ (zz (l[i]'h).Sum ++ (put ((l[i]'h).First - (l[i]'h).Min) ++ (put ((l[i]'h).Last - (l[i]'h).Min) ++ stepA2 w (lastW w l (i + 1)) (l.drop (i + 1)))))))) := by
  rw [List.drop_eq_getElem_cons h, stepA2, lastW_succ h]; unfold aggB; rw [if_neg hc]; simp only [List.append_assoc]
theorem stepA2_end {w last : Int} {l : List Agg} {i : Nat} (h : i = l.length) : stepA2 w last (l.drop i) = [] := by rw [List.drop_eq_nil_of_le (by omega)]; rfl

section
variable {b : List UInt8} {n : Int} {out : List Sample} {i : Nat} {p : Int} {bad : Bool} {st : Int}
end
section
variable {b : List UInt8} {k n : Int} {out : List Agg} {i : Nat} {p : Int} {bad q : Bool} {F C : Int}
end
end Go.Proofs.YtgibfidebdgffaaDoor
end
section
namespace Go.Proofs.YtgibfidebdgffaaDoor
/-! ### Rising samples by their places -/
theorem risesB_of {l : List Sample} (h1 : ∀ (i : Nat) (h : i < l.length), 0 ≤ (l[i]'h).T ∧ (l[i]'h).T ≤ 1099511627776) (h2 : ∀ (i : Nat) (h : i + 1 < l.length), (l[i]'(by omega)).T < (l[i + 1]'h).T) :
    ∀ (n i : Nat) (last : Int), l.length - i = n → i ≤ l.length → (i = 0 ∧ last = -1 ∨ ∃ h : i - 1 < l.length, 0 < i ∧ last = (l[i - 1]'h).T) → risesFrom last (l.drop i) = true
  | 0, i, last, hn, hi, _ => rises_end (by omega)
  | n + 1, i, last, hn, hi, hl => by
    have hlt : i < l.length := by omega
    have e1 : l.length - (i + 1) = n := by clear hl; omega
    have e2 : i + 1 ≤ l.length := hlt
    have a := h1 i hlt
    rw [rises_go hlt ?_ (by omega)]
    · exact risesB_of h1 h2 n (i + 1) (l[i]'hlt).T e1 e2 (Or.inr ⟨hlt, Nat.succ_pos i, rfl⟩)
    · rcases hl with ⟨rfl, rfl⟩ | ⟨h, h0, rfl⟩
      · omega
      · obtain ⟨j, rfl⟩ : ∃ j, i = j + 1 := ⟨i - 1, by omega⟩
        have b := h2 j hlt
        show ¬ _ ≤ (l[j]'(by omega)).T
        omega
theorem rising_of {l : List Sample} (h1 : ∀ (i : Nat) (h : i < l.length), 0 ≤ (l[i]'h).T ∧ (l[i]'h).T ≤ 1099511627776) (h2 : ∀ (i : Nat) (h : i + 1 < l.length), (l[i]'(by omega)).T < (l[i + 1]'h).T) : risingA l = true :=
  risesB_of h1 h2 l.length 0 (-1) (by omega) (by omega) (Or.inl ⟨rfl, rfl⟩)
/-! ### Samples in even steps -/
theorem putS_length64 {l : List Sample} (h : l.length ≤ 64) : (putS l).length ≤ 1300 := by
  have h1 := putS_len l 0 0
  have h2 := put_length (l.length : Int)
  rw [restS_zero] at h1
  unfold putS
  rw [List.length_append]; omega
/-! ### Samples at squares -/
end Go.Proofs.YtgibfidebdgffaaDoor
end
section
namespace Go.Proofs.YtgibfidebdgffaaDoor
def tAt (steps : List Int) (i : Nat) : Int := ((steps.take i).map fun s => 1 + s % 18446744073709551616 % 40).sum
def vAt (values : List Int) (j : Nat) : Int := match values[j]? with | some v => v | none => (j : Int)
def riseL (steps values : List Int) (n : Nat) : List Sample := (List.range n).map fun j => (⟨tAt steps (j + 1), vAt values j⟩ : Sample)
def riseN (steps : List Int) (most : Int) : Nat := min steps.length most.toNat
theorem tAt_succ {steps : List Int} {i : Nat} (h : i < steps.length) : tAt steps (i + 1) = tAt steps i + (1 + (steps[i]'h) % 18446744073709551616 % 40) := by
  unfold tAt
  rw [List.take_succ_eq_append_getElem h]
  simp only [List.map_append, List.sum_append, List.map_cons, List.map_nil, List.sum_cons, List.sum_nil, Int.add_zero]
theorem tAt_r {steps : List Int} : ∀ {i : Nat}, i ≤ steps.length → (i : Int) ≤ tAt steps i ∧ tAt steps i ≤ 40 * (i : Int)
  | 0, _ => by simp [tAt]
  | i + 1, h => by
    have h1 := tAt_r (steps := steps) (i := i) (by omega)
    rw [tAt_succ (steps := steps) (i := i) (by omega)]
    omega
theorem vAt_some {values : List Int} {j : Nat} (h : j < values.length) : vAt values j = values[j] := by
  unfold vAt; rw [List.getElem?_eq_getElem h]
theorem vAt_none {values : List Int} {j : Nat} (h : values.length ≤ j) : vAt values j = (j : Int) := by
  unfold vAt; rw [List.getElem?_eq_none h]
theorem rise_snoc {steps values : List Int} {i : Nat} {t v : Int} (ht : t = tAt steps (i + 1)) (hv : v = vAt values i) : riseL steps values i ++ [(⟨t, v⟩ : Sample)] = riseL steps values (i + 1) := by
  subst ht; subst hv
  unfold riseL
  rw [List.range_succ, List.map_append]; rfl
theorem rise_length (steps values : List Int) (n : Nat) : (riseL steps values n).length = n := by simp [riseL]
theorem rise_get (steps values : List Int) (n j : Nat) (h : j < (riseL steps values n).length) : (riseL steps values n)[j] = (⟨tAt steps (j + 1), vAt values j⟩ : Sample) := by simp [riseL]
theorem riseN_le (steps : List Int) (most : Int) : riseN steps most ≤ steps.length := Nat.min_le_left ..
theorem riseN_end {steps : List Int} {most : Int} {i : Nat} (hi : i ≤ steps.length) (hm : i ≤ most.toNat) (h : ¬ (i < steps.length) ∨ ¬ ((i : Int) < most)) : riseN steps most = i := by
  unfold riseN; omega
theorem rise_ok {steps values : List Int} {n : Nat} (hn : n ≤ steps.length) (hb : n ≤ 1000000) (hv : ∀ v ∈ values, i64R v) : ∀ s ∈ riseL steps values n, s.ok := by
  intro s hs
  obtain ⟨j, hj, rfl⟩ := List.getElem_of_mem hs
  rw [rise_get]
  rw [rise_length] at hj
  have h1 := tAt_r (steps := steps) (i := j + 1) (by omega)
  refine ⟨⟨by simp only []; omega, by simp only []; omega⟩, ?_⟩
  simp only []
  rcases Nat.lt_or_ge j values.length with h | h
  · rw [vAt_some h]; exact hv _ (List.getElem_mem h)
  · rw [vAt_none h]; omega
theorem rises_of : ∀ (l : List Sample) (last : Int), (∀ j (h : j < l.length), last < l[j].T ∧ l[j].T ≤ 1099511627776) → (∀ i j (hi : i < j) (h : j < l.length), (l[i]'(by omega)).T < l[j].T) → risesFrom last l = true
  | [], _, _, _ => rfl
  | s :: l, last, h1, h2 => by
    have h0 := h1 0 (by simp)
    simp only [List.getElem_cons_zero] at h0
    rw [risesFrom, decide_eq_true h0, Bool.true_and]
    refine rises_of l s.T (fun j h => ?_) (fun i j hi h => ?_)
    · have a := h2 0 (j + 1) (by omega) (by simp; omega)
      have b := h1 (j + 1) (by simp; omega)
      simp only [List.getElem_cons_zero, List.getElem_cons_succ] at a b
      exact ⟨a, b.2⟩
    · have a := h2 (i + 1) (j + 1) (by omega) (by simp; omega)
      simpa only [List.getElem_cons_succ] using a
theorem tAt_lt {steps : List Int} {i : Nat} : ∀ {j : Nat}, i < j → j ≤ steps.length → tAt steps i < tAt steps j
  | 0, h, _ => by omega
  | j + 1, h, hj => by
    have e := tAt_succ (steps := steps) (i := j) (by omega)
    rcases Nat.lt_or_ge i j with h1 | h1
    · have := tAt_lt (steps := steps) (i := i) (j := j) h1 (by omega)
      omega
    · obtain rfl : i = j := by omega
      omega
end Go.Proofs.YtgibfidebdgffaaDoor
end
section
namespace Go.Proofs.YtgibfidebdgffaaDoor
theorem floor_eq {t k w : Int} (hw : widthA k = w) (h : 0 < w) (h0 : 0 ≤ t) (h1 : t ≤ 1099511627776) : floorA t k = t - t % w := by
  unfold floorA; rw [hw, if_neg (by omega)]
end Go.Proofs.YtgibfidebdgffaaDoor
end
section
namespace Go.Proofs.YtgibfidebdgffaaDoor
abbrev Asc (l : List Sample) : Prop := List.Pairwise (fun a b : Sample => a.T < b.T) l ∧ ∀ s ∈ l, 0 ≤ s.T ∧ s.T ≤ 1099511627776
theorem asc_of : ∀ (l : List Sample) (last : Int), -1 ≤ last → risesFrom last l = true → Asc l ∧ ∀ s ∈ l, last < s.T
  | [], _, _, _ => ⟨⟨List.Pairwise.nil, by simp⟩, by simp⟩
  | s :: l, last, hl, h => by
    rw [risesFrom, Bool.and_eq_true, decide_eq_true_eq] at h
    obtain ⟨⟨h1, h2⟩, h3⟩ := h
    obtain ⟨⟨h4, h5⟩, h6⟩ := asc_of l s.T (by omega) h3
    refine ⟨⟨List.Pairwise.cons h6 h4, ?_⟩, ?_⟩
    · intro x hx
      rcases List.mem_cons.1 hx with rfl | hx
      · omega
      · exact h5 x hx
    · intro x hx
      rcases List.mem_cons.1 hx with rfl | hx
      · exact h1
      · have := h6 x hx; omega
theorem width3 {k : Int} (h0 : 0 < k) (h4 : k < 4) : widthA k = 5 ∨ widthA k = 60 ∨ widthA k = 1440 := by
  have : k = 1 ∨ k = 2 ∨ k = 3 := by omega
  rcases this with rfl | rfl | rfl
  · exact Or.inl rfl
  · exact Or.inr (Or.inl rfl)
  · exact Or.inr (Or.inr rfl)
theorem floor_mono {t u k : Int} (h0 : 0 < k) (h4 : k < 4) (ht : 0 ≤ t) (htu : t ≤ u) (hu : u ≤ 1099511627776) : floorA t k ≤ floorA u k := by
  rcases width3 h0 h4 with h | h | h <;> rw [floor_eq h (by decide) ht (by omega), floor_eq h (by decide) (by omega) hu] <;> omega
theorem floor_nn {t k : Int} (h0 : 0 < k) (h4 : k < 4) (ht : 0 ≤ t) (hu : t ≤ 1099511627776) : 0 ≤ floorA t k ∧ floorA t k ≤ t ∧ floorA (floorA t k) k = floorA t k := by
  rcases width3 h0 h4 with h | h | h <;> rw [floor_eq h (by decide) ht hu, floor_eq h (by decide) (by omega) (by omega)] <;> omega
theorem winLen_le (k fr : Int) : ∀ l : List Sample, winLen k fr l ≤ l.length
  | [] => Nat.le_refl _
  | s :: l => by
    have := winLen_le k fr l
    rw [winLen]; split
    · simp only [List.length_cons]; omega
    · exact Nat.zero_le _
theorem win_drop (k fr : Int) : ∀ (l : List Sample) (s : Sample) (r : List Sample), l.drop (winLen k fr l) = s :: r → ¬ floorA s.T k = fr
  | [], s, r, h => by simp [winLen] at h
  | x :: l, s, r, h => by
    rw [winLen] at h
    split at h
    · exact win_drop k fr l s r (by simpa using h)
    · rename_i hx
      simp only [List.drop_zero, List.cons.injEq] at h
      rw [← h.1]; exact hx
theorem sumS_append (a b : List Sample) : sumS (a ++ b) = sumS a + sumS b := by simp [sumS]
theorem aggL_count (fr : Int) {l : List Sample} : (aggL fr l).Count = (l.length : Int) := by
  cases l with
  | nil => rfl
  | cons s l => simp only [aggL, accL_count, List.length_cons]; omega
theorem aggL_sum (fr : Int) {l : List Sample} : (aggL fr l).Sum = sumS l := by
  cases l with
  | nil => rfl
  | cons s l =>
    have := (accL_facts l (oneA s.V fr)).2.2.1
    simp only [aggL]; rw [this]; simp [sumS]
theorem aggL_from (fr : Int) {l : List Sample} (h : 0 < l.length) : (aggL fr l).From = fr := by
  cases l with
  | nil => simp at h
  | cons s l => exact (accL_facts l (oneA s.V fr)).1
def wins (k : Int) : Nat → List Sample → List Agg
  | 0, _ => []
  | _ + 1, [] => []
  | f + 1, s :: l => aggL (floorA s.T k) ((s :: l).take (winLen k (floorA s.T k) (s :: l))) :: wins k f ((s :: l).drop (winLen k (floorA s.T k) (s :: l)))
theorem wins_all {k : Int} (h0 : 0 < k) (h4 : k < 4) : ∀ (f : Nat) (l : List Sample) (last : Int), l.length ≤ f → l.length ≤ 1000000 → Asc l → (∀ s ∈ l, smallS s) → (∀ s ∈ l, last < floorA s.T k) →
    (∀ out, rawL k f l out = (out ++ wins k f l, 0)) ∧ alignsFrom k last (wins k f l) = true ∧ ((wins k f l).map Agg.Count).sum = (l.length : Int) ∧ ((wins k f l).map Agg.Sum).sum = sumS l
  | 0, l, last, hf, _, _, _, _ => by
    obtain rfl := List.length_eq_zero_iff.1 (by omega : l.length = 0)
    exact ⟨fun out => by simp [rawL, wins], rfl, rfl, rfl⟩
  | f + 1, [], last, _, _, _, _, _ => ⟨fun out => by simp [rawL, wins], rfl, rfl, rfl⟩
  | f + 1, s :: l, last, hf, hn, ha, hs, hl => by
    have hs0 := ha.2 s (List.mem_cons_self ..)
    have hfl := floor_nn h0 h4 hs0.1 hs0.2
    have hp : 0 < winLen k (floorA s.T k) (s :: l) := by simp [winLen]
    have hle := winLen_le k (floorA s.T k) (s :: l)
    have hd := win_drop k (floorA s.T k) (s :: l)
    generalize hw : winLen k (floorA s.T k) (s :: l) = n at *
    have e1 : ((s :: l).take n).length = n := by rw [List.length_take]; omega
    have e2 : ((s :: l).drop n).length = (s :: l).length - n := List.length_drop
    have hfine := all_fine (fr := floorA s.T k) hfl.1 (by omega) (l := (s :: l).take n) (by omega) (by omega) (fun x hx => hs x (List.mem_of_mem_take hx))
    have hdrop : ∀ x ∈ (s :: l).drop n, floorA s.T k < floorA x.T k := by
      have hpw : List.Pairwise (fun a b : Sample => a.T < b.T) ((s :: l).drop n) := ha.1.sublist (List.drop_sublist ..)
      have hb : ∀ x ∈ (s :: l).drop n, 0 ≤ x.T ∧ x.T ≤ 1099511627776 := fun x hx => ha.2 x (List.mem_of_mem_drop hx)
      have hge : ∀ x ∈ (s :: l).drop n, s.T ≤ x.T := by
        intro x hx
        rcases List.mem_cons.1 (List.mem_of_mem_drop hx) with rfl | h
        · exact Int.le_refl _
        · exact Int.le_of_lt (List.rel_of_pairwise_cons ha.1 h)
      cases hq : (s :: l).drop n with
      | nil => intro x hx; cases hx
      | cons y r =>
        rw [hq] at hpw hb hge
        have hy := hd y r hq
        have hy1 := hb y (List.mem_cons_self ..)
        have hm := floor_mono h0 h4 hs0.1 (hge y (List.mem_cons_self ..)) hy1.2
        intro x hx
        rcases List.mem_cons.1 hx with rfl | hx
        · omega
        · have h1 := List.rel_of_pairwise_cons hpw hx
          have h2 := floor_mono h0 h4 hy1.1 (Int.le_of_lt h1) (hb x (List.mem_cons_of_mem _ hx)).2
          omega
    obtain ⟨i1, i2, i3, i4⟩ := wins_all h0 h4 f ((s :: l).drop n) (floorA s.T k) (by rw [e2]; simp only [List.length_cons] at hf ⊢; omega) (by omega) ⟨ha.1.sublist (List.drop_sublist ..), fun x hx => ha.2 x (List.mem_of_mem_drop hx)⟩ (fun x hx => hs x (List.mem_of_mem_drop hx)) hdrop
    have ew : wins k (f + 1) (s :: l) = aggL (floorA s.T k) ((s :: l).take n) :: wins k f ((s :: l).drop n) := by rw [wins, hw]
    rw [ew]
    refine ⟨fun out => ?_, ?_, ?_, ?_⟩
    · rw [rawL, hw, hfine.1, if_pos rfl, i1, List.append_assoc]; rfl
    · have ef := aggL_from (floorA s.T k) (l := (s :: l).take n) (by omega)
      rw [alignsFrom, mayA_iff.2 hfine.2, ef, decide_eq_true ⟨hfl.2.2.symm, hl s (List.mem_cons_self ..)⟩, i2]; rfl
    · simp only [List.map_cons, List.sum_cons, i3, aggL_count]; omega
    · simp only [List.map_cons, List.sum_cons, i4, aggL_sum]
      rw [← sumS_append, List.take_append_drop]
theorem raw_rising {l : List Sample} {k : Int} (h0 : 0 < k) (h4 : k < 4) (hr : risingA l = true) (hn : l.length ≤ 1000000) (hs : ∀ s ∈ l, smallS s) :
    (rawA l k).2 = 0 ∧ alignedA (rawA l k).1 k = true ∧ ((rawA l k).1.map Agg.Count).sum = (l.length : Int) ∧ ((rawA l k).1.map Agg.Sum).sum = sumS l := by
  have ha := asc_of l (-1) (by omega) hr
  obtain ⟨i1, i2, i3, i4⟩ := wins_all h0 h4 l.length l (-1) (Nat.le_refl _) hn ha.1 hs (fun s h => by have := floor_nn h0 h4 (ha.1.2 s h).1 (ha.1.2 s h).2; omega)
  have hc : coarseA k = true := by simp only [coarseA, decide_eq_true_eq]; omega
  unfold rawA
  rw [if_pos ⟨hr, hc⟩, i1]
  refine ⟨rfl, ?_, ?_, ?_⟩
  · unfold alignedA; rw [hc]; simpa using i2
  · simpa using i3
  · simpa using i4
end Go.Proofs.YtgibfidebdgffaaDoor
end
section
namespace Go.Proofs.YtgibfidebdgffaaDoor
end Go.Proofs.YtgibfidebdgffaaDoor
end
section
namespace Go.Proofs.YtgibfidebdgffaaDoor
theorem stepA2_len (w : Int) : ∀ (l : List Agg) (last : Int), (stepA2 w last l).length ≤ 70 * l.length
  | [], _ => by simp [stepA2]
  | a :: l, last => by
    have h1 := aggB_len a w last
    have h2 := stepA2_len w l (a.From / w)
    simp only [stepA2, List.length_append, List.length_cons]; omega
theorem encA_len64 {k : Int} {l : List Agg} (h : okA k l = true) : (encA k l).1.length ≤ 5000 := by
  rw [encA_yes h]
  have h1 := put_length (l.length : Int)
  have h2 := stepA2_len (widthA k) l (-1)
  have h3 := (okA_iff.1 h).2
  simp only [putA, List.length_append]; omega
end Go.Proofs.YtgibfidebdgffaaDoor
end
section
namespace Go.Proofs.YtgibfidebdgffaaDoor
open Go.RowKit Go.ChangeShapes Go.WideShapes Go.ChangeAt
section
variable {H : Type} {enc : TypeId × Value → H} {P : Program} {w : World} {base : Nat} {spare : Nat → Bool} {held : Bool}
end
end Go.Proofs.YtgibfidebdgffaaDoor
end
section
namespace Go.Proofs.YtgibfidebdgffaaDoor
open Go.RowKit
section
variable {a b : Bool} {p q : Prop}
theorem pi_dec [Decidable p] : decide p = true ↔ p := decide_eq_true_iff
theorem pi_self : a = true ↔ a = true := Iff.rfl
theorem pi_and (h : a = true ↔ p) (h' : b = true ↔ q) : (a && b) = true ↔ (p ∧ q) := by rw [Bool.and_eq_true, h, h']
theorem pi_or (h : a = true ↔ p) (h' : b = true ↔ q) : (a || b) = true ↔ (p ∨ q) := by rw [Bool.or_eq_true, h, h']
theorem pi_not (h : a = true ↔ p) : (!a) = true ↔ ¬p := by rw [← h]; cases a <;> simp
theorem pi_name (e : a = b) (h : b = true ↔ p) : a = true ↔ p := e ▸ h
theorem pi_f (h : a = true ↔ p) (h0 : a = false) : ¬p := fun hp => Bool.noConfusion (h0.symm.trans (h.2 hp))
theorem and_l (h : (a && b) = true) : a = true := by cases a <;> simp_all
theorem and_r (h : (a && b) = true) : b = true := by cases a <;> simp_all
theorem and_i (h : a = true) (h' : b = true) : (a && b) = true := by subst h h'; rfl
theorem or_l (h : (a || b) = false) : a = false := by cases a <;> simp_all
theorem or_r (h : (a || b) = false) : b = false := by cases a <;> simp_all
theorem not_t (h : (!a) = true) : a = false := by cases a <;> simp_all
theorem not_f (h : (!a) = false) : a = true := by cases a <;> simp_all
end
section
variable {α : Type} {c : Bool} {x y : α} {v : Value} {e b : Bool}
theorem gt (h : c = true) : (bif c then x else y) = x := by subst h; rfl
theorem gf (h : c = false) : (bif c then x else y) = y := by subst h; rfl
def gval (v : Value) (want : Bool) : Bool := match v with
  | .bool b => b == want
  | _ => false
theorem gA_t (h : v = .bool b) : gval v true = b := by subst h; cases b <;> rfl
theorem gA_f (h : v = .bool b) : gval v false = !b := by subst h; cases b <;> rfl
theorem gB_t (h : v = (bif e then .bool b else undef)) : gval v true = (e && b) := by subst h; cases e <;> cases b <;> rfl
end
section
variable {P : Program} {ops : Array Oper} {l : List Oper} {ρ : Env} {w : World} {KR : Env → World → Prop} {K : Value → World → Prop}
variable {dst : Option Tmp} {op : Op} {ty : TypeId} {pos : String} {aft : Array Edge} {g : Option (Nat × Bool)}
theorem guard_gval {j : Nat} {want : Bool} (d : Nat) (hd : dstOf ops j = some d) : guardE ops ρ ⟨dst, op, ty, pos, aft, some (j, want)⟩ = gval (ρ d) want := by
  simp only [guardE, hd, gval] <;> (cases ρ d <;> rfl)
theorem s_lz {d : Tmp} {j : Nat} {want c : Bool} (e : Nat) (hd : dstOf ops j = some e) (hc : gval (ρ e) want = c) (R : Value → World → Prop)
    (h1 : c = true → opE P ⟨some d, op, ty, pos, aft, some (j, want)⟩ ρ w R) (h2 : c = false → R undef w) (h : ∀ v w', R v w' → seqE P ops l (upd ρ d v) w' KR) : seqE P ops (⟨some d, op, ty, pos, aft, some (j, want)⟩ :: l) ρ w KR := by
  unfold seqE; rw [guard_gval e hd, hc]
  cases c with
  | true => rw [if_pos rfl]; exact opE_mono h (h1 rfl)
  | false => rw [if_neg (by decide)]; exact h _ _ (h2 rfl)
theorem go_lz {j : Nat} {want c : Bool} (e : Nat) (hd : dstOf ops j = some e) (hc : gval (ρ e) want = c)
    (h1 : c = true → opE P ⟨dst, op, ty, pos, aft, some (j, want)⟩ ρ w K) (h2 : c = false → K undef w) : goE P ops ⟨dst, op, ty, pos, aft, some (j, want)⟩ ρ w K := by
  unfold goE; rw [guard_gval e hd, hc]
  cases c with
  | true => rw [if_pos rfl]; exact h1 rfl
  | false => rw [if_neg (by decide)]; exact h2 rfl
theorem op_pick_and {c x y : Operand} {e e' b : Bool} (hc : evE ρ c = .bool e) (hx : evE ρ x = (bif e' then .bool b else undef)) (he : e = true → e' = true) (hy : evE ρ y = .bool false) (h : K (.bool (e && b)) w) : opE P ⟨dst, .pick c x y, ty, pos, aft, g⟩ ρ w K := by
  cases e with
  | true => exact op_pick_t (.bool b) hc (hx.trans (gt (he rfl))) h
  | false => exact op_pick_f (.bool false) hc hy h
theorem op_pick_or {c x y : Operand} {e e' b : Bool} (hc : evE ρ c = .bool e) (hx : evE ρ x = .bool true) (hy : evE ρ y = (bif e' then .bool b else undef)) (he : e = false → e' = true) (h : K (.bool (e || b)) w) : opE P ⟨dst, .pick c x y, ty, pos, aft, g⟩ ρ w K := by
  cases e with
  | true => exact op_pick_t (.bool true) hc hx h
  | false => exact op_pick_f (.bool b) hc (hy.trans (gt (he rfl))) h
def RlzP (c : Bool) (w0 w : World) (cs : List Value) (v : Value) (w' : World) : Prop := (c = true → ∃ b off, v = .pointer (some ⟨b, off, none⟩) ∧ Pt w0 b off cs) ∧ w = w'
def Rlz (c : Bool) (x : Value) (w : World) (v : Value) (w' : World) : Prop := v = (bif c then x else undef) ∧ w = w'
def RlzW (c : Bool) (x : Value) (w0 : World) (L : List Item) (v : Value) (w' : World) : Prop := v = (bif c then x else undef) ∧ St w0 w' L
theorem rlz_t {c : Bool} {x : Value} (h : c = true) : Rlz c x w x w := ⟨(gt h).symm, rfl⟩
theorem rlz_f {c : Bool} {x : Value} (h : c = false) : Rlz c x w undef w := ⟨(gf h).symm, rfl⟩
end
section
variable {M : List Nat} {i : Nat} {c : Bool} {cs : List Value} {w0 : World}
def kPtc (w0 : World) (c : Bool) (cs : List Value) : KP := fun _ v _ => c = true → ∃ b off, v = .pointer (some ⟨b, off, none⟩) ∧ Pt w0 b off cs
def kPtUc (c : Bool) (cs : List Value) : KP := fun _ v w => c = true → ∃ b off, v = .pointer (some ⟨b, off, none⟩) ∧ Pt w b off cs
theorem mPtUc : StabM M (kPtUc c cs) := fun _ _ _ _ _ _ hb h hc => by
  obtain ⟨b, off, e, h⟩ := h hc
  exact ⟨b, off, e, h.below hb⟩
theorem mPtc : StabM M (kPtc w0 c cs) := fun _ _ _ _ _ _ _ h => h
end
def gd {α : Type} [Inhabited α] (l : List α) (i : Nat) : α := l.getD i default
theorem gd_eq {α : Type} [Inhabited α] {l : List α} {i : Nat} (h : i < l.length) : gd l i = l[i]'h := by unfold gd; rw [List.getD_eq_getElem?_getD, List.getElem?_eq_getElem h]; rfl
theorem gd_mem {α : Type} [Inhabited α] {l : List α} {i : Nat} (h : i < l.length) : gd l i ∈ l := by rw [gd_eq h]; exact List.getElem_mem h
section
variable {P : Program} {ρ : Env} {w : World} {K : Value → World → Prop} {dst : Option Tmp} {ty : TypeId} {pos : String} {aft : Array Edge} {g : Option (Nat × Bool)}
theorem op_indexAddrD {α : Type} [Inhabited α] {E : Enc α} {T e : TypeId} {x i : Operand} {v : Value} {xs : List α} {k : IntKind} {m : Int} {w1 : World} (n : Nat) (hT : P.underlying T = some (.slice e)) (hs : ∀ w, (sizeOf e).run P w = .ok E.size w)
    (hx : evE ρ x = v) (hsl : Sl w1 E v xs) (hi : evE ρ i = .int k m) (hn : m = (n : Int)) (hm : n < xs.length)
    (h : ∀ b off, Pt w1 b off (E.enc (gd xs n)) → K (.pointer (some ⟨b, off, none⟩)) w) : opE P ⟨dst, .indexAddr T x i, ty, pos, aft, g⟩ ρ w K :=
  op_indexAddrN n hT hs hx hsl hi hn hm fun b off hp => h b off (by rw [gd_eq hm]; exact hp)
end
end Go.Proofs.YtgibfidebdgffaaDoor
end
section
namespace Go.Proofs.YtgibfidebdgffaaDoor
instance : Inhabited Sample := ⟨⟨0, 0⟩⟩
instance : Inhabited Agg := ⟨⟨0, 0, 0, 0, 0, 0, 0⟩⟩
end Go.Proofs.YtgibfidebdgffaaDoor
end
section
namespace Go.Proofs.YtgibfidebdgffaaDoor
open Go.RowKit Go.ChangeShapes Go.WideShapes Go.ChangeAt
abbrev OneV := {v : Value // v.oneCell' = true}
def nilV : OneV := ⟨.slice none 0 0, rfl⟩
structure SegD where
  Id : Int
  Tier : Int
  From : Int
  To : Int
  Samples : List Sample
  Aggs : List Agg
  deriving DecidableEq
structure Seg where
  d : SegD
  sv : OneV
  av : OneV
def segE : Enc Seg := ⟨6, fun s => [.int .i64 s.d.Id, .int .i64 s.d.Tier, .int .i64 s.d.From, .int .i64 s.d.To, s.sv.1, s.av.1], fun _ => rfl, by decide,
  fun s u hu => by simp at hu; rcases hu with rfl | rfl | rfl | rfl | rfl | rfl <;> first | rfl | exact s.sv.2 | exact s.av.2⟩
def SegIn (w : World) (s : Seg) : Prop := Sl w sampE s.sv.1 s.d.Samples ∧ Sl w aggE s.av.1 s.d.Aggs
def SegsIn (w : World) (l : List Seg) : Prop := ∀ s ∈ l, SegIn w s
theorem SegIn.below {w w' : World} {s : Seg} (h : SegIn w s) (hb : Below w.heap.size w w') : SegIn w' s := ⟨h.1.below hb, h.2.below hb⟩
theorem SegsIn.below {w w' : World} {l : List Seg} (h : SegsIn w l) (hb : Below w.heap.size w w') : SegsIn w' l := fun s hs => (h s hs).below hb
theorem segsIn_nil (w : World) : SegsIn w [] := fun s h => nomatch h
theorem segsIn_one {w : World} {a : Seg} (h : SegIn w a) : SegsIn w [a] := fun s hs => by obtain rfl := List.mem_singleton.1 hs; exact h
theorem segsIn_two {w : World} {a b : Seg} (h : SegIn w a) (h' : SegIn w b) : SegsIn w [a, b] := fun s hs => by
  rcases List.mem_cons.1 hs with rfl | hs
  · exact h
  · obtain rfl := List.mem_singleton.1 hs; exact h'
abbrev SegD.ok (s : SegD) : Prop := i64R s.Id ∧ i64R s.Tier ∧ i64R s.From ∧ i64R s.To ∧ (∀ x ∈ s.Samples, x.ok) ∧ (∀ x ∈ s.Aggs, x.ok)
section
variable {P : Program} {H : Type} {enc : TypeId × Value → H} {w : World} {base : Nat} {spare : Nat → Bool} {held : Bool}
end
/-! ### Which may be -/
def headS (id k fr to : Int) : Bool := decide (1 ≤ id ∧ id ≤ 1073741824 ∧ 0 ≤ k ∧ k < 4 ∧ 0 ≤ fr ∧ fr < to ∧ to ≤ 1099511627776)
theorem headS_yes {id k fr to : Int} (h : 1 ≤ id ∧ id ≤ 1073741824 ∧ 0 ≤ k ∧ k < 4 ∧ 0 ≤ fr ∧ fr < to ∧ to ≤ 1099511627776) : headS id k fr to = true := decide_eq_true h
theorem headS_iff {id k fr to : Int} : headS id k fr to = true ↔ (1 ≤ id ∧ id ≤ 1073741824 ∧ 0 ≤ k ∧ k < 4 ∧ 0 ≤ fr ∧ fr < to ∧ to ≤ 1099511627776) := decide_eq_true_iff
def mayRaw (s : SegD) : Bool := (((((decide ((s.Aggs.length : Int) = 0) && decide (1 ≤ (s.Samples.length : Int))) && decide ((s.Samples.length : Int) ≤ 64)) && risingA s.Samples) && decide (s.From ≤ (gd s.Samples 0).T)) && decide ((gd s.Samples (s.Samples.length - 1)).T < s.To))
def mayUp (s : SegD) : Bool := (((((decide ((s.Samples.length : Int) = 0) && decide (1 ≤ (s.Aggs.length : Int))) && decide ((s.Aggs.length : Int) ≤ 64)) && alignedA s.Aggs s.Tier) && decide (floorA s.From s.Tier ≤ (gd s.Aggs 0).From)) && decide ((gd s.Aggs (s.Aggs.length - 1)).From < s.To))
def mayS (s : SegD) : Bool := headS s.Id s.Tier s.From s.To && (if s.Tier = 0 then mayRaw s else mayUp s)
theorem may_nohead {s : SegD} (h : headS s.Id s.Tier s.From s.To = false) : mayS s = false := by unfold mayS; rw [h]; rfl
theorem may_raw {s : SegD} (h : headS s.Id s.Tier s.From s.To = true) (h0 : s.Tier = 0) : mayS s = mayRaw s := by unfold mayS; rw [h, if_pos h0]; rfl
theorem may_up {s : SegD} (h : headS s.Id s.Tier s.From s.To = true) (h0 : ¬ s.Tier = 0) : mayS s = mayUp s := by unfold mayS; rw [h, if_neg h0]; rfl
theorem may_iff {s : SegD} : mayS s = true ↔ headS s.Id s.Tier s.From s.To = true ∧ ((s.Tier = 0 ∧ mayRaw s = true) ∨ (¬ s.Tier = 0 ∧ mayUp s = true)) := by
  unfold mayS
  by_cases h : s.Tier = 0
  · rw [if_pos h]; simp [h]
  · rw [if_neg h]; simp [h]
theorem mayRaw_iff {s : SegD} : mayRaw s = true ↔ s.Aggs = [] ∧ 1 ≤ s.Samples.length ∧ s.Samples.length ≤ 64 ∧ risingA s.Samples = true ∧ s.From ≤ (gd s.Samples 0).T ∧ (gd s.Samples (s.Samples.length - 1)).T < s.To := by
  unfold mayRaw
  simp only [Bool.and_eq_true, decide_eq_true_eq]
  constructor
  · rintro ⟨⟨⟨⟨⟨h1, h2⟩, h3⟩, h4⟩, h5⟩, h6⟩
    exact ⟨List.eq_nil_of_length_eq_zero (by omega), by omega, by omega, h4, h5, h6⟩
  · rintro ⟨h1, h2, h3, h4, h5, h6⟩
    exact ⟨⟨⟨⟨⟨by rw [h1]; rfl, by omega⟩, by omega⟩, h4⟩, h5⟩, h6⟩
theorem mayUp_iff {s : SegD} : mayUp s = true ↔ s.Samples = [] ∧ 1 ≤ s.Aggs.length ∧ s.Aggs.length ≤ 64 ∧ alignedA s.Aggs s.Tier = true ∧ floorA s.From s.Tier ≤ (gd s.Aggs 0).From ∧ (gd s.Aggs (s.Aggs.length - 1)).From < s.To := by
  unfold mayUp
  simp only [Bool.and_eq_true, decide_eq_true_eq]
  constructor
  · rintro ⟨⟨⟨⟨⟨h1, h2⟩, h3⟩, h4⟩, h5⟩, h6⟩
    exact ⟨List.eq_nil_of_length_eq_zero (by omega), by omega, by omega, h4, h5, h6⟩
  · rintro ⟨h1, h2, h3, h4, h5, h6⟩
    exact ⟨⟨⟨⟨⟨by rw [h1]; rfl, by omega⟩, by omega⟩, h4⟩, h5⟩, h6⟩
end Go.Proofs.YtgibfidebdgffaaDoor
end
section
namespace Go.Proofs.YtgibfidebdgffaaDoor
abbrev zeroG : SegD := ⟨0, 0, 0, 0, [], []⟩
abbrev numsG (s : SegD) : List Int := [s.Id, s.Tier, s.From, s.To - s.From]
def headG (s : SegD) : List UInt8 := [84, 75] ++ (numsG s).flatMap put
def blockG (s : SegD) : List UInt8 := if 0 < s.Tier then (encA s.Tier s.Aggs).1 else (encS s.Samples).1
def bodyG (s : SegD) : List UInt8 := headG s ++ blockG s
def bytesG (s : SegD) : List UInt8 := bodyG s ++ four (more 1 (bodyG s))
def encG (s : SegD) : List UInt8 × Int := if mayS s = false then ([], 1) else if 4000 < ((bytesG s).length : Int) then ([], 8) else (bytesG s, 0)
theorem encG_no {s : SegD} (h : mayS s = false) : encG s = ([], 1) := if_pos h
theorem encG_full {s : SegD} (h : mayS s = true) (h1 : 4000 < ((bytesG s).length : Int)) : encG s = ([], 8) := by unfold encG; rw [if_neg (by rw [h]; decide), if_pos h1]
theorem encG_yes {s : SegD} (h : mayS s = true) (h1 : ¬ 4000 < ((bytesG s).length : Int)) : encG s = (bytesG s, 0) := by unfold encG; rw [if_neg (by rw [h]; decide), if_neg h1]
theorem encG_of {s : SegD} {b : List UInt8} (h : encG s = (b, 0)) : mayS s = true ∧ bytesG s = b ∧ b.length ≤ 4000 := by
  unfold encG at h
  split at h
  · cases h
  split at h
  · cases h
  rename_i h1 h2
  obtain ⟨rfl, _⟩ := Prod.mk.inj h
  exact ⟨by simpa using h1, rfl, by omega⟩
theorem may_nums {s : SegD} (h : mayS s = true) : 1 ≤ s.Id ∧ s.Id ≤ 1073741824 ∧ 0 ≤ s.Tier ∧ s.Tier < 4 ∧ 0 ≤ s.From ∧ s.From < s.To ∧ s.To ≤ 1099511627776 := headS_iff.1 (may_iff.1 h).1
theorem may_block {s : SegD} (h : mayS s = true) : (s.Tier = 0 ∧ s.Aggs = [] ∧ okS s.Samples = true) ∨ (0 < s.Tier ∧ s.Samples = [] ∧ okA s.Tier s.Aggs = true) := by
  have hn := may_nums h
  rcases (may_iff.1 h).2 with ⟨h0, h1⟩ | ⟨h0, h1⟩
  · have := mayRaw_iff.1 h1
    exact Or.inl ⟨h0, this.1, okS_iff.2 ⟨this.2.2.2.1, by omega⟩⟩
  · have := mayUp_iff.1 h1
    exact Or.inr ⟨by omega, this.1, okA_iff.2 ⟨this.2.2.2.1, by omega⟩⟩
theorem block_raw {s : SegD} (h0 : s.Tier = 0) : blockG s = (encS s.Samples).1 := by unfold blockG; rw [if_neg (by omega)]
theorem block_up {s : SegD} (h0 : 0 < s.Tier) : blockG s = (encA s.Tier s.Aggs).1 := by unfold blockG; rw [if_pos h0]
theorem head_eq (s : SegD) : headG s = [84, 75] ++ (put s.Id ++ (put s.Tier ++ (put s.From ++ put (s.To - s.From)))) := by simp [headG, numsG]
theorem segD_eq {s t : SegD} (h1 : s.Id = t.Id) (h2 : s.Tier = t.Tier) (h3 : s.From = t.From) (h4 : s.To = t.To) (h5 : s.Samples = t.Samples) (h6 : s.Aggs = t.Aggs) : s = t := by
  cases s; cases t; simp only at *; subst h1 h2 h3 h4 h5 h6; rfl
theorem body_split {s t : SegD} {r r' : List UInt8} (hs : mayS s = true) (ht : mayS t = true) (os : s.ok) (ot : t.ok) (h : bodyG s ++ r = bodyG t ++ r') : s = t ∧ r = r' := by
  have ns := may_nums hs
  have nt := may_nums ht
  unfold bodyG at h
  rw [head_eq, head_eq] at h
  simp only [List.append_assoc] at h
  have h := List.append_cancel_left h
  obtain ⟨e1, h⟩ := put_split (by omega) (by omega) (by omega) (by omega) h
  obtain ⟨e2, h⟩ := put_split (by omega) (by omega) (by omega) (by omega) h
  obtain ⟨e3, h⟩ := put_split (by omega) (by omega) (by omega) (by omega) h
  obtain ⟨e4, h⟩ := put_split (by omega) (by omega) (by omega) (by omega) h
  rcases may_block hs with ⟨a0, a1, a2⟩ | ⟨a0, a1, a2⟩
  · rcases may_block ht with ⟨b0, b1, b2⟩ | ⟨b0, b1, b2⟩
    · rw [block_raw a0, block_raw b0, encS_yes a2, encS_yes b2] at h
      obtain ⟨e5, e6⟩ := putS_split a2 b2 os.2.2.2.2.1 ot.2.2.2.2.1 h
      exact ⟨segD_eq e1 e2 e3 (by omega) e5 (by rw [a1, b1]), e6⟩
    · omega
  · rcases may_block ht with ⟨b0, b1, b2⟩ | ⟨b0, b1, b2⟩
    · omega
    · rw [block_up a0, block_up b0, encA_yes a2, encA_yes b2, e2] at h
      rw [e2] at a2
      obtain ⟨e5, e6⟩ := putA_split a2 b2 os.2.2.2.2.2 ot.2.2.2.2.2 h
      exact ⟨segD_eq e1 e2 e3 (by omega) (by rw [a1, b1]) e5, e6⟩
theorem bytes_prefix {s t : SegD} {r : List UInt8} (hs : mayS s = true) (ht : mayS t = true) (os : s.ok) (ot : t.ok) (h : bytesG s ++ r = bytesG t) : s = t ∧ r = [] := by
  have h2 : bodyG s ++ (four (more 1 (bodyG s)) ++ r) = bodyG t ++ four (more 1 (bodyG t)) := by rw [← List.append_assoc]; exact h
  obtain ⟨e, h3⟩ := body_split hs ht os ot h2
  subst e
  have := congrArg List.length h3
  simp only [List.length_append, four_len] at this
  exact ⟨rfl, List.eq_nil_of_length_eq_zero (by omega)⟩
theorem bytes_inj {s t : SegD} (hs : mayS s = true) (ht : mayS t = true) (os : s.ok) (ot : t.ok) (h : bytesG s = bytesG t) : s = t := (bytes_prefix (r := []) hs ht os ot (by rw [List.append_nil]; exact h)).1
def DecG (b : List UInt8) (s : SegD) (c : Int) : Prop := (c = 0 ∧ s.ok ∧ encG s = (b, 0)) ∨ (c = 2 ∧ s = zeroG ∧ ∀ d : SegD, d.ok → encG d ≠ (b, 0))
theorem zeroG_ok : zeroG.ok := by decide
theorem decG_enc {s x : SegD} {c : Int} (h : DecG (encG s).1 x c) (he : (encG s).2 = 0) (ho : s.ok) : x = s ∧ c = 0 := by
  have hs : encG s = ((encG s).1, 0) := Prod.ext rfl he
  rcases h with ⟨h0, h1, h2⟩ | ⟨h0, h1, h2⟩
  · obtain ⟨m1, b1, _⟩ := encG_of hs
    obtain ⟨m2, b2, _⟩ := encG_of h2
    exact ⟨bytes_inj m2 m1 h1 ho (b2.trans b1.symm), h0⟩
  · exact absurd hs (h2 s ho)
theorem decG_two {b : List UInt8} {x : SegD} {c : Int} (h : DecG b x c) (hn : ∀ d : SegD, d.ok → encG d ≠ (b, 0)) : c = 2 := by
  rcases h with ⟨_, h1, h2⟩ | ⟨h0, _, _⟩
  · exact absurd h2 (hn x h1)
  · exact h0
theorem decG_cut {s x : SegD} {c : Int} {k : Nat} (h : DecG ((encG s).1.take k) x c) (he : (encG s).2 = 0) (ho : s.ok) (hk : k < (encG s).1.length) : c = 2 := by
  have hs : encG s = ((encG s).1, 0) := Prod.ext rfl he
  obtain ⟨m1, b1, _⟩ := encG_of hs
  refine decG_two h fun d hd e => ?_
  obtain ⟨m2, b2, _⟩ := encG_of e
  have h2 := (bytes_prefix (r := (encG s).1.drop k) m2 m1 hd ho (by rw [b2, b1, List.take_append_drop])).2
  have := congrArg List.length h2
  rw [List.length_drop, List.length_nil] at this; omega
/-! ### Lengths -/
theorem flat_put_len : ∀ (l : List Int), (l.flatMap put).length ≤ 10 * l.length ∧ l.length ≤ (l.flatMap put).length
  | [] => ⟨Nat.le_refl _, Nat.le_refl _⟩
  | a :: l => by
    have := flat_put_len l
    have := put_length a
    rw [List.flatMap_cons, List.length_append, List.length_cons]; omega
theorem head_len (s : SegD) : 6 ≤ (headG s).length ∧ (headG s).length ≤ 42 := by
  have h := flat_put_len (numsG s)
  have e : (numsG s).length = 4 := rfl
  rw [e] at h
  unfold headG
  rw [List.length_append]
  show 6 ≤ 2 + _ ∧ 2 + _ ≤ 42
  omega
theorem block_len {s : SegD} (h : mayS s = true) : (blockG s).length ≤ 5000 := by
  rcases may_block h with ⟨a0, a1, a2⟩ | ⟨a0, a1, a2⟩
  · rw [block_raw a0, encS_yes a2]
    have := putS_length64 (okS_iff.1 a2).2
    simp only []; omega
  · rw [block_up a0]; exact encA_len64 a2
theorem bytes_len (s : SegD) : (bytesG s).length = (headG s).length + (blockG s).length + 4 := by simp [bytesG, bodyG]; omega
theorem raw_enc {s : SegD} (h : mayS s = true) (h0 : s.Tier = 0) : encG s = (bytesG s, 0) := by
  refine encG_yes h ?_
  have h1 := head_len s
  have h2 := bytes_len s
  rcases may_block h with ⟨a0, a1, a2⟩ | ⟨a0, a1, a2⟩
  · have := putS_length64 (okS_iff.1 a2).2
    rw [block_raw a0, encS_yes a2] at h2
    simp only [] at h2; omega
  · omega
theorem raw_len {s : SegD} (h : mayS s = true) (h0 : s.Tier = 0) : 7 ≤ (encG s).1.length ∧ (encG s).1.length ≤ 4000 := by
  have e := raw_enc h h0
  have := (encG_of e).2.2
  have h1 := head_len s
  have h2 := bytes_len s
  rw [e]; simp only []; omega
/-! ### What Put's loop comes to -/
theorem head_go {s : SegD} {i : Nat} {done : List UInt8} (hd : done = [84, 75] ++ ((numsG s).take i).flatMap put) (h : i < 4) : done ++ put ((numsG s)[i]'(by exact h)) = [84, 75] ++ ((numsG s).take (i + 1)).flatMap put := by
  rw [hd, List.take_succ_eq_append_getElem (show i < (numsG s).length from h), List.flatMap_append, List.append_assoc]; simp
theorem head_done {s : SegD} {i : Nat} {done : List UInt8} (hd : done = [84, 75] ++ ((numsG s).take i).flatMap put) (h : i = 4) : done = headG s := by
  subst h; exact hd
/-! ### What Get's loop comes to -/
def IsG (b : List UInt8) (d : SegD) : Prop := d.ok ∧ mayS d = true ∧ bytesG d = b
theorem isG_of {b : List UInt8} {d : SegD} (ho : d.ok) (h : encG d = (b, 0)) : IsG b d := ⟨ho, (encG_of h).1, (encG_of h).2.1⟩
theorem isG_len {b : List UInt8} {d : SegD} (h : IsG b d) : 6 ≤ b.length - 4 ∧ 10 ≤ b.length := by
  have h1 := head_len d
  have h2 := bytes_len d
  rw [h.2.2] at h2; omega
theorem isG_body {b : List UInt8} {d : SegD} (h : IsG b d) : b.take (b.length - 4) = bodyG d := by
  have h2 : b.length = (bodyG d).length + 4 := by rw [← h.2.2]; simp [bytesG]
  rw [h2, Nat.add_sub_cancel, ← h.2.2]; unfold bytesG; exact List.take_left ..
theorem isG_first {b : List UInt8} {d : SegD} (h : IsG b d) : b.getD 0 0 = 84 ∧ b.getD 1 0 = 75 := by
  rw [← h.2.2]; unfold bytesG bodyG headG; exact ⟨rfl, rfl⟩
def posG (d : SegD) (i : Nat) : Int := 2 + ((((numsG d).take i).flatMap put).length : Int)
theorem isG_get {b : List UInt8} {d : SegD} {i : Nat} (h : IsG b d) (hi : i < 4) : get (b.take (b.length - 4)) (posG d i) = ((numsG d)[i]'(by exact hi), posG d (i + 1), 0) := by
  have hn := may_nums h.2.1
  have hlt : i < (numsG d).length := hi
  have hr : 0 ≤ (numsG d)[i]'hlt ∧ (numsG d)[i]'hlt ≤ 1099511627776 := by
    have : i = 0 ∨ i = 1 ∨ i = 2 ∨ i = 3 := by omega
    rcases this with rfl | rfl | rfl | rfl
    · show 0 ≤ d.Id ∧ d.Id ≤ _; omega
    · show 0 ≤ d.Tier ∧ d.Tier ≤ _; omega
    · show 0 ≤ d.From ∧ d.From ≤ _; omega
    · show 0 ≤ d.To - d.From ∧ d.To - d.From ≤ _; omega
  rw [isG_body h]
  have e : bodyG d = ([84, 75] ++ ((numsG d).take i).flatMap put) ++ (put ((numsG d)[i]'hlt) ++ (((numsG d).drop (i + 1)).flatMap put ++ blockG d)) := by
    unfold bodyG headG
    have : (numsG d) = (numsG d).take i ++ ((numsG d)[i]'hlt :: (numsG d).drop (i + 1)) := by rw [← List.drop_eq_getElem_cons hlt, List.take_append_drop]
    conv => lhs; rw [this]
    rw [List.flatMap_append, List.flatMap_cons]
    simp only [List.append_assoc]
  have e2 : posG d (i + 1) = posG d i + ((put ((numsG d)[i]'hlt)).length : Int) := by
    unfold posG
    rw [List.take_succ_eq_append_getElem hlt, List.flatMap_append, List.length_append]
    simp only [List.flatMap_cons, List.flatMap_nil, List.append_nil]
    omega
  rw [e2]
  exact get_at hr.1 (by omega) e (by unfold posG; rw [List.length_append]; simp)
theorem isG_block {b : List UInt8} {d : SegD} (h : IsG b d) : (b.take (b.length - 4)).drop (posG d 4).toNat = blockG d := by
  rw [isG_body h]
  unfold bodyG
  have : (posG d 4).toNat = (headG d).length := by
    have e : posG d 4 = 2 + (((numsG d).flatMap put).length : Int) := rfl
    rw [e]; unfold headG; rw [List.length_append]; simp only [List.length_cons, List.length_nil]; omega
  rw [this]; exact List.drop_left ..
def GI (b : List UInt8) (i : Nat) (at_ x0 x1 x2 x3 : Int) : Prop :=
  (2 ≤ at_ ∧ at_ ≤ (b.length : Int) - 4) ∧ ((0 ≤ x0 ∧ x0 ≤ 1099511627776) ∧ (0 ≤ x1 ∧ x1 ≤ 1099511627776) ∧ (0 ≤ x2 ∧ x2 ≤ 1099511627776) ∧ (0 ≤ x3 ∧ x3 ≤ 1099511627776)) ∧
  ∀ d, IsG b d → at_ = posG d i ∧ (1 ≤ i → x0 = d.Id) ∧ (2 ≤ i → x1 = d.Tier) ∧ (3 ≤ i → x2 = d.From) ∧ (4 ≤ i → x3 = d.To - d.From)
theorem GI_start {b : List UInt8} (h : ¬ (b.length : Int) - 4 < 2) : GI b 0 2 0 0 0 0 :=
  ⟨by omega, ⟨by decide, by decide, by decide, by decide⟩, fun d _ => ⟨rfl, fun h => absurd h (by decide), fun h => absurd h (by decide), fun h => absurd h (by decide), fun h => absurd h (by decide)⟩⟩
section
variable {b : List UInt8} {i : Nat} {at_ x0 x1 x2 x3 : Int}
theorem GI_at (h : GI b i at_ x0 x1 x2 x3) {e : Nat} (he : e = b.length - 4) : 2 ≤ (get (b.take e) at_).2.1 ∧ (get (b.take e) at_).2.1 ≤ (b.length : Int) - 4 := by
  have h1 := h.1
  have hl : (b.take e).length = b.length - 4 := by rw [List.length_take]; omega
  have := get_to (b := b.take e) (p := at_) (by omega) (by rw [hl]; omega)
  rw [hl] at this; omega
theorem GI_is (h : GI b i at_ x0 x1 x2 x3) (hi : i < 4) {e : Nat} (he : e = b.length - 4) {d : SegD} (hd : IsG b d) : get (b.take e) at_ = ((numsG d)[i]'(by exact hi), posG d (i + 1), 0) := by
  rw [(h.2.2 d hd).1, he]; exact isG_get hd hi
theorem GI_bad (h : GI b i at_ x0 x1 x2 x3) (hi : i < 4) {e : Nat} (he : e = b.length - 4) (hc : ¬ (get (b.take e) at_).2.2 = 0 ∨ 1099511627776 < (get (b.take e) at_).1) : ∀ d : SegD, d.ok → encG d ≠ (b, 0) := fun d ho hb => by
  have hd := isG_of ho hb
  rw [GI_is h hi he hd] at hc
  have hn := may_nums hd.2.1
  simp only [] at hc
  rcases hc with hc | hc
  · exact hc trivial
  · have : i = 0 ∨ i = 1 ∨ i = 2 ∨ i = 3 := by omega
    rcases this with rfl | rfl | rfl | rfl
    · have hc : _ < d.Id := hc; omega
    · have hc : _ < d.Tier := hc; omega
    · have hc : _ < d.From := hc; omega
    · have hc : _ < d.To - d.From := hc; omega
theorem GI_step0 (h : GI b i at_ x0 x1 x2 x3) (hi : i = 0) {e : Nat} (he : e = b.length - 4) (hc : ¬ 1099511627776 < (get (b.take e) at_).1) : GI b (i + 1) (get (b.take e) at_).2.1 (get (b.take e) at_).1 x1 x2 x3 := by
  have hn := get_nn (b.take e) at_
  refine ⟨GI_at h he, ⟨by omega, h.2.1.2.1, h.2.1.2.2.1, h.2.1.2.2.2⟩, fun d hd => ?_⟩
  have h3 := h.2.2 d hd
  rw [GI_is h (by omega) he hd]
  subst hi
  exact ⟨rfl, fun _ => rfl, fun h => absurd h (by decide), fun h => absurd h (by decide), fun h => absurd h (by decide)⟩
theorem GI_step1 (h : GI b i at_ x0 x1 x2 x3) (hi : i = 1) {e : Nat} (he : e = b.length - 4) (hc : ¬ 1099511627776 < (get (b.take e) at_).1) : GI b (i + 1) (get (b.take e) at_).2.1 x0 (get (b.take e) at_).1 x2 x3 := by
  have hn := get_nn (b.take e) at_
  refine ⟨GI_at h he, ⟨h.2.1.1, by omega, h.2.1.2.2.1, h.2.1.2.2.2⟩, fun d hd => ?_⟩
  have h3 := h.2.2 d hd
  rw [GI_is h (by omega) he hd]
  subst hi
  exact ⟨rfl, fun _ => h3.2.1 (by decide), fun _ => rfl, fun h => absurd h (by decide), fun h => absurd h (by decide)⟩
theorem GI_step2 (h : GI b i at_ x0 x1 x2 x3) (hi : i = 2) {e : Nat} (he : e = b.length - 4) (hc : ¬ 1099511627776 < (get (b.take e) at_).1) : GI b (i + 1) (get (b.take e) at_).2.1 x0 x1 (get (b.take e) at_).1 x3 := by
  have hn := get_nn (b.take e) at_
  refine ⟨GI_at h he, ⟨h.2.1.1, h.2.1.2.1, by omega, h.2.1.2.2.2⟩, fun d hd => ?_⟩
  have h3 := h.2.2 d hd
  rw [GI_is h (by omega) he hd]
  subst hi
  exact ⟨rfl, fun _ => h3.2.1 (by decide), fun _ => h3.2.2.1 (by decide), fun _ => rfl, fun h => absurd h (by decide)⟩
theorem GI_step3 (h : GI b i at_ x0 x1 x2 x3) (hi : i = 3) {e : Nat} (he : e = b.length - 4) (hc : ¬ 1099511627776 < (get (b.take e) at_).1) : GI b (i + 1) (get (b.take e) at_).2.1 x0 x1 x2 (get (b.take e) at_).1 := by
  have hn := get_nn (b.take e) at_
  refine ⟨GI_at h he, ⟨h.2.1.1, h.2.1.2.1, h.2.1.2.2.1, by omega⟩, fun d hd => ?_⟩
  have h3 := h.2.2 d hd
  rw [GI_is h (by omega) he hd]
  subst hi
  exact ⟨rfl, fun _ => h3.2.1 (by decide), fun _ => h3.2.2.1 (by decide), fun _ => h3.2.2.2.1 (by decide), fun _ => rfl⟩
theorem GI_short (h : (b.length : Int) - 4 < 2) : ∀ d : SegD, d.ok → encG d ≠ (b, 0) := fun d ho hb => by
  have := isG_len (isG_of ho hb); omega
theorem GI_first (h1 : 2 ≤ b.length) (h : ¬ ((gd b 0).toNat : Int) = 84 ∨ ¬ ((gd b 1).toNat : Int) = 75) : ∀ d : SegD, d.ok → encG d ≠ (b, 0) := fun d ho hb => by
  have := isG_first (isG_of ho hb)
  rw [List.getD_eq_getElem?_getD, List.getD_eq_getElem?_getD, List.getElem?_eq_getElem (show 0 < b.length by omega), List.getElem?_eq_getElem (show 1 < b.length by omega)] at this
  rw [gd_eq (by omega), gd_eq (by omega)] at h
  have e0 : b[0]'(by omega) = 84 := this.1
  have e1 : b[1]'(by omega) = 75 := this.2
  rw [e0, e1] at h
  rcases h with h | h <;> exact h (by decide)
end
end Go.Proofs.YtgibfidebdgffaaDoor
end
