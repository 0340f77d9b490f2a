/- The walk by an environment that is a function: small rules, one for each kind of step, over any program. -/
import Derived.WalkKit
import Derived.WalkSpells
import Derived.WalkLawsBesides
import Derived.Scope
import Derived.Orders
namespace Go.Proofs.Ythanfecefjfbjaa
open Go.RowKit

abbrev Env := Nat → Value

def upd (ρ : Env) (k : Nat) (v : Value) : Env := fun i => bif Nat.beq i k then v else ρ i
def updO (ρ : Env) : Option Nat → Value → Env
  | none, _ => ρ
  | some k, v => upd ρ k v
def evE (ρ : Env) : Operand → Value
  | .tmp t => ρ t
  | .const v => v
  | .global g => .pointer (some ⟨g, 0, none⟩)
  | .func f => .func (.func f) #[] #[]

theorem upd_same (ρ : Env) (k : Nat) (v : Value) : upd ρ k v k = v := by simp [upd]
theorem upd_other (ρ : Env) {k i : Nat} (v : Value) (h : i ≠ k) : upd ρ k v i = ρ i := by
  have : Nat.beq i k = false := by rw [← Bool.not_eq_true]; simpa using h
  simp [upd, this]
theorem upd_self (ρ : Env) (k : Nat) (v : Value) (h : ρ k = v) : upd ρ k v = ρ := by
  funext i
  by_cases e : i = k
  · subst e; rw [upd_same, h]
  · rw [upd_other _ _ e]

structure At (a : Act) (n : Nat) (ρ : Env) : Prop where
  size : a.tmps.size = n
  defers : a.defers = []
  get : ∀ k, a.tmps.getD k undef = ρ k

theorem At.ev {a : Act} {n : Nat} {ρ : Env} (h : At a n ρ) : a.eval = evE ρ := by
  funext x
  cases x with
  | tmp t => exact h.get t
  | _ => rfl
theorem At.put {a : Act} {n : Nat} {ρ : Env} (h : At a n ρ) {d : Option Nat} (hd : d.all (· < n) = true) (v : Value) : At (a.put d v) n (updO ρ d v) := by
  cases d with
  | none => exact h
  | some k =>
    have hk : k < a.tmps.size := by rw [h.size]; simpa using hd
    refine ⟨by simp [Act.put, h.size], h.defers, fun i => ?_⟩
    have := h.get i
    simp only [Act.put, updO, Array.getD_eq_getD_getElem?] at this ⊢
    by_cases e : i = k
    · subst e; rw [upd_same, Array.getElem?_setIfInBounds_self_of_lt hk]; rfl
    · rw [upd_other _ _ e, Array.getElem?_setIfInBounds_ne (Ne.symm e)]; exact this

/-- One operation: it yields a value in a world. -/
def opUpon (P : Program) (K : Value → World → Prop) : Result Next → Prop
  | .ok (.value v) w' => K v w'
  | .ok .skip w' => K undef w'
  | .ok (.enter f args) w' => Calls P f args w' fun
      | .returned v, w'' => K v w''
      | _, _ => False
  | _ => False
def opE (P : Program) (o : Oper) (ρ : Env) (w : World) (K : Value → World → Prop) : Prop := opUpon P K ((execOp (evE ρ) o).run P w)

theorem opUpon_mono {P : Program} {K K' : Value → World → Prop} (h : ∀ v w, K v w → K' v w) : ∀ r, opUpon P K r → opUpon P K' r
  | .ok (.value v) w', hk => h _ _ hk
  | .ok .skip w', hk => h _ _ hk
  | .ok (.enter f args) w', hk => Calls.mono hk fun e w'' he => by
      cases e with
      | returned v => exact h _ _ he
      | _ => exact he
theorem opE_mono {P : Program} {o : Oper} {ρ : Env} {w : World} {K K' : Value → World → Prop} (h : ∀ v w, K v w → K' v w) (hk : opE P o ρ w K) : opE P o ρ w K' := opUpon_mono h _ hk

theorem opE_wp {P : Program} {o : Oper} {a : Act} {n : Nat} {ρ : Env} {w : World} {K : Value → World → Prop} {next : Act → World → Prop} {Q : Exit → Act → World → Prop}
    (ha : At a n ρ) (h : opE P o ρ w K) (hn : ∀ v w', K v w' → next (a.put o.dst v) w') : o.wp P a w next Q := by
  unfold Oper.wp
  unfold opE at h
  rw [ha.ev]
  generalize (execOp (evE ρ) o).run P w = r at h
  cases r with
  | halt x w' => exact h.elim
  | ok x w' =>
    cases x with
    | value v => exact hn _ _ h
    | skip => exact hn _ _ h
    | enter f args =>
      refine Calls.mono (P := P) h fun e w'' he => ?_
      cases e with
      | returned v => exact hn _ _ he
      | _ => exact he.elim
    | _ => exact h.elim

/-- Which slot an operation of the region writes. -/
def dstOf (ops : Array Oper) (j : Nat) : Option Nat := (ops[j]?).bind (·.dst)
def guardE (ops : Array Oper) (ρ : Env) (o : Oper) : Bool :=
  match o.guard with
  | none => true
  | some (j, want) => match dstOf ops j with
    | some d => (match ρ d with | .bool b => b == want | _ => false)
    | none => false
theorem guardE_wanted {ops : Array Oper} {a : Act} {n : Nat} {ρ : Env} (ha : At a n ρ) (hd : ops.all (fun o => o.dst.all (· < n)) = true) (o : Oper) :
    Region.wanted o (yielded ops a.tmps) = guardE ops ρ o := by
  unfold Region.wanted guardE
  cases hg : o.guard with
  | none => rfl
  | some p =>
    obtain ⟨j, want⟩ := p
    simp only [dstOf, yielded]
    cases hj : (ops[j]?).bind (·.dst) with
    | none => simp
    | some d =>
      simp only [Option.bind_some]
      have hdn : d < n := by
        cases ho : ops[j]? with
        | none => rw [ho] at hj; cases hj
        | some o' =>
          rw [ho] at hj
          simp only [Option.bind_some] at hj
          have hm : o' ∈ ops := Array.mem_of_getElem? ho
          have := Array.all_eq_true'.1 hd o' hm
          rw [hj] at this
          simpa using this
      have hs : d < a.tmps.size := by rw [ha.size]; exact hdn
      have hget := ha.get d
      rw [Array.getD_eq_getD_getElem?, Array.getElem?_eq_getElem hs] at hget
      simp only [Option.getD_some] at hget
      rw [Array.getElem?_eq_getElem hs, hget]
      cases ρ d <;> simp

/-- The operations of a region one behind the other. -/
def seqE (P : Program) (ops : Array Oper) : List Oper → Env → World → (Env → World → Prop) → Prop
  | [], ρ, w, K => K ρ w
  | o :: l, ρ, w, K => if guardE ops ρ o then opE P o ρ w (fun v w' => seqE P ops l (updO ρ o.dst v) w' K) else seqE P ops l (updO ρ o.dst undef) w K

theorem seqE_wp {P : Program} {ops : Array Oper} {n : Nat} {Q : Exit → Act → World → Prop} {K : Env → World → Prop} (hd : ops.all (fun o => o.dst.all (· < n)) = true)
    (hK : ∀ a ρ w, At a n ρ → K ρ w → Q .normal a w) : ∀ (l : List Oper), (∀ o ∈ l, o ∈ ops) → ∀ (a : Act) (ρ : Env) (w : World), At a n ρ → seqE P ops l ρ w K → wpList P ops Q l a w
  | [], _, a, ρ, w, ha, h => hK a ρ w ha h
  | o :: l, hl, a, ρ, w, ha, h => by
    have hod : o.dst.all (· < n) = true := Array.all_eq_true'.1 hd o (hl o (by simp))
    unfold wpList
    unfold seqE at h
    rw [guardE_wanted ha hd o]
    split
    · rename_i hg
      rw [if_pos hg] at h
      exact .inl (opE_wp ha h fun v w' hv => seqE_wp hd hK l (fun x hx => hl x (by simp [hx])) _ _ _ (ha.put hod v) hv)
    · rename_i hg
      rw [if_neg hg] at h
      exact seqE_wp hd hK l (fun x hx => hl x (by simp [hx])) _ _ _ (ha.put hod undef) h

/-- A piece of code, over environments. -/
def cE (P : Program) (n : Nat) (c : Code) (Q : Exit → Env → World → Prop) (ρ : Env) (w : World) : Prop :=
  ∀ a, At a n ρ → c.wp P (fun e a' w' => ∃ ρ', At a' n ρ' ∧ Q e ρ' w') a w

section
variable {P : Program} {n : Nat} {Q : Exit → Env → World → Prop} {ρ : Env} {w : World}
theorem cE_mono {c : Code} {Q' : Exit → Env → World → Prop} (hq : ∀ e ρ w, Q e ρ w → Q' e ρ w) (h : cE P n c Q ρ w) : cE P n c Q' ρ w :=
  fun a ha => wp_mono (h a ha) fun _ _ _ ⟨ρ', hx, hy⟩ => ⟨ρ', hx, hq _ _ _ hy⟩
def thenE (next : Env → World → Prop) (Q : Exit → Env → World → Prop) : Exit → Env → World → Prop
  | .normal, ρ, w => next ρ w
  | e, ρ, w => Q e ρ w
def blockE (id : Nat) (Q : Exit → Env → World → Prop) : Exit → Env → World → Prop
  | .exit id', ρ, w => if id' = id then Q .normal ρ w else Q (.exit id') ρ w
  | e, ρ, w => Q e ρ w
def scopeE (Q : Exit → Env → World → Prop) : Exit → Env → World → Prop
  | .goto _, _, _ => False
  | e, ρ, w => Q e ρ w
theorem cE_skip (h : Q .normal ρ w) : cE P n .skip Q ρ w := fun _ ha => wp_skip ⟨ρ, ha, h⟩
theorem cE_label {l : Nat} (h : Q .normal ρ w) : cE P n (.label l) Q ρ w := fun _ ha => wp_label ⟨ρ, ha, h⟩
theorem cE_ret (h : Q .ret ρ w) : cE P n .ret Q ρ w := fun _ ha => wp_ret ⟨ρ, ha, h⟩
theorem cE_exit {id : Nat} (h : Q (.exit id) ρ w) : cE P n (.exit id) Q ρ w := fun _ ha => wp_exit ⟨ρ, ha, h⟩
theorem cE_seq {x y : Code} (h : cE P n x (thenE (cE P n y Q) Q) ρ w) : cE P n (.seq x y) Q ρ w := fun a ha =>
  wp_seq (wp_mono (h a ha) fun e a' w' ⟨ρ', h1, h2⟩ => by
    cases e with
    | normal => exact h2 a' h1
    | _ => exact ⟨ρ', h1, h2⟩)
theorem cE_cond {c : Operand} {x y : Code} (b : Bool) (hc : evE ρ c = .bool b) (ht : b = true → cE P n x Q ρ w) (hf : b = false → cE P n y Q ρ w) : cE P n (.cond c x y) Q ρ w := fun a ha =>
  wp_cond_split (t := b) (by rw [ha.ev]; exact hc) (fun e => ht e a ha) (fun e => hf e a ha)
theorem cE_block {id : Nat} {c : Code} (h : cE P n c (blockE id Q) ρ w) : cE P n (.block id c) Q ρ w := fun a ha =>
  wp_block (wp_mono (h a ha) fun e a' w' ⟨ρ', h1, h2⟩ => by
    cases e with
    | exit id' =>
      simp only [blockE, Exit.inBlock] at h2 ⊢
      split
      · rename_i e; rw [if_pos e] at h2; exact ⟨ρ', h1, h2⟩
      · rename_i e; rw [if_neg e] at h2; exact ⟨ρ', h1, h2⟩
    | _ => exact ⟨ρ', h1, h2⟩)
theorem cE_scope {c : Code} (h : cE P n c (scopeE Q) ρ w) : cE P n (.scope c) Q ρ w := fun a ha =>
  wp_scope_straight (wp_mono (h a ha) fun e a' w' ⟨ρ', h1, h2⟩ => by
    cases e with
    | goto l => exact h2.elim
    | _ => exact ⟨ρ', h1, h2⟩)
theorem cE_loop {c : Code} {G : Type} (I : G → Env → World → Prop) (μ : G → Nat) (g : G) (h0 : I g ρ w)
    (round : ∀ g ρ w, I g ρ w → cE P n c (thenE (fun ρ' w' => ∃ g', I g' ρ' w' ∧ μ g' < μ g) Q) ρ w) : cE P n (.loop c) Q ρ w := by
  intro a ha b k cs
  have key : ∀ (m : Nat) (g : G) (a : Act) (ρ : Env) (w : World), μ g = m → At a n ρ → I g ρ w →
      ∃ e a' w', (∃ ρ', At a' n ρ' ∧ Q e ρ' w') ∧ Arrives P (lone (b.at a (.code c :: .inLoop c :: k)) cs w) b k cs e a' w' := by
    intro m
    induction m using Nat.strongRecOn with
    | _ m ih =>
      intro g a ρ w hm ha hI
      obtain ⟨e, a₁, w₁, ⟨ρ₁, h1, h2⟩, harr⟩ := round g ρ w hI a ha b (.inLoop c :: k) cs
      cases e with
      | normal =>
        obtain ⟨g', hI', hlt⟩ := h2
        obtain ⟨e₂, a₂, w₂, hq₂, harr₂⟩ := ih (μ g') (hm ▸ hlt) g' a₁ ρ₁ w₁ rfl h1 hI'
        exact ⟨e₂, a₂, w₂, hq₂, .of_steps (Steps.trans harr (.one step_inLoop)) harr₂⟩
      | exit id => exact ⟨_, a₁, w₁, ⟨ρ₁, h1, h2⟩, .pass (x := .inLoop c) rfl (fun _ _ => .inl (by simp)) harr⟩
      | goto l => exact ⟨_, a₁, w₁, ⟨ρ₁, h1, h2⟩, .pass (x := .inLoop c) rfl (fun _ _ => .inl (by simp)) harr⟩
      | ret => exact ⟨_, a₁, w₁, ⟨ρ₁, h1, h2⟩, .pass (x := .inLoop c) rfl (fun _ _ => .inl (by simp)) harr⟩
      | panic ch => exact ⟨_, a₁, w₁, ⟨ρ₁, h1, h2⟩, .pass (x := .inLoop c) rfl (fun _ _ => .inl (by simp)) harr⟩
      | outgrown => exact ⟨_, a₁, w₁, ⟨ρ₁, h1, h2⟩, .pass (x := .inLoop c) rfl (fun _ _ => .inl (by simp)) harr⟩
  obtain ⟨e, a', w', hq, harr⟩ := key _ g a ρ w rfl ha h0
  exact ⟨e, a', w', hq, .of_steps (.one step_loop) harr⟩
def dstOk (n : Nat) : List Oper → Bool
  | [] => true
  | o :: l => (match o.dst with | some d => Nat.blt d n | none => true) && dstOk n l
theorem dstOk_all : ∀ {l : List Oper}, dstOk n l = true → l.toArray.all (fun o => o.dst.all (· < n)) = true := by
  intro l
  induction l with
  | nil => intro _; simp
  | cons o l ih =>
    intro h
    simp only [dstOk, Bool.and_eq_true] at h
    have h2 := ih h.2
    simp only [List.all_toArray, List.all_cons, Bool.and_eq_true] at h2 ⊢
    refine ⟨?_, h2⟩
    cases hd : o.dst with
    | none => rfl
    | some d => rw [hd] at h; simpa [Nat.blt_eq] using h.1
theorem cE_region {id : Nat} {l : List Oper} (hd : dstOk n l = true) (h : seqE P l.toArray l ρ w (Q .normal)) : cE P n (.region id l.toArray false) Q ρ w :=
  fun a ha => wp_region_list (seqE_wp (dstOk_all hd) (fun a ρ w ha hk => ⟨ρ, ha, hk⟩) l.toArray.toList (fun o ho => by simpa using ho) a ρ w ha (by simpa using h))
/-! How an exit goes on. -/
theorem then_n {next : Env → World → Prop} (h : next ρ w) : thenE next Q .normal ρ w := h
theorem then_x {next : Env → World → Prop} {id : Nat} (h : Q (.exit id) ρ w) : thenE next Q (.exit id) ρ w := h
theorem then_r {next : Env → World → Prop} (h : Q .ret ρ w) : thenE next Q .ret ρ w := h
theorem block_n {id : Nat} (h : Q .normal ρ w) : blockE id Q .normal ρ w := h
theorem block_r {id : Nat} (h : Q .ret ρ w) : blockE id Q .ret ρ w := h
theorem block_hit {id : Nat} (h : Q .normal ρ w) : blockE id Q (.exit id) ρ w := by
  show (if id = id then Q .normal ρ w else Q (.exit id) ρ w)
  rw [if_pos rfl]; exact h
theorem block_miss {id id' : Nat} (hne : id' ≠ id) (h : Q (.exit id') ρ w) : blockE id Q (.exit id') ρ w := by
  show (if id' = id then Q .normal ρ w else Q (.exit id') ρ w)
  rw [if_neg hne]; exact h
theorem scope_n (h : Q .normal ρ w) : scopeE Q .normal ρ w := h
theorem scope_r (h : Q .ret ρ w) : scopeE Q .ret ρ w := h
theorem scope_x {id : Nat} (h : Q (.exit id) ρ w) : scopeE Q (.exit id) ρ w := h
end

/-- What a function hands back, by its slots. -/
def resV (ρ : Env) : List Nat → Value
  | [t] => ρ t
  | l => .tuple (l.map ρ).toArray
def postE (ts : List Nat) (R : Ending → World → Prop) : Exit → Env → World → Prop
  | .normal, ρ, w | .ret, ρ, w => R (.returned (resV ρ ts)) w
  | _, _, _ => False

theorem post_r {ρ : Env} {w : World} {ts : List Nat} {R : Ending → World → Prop} (v : Value) (hv : resV ρ ts = v) (h : R (.returned v) w) : postE ts R .ret ρ w := by subst hv; exact h
theorem post_n {ρ : Env} {w : World} {ts : List Nat} {R : Ending → World → Prop} (v : Value) (hv : resV ρ ts = v) (h : R (.returned v) w) : postE ts R .normal ρ w := by subst hv; exact h
theorem res1 {ρ : Env} {t : Nat} {v : Value} (h : ρ t = v) : resV ρ [t] = v := h
theorem res2 {ρ : Env} {t u : Nat} {v x : Value} (h : ρ t = v) (h2 : ρ u = x) : resV ρ [t, u] = .tuple #[v, x] := by simp [resV, h, h2]
theorem res3 {ρ : Env} {t u s : Nat} {v x y : Value} (h : ρ t = v) (h2 : ρ u = x) (h3 : ρ s = y) : resV ρ [t, u, s] = .tuple #[v, x, y] := by simp [resV, h, h2, h3]
theorem run_results {fn : Func} {ts : List Nat} {ρ : Env} (h : fn.results = (ts.map ResultVar.tmp).toArray) (tmps : Array Value) (P : Program) (w : World) (hρ : ∀ k, tmps.getD k undef = ρ k) :
    (results fn tmps).run P w = .ok (resV ρ ts) w := by
  have hm : ∀ (f : ResultVar → Sem Value), (∀ t, (f (.tmp t)).run P w = .ok (ρ t) w) → ∀ (l : List Nat), ((l.map ResultVar.tmp).mapM f).run P w = .ok (l.map ρ) w := by
    intro f hf l
    induction l with
    | nil => rfl
    | cons t l ih =>
      rw [List.map_cons, List.mapM_cons]
      simp only [Sem.run_bind, Sem.run_pure, ih, hf, Result.andThen_ok, List.map_cons]
  unfold results
  rw [h, List.mapM_toArray]
  simp only [Sem.run_bind, Sem.run_map]
  rw [hm _ (fun t => by simp only [Sem.run_pure, hρ]) ts]
  simp only [Result.andThen_ok, Sem.run_pure]
  cases ts with
  | nil => rfl
  | cons t l => cases l with
    | nil => rfl
    | cons u l => simp [resV]

theorem calls_E {P : Program} {f : FuncId} {fn : Func} {c : Code} {args : Array Value} {w : World} {R : Ending → World → Prop} {n : Nat} {ts : List Nat}
    (hf : P.funcs[f]? = some fn) (hb : fn.body = some c) (hn : fn.ntmps = n) (hr : fn.results = (ts.map ResultVar.tmp).toArray) (hs : args.size ≤ n)
    (h : cE P n c (postE ts R) (fun k => args.getD k undef) w) : Calls P f args w R := by
  refine calls_of_wp hf hb (wp_mono (h _ ⟨by simp; omega, rfl, fun k => ?_⟩) fun e a' w' ⟨ρ', h1, h2⟩ => ?_)
  · simp only [Array.getD_eq_getD_getElem?, Array.getElem?_append]
    split
    · rfl
    · rename_i hk
      rw [Array.getElem?_eq_none (xs := args) (by omega), Array.getElem?_replicate]
      split <;> rfl
  · have hres := run_results hr a'.tmps P w' h1.get
    cases e with
    | normal => exact ⟨h1.defers, _, hres, h2⟩
    | ret => exact ⟨h1.defers, _, hres, h2⟩
    | _ => exact h2.elim

theorem cE_join {P : Program} {n : Nat} {ρ : Env} {w : World} {x : Code} {K : Exit → Env → World → Prop} (R : Env → World → Prop) (h : cE P n x (fun e ρ' w' => e = .normal ∧ R ρ' w') ρ w) (hk : ∀ ρ' w', R ρ' w' → K .normal ρ' w') : cE P n x K ρ w :=
  cE_mono (fun e ρ' w' h => by obtain ⟨rfl, hr⟩ := h; exact hk ρ' w' hr) h
end Go.Proofs.Ythanfecefjfbjaa
