/- A region that draws its order: one obligation an operation, whatever the order. -/
import Derived.Test.YthanfecefjfbjaaV
namespace Go.Proofs.Ythanfecefjfbjaa
open Go.RowKit

def edgesTo (ops : Array Oper) (i j : Nat) : Bool :=
  match ops[i]? with
  | some o => o.after.any fun e => e.on == j && Region.binds .any e
  | none => false
def factsE (R : Nat → Value → World → Prop) (ρ ρ' : Env) (w' : World) : List (Nat × Option Nat) → Prop
  | [] => True
  | (t, some j) :: r => R j (ρ' t) w' ∧ factsE R ρ ρ' w' r
  | (t, none) :: r => ρ' t = ρ t ∧ factsE R ρ ρ' w' r
def goE (P : Program) (ops : Array Oper) (o : Oper) (ρ : Env) (w : World) (K : Value → World → Prop) : Prop :=
  if guardE ops ρ o then opE P o ρ w K else K undef w
/-- J: the worlds that the region may meet; T: how a world may turn while it runs. -/
def oblG (P : Program) (ops : Array Oper) (ρ : Env) (J : World → Prop) (T : World → World → Prop) (R : Nat → Value → World → Prop) : Nat → List Oper → List (List (Nat × Option Nat)) → Prop
  | i, o :: l, f :: fs => (∀ ρ' w', J w' → factsE R ρ ρ' w' f → goE P ops o ρ' w' (fun v w'' => J w'' ∧ T w' w'' ∧ R i v w'')) ∧ oblG P ops ρ J T R (i + 1) l fs
  | _, _, _ => True
/-- Where each looked-at slot comes from: from an operation that stands before this one in every order, or from what the region found. -/
def rgOne (ops : Array Oper) (i : Nat) (p : Nat × Option Nat) : Bool :=
  match p.2 with
  | some j => dstOf ops j == some p.1 && edgesTo ops i j
  | none => (List.range ops.size).all fun j => dstOf ops j != some p.1 || j == i || edgesTo ops j i
def rgCheck (ops : Array Oper) (F : List (List (Nat × Option Nat))) : Bool :=
  F.length == ops.size &&
  ((List.range ops.size).all fun i => (F.getD i []).all (rgOne ops i)) &&
  ((List.range ops.size).all fun i => (List.range ops.size).all fun j => !edgesTo ops i j || Nat.blt j i) &&
  ((List.range ops.size).all fun i => ((ops[i]?).map (fun o => o.after.all fun e => !Region.binds .any e || Nat.blt e.on i)).getD true) &&
  ((List.range ops.size).all fun i => (List.range ops.size).all fun j => i == j || dstOf ops i == none || dstOf ops i != dstOf ops j)

theorem oblG_at {P : Program} {ops : Array Oper} {ρ : Env} {J : World → Prop} {T : World → World → Prop} {R : Nat → Value → World → Prop} : ∀ (l : List Oper) (fs : List (List (Nat × Option Nat))) (k : Nat), oblG P ops ρ J T R k l fs → l.length = fs.length →
    ∀ (i : Nat) (o : Oper), l[i]? = some o → ∀ ρ' w', J w' → factsE R ρ ρ' w' (fs.getD i []) → goE P ops o ρ' w' (fun v w'' => J w'' ∧ T w' w'' ∧ R (k + i) v w'')
  | [], _, _, _, _, i, o, ho, _, _, _, _ => by simp at ho
  | x :: l, [], _, _, hl, _, _, _, _, _, _, _ => by simp at hl
  | x :: l, f :: fs, k, h, hl, 0, o, ho, ρ', w', hb, hf => by
    simp only [List.getElem?_cons_zero, Option.some.injEq] at ho
    subst ho
    exact h.1 ρ' w' hb hf
  | x :: l, f :: fs, k, h, hl, i + 1, o, ho, ρ', w', hb, hf => by
    have := oblG_at l fs (k + 1) h.2 (by simpa using hl) i o (by simpa using ho) ρ' w' hb (by simpa using hf)
    rw [Nat.add_assoc, Nat.add_comm 1 i] at this
    exact this

structure RgInv (ops : Array Oper) (n : Nat) (ρ : Env) (J : World → Prop) (R : Nat → Value → World → Prop) (listed : Array Bool) (a : Act) (w' : World) (ρ' : Env) : Prop where
  act : At a n ρ'
  ext : J w'
  size : listed.size = ops.size
  done : ∀ j d, listed.getD j false = true → dstOf ops j = some d → R j (ρ' d) w'
  rest : ∀ t, (∀ j, dstOf ops j = some t → listed.getD j false = false) → ρ' t = ρ t
  closed : ∀ j, listed.getD j false = true → ∀ i, edgesTo ops j i = true → listed.getD i false = true

def cntF (l : Array Bool) : Nat := l.toList.count false
theorem cntF_set {l : Array Bool} {i : Nat} (hi : l.getD i true = false) : cntF (l.setIfInBounds i true) + 1 = cntF l := by
  have hlt : i < l.size := by
    rcases Nat.lt_or_ge i l.size with h | h
    · exact h
    · simp [Array.getD_eq_getD_getElem?, Array.getElem?_eq_none h] at hi
  have hg : l.toList[i]'(by simpa using hlt) = false := by
    simp only [Array.getD_eq_getD_getElem?, Array.getElem?_eq_getElem hlt, Option.getD_some] at hi
    simpa using hi
  unfold cntF
  rw [Array.toList_setIfInBounds]
  have h1 := List.count_set (l := l.toList) (i := i) (a := true) (b := false) (by simpa using hlt)
  have hpos : 0 < l.toList.count false := List.count_pos_iff.2 (by rw [← hg]; exact List.getElem_mem _)
  rw [hg] at h1
  simp only [beq_self_eq_true, if_true] at h1
  rw [h1, show (if (true == false) = true then 1 else 0 : Nat) = 0 from by decide]
  omega

theorem getD_tf {l : Array Bool} {i : Nat} (h : l.getD i true = false) : l.getD i false = false := by
  simp only [Array.getD_eq_getD_getElem?] at h ⊢
  cases hh : l[i]? with
  | none => rfl
  | some b => rw [hh] at h; simpa using h
theorem getD_set {l : Array Bool} {i j : Nat} (hi : l.getD i true = false) : (l.setIfInBounds i true).getD j false = if i = j then true else l.getD j false := by
  have hlt : i < l.size := by
    rcases Nat.lt_or_ge i l.size with h | h
    · exact h
    · simp [Array.getD_eq_getD_getElem?, Array.getElem?_eq_none h] at hi
  simp only [Array.getD_eq_getD_getElem?, Array.getElem?_setIfInBounds]
  split
  · rename_i e; subst e; simp
  · rfl

section
variable {P : Program} {ops : Array Oper} {n : Nat} {ρ : Env} {w : World} {J : World → Prop} {T : World → World → Prop} {R : Nat → Value → World → Prop} {F : List (List (Nat × Option Nat))} {Q : Exit → Act → World → Prop}

theorem rg_facts (hone : ∀ i, i < ops.size → ∀ p ∈ F.getD i [], rgOne ops i p = true) {listed : Array Bool} {a : Act} {w' : World} {ρ' : Env} (inv : RgInv ops n ρ J R listed a w' ρ') {i : Nat} (hi : i < ops.size) (hun : listed.getD i false = false)
    (hall : ∀ j, edgesTo ops i j = true → listed.getD j false = true) : factsE R ρ ρ' w' (F.getD i []) := by
  have h := hone i hi
  generalize F.getD i [] = f at h
  induction f with
  | nil => trivial
  | cons p r ih =>
    obtain ⟨t, s⟩ := p
    have hp := h (t, s) (by simp)
    have hr := ih fun p hp => h p (by simp [hp])
    cases s with
    | some j =>
      simp only [rgOne, Bool.and_eq_true, beq_iff_eq] at hp
      exact ⟨inv.done j t (hall j hp.2) hp.1, hr⟩
    | none =>
      refine ⟨inv.rest t fun j hj => ?_, hr⟩
      simp only [rgOne, List.all_eq_true, List.mem_range, Bool.or_eq_true, bne_iff_ne, beq_iff_eq] at hp
      have hjs : j < ops.size := by
        rcases Nat.lt_or_ge j ops.size with h | h
        · exact h
        · simp [dstOf, Array.getElem?_eq_none h] at hj
      rcases hp j hjs with (h1 | h1) | h1
      · exact absurd hj h1
      · rw [h1]; exact hun
      · rcases hb : listed.getD j false with _ | _
        · rfl
        · have := inv.closed j hb i h1
          rw [hun] at this; cases this

theorem rg_sound (hd : ops.all (fun o => o.dst.all (· < n)) = true) (hck : rgCheck ops F = true) (hR : ∀ i v w' w'', R i v w' → T w' w'' → R i v w'') (hop : oblG P ops ρ J T R 0 ops.toList F)
    (hQ : ∀ a w' ρ', At a n ρ' → J w' → (∀ i d, dstOf ops i = some d → R i (ρ' d) w') → (∀ t, (∀ j, dstOf ops j ≠ some t) → ρ' t = ρ t) → Q .normal a w') :
    ∀ (fuel : Nat) (listed : Array Bool) (a : Act) (w' : World) (ρ' : Env), cntF listed = fuel → RgInv ops n ρ J R listed a w' ρ' → wpAny P .any ops Q fuel listed a w' := by
  simp only [rgCheck, Bool.and_eq_true, List.all_eq_true, List.mem_range, beq_iff_eq] at hck
  obtain ⟨⟨⟨⟨hlen, hone⟩, _⟩, hdown⟩, hdst⟩ := hck
  have hready : ∀ (listed : Array Bool) (i : Nat), i ∈ Region.ready .any ops listed ↔ i < ops.size ∧ listed.getD i true = false ∧ ∃ o, ops[i]? = some o ∧ ∀ e ∈ o.after, Region.binds .any e = true → listed.getD e.on false = true := by
    intro listed i
    unfold Region.ready
    rw [List.mem_filter, List.mem_range]
    constructor
    · rintro ⟨h1, h2⟩
      rw [Bool.and_eq_true] at h2
      refine ⟨h1, by simpa using h2.1, ops[i], Array.getElem?_eq_getElem h1, fun e he hb => ?_⟩
      have := h2.2
      rw [Array.getElem?_eq_getElem h1] at this
      simp only [Option.map_some, Option.getD_some] at this
      have := Array.all_eq_true'.1 this e he
      simpa [hb] using this
    · rintro ⟨h1, h2, o, ho, h3⟩
      refine ⟨h1, ?_⟩
      rw [Bool.and_eq_true]
      refine ⟨by simp [h2], ?_⟩
      rw [ho]
      simp only [Option.map_some, Option.getD_some]
      exact Array.all_eq_true'.2 fun e he => by
        cases hb : Region.binds .any e with
        | false => simp
        | true => simpa using h3 e he hb
  have allListed : ∀ listed : Array Bool, listed.size = ops.size → cntF listed = 0 → ∀ j, j < ops.size → listed.getD j false = true := by
    intro listed hs hc j hj
    have hlt : j < listed.size := by omega
    have hno : false ∉ listed.toList := List.count_eq_zero.1 hc
    rw [Array.getD_eq_getD_getElem?, Array.getElem?_eq_getElem hlt, Option.getD_some]
    cases hb : listed[j] with
    | true => rfl
    | false => exact absurd (by rw [← hb]; simp) hno
  have fin : ∀ listed a w' ρ', RgInv ops n ρ J R listed a w' ρ' → cntF listed = 0 → Q .normal a w' := by
    intro listed a w' ρ' inv hc
    have hall := allListed listed inv.size hc
    refine hQ a w' ρ' inv.act inv.ext (fun i d hi => inv.done i d (hall i ?_) hi) fun t ht => inv.rest t fun j hj => absurd hj (ht j)
    rcases Nat.lt_or_ge i ops.size with h | h
    · exact h
    · simp [dstOf, Array.getElem?_eq_none h] at hi
  intro fuel
  induction fuel with
  | zero =>
    intro listed a w' ρ' hc inv
    refine ⟨?_, fin listed a w' ρ' inv hc⟩
    apply List.eq_nil_iff_forall_not_mem.2
    intro i hi
    obtain ⟨h1, h2, _⟩ := (hready listed i).1 hi
    have := allListed listed inv.size hc i h1
    rw [getD_tf h2] at this; cases this
  | succ fuel ih =>
    intro listed a w' ρ' hc inv
    refine ⟨fun hnil => ?_, fun i hi => ?_⟩
    · exfalso
      -- the first one that is not listed is ready
      have hex : ∃ i, i < ops.size ∧ listed.getD i true = false := by
        have hpos : 0 < listed.toList.count false := by unfold cntF at hc; omega
        obtain ⟨i, hi, he⟩ := List.mem_iff_getElem.1 (List.count_pos_iff.1 hpos)
        have hlt : i < listed.size := by simpa using hi
        refine ⟨i, by rw [← inv.size]; exact hlt, ?_⟩
        rw [Array.getD_eq_getD_getElem?, Array.getElem?_eq_getElem hlt, Option.getD_some]
        simpa using he
      have hmin : ∃ i, (i < ops.size ∧ listed.getD i true = false) ∧ ∀ j, j < i → listed.getD j true = true := by
        obtain ⟨i, hi⟩ := hex
        induction i using Nat.strongRecOn with
        | _ i ihh =>
          by_cases hj : ∃ j, j < i ∧ listed.getD j true = false
          · obtain ⟨j, h1, h2⟩ := hj
            exact ihh j h1 ⟨by omega, h2⟩
          · refine ⟨i, hi, fun j hji => ?_⟩
            cases hb : listed.getD j true with
            | true => rfl
            | false => exact absurd ⟨j, hji, hb⟩ hj
      obtain ⟨i, ⟨h1, h2⟩, h3⟩ := hmin
      have hmem : i ∈ Region.ready .any ops listed := by
        refine (hready listed i).2 ⟨h1, h2, ops[i], Array.getElem?_eq_getElem h1, fun e he hb => ?_⟩
        have hde := hdown i h1
        rw [Array.getElem?_eq_getElem h1] at hde
        simp only [Option.map_some, Option.getD_some] at hde
        have hlt := Array.all_eq_true'.1 hde e he
        simp only [hb, Bool.not_true, Bool.false_or] at hlt
        have hlt' : e.on < i := by simpa [Nat.blt_eq] using hlt
        have h4 := h3 e.on hlt'
        have hsz : e.on < listed.size := by rw [inv.size]; omega
        rw [Array.getD_eq_getD_getElem?, Array.getElem?_eq_getElem hsz, Option.getD_some] at h4 ⊢
        exact h4
      rw [hnil] at hmem; cases hmem
    · obtain ⟨h1, h2, o, ho, h3⟩ := (hready listed i).1 hi
      have hun := getD_tf h2
      have hall : ∀ j, edgesTo ops i j = true → listed.getD j false = true := by
        intro j hj
        simp only [edgesTo, ho] at hj
        obtain ⟨e, he, hb⟩ := Array.any_eq_true'.1 hj
        simp only [Bool.and_eq_true, beq_iff_eq] at hb
        rw [← hb.1]; exact h3 e he hb.2
      have hf := rg_facts (fun i hi p hp => hone i hi p hp) inv h1 hun hall
      have hgo := oblG_at ops.toList F 0 hop (by simpa using hlen.symm) i o (by simpa using ho) ρ' w' inv.ext hf
      rw [Nat.zero_add] at hgo
      have hod : o.dst.all (· < n) = true := Array.all_eq_true'.1 hd o (Array.mem_of_getElem? ho)
      have hdi : dstOf ops i = o.dst := by simp [dstOf, ho]
      have next : ∀ v w'', J w'' ∧ T w' w'' ∧ R i v w'' → wpAny P .any ops Q fuel (listed.setIfInBounds i true) (a.put o.dst v) w'' := by
        rintro v w'' ⟨hj', hb, hr⟩
        refine ih _ _ _ (updO ρ' o.dst v) (by have := cntF_set h2; omega) ⟨inv.act.put hod v, hj', by simpa using inv.size, fun j d hj hjd => ?_, fun t ht => ?_, fun j hj k hk => ?_⟩
        · rw [getD_set h2] at hj
          by_cases e : i = j
          · subst e
            rw [hdi] at hjd
            rw [hjd]
            simp only [updO, upd_same]
            exact hr
          · rw [if_neg e] at hj
            have hold := hR _ _ _ _ (inv.done j d hj hjd) hb
            have hne : o.dst ≠ some d := by
              intro e'
              have hjs : j < ops.size := by
                rcases Nat.lt_or_ge j ops.size with h | h
                · exact h
                · simp [dstOf, Array.getElem?_eq_none h] at hjd
              have := hdst i h1 j hjs
              simp [hdi, e', hjd, e] at this
            cases hdd : o.dst with
            | none => exact hold
            | some k =>
              simp only [updO]
              rw [upd_other _ _ (by rintro rfl; exact hne hdd)]
              exact hold
        · have hti : o.dst ≠ some t := by
            intro e
            have := ht i (by rw [hdi]; exact e)
            rw [getD_set h2, if_pos rfl] at this; cases this
          have : ρ' t = ρ t := inv.rest t fun j hj => by
            have := ht j hj
            rw [getD_set h2] at this
            split at this
            · cases this
            · exact this
          cases hdd : o.dst with
          | none => exact this
          | some k =>
            simp only [updO]
            rw [upd_other _ _ (by rintro rfl; exact hti hdd)]
            exact this
        · rw [getD_set h2] at hj ⊢
          split
          · rfl
          · by_cases e : i = j
            · subst e; exact hall k hk
            · rw [if_neg e] at hj; exact inv.closed j hj k hk
      unfold wpOp
      rw [ho]
      simp only
      rw [guardE_wanted inv.act hd o]
      unfold goE at hgo
      split
      · rename_i hg
        rw [if_pos hg] at hgo
        exact .inl (opE_wp inv.act hgo next)
      · rename_i hg
        rw [if_neg hg] at hgo
        exact next undef w' hgo

/-- A region that draws its order. -/
theorem cE_regionG {Q : Exit → Env → World → Prop} {id : Nat} {l : List Oper} (J : World → Prop) (T : World → World → Prop) (F : List (List (Nat × Option Nat))) (R : Nat → Value → World → Prop) (hm : P.follows .mixedOrders = true) (hd : dstOk n l = true)
    (hck : rgCheck l.toArray F = true) (hJ : J w.drew) (hR : ∀ i v w' w'', R i v w' → T w' w'' → R i v w'') (hop : oblG P l.toArray ρ J T R 0 l F)
    (hQ : ∀ ρ' w', J w' → (∀ i d, dstOf l.toArray i = some d → R i (ρ' d) w') → (∀ t, (∀ j, dstOf l.toArray j ≠ some t) → ρ' t = ρ t) → Q .normal ρ' w') : cE P n (.region id l.toArray true) Q ρ w := by
  intro a ha
  refine wp_region_any hm (rg_sound (dstOk_all hd) hck hR (by simpa using hop) (fun a w' ρ' h1 h2 h3 h4 => ⟨ρ', h1, hQ ρ' w' h2 h3 h4⟩) l.toArray.size _ a _ ρ (by simp [cntF]) ⟨ha, hJ, by simp, fun j d hj => ?_, fun t _ => rfl, fun j hj => ?_⟩)
  · exfalso
    rw [Array.getD_eq_getD_getElem?, Array.getElem?_replicate] at hj
    split at hj <;> simp at hj
  · exfalso
    rw [Array.getD_eq_getD_getElem?, Array.getElem?_replicate] at hj
    split at hj <;> simp at hj
def noDst (l : List Oper) (t : Nat) : Bool := l.all fun o => match o.dst with | some d => !Nat.beq d t | none => true
theorem noDst_spec {l : List Oper} {t : Nat} (h : noDst l t = true) (j : Nat) : dstOf l.toArray j ≠ some t := by
  intro e
  unfold dstOf at e
  cases ho : l.toArray[j]? with
  | none => rw [ho] at e; cases e
  | some o =>
    rw [ho] at e
    simp only [Option.bind_some] at e
    have hm : o ∈ l := List.mem_of_getElem? (by simpa using ho)
    have := List.all_eq_true.1 h o hm
    rw [e] at this
    simp at this
/-- The state of the call, while new things come. -/
def stJ (w0 w : World) (L : List Item) (w' : World) : Prop := Below w.heap.size w w' ∧ St w0 w' L
def extT (w' w'' : World) : Prop := Below w'.heap.size w' w''
/-- A region that draws its order, and writes to nothing that is there. -/
theorem cE_regionD {Q : Exit → Env → World → Prop} {id : Nat} {l : List Oper} {w0 : World} {L : List Item} (hst : St w0 w L) (F : List (List (Nat × Option Nat))) (R : Nat → Value → World → Prop) (hm : P.follows .mixedOrders = true) (hd : dstOk n l = true)
    (hck : rgCheck l.toArray F = true) (hR : ∀ i v w' w'', R i v w' → Below w'.heap.size w' w'' → R i v w'') (hop : oblG P l.toArray ρ (stJ w0 w L) extT R 0 l F)
    (hQ : ∀ ρ' w', Below w.heap.size w w' → St w0 w' L → (∀ i d, dstOf l.toArray i = some d → R i (ρ' d) w') → (∀ t, noDst l t = true → ρ' t = ρ t) → Q .normal ρ' w') : cE P n (.region id l.toArray true) Q ρ w :=
  cE_regionG (stJ w0 w L) extT F R hm hd hck ⟨(Below.refl _ _).drew, hst.drewW⟩ hR hop fun ρ' w' h h1 h2 => hQ ρ' w' h.1 h.2 h1 fun t ht => h2 t (noDst_spec ht)
/-- What is told of each operation's value, as a list. -/
def Rof (Rs : List (Value → World → Prop)) (i : Nat) (v : Value) (w : World) : Prop := (Rs.getD i (fun _ _ => True)) v w
def Stab (T : World → World → Prop) (p : Value → World → Prop) : Prop := ∀ v w' w'', p v w' → T w' w'' → p v w''
def stabL (T : World → World → Prop) : List (Value → World → Prop) → Prop
  | [] => True
  | p :: r => Stab T p ∧ stabL T r
theorem stabL_at {T : World → World → Prop} : ∀ {Rs : List (Value → World → Prop)}, stabL T Rs → ∀ i v w' w'', Rof Rs i v w' → T w' w'' → Rof Rs i v w''
  | [], _, i, v, w', w'', h, _ => by simp [Rof]
  | p :: r, h, 0, v, w', w'', hp, ht => h.1 v w' w'' hp ht
  | p :: r, h, i + 1, v, w', w'', hp, ht => stabL_at (Rs := r) h.2 i v w' w'' hp ht
def rEq (x : Value) : Value → World → Prop := fun v _ => v = x
def rSl {α : Type} (E : Enc α) (xs : List α) : Value → World → Prop := fun v w => Sl w E v xs
def rPt (cs : List Value) : Value → World → Prop := fun v w => ∃ b off, v = .pointer (some ⟨b, off, none⟩) ∧ Pt w b off cs
def rAny : Value → World → Prop := fun _ _ => True
theorem sEq {T : World → World → Prop} {x : Value} : Stab T (rEq x) := fun _ _ _ h _ => h
theorem sSl {α : Type} {E : Enc α} {xs : List α} : Stab extT (rSl E xs) := fun _ _ _ h hb => Sl.below h hb
theorem sPt {cs : List Value} : Stab extT (rPt cs) := fun _ _ _ ⟨b, off, h1, h2⟩ hb => ⟨b, off, h1, h2.below hb⟩
theorem sAny {T : World → World → Prop} : Stab T rAny := fun _ _ _ _ _ => trivial
/-- A region that draws its order, and writes to nothing that is there: by lists. -/
theorem cE_regionL {Q : Exit → Env → World → Prop} {id : Nat} {l : List Oper} {w0 : World} {L : List Item} (hst : St w0 w L) (F : List (List (Nat × Option Nat))) (Rs : List (Value → World → Prop)) (hm : P.follows .mixedOrders = true) (hd : dstOk n l = true)
    (hck : rgCheck l.toArray F = true) (hR : stabL extT Rs) (hop : oblG P l.toArray ρ (stJ w0 w L) extT (Rof Rs) 0 l F)
    (hQ : ∀ ρ' w', Below w.heap.size w w' → St w0 w' L → (∀ i d, dstOf l.toArray i = some d → Rof Rs i (ρ' d) w') → (∀ t, noDst l t = true → ρ' t = ρ t) → Q .normal ρ' w') : cE P n (.region id l.toArray true) Q ρ w :=
  cE_regionD hst F (Rof Rs) hm hd hck (stabL_at hR) hop hQ
/-- What an operation of such a region leaves. -/
theorem kD {w0 w w' w'' : World} {L L' : List Item} {p : Prop} (h : stJ w0 w L w') (h' : St w' w'' L') (hp : p) : stJ w0 w L w'' ∧ extT w' w'' ∧ p :=
  ⟨⟨h.1.trans (h'.below.mono h.1.size), h.2.ext h'.below⟩, h'.below, hp⟩
theorem kS {w0 w w' : World} {L : List Item} {p : Prop} (h : stJ w0 w L w') (hp : p) : stJ w0 w L w' ∧ extT w' w' ∧ p := ⟨h, Below.refl _ _, hp⟩

/-! One obligation. -/
variable {K : Value → World → Prop} {dst : Option Tmp} {op : Op} {ty : TypeId} {pos : String} {aft : Array Edge}
theorem go_plain (h : opE P ⟨dst, op, ty, pos, aft, none⟩ ρ w K) : goE P ops ⟨dst, op, ty, pos, aft, none⟩ ρ w K := by unfold goE; exact h
theorem go_yes {j : Nat} {want : Bool} (e : Nat) (hd : dstOf ops j = some e) (hb : ρ e = .bool want) (h : opE P ⟨dst, op, ty, pos, aft, some (j, want)⟩ ρ w K) : goE P ops ⟨dst, op, ty, pos, aft, some (j, want)⟩ ρ w K := by
  unfold goE; rw [if_pos (guard_yes e hd hb)]; exact h
theorem go_no {j : Nat} {want : Bool} (e : Nat) (hd : dstOf ops j = some e) (hb : ρ e = .bool (!want)) (h : K undef w) : goE P ops ⟨dst, op, ty, pos, aft, some (j, want)⟩ ρ w K := by
  unfold goE; rw [if_neg (by rw [guard_no e hd hb]; simp)]; exact h
theorem go_un {j : Nat} {want : Bool} (e : Nat) (hd : dstOf ops j = some e) (hb : ρ e = undef) (h : K undef w) : goE P ops ⟨dst, op, ty, pos, aft, some (j, want)⟩ ρ w K := by
  unfold goE; rw [if_neg (by rw [guard_un e hd hb]; simp)]; exact h
end
end Go.Proofs.Ythanfecefjfbjaa
