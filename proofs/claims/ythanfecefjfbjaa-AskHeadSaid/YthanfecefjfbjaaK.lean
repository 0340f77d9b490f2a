/- A region that draws its order and writes: one obligation an operation, told what is done. -/
import Derived.Test.YthanfecefjfbjaaD
namespace Go.Proofs.Ythanfecefjfbjaa
open Go.RowKit

def setD (D : Nat → Bool) (i : Nat) : Nat → Bool := fun j => bif Nat.beq i j then true else D j
theorem setD_eq (D : Nat → Bool) (i j : Nat) : setD D i j = if i = j then true else D j := by
  unfold setD
  by_cases h : i = j
  · subst h; simp
  · have : Nat.beq i j = false := by
      cases hb : Nat.beq i j with
      | false => rfl
      | true => exact absurd (Nat.eq_of_beq_eq_true hb) h
    rw [this, if_neg h]; rfl
theorem setD_other {D : Nat → Bool} {i m : Nat} (h : Nat.beq i m = false) : setD D i m = D m := by unfold setD; rw [h]; rfl
def dn (listed : Array Bool) : Nat → Bool := fun j => listed.getD j false
def factsK (R : Nat → (Nat → Bool) → Value → World → Prop) (D : Nat → Bool) (ρ ρ' : Env) (w' : World) : List (Nat × Option Nat) → Prop
  | [] => True
  | (t, some j) :: r => R j D (ρ' t) w' ∧ factsK R D ρ ρ' w' r
  | (t, none) :: r => ρ' t = ρ t ∧ factsK R D ρ ρ' w' r
def oblK (P : Program) (ops : Array Oper) (ρ : Env) (J : (Nat → Bool) → Env → World → Prop) (R : Nat → (Nat → Bool) → Value → World → Prop) : Nat → List Oper → List (List (Nat × Option Nat)) → Prop
  | i, o :: l, f :: fs => (∀ D ρ' w', D i = false → (∀ j, edgesTo ops i j = true → D j = true) → (∀ j k, D j = true → edgesTo ops j k = true → D k = true) → J D ρ' w' → (∀ j d, D j = true → dstOf ops j = some d → R j D (ρ' d) w') → factsK R D ρ ρ' w' f →
      goE P ops o ρ' w' (fun v w'' => J (setD D i) (updO ρ' o.dst v) w'' ∧ R i (setD D i) v w'' ∧ (∀ j d, j ≠ i → dstOf ops j = some d → D j = true → R j D (ρ' d) w' → R j (setD D i) (ρ' d) w''))) ∧ oblK P ops ρ J R (i + 1) l fs
  | _, _, _ => True
theorem oblK_at {P : Program} {ops : Array Oper} {ρ : Env} {J : (Nat → Bool) → Env → World → Prop} {R : Nat → (Nat → Bool) → Value → World → Prop} : ∀ (l : List Oper) (fs : List (List (Nat × Option Nat))) (k : Nat), oblK P ops ρ J R k l fs → l.length = fs.length →
    ∀ (i : Nat) (o : Oper), l[i]? = some o → ∀ D ρ' w', D (k + i) = false → (∀ j, edgesTo ops (k + i) j = true → D j = true) → (∀ j k, D j = true → edgesTo ops j k = true → D k = true) → J D ρ' w' → (∀ j d, D j = true → dstOf ops j = some d → R j D (ρ' d) w') → factsK R D ρ ρ' w' (fs.getD i []) →
      goE P ops o ρ' w' (fun v w'' => J (setD D (k + i)) (updO ρ' o.dst v) w'' ∧ R (k + i) (setD D (k + i)) v w'' ∧ (∀ j d, j ≠ k + i → dstOf ops j = some d → D j = true → R j D (ρ' d) w' → R j (setD D (k + i)) (ρ' d) w''))
  | [], _, _, _, _, i, o, ho => by simp at ho
  | x :: l, [], _, _, hl, _, _, _ => by simp at hl
  | x :: l, f :: fs, k, h, hl, 0, o, ho => by
    simp only [List.getElem?_cons_zero, Option.some.injEq] at ho
    subst ho
    intro D ρ' w' h1 h2 h3 h4 h5 h6
    exact h.1 D ρ' w' h1 h2 h3 h4 h5 h6
  | x :: l, f :: fs, k, h, hl, i + 1, o, ho => by
    have := oblK_at l fs (k + 1) h.2 (by simpa using hl) i o (by simpa using ho)
    rw [Nat.add_assoc, Nat.add_comm 1 i] at this
    intro D ρ' w' h1 h2 h3 h4 h5 h6
    exact this D ρ' w' h1 h2 h3 h4 h5 (by simpa using h6)
structure RkInv (ops : Array Oper) (n : Nat) (ρ : Env) (J : (Nat → Bool) → Env → World → Prop) (R : Nat → (Nat → Bool) → Value → World → Prop) (listed : Array Bool) (a : Act) (w' : World) (ρ' : Env) : Prop where
  act : At a n ρ'
  ext : J (dn listed) ρ' w'
  size : listed.size = ops.size
  done : ∀ j d, listed.getD j false = true → dstOf ops j = some d → R j (dn listed) (ρ' d) w'
  rest : ∀ t, (∀ j, dstOf ops j = some t → listed.getD j false = false) → ρ' t = ρ t
  closed : ∀ j, listed.getD j false = true → ∀ i, edgesTo ops j i = true → listed.getD i false = true

section
variable {P : Program} {ops : Array Oper} {n : Nat} {ρ : Env} {w : World} {J : (Nat → Bool) → Env → World → Prop} {R : Nat → (Nat → Bool) → Value → World → Prop} {F : List (List (Nat × Option Nat))} {Q : Exit → Act → World → Prop}
theorem rk_facts (hone : ∀ i, i < ops.size → ∀ p ∈ F.getD i [], rgOne ops i p = true) {listed : Array Bool} {a : Act} {w' : World} {ρ' : Env} (inv : RkInv ops n ρ J R listed a w' ρ') {i : Nat} (hi : i < ops.size) (hun : listed.getD i false = false)
    (hall : ∀ j, edgesTo ops i j = true → listed.getD j false = true) : factsK R (dn listed) ρ ρ' w' (F.getD i []) := by
  have h := hone i hi
  generalize F.getD i [] = f at h
  induction f with
  | nil => trivial
  | cons p r ih =>
    obtain ⟨t, s⟩ := p
    have hp := h (t, s) (by simp)
    have hr := ih fun p hp => h p (by simp [hp])
    cases s with
    | some j =>
      simp only [rgOne, Bool.and_eq_true, beq_iff_eq] at hp
      exact ⟨inv.done j t (hall j hp.2) hp.1, hr⟩
    | none =>
      refine ⟨inv.rest t fun j hj => ?_, hr⟩
      simp only [rgOne, List.all_eq_true, List.mem_range, Bool.or_eq_true, bne_iff_ne, beq_iff_eq] at hp
      have hjs : j < ops.size := by
        rcases Nat.lt_or_ge j ops.size with h | h
        · exact h
        · simp [dstOf, Array.getElem?_eq_none h] at hj
      rcases hp j hjs with (h1 | h1) | h1
      · exact absurd hj h1
      · rw [h1]; exact hun
      · rcases hb : listed.getD j false with _ | _
        · rfl
        · have := inv.closed j hb i h1
          rw [hun] at this; cases this

theorem rk_sound (hd : ops.all (fun o => o.dst.all (· < n)) = true) (hck : rgCheck ops F = true) (hop : oblK P ops ρ J R 0 ops.toList F)
    (hQ : ∀ a w' ρ' D, At a n ρ' → (∀ i, i < ops.size → D i = true) → J D ρ' w' → (∀ i d, dstOf ops i = some d → R i D (ρ' d) w') → (∀ t, (∀ j, dstOf ops j ≠ some t) → ρ' t = ρ t) → Q .normal a w') :
    ∀ (fuel : Nat) (listed : Array Bool) (a : Act) (w' : World) (ρ' : Env), cntF listed = fuel → RkInv ops n ρ J R listed a w' ρ' → wpAny P .any ops Q fuel listed a w' := by
  simp only [rgCheck, Bool.and_eq_true, List.all_eq_true, List.mem_range, beq_iff_eq] at hck
  obtain ⟨⟨⟨⟨hlen, hone⟩, _⟩, hdown⟩, hdst⟩ := hck
  have hready : ∀ (listed : Array Bool) (i : Nat), i ∈ Region.ready .any ops listed ↔ i < ops.size ∧ listed.getD i true = false ∧ ∃ o, ops[i]? = some o ∧ ∀ e ∈ o.after, Region.binds .any e = true → listed.getD e.on false = true := by
    intro listed i
    unfold Region.ready
    rw [List.mem_filter, List.mem_range]
    constructor
    · rintro ⟨h1, h2⟩
      rw [Bool.and_eq_true] at h2
      refine ⟨h1, by simpa using h2.1, ops[i], Array.getElem?_eq_getElem h1, fun e he hb => ?_⟩
      have := h2.2
      rw [Array.getElem?_eq_getElem h1] at this
      simp only [Option.map_some, Option.getD_some] at this
      have := Array.all_eq_true'.1 this e he
      simpa [hb] using this
    · rintro ⟨h1, h2, o, ho, h3⟩
      refine ⟨h1, ?_⟩
      rw [Bool.and_eq_true]
      refine ⟨by simp [h2], ?_⟩
      rw [ho]
      simp only [Option.map_some, Option.getD_some]
      exact Array.all_eq_true'.2 fun e he => by
        cases hb : Region.binds .any e with
        | false => simp
        | true => simpa using h3 e he hb
  have allListed : ∀ listed : Array Bool, listed.size = ops.size → cntF listed = 0 → ∀ j, j < ops.size → listed.getD j false = true := by
    intro listed hs hc j hj
    have hlt : j < listed.size := by omega
    have hno : false ∉ listed.toList := List.count_eq_zero.1 hc
    rw [Array.getD_eq_getD_getElem?, Array.getElem?_eq_getElem hlt, Option.getD_some]
    cases hb : listed[j] with
    | true => rfl
    | false => exact absurd (by rw [← hb]; simp) hno
  have fin : ∀ listed a w' ρ', RkInv ops n ρ J R listed a w' ρ' → cntF listed = 0 → Q .normal a w' := by
    intro listed a w' ρ' inv hc
    have hall := allListed listed inv.size hc
    refine hQ a w' ρ' (dn listed) inv.act (fun i hi => hall i hi) inv.ext (fun i d hi => inv.done i d (hall i ?_) hi) fun t ht => inv.rest t fun j hj => absurd hj (ht j)
    rcases Nat.lt_or_ge i ops.size with h | h
    · exact h
    · simp [dstOf, Array.getElem?_eq_none h] at hi
  intro fuel
  induction fuel with
  | zero =>
    intro listed a w' ρ' hc inv
    refine ⟨?_, fin listed a w' ρ' inv hc⟩
    apply List.eq_nil_iff_forall_not_mem.2
    intro i hi
    obtain ⟨h1, h2, _⟩ := (hready listed i).1 hi
    have := allListed listed inv.size hc i h1
    rw [getD_tf h2] at this; cases this
  | succ fuel ih =>
    intro listed a w' ρ' hc inv
    refine ⟨fun hnil => ?_, fun i hi => ?_⟩
    · exfalso
      -- the first one that is not listed is ready
      have hex : ∃ i, i < ops.size ∧ listed.getD i true = false := by
        have hpos : 0 < listed.toList.count false := by unfold cntF at hc; omega
        obtain ⟨i, hi, he⟩ := List.mem_iff_getElem.1 (List.count_pos_iff.1 hpos)
        have hlt : i < listed.size := by simpa using hi
        refine ⟨i, by rw [← inv.size]; exact hlt, ?_⟩
        rw [Array.getD_eq_getD_getElem?, Array.getElem?_eq_getElem hlt, Option.getD_some]
        simpa using he
      have hmin : ∃ i, (i < ops.size ∧ listed.getD i true = false) ∧ ∀ j, j < i → listed.getD j true = true := by
        obtain ⟨i, hi⟩ := hex
        induction i using Nat.strongRecOn with
        | _ i ihh =>
          by_cases hj : ∃ j, j < i ∧ listed.getD j true = false
          · obtain ⟨j, h1, h2⟩ := hj
            exact ihh j h1 ⟨by omega, h2⟩
          · refine ⟨i, hi, fun j hji => ?_⟩
            cases hb : listed.getD j true with
            | true => rfl
            | false => exact absurd ⟨j, hji, hb⟩ hj
      obtain ⟨i, ⟨h1, h2⟩, h3⟩ := hmin
      have hmem : i ∈ Region.ready .any ops listed := by
        refine (hready listed i).2 ⟨h1, h2, ops[i], Array.getElem?_eq_getElem h1, fun e he hb => ?_⟩
        have hde := hdown i h1
        rw [Array.getElem?_eq_getElem h1] at hde
        simp only [Option.map_some, Option.getD_some] at hde
        have hlt := Array.all_eq_true'.1 hde e he
        simp only [hb, Bool.not_true, Bool.false_or] at hlt
        have hlt' : e.on < i := by simpa [Nat.blt_eq] using hlt
        have h4 := h3 e.on hlt'
        have hsz : e.on < listed.size := by rw [inv.size]; omega
        rw [Array.getD_eq_getD_getElem?, Array.getElem?_eq_getElem hsz, Option.getD_some] at h4 ⊢
        exact h4
      rw [hnil] at hmem; cases hmem
    · obtain ⟨h1, h2, o, ho, h3⟩ := (hready listed i).1 hi
      have hun := getD_tf h2
      have hall : ∀ j, edgesTo ops i j = true → listed.getD j false = true := by
        intro j hj
        simp only [edgesTo, ho] at hj
        obtain ⟨e, he, hb⟩ := Array.any_eq_true'.1 hj
        simp only [Bool.and_eq_true, beq_iff_eq] at hb
        rw [← hb.1]; exact h3 e he hb.2
      have hf := rk_facts (fun i hi p hp => hone i hi p hp) inv h1 hun hall
      have hgo := oblK_at ops.toList F 0 hop (by simpa using hlen.symm) i o (by simpa using ho) (dn listed) ρ' w' (by rw [Nat.zero_add]; exact hun) (fun j hj => hall j (by rw [Nat.zero_add] at hj; exact hj)) (fun j k hj hk => inv.closed j hj k hk) inv.ext (fun j d hj hd => inv.done j d hj hd) hf
      simp only [Nat.zero_add] at hgo
      have hod : o.dst.all (· < n) = true := Array.all_eq_true'.1 hd o (Array.mem_of_getElem? ho)
      have hdi : dstOf ops i = o.dst := by simp [dstOf, ho]
      have hset : dn (listed.setIfInBounds i true) = setD (dn listed) i := funext fun j => (getD_set h2).trans (setD_eq (dn listed) i j).symm
      have next : ∀ v w'', J (setD (dn listed) i) (updO ρ' o.dst v) w'' ∧ R i (setD (dn listed) i) v w'' ∧ (∀ j d, j ≠ i → dstOf ops j = some d → dn listed j = true → R j (dn listed) (ρ' d) w' → R j (setD (dn listed) i) (ρ' d) w'') → wpAny P .any ops Q fuel (listed.setIfInBounds i true) (a.put o.dst v) w'' := by
        rintro v w'' ⟨hj', hr, hb⟩
        refine ih _ _ _ (updO ρ' o.dst v) (by have := cntF_set h2; omega) ⟨inv.act.put hod v, by rw [hset]; exact hj', by simpa using inv.size, fun j d hj hjd => ?_, fun t ht => ?_, fun j hj k hk => ?_⟩
        · rw [hset]
          rw [getD_set h2] at hj
          by_cases e : i = j
          · subst e
            rw [hdi] at hjd
            rw [hjd]
            simp only [updO, upd_same]
            exact hr
          · rw [if_neg e] at hj
            have hold := hb j d (fun q => e q.symm) hjd hj (inv.done j d hj hjd)
            have hne : o.dst ≠ some d := by
              intro e'
              have hjs : j < ops.size := by
                rcases Nat.lt_or_ge j ops.size with h | h
                · exact h
                · simp [dstOf, Array.getElem?_eq_none h] at hjd
              have := hdst i h1 j hjs
              simp [hdi, e', hjd, e] at this
            cases hdd : o.dst with
            | none => exact hold
            | some k =>
              simp only [updO]
              rw [upd_other _ _ (by rintro rfl; exact hne hdd)]
              exact hold
        · have hti : o.dst ≠ some t := by
            intro e
            have := ht i (by rw [hdi]; exact e)
            rw [getD_set h2, if_pos rfl] at this; cases this
          have : ρ' t = ρ t := inv.rest t fun j hj => by
            have := ht j hj
            rw [getD_set h2] at this
            split at this
            · cases this
            · exact this
          cases hdd : o.dst with
          | none => exact this
          | some k =>
            simp only [updO]
            rw [upd_other _ _ (by rintro rfl; exact hti hdd)]
            exact this
        · rw [getD_set h2] at hj ⊢
          split
          · rfl
          · by_cases e : i = j
            · subst e; exact hall k hk
            · rw [if_neg e] at hj; exact inv.closed j hj k hk
      unfold wpOp
      rw [ho]
      simp only
      rw [guardE_wanted inv.act hd o]
      unfold goE at hgo
      split
      · rename_i hg
        rw [if_pos hg] at hgo
        exact .inl (opE_wp inv.act hgo next)
      · rename_i hg
        rw [if_neg hg] at hgo
        exact next undef w' hgo

/-- A region that draws its order, and writes: what may be met is told by what is done. -/
theorem cE_regionJ {Q : Exit → Env → World → Prop} {id : Nat} {l : List Oper} (J : (Nat → Bool) → Env → World → Prop) (F : List (List (Nat × Option Nat))) (R : Nat → (Nat → Bool) → Value → World → Prop) (hm : P.follows .mixedOrders = true) (hd : dstOk n l = true)
    (hck : rgCheck l.toArray F = true) (hJ : J (fun _ => false) ρ w.drew) (hop : oblK P l.toArray ρ J R 0 l F)
    (hQ : ∀ ρ' w' D, (∀ i, i < l.length → D i = true) → J D ρ' w' → (∀ i d, dstOf l.toArray i = some d → R i D (ρ' d) w') → (∀ t, noDst l t = true → ρ' t = ρ t) → Q .normal ρ' w') : cE P n (.region id l.toArray true) Q ρ w := by
  intro a ha
  have h0 : dn (Array.replicate l.toArray.size false) = fun _ => false := by
    funext j
    simp only [dn, Array.getD_eq_getD_getElem?, Array.getElem?_replicate]
    split <;> rfl
  refine wp_region_any hm (rk_sound (dstOk_all hd) hck (by simpa using hop) (fun a w' ρ' D h1 h2 h3 h4 h5 => ⟨ρ', h1, hQ ρ' w' D (by simpa using h2) h3 h4 fun t ht => h5 t (noDst_spec ht)⟩) l.toArray.size _ a _ ρ (by simp [cntF]) ⟨ha, by rw [h0]; exact hJ, by simp, fun j d hj => ?_, fun t _ => rfl, fun j hj => ?_⟩)
  · exfalso
    rw [Array.getD_eq_getD_getElem?, Array.getElem?_replicate] at hj
    split at hj <;> simp at hj
  · exfalso
    rw [Array.getD_eq_getD_getElem?, Array.getElem?_replicate] at hj
    split at hj <;> simp at hj
/-- The same, where what may be met does not look at the slots. -/
theorem cE_regionK {Q : Exit → Env → World → Prop} {id : Nat} {l : List Oper} (J : (Nat → Bool) → World → Prop) (F : List (List (Nat × Option Nat))) (R : Nat → (Nat → Bool) → Value → World → Prop) (hm : P.follows .mixedOrders = true) (hd : dstOk n l = true)
    (hck : rgCheck l.toArray F = true) (hJ : J (fun _ => false) w.drew) (hop : oblK P l.toArray ρ (fun D _ w => J D w) R 0 l F)
    (hQ : ∀ ρ' w' D, (∀ i, i < l.length → D i = true) → J D w' → (∀ i d, dstOf l.toArray i = some d → R i D (ρ' d) w') → (∀ t, noDst l t = true → ρ' t = ρ t) → Q .normal ρ' w') : cE P n (.region id l.toArray true) Q ρ w :=
  cE_regionJ (fun D _ w => J D w) F R hm hd hck hJ hop hQ
end
/-! ### What is told of each operation's value, by lists -/
abbrev KP := (Nat → Bool) → Value → World → Prop
def RofK (Rs : List KP) (i : Nat) (D : Nat → Bool) (v : Value) (w : World) : Prop := (Rs.getD i (fun _ _ _ => True)) D v w
def StabM (M : List Nat) (p : KP) : Prop := ∀ D D' v w w', (∀ m ∈ M, D' m = D m) → Below w.heap.size w w' → p D v w → p D' v w'
def StabI (i : Nat) (p : KP) : Prop := ∀ D D' v w w', D' i = true → p D v w → p D' v w'
def stabML (M : List Nat) : List KP → Prop
  | [] => True
  | p :: r => StabM M p ∧ stabML M r
def stabIL (i : Nat) (D : Nat → Bool) : Nat → List KP → Prop
  | _, [] => True
  | k, p :: r => (k = i ∨ D k = false ∨ StabI i p) ∧ stabIL i D (k + 1) r
theorem stabML_at {M : List Nat} {D D' : Nat → Bool} {v : Value} {w w' : World} (hD : ∀ m ∈ M, D' m = D m) (hb : Below w.heap.size w w') : ∀ {Rs : List KP}, stabML M Rs → ∀ j, RofK Rs j D v w → RofK Rs j D' v w'
  | [], _, j, _ => by simp [RofK]
  | p :: r, h, 0, hp => h.1 D D' v w w' hD hb hp
  | p :: r, h, j + 1, hp => stabML_at hD hb (Rs := r) h.2 j hp
theorem stabIL_at {i : Nat} {D D' : Nat → Bool} {v : Value} {w w' : World} (hD : D' i = true) : ∀ {Rs : List KP} (k : Nat), stabIL i D k Rs → ∀ j, k + j ≠ i → D (k + j) = true → RofK Rs j D v w → RofK Rs j D' v w'
  | [], _, _, j, _, _, _ => by simp [RofK]
  | p :: r, k, h, 0, hn, hd, hp => by
    rcases h.1 with e | e | e
    · exact absurd e hn
    · rw [Nat.add_zero] at hd; rw [hd] at e; cases e
    · exact e D D' v w w' hD hp
  | p :: r, k, h, j + 1, hn, hd, hp => stabIL_at hD (Rs := r) (k + 1) h.2 j (by omega) (by rw [Nat.add_assoc, Nat.add_comm 1 j]; exact hd) hp
def stabIX (i x : Nat) (D : Nat → Bool) : Nat → List KP → Prop
  | _, [] => True
  | k, p :: r => (k = i ∨ k = x ∨ D k = false ∨ StabI i p) ∧ stabIX i x D (k + 1) r
theorem stabIX_at {i x : Nat} {D D' : Nat → Bool} {v : Value} {w w' : World} (hD : D' i = true) : ∀ {Rs : List KP} (k : Nat), stabIX i x D k Rs → ∀ j, k + j ≠ i → k + j ≠ x → D (k + j) = true → RofK Rs j D v w → RofK Rs j D' v w'
  | [], _, _, j, _, _, _, _ => by simp [RofK]
  | p :: r, k, h, 0, hn, hx, hd, hp => by
    rcases h.1 with e | e | e | e
    · exact absurd e hn
    · exact absurd e hx
    · rw [Nat.add_zero] at hd; rw [hd] at e; cases e
    · exact e D D' v w w' hD hp
  | p :: r, k, h, j + 1, hn, hx, hd, hp => stabIX_at hD (Rs := r) (k + 1) h.2 j (by omega) (by omega) (by rw [Nat.add_assoc, Nat.add_comm 1 j]; exact hd) hp
def stabIXs (i : Nat) (xs : List Nat) (D : Nat → Bool) : Nat → List KP → Prop
  | _, [] => True
  | k, p :: r => (k = i ∨ k ∈ xs ∨ D k = false ∨ StabI i p) ∧ stabIXs i xs D (k + 1) r
theorem stabIXs_at {i : Nat} {xs : List Nat} {D D' : Nat → Bool} {v : Value} {w w' : World} (hD : D' i = true) : ∀ {Rs : List KP} (k : Nat), stabIXs i xs D k Rs → ∀ j, k + j ≠ i → k + j ∉ xs → D (k + j) = true → RofK Rs j D v w → RofK Rs j D' v w'
  | [], _, _, j, _, _, _, _ => by simp [RofK]
  | p :: r, k, h, 0, hn, hx, hd, hp => by
    rcases h.1 with e | e | e | e
    · exact absurd e hn
    · exact absurd e hx
    · rw [Nat.add_zero] at hd; rw [hd] at e; cases e
    · exact e D D' v w w' hD hp
  | p :: r, k, h, j + 1, hn, hx, hd, hp => stabIXs_at hD (Rs := r) (k + 1) h.2 j (by omega) (by rw [Nat.add_assoc, Nat.add_comm 1 j]; exact hx) (by rw [Nat.add_assoc, Nat.add_comm 1 j]; exact hd) hp
/-- What is left of the operations that are done, behind a writing one. -/
theorem kX {Rs : List KP} {D : Nat → Bool} {i : Nat} {w' w'' : World} {ρ' : Env} {ops : Array Oper} (xs : List Nat) (hI : stabIXs i xs D 0 Rs)
    (hx : ∀ j d, j ∈ xs → dstOf ops j = some d → D j = true → RofK Rs j D (ρ' d) w' → RofK Rs j (setD D i) (ρ' d) w'') :
    ∀ j d, j ≠ i → dstOf ops j = some d → D j = true → RofK Rs j D (ρ' d) w' → RofK Rs j (setD D i) (ρ' d) w'' := fun j d hn hjd hD h => by
  by_cases e : j ∈ xs
  · exact hx j d e hjd hD h
  · exact stabIXs_at (by rw [setD_eq, if_pos rfl]) 0 hI j (by omega) (by rw [Nat.zero_add]; exact e) (by rw [Nat.zero_add]; exact hD) h
/-- A block that is made, and then filled by the operation m. -/
def kAl (w0 : World) (m : Nat) (f f' : Nat → List Item) : KP := fun D v w => ∃ g, v = .pointer (some ⟨g, 0, none⟩) ∧ (D m = false → St w0 w (f g)) ∧ (D m = true → St w0 w (f' g))
theorem mAl {w0 : World} {m : Nat} {f f' : Nat → List Item} {M : List Nat} (hm : m ∈ M) : StabM M (kAl w0 m f f') := fun D D' v w w' hD hb ⟨g, h1, h2, h3⟩ =>
  ⟨g, h1, fun h => (h2 (by rw [← hD m hm]; exact h)).ext hb, fun h => (h3 (by rw [← hD m hm]; exact h)).ext hb⟩
def kAny : KP := fun _ _ _ => True
def kEq (x : Value) : KP := fun _ v _ => v = x
def kSl0 {α : Type} (w0 : World) (E : Enc α) (xs : List α) : KP := fun _ v _ => Sl w0 E v xs
def kSlU {α : Type} (M : List Nat) (E : Enc α) (xs : List α) : KP := fun D v w => (∀ m ∈ M, D m = false) → Sl w E v xs
def kSlF {α : Type} (E : Enc α) (v0 : Value) (xs ys : List α) : KP := fun _ v _ => ∀ w, Sl w E v0 xs → Sl w E v ys
def kPt0 (w0 : World) (cs : List Value) : KP := fun _ v _ => ∃ b off, v = .pointer (some ⟨b, off, none⟩) ∧ Pt w0 b off cs
def kPtU (M : List Nat) (cs : List Value) : KP := fun D v w => ∃ b off, v = .pointer (some ⟨b, off, none⟩) ∧ ((∀ m ∈ M, D m = false) → Pt w b off cs)
def kRow (x : Value) (off : Nat) : KP := fun _ v _ => ∃ b, x.ownBlock = some b ∧ v = .pointer (some ⟨b, off, none⟩)
def kSt (w0 : World) (f : Value → List Item) : KP := fun _ v w => St w0 w (f v)
section
variable {M : List Nat} {i : Nat} {α : Type} {E : Enc α} {xs : List α} {x : Value} {cs : List Value} {w0 : World}
theorem mAny : StabM M kAny := fun _ _ _ _ _ _ _ _ => trivial
theorem mEq : StabM M (kEq x) := fun _ _ _ _ _ _ _ h => h
theorem mSl0 : StabM M (kSl0 w0 E xs) := fun _ _ _ _ _ _ _ h => h
theorem mSlF {v0 : Value} {ys : List α} : StabM M (kSlF E v0 xs ys) := fun _ _ _ _ _ _ _ h => h
theorem mSlU : StabM M (kSlU M E xs) := fun _ _ _ _ _ hD hb h hm => (h fun m hm' => by rw [← hD m hm']; exact hm m hm').below hb
theorem mSlUs {M' : List Nat} (hs : ∀ m ∈ M', m ∈ M) : StabM M (kSlU M' E xs) := fun _ _ _ _ _ hD hb h hm => (h fun m hm' => by rw [← hD m (hs m hm')]; exact hm m hm').below hb
theorem mPtUs {M' : List Nat} (hs : ∀ m ∈ M', m ∈ M) : StabM M (kPtU M' cs) := fun _ _ _ _ _ hD hb ⟨b, off, h1, h2⟩ => ⟨b, off, h1, fun hm => (h2 fun m hm' => by rw [← hD m (hs m hm')]; exact hm m hm').below hb⟩
theorem mPt0 : StabM M (kPt0 w0 cs) := fun _ _ _ _ _ _ _ h => h
theorem mPtU : StabM M (kPtU M cs) := fun _ _ _ _ _ hD hb ⟨b, off, h1, h2⟩ => ⟨b, off, h1, fun hm => (h2 fun m hm' => by rw [← hD m hm']; exact hm m hm').below hb⟩
theorem mRow {off : Nat} : StabM M (kRow x off) := fun _ _ _ _ _ _ _ h => h
theorem mSt {f : Value → List Item} : StabM M (kSt w0 f) := fun _ _ _ _ _ _ hb h => h.ext hb
theorem iAny : StabI i kAny := fun _ _ _ _ _ _ _ => trivial
theorem iEq : StabI i (kEq x) := fun _ _ _ _ _ _ h => h
theorem iSl0 : StabI i (kSl0 w0 E xs) := fun _ _ _ _ _ _ h => h
theorem iSlF {v0 : Value} {ys : List α} : StabI i (kSlF E v0 xs ys) := fun _ _ _ _ _ _ h => h
theorem iSlU (hi : i ∈ M) : StabI i (kSlU M E xs) := fun _ _ _ _ _ hD _ hm => by rw [hm i hi] at hD; cases hD
theorem iPt0 : StabI i (kPt0 w0 cs) := fun _ _ _ _ _ _ h => h
theorem iPtU (hi : i ∈ M) : StabI i (kPtU M cs) := fun _ _ _ _ _ hD ⟨b, off, h1, _⟩ => ⟨b, off, h1, fun hm => by rw [hm i hi] at hD; cases hD⟩
theorem iRow {off : Nat} : StabI i (kRow x off) := fun _ _ _ _ _ _ h => h
end
section
variable {M : List Nat} {Rs : List KP} {D : Nat → Bool} {i : Nat} {w' w'' : World} {v : Value} {ρ' : Env} {ops : Array Oper}
theorem kN {A : Prop} (hM : stabML M Rs) (hi : M.all (fun m => !Nat.beq i m) = true) (hb : Below w'.heap.size w' w'') (hJ : A) (hp : RofK Rs i (setD D i) v w'') :
    A ∧ RofK Rs i (setD D i) v w'' ∧ (∀ j d, j ≠ i → dstOf ops j = some d → D j = true → RofK Rs j D (ρ' d) w' → RofK Rs j (setD D i) (ρ' d) w'') :=
  ⟨hJ, hp, fun j _ _ _ _ h => stabML_at (fun m hm => setD_other (by have := List.all_eq_true.1 hi m hm; simpa using this)) hb hM j h⟩
theorem kN0 {A : Prop} (hM : stabML M Rs) (hi : M.all (fun m => !Nat.beq i m) = true) (hJ : A) (hp : RofK Rs i (setD D i) v w') :
    A ∧ RofK Rs i (setD D i) v w' ∧ (∀ j d, j ≠ i → dstOf ops j = some d → D j = true → RofK Rs j D (ρ' d) w' → RofK Rs j (setD D i) (ρ' d) w') := kN hM hi (Below.refl _ _) hJ hp
theorem kI {A : Prop} (hI : stabIL i D 0 Rs) (hJ : A) (hp : RofK Rs i (setD D i) v w'') :
    A ∧ RofK Rs i (setD D i) v w'' ∧ (∀ j d, j ≠ i → dstOf ops j = some d → D j = true → RofK Rs j D (ρ' d) w' → RofK Rs j (setD D i) (ρ' d) w'') :=
  ⟨hJ, hp, fun j _ hn _ hd h => stabIL_at (by rw [setD_eq, if_pos rfl]) 0 hI j (by omega) (by rw [Nat.zero_add]; exact hd) h⟩
theorem kIx {A : Prop} (x t : Nat) (hd : dstOf ops x = some t) (hI : stabIX i x D 0 Rs) (hJ : A) (hp : RofK Rs i (setD D i) v w'') (hx : RofK Rs x (setD D i) (ρ' t) w'') :
    A ∧ RofK Rs i (setD D i) v w'' ∧ (∀ j d, j ≠ i → dstOf ops j = some d → D j = true → RofK Rs j D (ρ' d) w' → RofK Rs j (setD D i) (ρ' d) w'') :=
  ⟨hJ, hp, fun j d hn hjd hd' h => by
    by_cases e : j = x
    · subst e
      rw [hd] at hjd
      obtain rfl := Option.some.inj hjd
      exact hx
    · exact stabIX_at (by rw [setD_eq, if_pos rfl]) 0 hI j (by omega) (by omega) (by rw [Nat.zero_add]; exact hd') h⟩
theorem not_yet {m : Nat} (hD : D i = false) (h : D m = true → D i = true) : D m = false := by
  cases hm : D m with
  | false => rfl
  | true => rw [h hm] at hD; cases hD
end
section
variable {P : Program} {n : Nat} {ρ : Env} {w : World}
theorem cE_regionM {Q : Exit → Env → World → Prop} {id : Nat} {l : List Oper} (J : (Nat → Bool) → World → Prop) (F : List (List (Nat × Option Nat))) (M : List Nat) (Rs : List KP) (hM : stabML M Rs) (hm : P.follows .mixedOrders = true) (hd : dstOk n l = true)
    (hck : rgCheck l.toArray F = true) (hJ : J (fun _ => false) w.drew) (hop : stabML M Rs → oblK P l.toArray ρ (fun D _ w => J D w) (RofK Rs) 0 l F)
    (hQ : ∀ ρ' w' D, (∀ i, i < l.length → D i = true) → J D w' → (∀ i d, dstOf l.toArray i = some d → RofK Rs i D (ρ' d) w') → (∀ t, noDst l t = true → ρ' t = ρ t) → Q .normal ρ' w') : cE P n (.region id l.toArray true) Q ρ w :=
  cE_regionK J F (RofK Rs) hm hd hck hJ (hop hM) hQ
end
end Go.Proofs.Ythanfecefjfbjaa
