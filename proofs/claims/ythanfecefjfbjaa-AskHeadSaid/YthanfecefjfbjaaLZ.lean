/- Guards that stand open: what an operation leaves is told under its guard. -/
import Derived.Test.YthanfecefjfbjaaK
import Derived.Test.YthanfecefjfbjaaB
namespace Go.Proofs.Ythanfecefjfbjaa
open Go.RowKit
section
variable {a b : Bool} {p q : Prop}
theorem pi_dec [Decidable p] : decide p = true ↔ p := decide_eq_true_iff
theorem pi_self : a = true ↔ a = true := Iff.rfl
theorem pi_and (h : a = true ↔ p) (h' : b = true ↔ q) : (a && b) = true ↔ (p ∧ q) := by rw [Bool.and_eq_true, h, h']
theorem pi_or (h : a = true ↔ p) (h' : b = true ↔ q) : (a || b) = true ↔ (p ∨ q) := by rw [Bool.or_eq_true, h, h']
theorem pi_not (h : a = true ↔ p) : (!a) = true ↔ ¬p := by rw [← h]; cases a <;> simp
theorem pi_name (e : a = b) (h : b = true ↔ p) : a = true ↔ p := e ▸ h
theorem pi_f (h : a = true ↔ p) (h0 : a = false) : ¬p := fun hp => Bool.noConfusion (h0.symm.trans (h.2 hp))
theorem and_l (h : (a && b) = true) : a = true := by cases a <;> simp_all
theorem and_r (h : (a && b) = true) : b = true := by cases a <;> simp_all
theorem and_i (h : a = true) (h' : b = true) : (a && b) = true := by subst h h'; rfl
theorem and_f1 (h : a = false) : (a && b) = false := by subst h; rfl
theorem and_f2 (h : b = false) : (a && b) = false := by subst h; cases a <;> rfl
theorem or_l (h : (a || b) = false) : a = false := by cases a <;> simp_all
theorem or_r (h : (a || b) = false) : b = false := by cases a <;> simp_all
theorem or_i (h : a = false) (h' : b = false) : (a || b) = false := by subst h h'; rfl
theorem or_t1 (h : a = true) : (a || b) = true := by subst h; rfl
theorem or_t2 (h : b = true) : (a || b) = true := by subst h; cases a <;> rfl
theorem not_t (h : (!a) = true) : a = false := by cases a <;> simp_all
theorem not_f (h : (!a) = false) : a = true := by cases a <;> simp_all
end
section
variable {α : Type} {c : Bool} {x y : α} {v : Value} {e b : Bool}
theorem gt (h : c = true) : (bif c then x else y) = x := by subst h; rfl
theorem gf (h : c = false) : (bif c then x else y) = y := by subst h; rfl
def gval (v : Value) (want : Bool) : Bool := match v with
  | .bool b => b == want
  | _ => false
theorem gA_t (h : v = .bool b) : gval v true = b := by subst h; cases b <;> rfl
theorem gA_f (h : v = .bool b) : gval v false = !b := by subst h; cases b <;> rfl
theorem gB_t (h : v = (bif e then .bool b else undef)) : gval v true = (e && b) := by subst h; cases e <;> cases b <;> rfl
theorem gB_f (h : v = (bif e then .bool b else undef)) : gval v false = (e && !b) := by subst h; cases e <;> cases b <;> rfl
end
section
variable {P : Program} {ops : Array Oper} {l : List Oper} {ρ : Env} {w : World} {KR : Env → World → Prop} {K : Value → World → Prop}
variable {dst : Option Tmp} {op : Op} {ty : TypeId} {pos : String} {aft : Array Edge} {g : Option (Nat × Bool)}
theorem guard_gval {j : Nat} {want : Bool} (d : Nat) (hd : dstOf ops j = some d) : guardE ops ρ ⟨dst, op, ty, pos, aft, some (j, want)⟩ = gval (ρ d) want := by
  simp only [guardE, hd, gval]
  cases ρ d <;> rfl
theorem s_lz {d : Tmp} {j : Nat} {want c : Bool} (e : Nat) (hd : dstOf ops j = some e) (hc : gval (ρ e) want = c) (R : Value → World → Prop)
    (h1 : c = true → opE P ⟨some d, op, ty, pos, aft, some (j, want)⟩ ρ w R) (h2 : c = false → R undef w) (h : ∀ v w', R v w' → seqE P ops l (upd ρ d v) w' KR) : seqE P ops (⟨some d, op, ty, pos, aft, some (j, want)⟩ :: l) ρ w KR := by
  unfold seqE; rw [guard_gval e hd, hc]
  cases c with
  | true => rw [if_pos rfl]; exact opE_mono h (h1 rfl)
  | false => rw [if_neg (by decide)]; exact h _ _ (h2 rfl)
theorem go_lz {j : Nat} {want c : Bool} (e : Nat) (hd : dstOf ops j = some e) (hc : gval (ρ e) want = c)
    (h1 : c = true → opE P ⟨dst, op, ty, pos, aft, some (j, want)⟩ ρ w K) (h2 : c = false → K undef w) : goE P ops ⟨dst, op, ty, pos, aft, some (j, want)⟩ ρ w K := by
  unfold goE; rw [guard_gval e hd, hc]
  cases c with
  | true => rw [if_pos rfl]; exact h1 rfl
  | false => rw [if_neg (by decide)]; exact h2 rfl
theorem op_pick_and {c x y : Operand} {e e' b : Bool} (hc : evE ρ c = .bool e) (hx : evE ρ x = (bif e' then .bool b else undef)) (he : e = true → e' = true) (hy : evE ρ y = .bool false) (h : K (.bool (e && b)) w) : opE P ⟨dst, .pick c x y, ty, pos, aft, g⟩ ρ w K := by
  cases e with
  | true => exact op_pick_t (.bool b) hc (hx.trans (gt (he rfl))) h
  | false => exact op_pick_f (.bool false) hc hy h
theorem op_pick_and0 {c x y : Operand} {e b : Bool} (hc : evE ρ c = .bool e) (hx : evE ρ x = .bool b) (hy : evE ρ y = .bool false) (h : K (.bool (e && b)) w) : opE P ⟨dst, .pick c x y, ty, pos, aft, g⟩ ρ w K := by
  cases e with
  | true => exact op_pick_t (.bool b) hc hx h
  | false => exact op_pick_f (.bool false) hc hy h
theorem op_pick_or {c x y : Operand} {e e' b : Bool} (hc : evE ρ c = .bool e) (hx : evE ρ x = .bool true) (hy : evE ρ y = (bif e' then .bool b else undef)) (he : e = false → e' = true) (h : K (.bool (e || b)) w) : opE P ⟨dst, .pick c x y, ty, pos, aft, g⟩ ρ w K := by
  cases e with
  | true => exact op_pick_t (.bool true) hc hx h
  | false => exact op_pick_f (.bool b) hc (hy.trans (gt (he rfl))) h
theorem op_pick_or0 {c x y : Operand} {e b : Bool} (hc : evE ρ c = .bool e) (hx : evE ρ x = .bool true) (hy : evE ρ y = .bool b) (h : K (.bool (e || b)) w) : opE P ⟨dst, .pick c x y, ty, pos, aft, g⟩ ρ w K := by
  cases e with
  | true => exact op_pick_t (.bool true) hc hx h
  | false => exact op_pick_f (.bool b) hc hy h
/-- What an operation leaves if it has run. -/
def RlzP (c : Bool) (w0 w : World) (cs : List Value) (v : Value) (w' : World) : Prop := (c = true → ∃ b off, v = .pointer (some ⟨b, off, none⟩) ∧ Pt w0 b off cs) ∧ w = w'
def Rlz (c : Bool) (x : Value) (w : World) (v : Value) (w' : World) : Prop := v = (bif c then x else undef) ∧ w = w'
def RlzW (c : Bool) (x : Value) (w0 : World) (L : List Item) (v : Value) (w' : World) : Prop := v = (bif c then x else undef) ∧ St w0 w' L
theorem rlz_t {c : Bool} {x : Value} (h : c = true) : Rlz c x w x w := ⟨(gt h).symm, rfl⟩
theorem rlz_n {c b b' : Bool} (e : b' = b) (h : c = true) : Rlz c (.bool b') w (.bool b) w := ⟨by rw [e, gt h], rfl⟩
theorem rlz_f {c : Bool} {x : Value} (h : c = false) : Rlz c x w undef w := ⟨(gf h).symm, rfl⟩
end
section
variable {M : List Nat} {i : Nat} {c : Bool} {cs : List Value} {w0 : World}
def kPtc (w0 : World) (c : Bool) (cs : List Value) : KP := fun _ v _ => c = true → ∃ b off, v = .pointer (some ⟨b, off, none⟩) ∧ Pt w0 b off cs
def kPtUc (c : Bool) (cs : List Value) : KP := fun _ v w => c = true → ∃ b off, v = .pointer (some ⟨b, off, none⟩) ∧ Pt w b off cs
theorem mPtUc : StabM M (kPtUc c cs) := fun _ _ _ _ _ _ hb h hc => by
  obtain ⟨b, off, e, h⟩ := h hc
  exact ⟨b, off, e, h.below hb⟩
theorem mPtc : StabM M (kPtc w0 c cs) := fun _ _ _ _ _ _ _ h => h
theorem iPtc : StabI i (kPtc w0 c cs) := fun _ _ _ _ _ _ h => h
end
/-- An element, or something. -/
def gd {α : Type} [Inhabited α] (l : List α) (i : Nat) : α := l.getD i default
theorem gd_eq {α : Type} [Inhabited α] {l : List α} {i : Nat} (h : i < l.length) : gd l i = l[i]'h := by unfold gd; rw [List.getD_eq_getElem?_getD, List.getElem?_eq_getElem h]; rfl
theorem gd_mem {α : Type} [Inhabited α] {l : List α} {i : Nat} (h : i < l.length) : gd l i ∈ l := by rw [gd_eq h]; exact List.getElem_mem h
section
variable {P : Program} {ρ : Env} {w : World} {K : Value → World → Prop} {dst : Option Tmp} {ty : TypeId} {pos : String} {aft : Array Edge} {g : Option (Nat × Bool)}
theorem op_indexAddrD {α : Type} [Inhabited α] {E : Enc α} {T e : TypeId} {x i : Operand} {v : Value} {xs : List α} {k : IntKind} {m : Int} {w1 : World} (n : Nat) (hT : P.underlying T = some (.slice e)) (hs : ∀ w, (sizeOf e).run P w = .ok E.size w)
    (hx : evE ρ x = v) (hsl : Sl w1 E v xs) (hi : evE ρ i = .int k m) (hn : m = (n : Int)) (hm : n < xs.length)
    (h : ∀ b off, Pt w1 b off (E.enc (gd xs n)) → K (.pointer (some ⟨b, off, none⟩)) w) : opE P ⟨dst, .indexAddr T x i, ty, pos, aft, g⟩ ρ w K :=
  op_indexAddrN n hT hs hx hsl hi hn hm fun b off hp => h b off (by rw [gd_eq hm]; exact hp)
end
end Go.Proofs.Ythanfecefjfbjaa
