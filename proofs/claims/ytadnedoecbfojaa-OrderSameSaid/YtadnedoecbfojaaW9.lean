/- twinkeeplaw20.Ints -/
import Derived.Test.YtadnedoecbfojaaT
import Derived.Test.YtadnedoecbfojaaJ
import Derived.Test.YtadnedoecbfojaaK
import Derived.Test.YtadnedoecbfojaaSM
import Derived.Test.YtadnedoecbfojaaW1
import Derived.Test.YtadnedoecbfojaaW2
import Derived.Test.YtadnedoecbfojaaW3
import Derived.Test.YtadnedoecbfojaaW4
import Derived.Test.YtadnedoecbfojaaW5
import Derived.Test.YtadnedoecbfojaaW6
import Derived.Test.YtadnedoecbfojaaW7
import Derived.Test.YtadnedoecbfojaaW8
namespace Go.Proofs.Ytadnedoecbfojaa
open Go.RowKit

theorem c_Ints (w0 : World) (v_a : Value) (a : List Int) (h_a : Sl w0 (intE .i64) v_a a) (v_b : Value) (b : List Int) (h_b : Sl w0 (intE .i64) v_b b) :
    Calls Try.prog 11 #[v_a, v_b] w0 fun e w' => e = .returned (.bool (decide (a = b))) ∧ St w0 w' [] := by
  refine calls_E (n := 26) (ts := [4]) Try.func11 rfl rfl rfl (by simp) ?_
  have hst := St.start w0
  refine cE_seq ?_
  refine cE_region rfl ?_
  refine s_cons (op_assign (.bool false) rfl ?_)
  refine s_nil ?_
  refine then_n ?_
  refine cE_seq ?_
  refine cE_seq ?_
  refine cE_region rfl ?_
  refine s_cons (op_move v_a rfl ?_)
  refine s_cons (op_len (E := (intE .i64)) (xs := a) Try.underlying24 rfl h_a ?_)
  refine s_cons (op_move v_b rfl ?_)
  refine s_cons (op_len (E := (intE .i64)) (xs := b) Try.underlying24 rfl h_b ?_)
  refine s_cons (op_neq (k := .i64) (a := (a.length : Int)) (b := (b.length : Int)) rfl rfl ?_)
  refine s_nil ?_
  refine then_n ?_
  rcases Bool.eq_false_or_eq_true (decide ((a.length : Int) = (b.length : Int))) with b1 | b1
  · have c2 : (a.length : Int) = (b.length : Int) := of_decide_eq_true b1
    refine cE_cond false (congrArg Value.bool (congrArg (! ·) b1)) (fun h => by cases h) (fun _ => ?_)
    refine cE_skip ?_
    refine then_n ?_
    refine cE_seq ?_
    refine cE_seq ?_
    refine cE_region rfl ?_
    refine s_cons (op_assign (.int .i64 0) rfl ?_)
    refine s_nil ?_
    refine then_n ?_
    refine cE_block ?_
    refine cE_loop (fun (m : Nat) (ρ : Env) (w : World) => ∃ (i : Nat), m = a.length - i ∧ ρ 0 = v_a ∧ ρ 1 = v_b ∧ ρ 5 = (.int .i64 (i : Int)) ∧ St w0 w [] ∧ (i ≤ a.length) ∧ (a.take i = b.take i)) id _ ⟨0, rfl, rfl, rfl, (congrArg (Value.int .i64) (show 0 = _ from by omega)), hst, (by omega), (by first | rfl | exact same_step he (by omega) (by omega) (by assumption))⟩ ?_
    rintro m4 ρ5 w6 ⟨i, hm4, q3_0, q3_1, q3_5, hst, hi, he⟩
    have hlen := h_a.len
    refine cE_seq ?_
    refine cE_seq ?_
    refine cE_region rfl ?_
    refine s_cons (op_move (.int .i64 (i : Int)) q3_5 ?_)
    refine s_cons (op_move v_a q3_0 ?_)
    refine s_cons (op_len (E := (intE .i64)) (xs := a) Try.underlying24 rfl h_a ?_)
    refine s_cons (op_lss (k := .i64) (a := (i : Int)) (b := (a.length : Int)) rfl rfl ?_)
    refine s_nil ?_
    refine then_n ?_
    rcases Bool.eq_false_or_eq_true (decide ((i : Int) < (a.length : Int))) with b7 | b7
    · have c8 : (i : Int) < (a.length : Int) := of_decide_eq_true b7
      refine cE_cond true (congrArg Value.bool b7) (fun _ => ?_) (fun h => by cases h)
      refine cE_skip ?_
      refine then_n ?_
      refine cE_seq ?_
      refine cE_block ?_
      refine cE_seq ?_
      refine cE_regionL hst [[(0, none)], [(5, none)], [(17, some 0), (18, some 1)], [(19, some 2)], [(1, none)], [(5, none)], [(21, some 4), (22, some 5)], [(23, some 6)], [(20, some 3), (24, some 7)]] [(rEq v_a), (rEq (.int .i64 (i : Int))), (rPt [(.int .i64 (a[i]'(by omega)))]), (rEq (.int .i64 (a[i]'(by omega)))), (rEq v_b), (rEq (.int .i64 (i : Int))), (rPt [(.int .i64 (b[i]'(by omega)))]), (rEq (.int .i64 (b[i]'(by omega)))), (rEq (.bool (!decide ((a[i]'(by omega)) = (b[i]'(by omega))))))] (by kernel_rfl) rfl (by kernel_rfl) ⟨sEq, sEq, sPt, sEq, sEq, sEq, sPt, sEq, sEq, trivial⟩ ⟨?_, ?_, ?_, ?_, ?_, ?_, ?_, ?_, ?_, trivial⟩ ?_
      · rintro ρ15 w16 hj17 ⟨f0, _⟩
        have hst := hj17.2
        exact go_plain (op_move v_a (f0.trans q3_0) (kS hj17 rfl))
      · rintro ρ18 w19 hj20 ⟨f5, _⟩
        have hst := hj20.2
        exact go_plain (op_move (.int .i64 (i : Int)) (f5.trans q3_5) (kS hj20 rfl))
      · rintro ρ21 w22 hj23 ⟨f17, f18, _⟩
        have hst := hj23.2
        refine go_plain (op_indexAddrN (E := (intE .i64)) (xs := a) i Try.underlying24 Try.sizeOf3 f17 h_a f18 (by omega) (by omega) (fun a24 o25 p26 => ?_))
        exact kS hj23 ⟨_, _, rfl, (p26.below hst.below)⟩
      · rintro ρ27 w28 hj29 ⟨f19, _⟩
        have hst := hj29.2
        obtain ⟨a30, o31, e32, p33⟩ := f19
        exact go_plain (op_load1 (u := (.int .i64 (a[i]'(by omega)))) Try.isAgg3 e32 p33 (kS hj29 rfl))
      · rintro ρ34 w35 hj36 ⟨f1, _⟩
        have hst := hj36.2
        exact go_plain (op_move v_b (f1.trans q3_1) (kS hj36 rfl))
      · rintro ρ37 w38 hj39 ⟨f5, _⟩
        have hst := hj39.2
        exact go_plain (op_move (.int .i64 (i : Int)) (f5.trans q3_5) (kS hj39 rfl))
      · rintro ρ40 w41 hj42 ⟨f21, f22, _⟩
        have hst := hj42.2
        refine go_plain (op_indexAddrN (E := (intE .i64)) (xs := b) i Try.underlying24 Try.sizeOf3 f21 h_b f22 (by omega) (by omega) (fun a43 o44 p45 => ?_))
        exact kS hj42 ⟨_, _, rfl, (p45.below hst.below)⟩
      · rintro ρ46 w47 hj48 ⟨f23, _⟩
        have hst := hj48.2
        obtain ⟨a49, o50, e51, p52⟩ := f23
        exact go_plain (op_load1 (u := (.int .i64 (b[i]'(by omega)))) Try.isAgg3 e51 p52 (kS hj48 rfl))
      · rintro ρ53 w54 hj55 ⟨f20, f24, _⟩
        have hst := hj55.2
        exact go_plain (op_neq (k := .i64) (a := (a[i]'(by omega))) (b := (b[i]'(by omega))) f20 f24 (kS hj55 rfl))
      intro ρ56 w57 hbw57 hst hRw57 hkw57
      have uw57_0 : ρ56 0 = v_a := (hkw57 0 rfl).trans q3_0
      have uw57_1 : ρ56 1 = v_b := (hkw57 1 rfl).trans q3_1
      have uw57_5 : ρ56 5 = (.int .i64 (i : Int)) := (hkw57 5 rfl).trans q3_5
      have uw57_11 : ρ56 11 = (.int .i64 (i : Int)) := (hkw57 11 rfl).trans rfl
      have uw57_12 : ρ56 12 = v_a := (hkw57 12 rfl).trans rfl
      have uw57_13 : ρ56 13 = (.int .i64 (a.length : Int)) := (hkw57 13 rfl).trans rfl
      have uw57_14 : ρ56 14 = (.bool (decide ((i : Int) < (a.length : Int)))) := (hkw57 14 rfl).trans rfl
      have uw57_25 : ρ56 25 = (.bool (!decide ((a[i]'(by omega)) = (b[i]'(by omega))))) := hRw57 8 25 rfl
      refine then_n ?_
      rcases Bool.eq_false_or_eq_true (decide ((a[i]'(by omega)) = (b[i]'(by omega)))) with b58 | b58
      · have c59 : (a[i]'(by omega)) = (b[i]'(by omega)) := of_decide_eq_true b58
        refine cE_cond false (uw57_25.trans (congrArg Value.bool (congrArg (! ·) b58))) (fun h => by cases h) (fun _ => ?_)
        refine cE_skip ?_
        refine block_n (then_n ?_)
        refine cE_region rfl ?_
        refine s_cons (op_move (.int .i64 (i : Int)) uw57_5 ?_)
        refine s_cons (op_add (k := .i64) (a := (i : Int)) (b := 1) ((i : Int) + 1) rfl rfl (xi64 (by omega) (by omega)) ?_)
        refine s_cons (op_assign (.int .i64 ((i : Int) + 1)) rfl ?_)
        refine s_nil ?_
        refine then_n ?_
        exact ⟨_, ⟨(i + 1), rfl, uw57_0, uw57_1, (congrArg (Value.int .i64) (show ((i : Int) + 1) = _ from by omega)), hst, (by omega), (by first | rfl | exact same_step he (by omega) (by omega) (by assumption))⟩, (by simp only [id]; omega)⟩
      have c60 : ¬ ((a[i]'(by omega)) = (b[i]'(by omega))) := of_decide_eq_false b58
      refine cE_cond true (uw57_25.trans (congrArg Value.bool (congrArg (! ·) b58))) (fun _ => ?_) (fun h => by cases h)
      refine cE_seq ?_
      refine cE_region rfl ?_
      refine s_cons (op_assign (.bool false) rfl ?_)
      refine s_nil ?_
      refine then_n ?_
      refine cE_ret ?_
      refine block_r (then_r (then_r (block_r (then_r ?_))))
      refine post_r _ (res1 (v := (.bool false)) rfl) ?_
      exact ⟨(retv1 (congrArg Value.bool (show false = (decide (a = b)) from by first | exact same_len (by assumption) | exact same_no (i := i) (by omega) (by omega) (by assumption) | exact same_end (i := i) (by omega) (by omega) he))), hst.bare⟩
    have c61 : ¬ ((i : Int) < (a.length : Int)) := of_decide_eq_false b7
    refine cE_cond false (congrArg Value.bool b7) (fun h => by cases h) (fun _ => ?_)
    refine cE_exit ?_
    refine then_x (then_x (block_hit (then_n ?_)))
    refine cE_seq ?_
    refine cE_region rfl ?_
    refine s_cons (op_assign (.bool true) rfl ?_)
    refine s_nil ?_
    refine then_n ?_
    refine cE_ret ?_
    refine post_r _ (res1 (v := (.bool true)) rfl) ?_
    exact ⟨(retv1 (congrArg Value.bool (show true = (decide (a = b)) from by first | exact same_len (by assumption) | exact same_no (i := i) (by omega) (by omega) (by assumption) | exact same_end (i := i) (by omega) (by omega) he))), hst.bare⟩
  have c62 : ¬ ((a.length : Int) = (b.length : Int)) := of_decide_eq_false b1
  refine cE_cond true (congrArg Value.bool (congrArg (! ·) b1)) (fun _ => ?_) (fun h => by cases h)
  refine cE_seq ?_
  refine cE_region rfl ?_
  refine s_cons (op_assign (.bool false) rfl ?_)
  refine s_nil ?_
  refine then_n ?_
  refine cE_ret ?_
  refine then_r ?_
  refine post_r _ (res1 (v := (.bool false)) rfl) ?_
  exact ⟨(retv1 (congrArg Value.bool (show false = (decide (a = b)) from by first | exact same_len (by assumption) | exact same_no (i := i) (by omega) (by omega) (by assumption) | exact same_end (i := i) (by omega) (by omega) he))), hst.bare⟩

end Go.Proofs.Ytadnedoecbfojaa
