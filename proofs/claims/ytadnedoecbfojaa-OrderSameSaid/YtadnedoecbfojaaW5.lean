/- cmp.Or[int] -/
import Derived.Test.YtadnedoecbfojaaT
import Derived.Test.YtadnedoecbfojaaJ
import Derived.Test.YtadnedoecbfojaaK
import Derived.Test.YtadnedoecbfojaaSM
import Derived.Test.YtadnedoecbfojaaW1
import Derived.Test.YtadnedoecbfojaaW2
import Derived.Test.YtadnedoecbfojaaW3
import Derived.Test.YtadnedoecbfojaaW4
namespace Go.Proofs.Ytadnedoecbfojaa
open Go.RowKit

theorem c_Or (w0 : World) (v_l : Value) (l : List Int) (h_l : Sl w0 (intE .i64) v_l l) :
    Calls Try.prog 18 #[v_l] w0 fun e w' => e = .returned (.int .i64 (orI l)) ∧ St w0 w' [] := by
  refine calls_E (n := 18) (ts := [2]) Try.func18 rfl rfl rfl (by simp) ?_
  have hst := St.start w0
  refine cE_seq ?_
  refine cE_region rfl ?_
  refine s_cons (op_assign (.int .i64 0) rfl ?_)
  refine s_nil ?_
  refine then_n ?_
  refine cE_seq ?_
  refine cE_region rfl ?_
  refine s_cons (op_assign (.int .i64 0) rfl ?_)
  refine s_nil ?_
  refine then_n ?_
  refine cE_seq ?_
  refine cE_seq ?_
  refine cE_region rfl ?_
  refine s_cons (op_move v_l rfl ?_)
  refine s_cons (op_len (E := (intE .i64)) (xs := l) Try.underlying24 rfl h_l ?_)
  refine s_cons (op_move (.int .i64 0) rfl ?_)
  refine s_nil ?_
  refine then_n ?_
  refine cE_block ?_
  refine cE_loop (fun (m : Nat) (ρ : Env) (w : World) => ∃ (i : Nat), m = l.length - i ∧ ρ 0 = v_l ∧ ρ 3 = (.int .i64 0) ∧ ρ 6 = v_l ∧ ρ 7 = (.int .i64 (l.length : Int)) ∧ ρ 8 = (.int .i64 (i : Int)) ∧ St w0 w [] ∧ (i ≤ l.length) ∧ (orI l = orI (l.drop i))) id _ ⟨0, rfl, rfl, rfl, rfl, rfl, (congrArg (Value.int .i64) (show 0 = _ from by omega)), hst, (by omega), (by first | rfl | exact hI.trans (or_go (by omega) (by assumption)))⟩ ?_
  rintro m2 ρ3 w4 ⟨i, hm2, q1_0, q1_3, q1_6, q1_7, q1_8, hst, hi, hI⟩
  have hlen := h_l.len
  refine cE_seq ?_
  refine cE_region rfl ?_
  refine s_cons (op_lss (k := .i64) (a := (i : Int)) (b := (l.length : Int)) q1_8 q1_7 ?_)
  refine s_nil ?_
  refine then_n ?_
  refine cE_seq ?_
  rcases Bool.eq_false_or_eq_true (decide ((i : Int) < (l.length : Int))) with b5 | b5
  · have c6 : (i : Int) < (l.length : Int) := of_decide_eq_true b5
    refine cE_cond true (congrArg Value.bool b5) (fun _ => ?_) (fun h => by cases h)
    refine cE_skip ?_
    refine then_n ?_
    refine cE_seq ?_
    refine cE_block ?_
    refine cE_seq ?_
    refine cE_region rfl ?_
    refine s_cons (op_indexAddrN (E := (intE .i64)) (xs := l) i Try.underlying24 Try.sizeOf3 q1_6 h_l q1_8 (by omega) (by omega) (fun a7 o8 p9 => ?_))
    refine s_cons (op_load1 (u := (.int .i64 (l[i]'(by omega)))) Try.isAgg3 rfl (p9.below hst.below) ?_)
    refine s_cons (op_assign (.int .i64 (l[i]'(by omega))) rfl ?_)
    refine s_nil ?_
    refine then_n ?_
    refine cE_seq ?_
    refine cE_region rfl ?_
    refine s_cons (op_move (.int .i64 (l[i]'(by omega))) rfl ?_)
    refine s_cons (op_move (.int .i64 0) q1_3 ?_)
    refine s_cons (op_neq (k := .i64) (a := (l[i]'(by omega))) (b := 0) rfl rfl ?_)
    refine s_nil ?_
    refine then_n ?_
    rcases Bool.eq_false_or_eq_true (decide ((l[i]'(by omega)) = 0)) with b10 | b10
    · have c11 : (l[i]'(by omega)) = 0 := of_decide_eq_true b10
      refine cE_cond false (congrArg Value.bool (congrArg (! ·) b10)) (fun h => by cases h) (fun _ => ?_)
      refine cE_skip ?_
      refine block_n (then_n ?_)
      refine cE_region rfl ?_
      refine s_cons (op_add (k := .i64) (a := (i : Int)) (b := 1) ((i : Int) + 1) q1_8 rfl (xi64 (by omega) (by omega)) ?_)
      refine s_cons (op_move (.int .i64 ((i : Int) + 1)) rfl ?_)
      refine s_nil ?_
      refine then_n ?_
      exact ⟨_, ⟨(i + 1), rfl, q1_0, q1_3, q1_6, q1_7, (congrArg (Value.int .i64) (show ((i : Int) + 1) = _ from by omega)), hst, (by omega), (by first | rfl | exact hI.trans (or_go (by omega) (by assumption)))⟩, (by simp only [id]; omega)⟩
    have c12 : ¬ ((l[i]'(by omega)) = 0) := of_decide_eq_false b10
    refine cE_cond true (congrArg Value.bool (congrArg (! ·) b10)) (fun _ => ?_) (fun h => by cases h)
    refine cE_seq ?_
    refine cE_region rfl ?_
    refine s_cons (op_move (.int .i64 (l[i]'(by omega))) rfl ?_)
    refine s_cons (op_assign (.int .i64 (l[i]'(by omega))) rfl ?_)
    refine s_nil ?_
    refine then_n ?_
    refine cE_ret ?_
    refine block_r (then_r (then_r (block_r (then_r ?_))))
    refine post_r _ (res1 (v := (.int .i64 (l[i]'(by omega)))) rfl) ?_
    exact ⟨(retv1 (congrArg (Value.int .i64) (show (l[i]'(by omega)) = (orI l) from by first | exact (hI.trans (or_at (by omega) (by assumption))).symm | exact (hI.trans (or_end (by omega))).symm))), hst.bare⟩
  have c13 : ¬ ((i : Int) < (l.length : Int)) := of_decide_eq_false b5
  refine cE_cond false (congrArg Value.bool b5) (fun h => by cases h) (fun _ => ?_)
  refine cE_exit ?_
  refine then_x (then_x (block_hit (then_n ?_)))
  refine cE_seq ?_
  refine cE_region rfl ?_
  refine s_cons (op_move (.int .i64 0) q1_3 ?_)
  refine s_cons (op_assign (.int .i64 0) rfl ?_)
  refine s_nil ?_
  refine then_n ?_
  refine cE_ret ?_
  refine post_r _ (res1 (v := (.int .i64 0)) rfl) ?_
  exact ⟨(retv1 (congrArg (Value.int .i64) (show 0 = (orI l) from by first | exact (hI.trans (or_at (by omega) (by assumption))).symm | exact (hI.trans (or_end (by omega))).symm))), hst.bare⟩

end Go.Proofs.Ytadnedoecbfojaa
