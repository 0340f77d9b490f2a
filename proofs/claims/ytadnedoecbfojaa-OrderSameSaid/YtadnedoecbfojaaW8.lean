/- twinkeepref17.has -/
import Derived.Test.YtadnedoecbfojaaT
import Derived.Test.YtadnedoecbfojaaJ
import Derived.Test.YtadnedoecbfojaaK
import Derived.Test.YtadnedoecbfojaaSM
import Derived.Test.YtadnedoecbfojaaW1
import Derived.Test.YtadnedoecbfojaaW2
import Derived.Test.YtadnedoecbfojaaW3
import Derived.Test.YtadnedoecbfojaaW4
import Derived.Test.YtadnedoecbfojaaW5
import Derived.Test.YtadnedoecbfojaaW6
import Derived.Test.YtadnedoecbfojaaW7
namespace Go.Proofs.Ytadnedoecbfojaa
open Go.RowKit

theorem c_has (w0 : World) (v_l : Value) (l : List Info) (h_l : Sl w0 infoE v_l l) (key : Int) :
    Calls Try.prog 14 #[v_l, (.int .i64 key)] w0 fun e w' => e = .returned (.bool (hasI l key)) ∧ St w0 w' [] := by
  refine calls_E (n := 19) (ts := [4]) Try.func14 rfl rfl rfl (by simp) ?_
  have hst := St.start w0
  refine cE_seq ?_
  refine cE_region rfl ?_
  refine s_cons (op_assign (.bool false) rfl ?_)
  refine s_nil ?_
  refine then_n ?_
  refine cE_seq ?_
  refine cE_seq ?_
  refine cE_region rfl ?_
  refine s_cons (op_assign (.int .i64 0) rfl ?_)
  refine s_nil ?_
  refine then_n ?_
  refine cE_block ?_
  refine cE_loop (fun (m : Nat) (ρ : Env) (w : World) => ∃ (i : Nat), m = l.length - i ∧ ρ 0 = v_l ∧ ρ 1 = (.int .i64 key) ∧ ρ 5 = (.int .i64 (i : Int)) ∧ St w0 w [] ∧ (i ≤ l.length) ∧ (hasI l key = hasI (l.drop i) key)) id _ ⟨0, rfl, rfl, rfl, (congrArg (Value.int .i64) (show 0 = _ from by omega)), hst, (by omega), (by first | rfl | exact hI.trans (has_go (by omega) (by assumption)))⟩ ?_
  rintro m2 ρ3 w4 ⟨i, hm2, q1_0, q1_1, q1_5, hst, hi, hI⟩
  have hlen := h_l.len
  refine cE_seq ?_
  refine cE_seq ?_
  refine cE_region rfl ?_
  refine s_cons (op_move (.int .i64 (i : Int)) q1_5 ?_)
  refine s_cons (op_move v_l q1_0 ?_)
  refine s_cons (op_len (E := infoE) (xs := l) Try.underlying22 rfl h_l ?_)
  refine s_cons (op_lss (k := .i64) (a := (i : Int)) (b := (l.length : Int)) rfl rfl ?_)
  refine s_nil ?_
  refine then_n ?_
  rcases Bool.eq_false_or_eq_true (decide ((i : Int) < (l.length : Int))) with b5 | b5
  · have c6 : (i : Int) < (l.length : Int) := of_decide_eq_true b5
    refine cE_cond true (congrArg Value.bool b5) (fun _ => ?_) (fun h => by cases h)
    refine cE_skip ?_
    refine then_n ?_
    refine cE_seq ?_
    refine cE_block ?_
    refine cE_seq ?_
    refine cE_region rfl ?_
    refine s_cons (op_move v_l q1_0 ?_)
    refine s_cons (op_move (.int .i64 (i : Int)) q1_5 ?_)
    refine s_cons (op_indexAddrN (E := infoE) (xs := l) i Try.underlying22 Try.sizeOf34 rfl h_l rfl (by omega) (by omega) (fun a7 o8 p9 => ?_))
    refine s_cons (op_fieldAddr (s := 0) Try.underlying34 rfl rfl Try.sizeOf3 rfl ?_)
    refine s_cons (op_load1 (u := (.int .i64 ((l[i]'(by omega)).Id))) Try.isAgg3 rfl (p9.below hst.below) ?_)
    refine s_cons (op_move (.int .i64 key) q1_1 ?_)
    refine s_cons (op_eql (k := .i64) (a := (l[i]'(by omega)).Id) (b := key) rfl rfl ?_)
    refine s_nil ?_
    refine then_n ?_
    rcases Bool.eq_false_or_eq_true (decide (((l[i]'(by omega)).Id) = key)) with b10 | b10
    · have c11 : ((l[i]'(by omega)).Id) = key := of_decide_eq_true b10
      refine cE_cond true (congrArg Value.bool b10) (fun _ => ?_) (fun h => by cases h)
      refine cE_seq ?_
      refine cE_region rfl ?_
      refine s_cons (op_assign (.bool true) rfl ?_)
      refine s_nil ?_
      refine then_n ?_
      refine cE_ret ?_
      refine block_r (then_r (then_r (block_r (then_r ?_))))
      refine post_r _ (res1 (v := (.bool true)) rfl) ?_
      exact ⟨(retv1 (congrArg Value.bool (show true = (hasI l key) from by first | exact (hI.trans (has_at (by omega) (by assumption))).symm | exact (hI.trans (has_end (by omega))).symm))), hst.bare⟩
    have c12 : ¬ (((l[i]'(by omega)).Id) = key) := of_decide_eq_false b10
    refine cE_cond false (congrArg Value.bool b10) (fun h => by cases h) (fun _ => ?_)
    refine cE_skip ?_
    refine block_n (then_n ?_)
    refine cE_region rfl ?_
    refine s_cons (op_move (.int .i64 (i : Int)) q1_5 ?_)
    refine s_cons (op_add (k := .i64) (a := (i : Int)) (b := 1) ((i : Int) + 1) rfl rfl (xi64 (by omega) (by omega)) ?_)
    refine s_cons (op_assign (.int .i64 ((i : Int) + 1)) rfl ?_)
    refine s_nil ?_
    refine then_n ?_
    exact ⟨_, ⟨(i + 1), rfl, q1_0, q1_1, (congrArg (Value.int .i64) (show ((i : Int) + 1) = _ from by omega)), hst, (by omega), (by first | rfl | exact hI.trans (has_go (by omega) (by assumption)))⟩, (by simp only [id]; omega)⟩
  have c13 : ¬ ((i : Int) < (l.length : Int)) := of_decide_eq_false b5
  refine cE_cond false (congrArg Value.bool b5) (fun h => by cases h) (fun _ => ?_)
  refine cE_exit ?_
  refine then_x (then_x (block_hit (then_n ?_)))
  refine cE_seq ?_
  refine cE_region rfl ?_
  refine s_cons (op_assign (.bool false) rfl ?_)
  refine s_nil ?_
  refine then_n ?_
  refine cE_ret ?_
  refine post_r _ (res1 (v := (.bool false)) rfl) ?_
  exact ⟨(retv1 (congrArg Value.bool (show false = (hasI l key) from by first | exact (hI.trans (has_at (by omega) (by assumption))).symm | exact (hI.trans (has_end (by omega))).symm))), hst.bare⟩

end Go.Proofs.Ytadnedoecbfojaa
