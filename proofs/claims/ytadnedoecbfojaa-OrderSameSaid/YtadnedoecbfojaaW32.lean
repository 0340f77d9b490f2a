/- order.Next -/
import Derived.Test.YtadnedoecbfojaaW31
namespace Go.Proofs.Ytadnedoecbfojaa
open Go.RowKit

theorem c_next (w0 : World) (v_l : Value) (l : List Info) (h_l : Sl w0 infoE v_l l) (v_r : Value) (r : List Info) (h_r : Sl w0 infoE v_r r) (hll : l.length ≤ 1000000) (hrl : r.length ≤ 1000000) :
    Calls Try.prog 13 #[v_l, v_r] w0 fun e w' => e = .returned (.int .i64 (nextI l r)) ∧ St w0 w' [] := by
  have hbl := bodies_len l r
  refine calls_E (n := 15) (ts := [4]) Try.func13 rfl rfl rfl (by simp) ?_
  have hst := St.start w0
  refine cE_seq ?_
  refine cE_region rfl ?_
  refine s_cons (op_assign (.int .i64 0) rfl ?_)
  refine s_nil ?_
  refine then_n ?_
  refine cE_seq ?_
  refine cE_region rfl ?_
  refine s_cons (op_move v_l rfl ?_)
  refine s_cons (op_move v_r rfl ?_)
  refine s_cons (op_call Try.call12 (evs_cons (v := v_l) rfl (evs_cons (v := v_r) rfl evs_nil)) (c_bodies (w0 := w0) (v_l := v_l) (l := l) (h_l := (h_l.below hst.below)) (v_r := v_r) (r := r) (h_r := (h_r.below hst.below)) (hll := (by omega)) (hrl := (by omega))) ?_)
  rintro _ w2 ⟨r1, rfl, hcall⟩
  refine ⟨_, rfl, ?_⟩
  have hst : St w0 w2 [rowT 3 (intE .i64) r1 (bodies l r)] := hst.call hcall
  refine s_cons (op_assign r1 rfl ?_)
  refine s_nil ?_
  refine then_n ?_
  refine cE_seq ?_
  refine cE_seq ?_
  refine cE_region rfl ?_
  refine s_cons (op_move r1 rfl ?_)
  refine s_cons (op_len (E := (intE .i64)) (xs := (bodies l r)) Try.underlying24 rfl (hst.sl 0 rfl) ?_)
  refine s_cons (op_eql (k := .i64) (a := ((bodies l r).length : Int)) (b := 0) rfl rfl ?_)
  refine s_nil ?_
  refine then_n ?_
  rcases Bool.eq_false_or_eq_true (decide (((bodies l r).length : Int) = 0)) with b3 | b3
  · have c4 : ((bodies l r).length : Int) = 0 := of_decide_eq_true b3
    refine cE_cond true (congrArg Value.bool b3) (fun _ => ?_) (fun h => by cases h)
    refine cE_seq ?_
    refine cE_region rfl ?_
    refine s_cons (op_assign (.int .i64 (-1)) rfl ?_)
    refine s_nil ?_
    refine then_n ?_
    refine cE_ret ?_
    refine then_r ?_
    refine post_r _ (res1 (v := (.int .i64 (-1))) rfl) ?_
    exact ⟨(retv1 (congrArg (Value.int .i64) (show (-1) = (nextI l r) from by first | exact (next_none (by omega)).symm | exact (next_some (by omega)).symm))), hst.bare⟩
  have c5 : ¬ (((bodies l r).length : Int) = 0) := of_decide_eq_false b3
  refine cE_cond false (congrArg Value.bool b3) (fun h => by cases h) (fun _ => ?_)
  refine cE_skip ?_
  refine then_n ?_
  refine cE_seq ?_
  refine cE_region rfl ?_
  refine s_cons (op_move r1 rfl ?_)
  refine s_cons (op_indexAddrN (E := (intE .i64)) (xs := (bodies l r)) 0 Try.underlying24 Try.sizeOf3 rfl (hst.sl 0 rfl) rfl (by omega) (by omega) (fun a6 o7 p8 => ?_))
  refine s_cons (op_load1 (u := (.int .i64 ((bodies l r)[0]'(by omega)))) Try.isAgg3 rfl p8 ?_)
  refine s_cons (op_assign (.int .i64 ((bodies l r)[0]'(by omega))) rfl ?_)
  refine s_nil ?_
  refine then_n ?_
  refine cE_ret ?_
  refine post_r _ (res1 (v := (.int .i64 ((bodies l r)[0]'(by omega)))) rfl) ?_
  exact ⟨(retv1 (congrArg (Value.int .i64) (show ((bodies l r)[0]'(by omega)) = (nextI l r) from by first | exact (next_none (by omega)).symm | exact (next_some (by omega)).symm))), hst.bare⟩

end Go.Proofs.Ytadnedoecbfojaa
