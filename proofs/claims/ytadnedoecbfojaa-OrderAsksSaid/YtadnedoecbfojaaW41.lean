/- twinkeeplaw20.OrderAsks -/
import Derived.Test.YtadnedoecbfojaaW40
import Derived.Test.YtadnedoecbfojaaW33
import Derived.Test.YtadnedoecbfojaaW36
import Derived.Test.YtadnedoecbfojaaW9
namespace Go.Proofs.Ytadnedoecbfojaa
open Go.RowKit

set_option maxHeartbeats 4000000 in
theorem c_OrderAsks (w0 : World) (v_a : Value) (a : List Info) (h_a : Sl w0 infoE v_a a) (v_b : Value) (b : List Info) (h_b : Sl w0 infoE v_b b) (ha : ∀ s ∈ a, s.ok) (hb : ∀ s ∈ b, s.ok) :
    Calls Try.prog 3 #[v_a, v_b] w0 fun e w' => e = .returned (.bool true) ∧ St w0 w' [] := by
  have hbl := bodies_len a b
  refine calls_E (n := 64) (ts := [4]) Try.func3 rfl rfl rfl (by simp) ?_
  have hst := St.start w0
  refine cE_seq ?_
  refine cE_region rfl ?_
  refine s_cons (op_assign (.bool false) rfl ?_)
  refine s_nil ?_
  refine then_n ?_
  refine cE_seq ?_
  refine cE_seq ?_
  refine cE_region rfl ?_
  refine s_cons (op_move v_a rfl ?_)
  refine s_cons (op_len (E := infoE) (xs := a) Try.underlying22 rfl h_a ?_)
  refine s_cons (op_gtr (k := .i64) (a := (a.length : Int)) (b := 40) rfl rfl ?_)
  refine s_cons (op_move (.bool (decide (40 < (a.length : Int)))) rfl ?_)
  rcases Bool.eq_false_or_eq_true (decide (40 < (a.length : Int))) with b1 | b1
  · have c2 : 40 < (a.length : Int) := of_decide_eq_true b1
    refine s_no 14 rfl (congrArg Value.bool b1) ?_
    refine s_no 14 rfl (congrArg Value.bool b1) ?_
    refine s_no 14 rfl (congrArg Value.bool b1) ?_
    refine s_cons (op_pick_t (.bool true) (congrArg Value.bool b1) rfl ?_)
    refine s_nil ?_
    refine then_n ?_
    refine cE_cond true rfl (fun _ => ?_) (fun h => by cases h)
    refine cE_seq ?_
    refine cE_region rfl ?_
    refine s_cons (op_call Try.call7 evs_nil (c_told20 (w0 := w0)) ?_)
    rintro _ w3 ⟨rfl, hcall⟩
    refine ⟨_, rfl, ?_⟩
    have hst : St w0 w3 [] := hst.call hcall
    refine s_cons (op_assign (.bool true) rfl ?_)
    refine s_nil ?_
    refine then_n ?_
    refine cE_ret ?_
    refine then_r ?_
    refine post_r _ (res1 (v := (.bool true)) rfl) ?_
    exact ⟨rfl, hst.bare⟩
  have c4 : ¬ (40 < (a.length : Int)) := of_decide_eq_false b1
  refine s_yes 14 rfl (congrArg Value.bool b1) (op_move v_b rfl ?_)
  refine s_yes 14 rfl (congrArg Value.bool b1) (op_len (E := infoE) (xs := b) Try.underlying22 rfl h_b ?_)
  refine s_yes 14 rfl (congrArg Value.bool b1) (op_gtr (k := .i64) (a := (b.length : Int)) (b := 40) rfl rfl ?_)
  refine s_cons (op_pick_f (.bool (decide (40 < (b.length : Int)))) (congrArg Value.bool b1) rfl ?_)
  refine s_nil ?_
  refine then_n ?_
  rcases Bool.eq_false_or_eq_true (decide (40 < (b.length : Int))) with b5 | b5
  · have c6 : 40 < (b.length : Int) := of_decide_eq_true b5
    refine cE_cond true (congrArg Value.bool b5) (fun _ => ?_) (fun h => by cases h)
    refine cE_seq ?_
    refine cE_region rfl ?_
    refine s_cons (op_call Try.call7 evs_nil (c_told20 (w0 := w0)) ?_)
    rintro _ w7 ⟨rfl, hcall⟩
    refine ⟨_, rfl, ?_⟩
    have hst : St w0 w7 [] := hst.call hcall
    refine s_cons (op_assign (.bool true) rfl ?_)
    refine s_nil ?_
    refine then_n ?_
    refine cE_ret ?_
    refine then_r ?_
    refine post_r _ (res1 (v := (.bool true)) rfl) ?_
    exact ⟨rfl, hst.bare⟩
  have c8 : ¬ (40 < (b.length : Int)) := of_decide_eq_false b5
  refine cE_cond false (congrArg Value.bool b5) (fun h => by cases h) (fun _ => ?_)
  refine cE_skip ?_
  refine then_n ?_
  refine cE_seq ?_
  refine cE_region rfl ?_
  refine s_cons (op_move v_a rfl ?_)
  refine s_cons (op_move v_b rfl ?_)
  refine s_cons (op_call Try.call8 (evs_cons (v := v_a) rfl (evs_cons (v := v_b) rfl evs_nil)) (c_rBodies (w0 := w0) (v_l := v_a) (l := a) (h_l := (h_a.below hst.below)) (v_r := v_b) (r := b) (h_r := (h_b.below hst.below)) (hll := (by omega)) (hrl := (by omega))) ?_)
  rintro _ w10 ⟨r9, rfl, hcall⟩
  refine ⟨_, rfl, ?_⟩
  have hst : St w0 w10 [rowT 3 (intE .i64) r9 (bodies a b)] := hst.call hcall
  refine s_cons (op_assign r9 rfl ?_)
  refine s_nil ?_
  refine then_n ?_
  refine cE_seq ?_
  refine cE_region rfl ?_
  refine s_cons (op_assign (.int .i64 (-1)) rfl ?_)
  refine s_nil ?_
  refine then_n ?_
  refine cE_seq ?_
  refine cE_seq ?_
  refine cE_region rfl ?_
  refine s_cons (op_move r9 rfl ?_)
  refine s_cons (op_len (E := (intE .i64)) (xs := (bodies a b)) Try.underlying24 rfl (hst.sl 0 rfl) ?_)
  refine s_cons (op_gtr (k := .i64) (a := ((bodies a b).length : Int)) (b := 0) rfl rfl ?_)
  refine s_nil ?_
  refine then_n ?_
  rcases Bool.eq_false_or_eq_true (decide (0 < ((bodies a b).length : Int))) with b11 | b11
  · have c12 : 0 < ((bodies a b).length : Int) := of_decide_eq_true b11
    refine cE_cond true (congrArg Value.bool b11) (fun _ => ?_) (fun h => by cases h)
    refine cE_region rfl ?_
    refine s_cons (op_move r9 rfl ?_)
    refine s_cons (op_indexAddrN (E := (intE .i64)) (xs := (bodies a b)) 0 Try.underlying24 Try.sizeOf3 rfl (hst.sl 0 rfl) rfl (by omega) (by omega) (fun a13 o14 p15 => ?_))
    refine s_cons (op_load1 (u := (.int .i64 ((bodies a b)[0]'(by omega)))) Try.isAgg3 rfl p15 ?_)
    refine s_cons (op_assign (.int .i64 ((bodies a b)[0]'(by omega))) rfl ?_)
    refine s_nil ?_
    refine then_n ?_
    refine cE_seq ?_
    refine cE_region rfl ?_
    refine s_cons (op_move v_a rfl ?_)
    refine s_cons (op_call Try.call9 (evs_cons (v := v_a) rfl evs_nil) (c_roll (w0 := w10) (v_l := v_a) (l := a) (h_l := (h_a.below hst.below)) (hl := ha)) ?_)
    rintro _ w16 ⟨rfl, hcall⟩
    refine ⟨_, rfl, ?_⟩
    have hst : St w0 w16 [rowT 3 (intE .i64) r9 (bodies a b)] := hst.call hcall
    refine s_cons (op_move (.tuple #[(.int .i64 ((rollI a).1)), (.int .i64 ((rollI a).2))]) rfl ?_)
    refine s_cons (op_extract (.int .i64 ((rollI a).1)) rfl rfl ?_)
    refine s_cons (op_extract (.int .i64 ((rollI a).2)) rfl rfl ?_)
    refine s_cons (op_assign (.int .i64 ((rollI a).1)) rfl ?_)
    refine s_cons (op_assign (.int .i64 ((rollI a).2)) rfl ?_)
    refine s_nil ?_
    refine then_n ?_
    refine cE_seq ?_
    refine cE_region rfl ?_
    refine s_cons (op_move v_a rfl ?_)
    refine s_cons (op_call Try.call10 (evs_cons (v := v_a) rfl evs_nil) (c_rRoll (w0 := w16) (v_l := v_a) (l := a) (h_l := (h_a.below hst.below)) (hl := ha)) ?_)
    rintro _ w17 ⟨rfl, hcall⟩
    refine ⟨_, rfl, ?_⟩
    have hst : St w0 w17 [rowT 3 (intE .i64) r9 (bodies a b)] := hst.call hcall
    refine s_cons (op_move (.tuple #[(.int .i64 ((rollI a).1)), (.int .i64 ((rollI a).2))]) rfl ?_)
    refine s_cons (op_extract (.int .i64 ((rollI a).1)) rfl rfl ?_)
    refine s_cons (op_extract (.int .i64 ((rollI a).2)) rfl rfl ?_)
    refine s_cons (op_assign (.int .i64 ((rollI a).1)) rfl ?_)
    refine s_cons (op_assign (.int .i64 ((rollI a).2)) rfl ?_)
    refine s_nil ?_
    refine then_n ?_
    refine cE_seq ?_
    refine cE_region rfl ?_
    refine s_cons (op_call Try.call7 evs_nil (c_told20 (w0 := w17)) ?_)
    rintro _ w18 ⟨rfl, hcall⟩
    refine ⟨_, rfl, ?_⟩
    have hst : St w0 w18 [rowT 3 (intE .i64) r9 (bodies a b)] := hst.call hcall
    refine s_cons (op_move (.bool true) rfl ?_)
    refine s_yes 40 rfl rfl (op_move v_a rfl ?_)
    refine s_yes 40 rfl rfl (op_move v_b rfl ?_)
    refine s_yes 40 rfl rfl (op_call Try.call12 (evs_cons (v := v_a) rfl (evs_cons (v := v_b) rfl evs_nil)) (c_bodies (w0 := w18) (v_l := v_a) (l := a) (h_l := (h_a.below hst.below)) (v_r := v_b) (r := b) (h_r := (h_b.below hst.below)) (hll := (by omega)) (hrl := (by omega))) ?_)
    rintro _ w20 ⟨r19, rfl, hcall⟩
    refine ⟨_, rfl, ?_⟩
    have hst : St w0 w20 [rowT 3 (intE .i64) r19 (bodies a b), rowT 3 (intE .i64) r9 (bodies a b)] := hst.call hcall
    refine s_yes 40 rfl rfl (op_move r9 rfl ?_)
    refine s_yes 40 rfl rfl (op_call Try.call11 (evs_cons (v := r19) rfl (evs_cons (v := r9) rfl evs_nil)) (c_Ints (w0 := w20) (v_a := r19) (a := (bodies a b)) (h_a := (hst.sl 0 rfl)) (v_b := r9) (b := (bodies a b)) (h_b := (hst.sl 1 rfl))) ?_)
    rintro _ w21 ⟨rfl, hcall⟩
    refine ⟨_, rfl, ?_⟩
    have hst : St w0 w21 [rowT 3 (intE .i64) r19 (bodies a b), rowT 3 (intE .i64) r9 (bodies a b)] := hst.call hcall
    refine s_cons (op_pick_t (.bool (decide ((bodies a b) = (bodies a b)))) rfl rfl ?_)
    refine s_cons (op_move (.bool (decide ((bodies a b) = (bodies a b)))) rfl ?_)
    refine s_yes 47 rfl (congrArg Value.bool (show (decide ((bodies a b) = (bodies a b))) = true from (decide_eq_true rfl))) (op_move v_a rfl ?_)
    refine s_yes 47 rfl (congrArg Value.bool (show (decide ((bodies a b) = (bodies a b))) = true from (decide_eq_true rfl))) (op_move v_b rfl ?_)
    refine s_yes 47 rfl (congrArg Value.bool (show (decide ((bodies a b) = (bodies a b))) = true from (decide_eq_true rfl))) (op_call Try.call13 (evs_cons (v := v_a) rfl (evs_cons (v := v_b) rfl evs_nil)) (c_next (w0 := w21) (v_l := v_a) (l := a) (h_l := (h_a.below hst.below)) (v_r := v_b) (r := b) (h_r := (h_b.below hst.below)) (hll := (by omega)) (hrl := (by omega))) ?_)
    rintro _ w22 ⟨rfl, hcall⟩
    refine ⟨_, rfl, ?_⟩
    have hst : St w0 w22 [rowT 3 (intE .i64) r19 (bodies a b), rowT 3 (intE .i64) r9 (bodies a b)] := hst.call hcall
    refine s_yes 47 rfl (congrArg Value.bool (show (decide ((bodies a b) = (bodies a b))) = true from (decide_eq_true rfl))) (op_move (.int .i64 ((bodies a b)[0]'(by omega))) rfl ?_)
    refine s_yes 47 rfl (congrArg Value.bool (show (decide ((bodies a b) = (bodies a b))) = true from (decide_eq_true rfl))) (op_eql (k := .i64) (a := (nextI a b)) (b := ((bodies a b)[0]'(by omega))) rfl rfl ?_)
    refine s_cons (op_pick_t (.bool (decide ((nextI a b) = ((bodies a b)[0]'(by omega))))) (congrArg Value.bool (show (decide ((bodies a b) = (bodies a b))) = true from (decide_eq_true rfl))) rfl ?_)
    refine s_cons (op_move (.bool (decide ((nextI a b) = ((bodies a b)[0]'(by omega))))) rfl ?_)
    refine s_yes 54 rfl (congrArg Value.bool (show (decide ((nextI a b) = ((bodies a b)[0]'(by omega)))) = true from (decide_eq_true (next_some (by omega))))) (op_move (.int .i64 ((rollI a).1)) rfl ?_)
    refine s_yes 54 rfl (congrArg Value.bool (show (decide ((nextI a b) = ((bodies a b)[0]'(by omega)))) = true from (decide_eq_true (next_some (by omega))))) (op_move (.int .i64 ((rollI a).1)) rfl ?_)
    refine s_yes 54 rfl (congrArg Value.bool (show (decide ((nextI a b) = ((bodies a b)[0]'(by omega)))) = true from (decide_eq_true (next_some (by omega))))) (op_eql (k := .i64) (a := (rollI a).1) (b := (rollI a).1) rfl rfl ?_)
    refine s_cons (op_pick_t (.bool (decide (((rollI a).1) = ((rollI a).1)))) (congrArg Value.bool (show (decide ((nextI a b) = ((bodies a b)[0]'(by omega)))) = true from (decide_eq_true (next_some (by omega))))) rfl ?_)
    refine s_cons (op_move (.bool (decide (((rollI a).1) = ((rollI a).1)))) rfl ?_)
    refine s_yes 59 rfl (congrArg Value.bool (show (decide (((rollI a).1) = ((rollI a).1))) = true from (decide_eq_true rfl))) (op_move (.int .i64 ((rollI a).2)) rfl ?_)
    refine s_yes 59 rfl (congrArg Value.bool (show (decide (((rollI a).1) = ((rollI a).1))) = true from (decide_eq_true rfl))) (op_move (.int .i64 ((rollI a).2)) rfl ?_)
    refine s_yes 59 rfl (congrArg Value.bool (show (decide (((rollI a).1) = ((rollI a).1))) = true from (decide_eq_true rfl))) (op_eql (k := .i64) (a := (rollI a).2) (b := (rollI a).2) rfl rfl ?_)
    refine s_cons (op_pick_t (.bool (decide (((rollI a).2) = ((rollI a).2)))) (congrArg Value.bool (show (decide (((rollI a).1) = ((rollI a).1))) = true from (decide_eq_true rfl))) rfl ?_)
    refine s_cons (op_assign (.bool (decide (((rollI a).2) = ((rollI a).2)))) rfl ?_)
    refine s_nil ?_
    refine then_n ?_
    refine cE_ret ?_
    refine post_r _ (res1 (v := (.bool true)) (congrArg Value.bool (show (decide (((rollI a).2) = ((rollI a).2))) = true from (decide_eq_true rfl)))) ?_
    exact ⟨rfl, hst.bare⟩
  have c23 : ¬ (0 < ((bodies a b).length : Int)) := of_decide_eq_false b11
  refine cE_cond false (congrArg Value.bool b11) (fun h => by cases h) (fun _ => ?_)
  refine cE_skip ?_
  refine then_n ?_
  refine cE_seq ?_
  refine cE_region rfl ?_
  refine s_cons (op_move v_a rfl ?_)
  refine s_cons (op_call Try.call9 (evs_cons (v := v_a) rfl evs_nil) (c_roll (w0 := w10) (v_l := v_a) (l := a) (h_l := (h_a.below hst.below)) (hl := ha)) ?_)
  rintro _ w24 ⟨rfl, hcall⟩
  refine ⟨_, rfl, ?_⟩
  have hst : St w0 w24 [rowT 3 (intE .i64) r9 (bodies a b)] := hst.call hcall
  refine s_cons (op_move (.tuple #[(.int .i64 ((rollI a).1)), (.int .i64 ((rollI a).2))]) rfl ?_)
  refine s_cons (op_extract (.int .i64 ((rollI a).1)) rfl rfl ?_)
  refine s_cons (op_extract (.int .i64 ((rollI a).2)) rfl rfl ?_)
  refine s_cons (op_assign (.int .i64 ((rollI a).1)) rfl ?_)
  refine s_cons (op_assign (.int .i64 ((rollI a).2)) rfl ?_)
  refine s_nil ?_
  refine then_n ?_
  refine cE_seq ?_
  refine cE_region rfl ?_
  refine s_cons (op_move v_a rfl ?_)
  refine s_cons (op_call Try.call10 (evs_cons (v := v_a) rfl evs_nil) (c_rRoll (w0 := w24) (v_l := v_a) (l := a) (h_l := (h_a.below hst.below)) (hl := ha)) ?_)
  rintro _ w25 ⟨rfl, hcall⟩
  refine ⟨_, rfl, ?_⟩
  have hst : St w0 w25 [rowT 3 (intE .i64) r9 (bodies a b)] := hst.call hcall
  refine s_cons (op_move (.tuple #[(.int .i64 ((rollI a).1)), (.int .i64 ((rollI a).2))]) rfl ?_)
  refine s_cons (op_extract (.int .i64 ((rollI a).1)) rfl rfl ?_)
  refine s_cons (op_extract (.int .i64 ((rollI a).2)) rfl rfl ?_)
  refine s_cons (op_assign (.int .i64 ((rollI a).1)) rfl ?_)
  refine s_cons (op_assign (.int .i64 ((rollI a).2)) rfl ?_)
  refine s_nil ?_
  refine then_n ?_
  refine cE_seq ?_
  refine cE_region rfl ?_
  refine s_cons (op_call Try.call7 evs_nil (c_told20 (w0 := w25)) ?_)
  rintro _ w26 ⟨rfl, hcall⟩
  refine ⟨_, rfl, ?_⟩
  have hst : St w0 w26 [rowT 3 (intE .i64) r9 (bodies a b)] := hst.call hcall
  refine s_cons (op_move (.bool true) rfl ?_)
  refine s_yes 40 rfl rfl (op_move v_a rfl ?_)
  refine s_yes 40 rfl rfl (op_move v_b rfl ?_)
  refine s_yes 40 rfl rfl (op_call Try.call12 (evs_cons (v := v_a) rfl (evs_cons (v := v_b) rfl evs_nil)) (c_bodies (w0 := w26) (v_l := v_a) (l := a) (h_l := (h_a.below hst.below)) (v_r := v_b) (r := b) (h_r := (h_b.below hst.below)) (hll := (by omega)) (hrl := (by omega))) ?_)
  rintro _ w28 ⟨r27, rfl, hcall⟩
  refine ⟨_, rfl, ?_⟩
  have hst : St w0 w28 [rowT 3 (intE .i64) r27 (bodies a b), rowT 3 (intE .i64) r9 (bodies a b)] := hst.call hcall
  refine s_yes 40 rfl rfl (op_move r9 rfl ?_)
  refine s_yes 40 rfl rfl (op_call Try.call11 (evs_cons (v := r27) rfl (evs_cons (v := r9) rfl evs_nil)) (c_Ints (w0 := w28) (v_a := r27) (a := (bodies a b)) (h_a := (hst.sl 0 rfl)) (v_b := r9) (b := (bodies a b)) (h_b := (hst.sl 1 rfl))) ?_)
  rintro _ w29 ⟨rfl, hcall⟩
  refine ⟨_, rfl, ?_⟩
  have hst : St w0 w29 [rowT 3 (intE .i64) r27 (bodies a b), rowT 3 (intE .i64) r9 (bodies a b)] := hst.call hcall
  refine s_cons (op_pick_t (.bool (decide ((bodies a b) = (bodies a b)))) rfl rfl ?_)
  refine s_cons (op_move (.bool (decide ((bodies a b) = (bodies a b)))) rfl ?_)
  refine s_yes 47 rfl (congrArg Value.bool (show (decide ((bodies a b) = (bodies a b))) = true from (decide_eq_true rfl))) (op_move v_a rfl ?_)
  refine s_yes 47 rfl (congrArg Value.bool (show (decide ((bodies a b) = (bodies a b))) = true from (decide_eq_true rfl))) (op_move v_b rfl ?_)
  refine s_yes 47 rfl (congrArg Value.bool (show (decide ((bodies a b) = (bodies a b))) = true from (decide_eq_true rfl))) (op_call Try.call13 (evs_cons (v := v_a) rfl (evs_cons (v := v_b) rfl evs_nil)) (c_next (w0 := w29) (v_l := v_a) (l := a) (h_l := (h_a.below hst.below)) (v_r := v_b) (r := b) (h_r := (h_b.below hst.below)) (hll := (by omega)) (hrl := (by omega))) ?_)
  rintro _ w30 ⟨rfl, hcall⟩
  refine ⟨_, rfl, ?_⟩
  have hst : St w0 w30 [rowT 3 (intE .i64) r27 (bodies a b), rowT 3 (intE .i64) r9 (bodies a b)] := hst.call hcall
  refine s_yes 47 rfl (congrArg Value.bool (show (decide ((bodies a b) = (bodies a b))) = true from (decide_eq_true rfl))) (op_move (.int .i64 (-1)) rfl ?_)
  refine s_yes 47 rfl (congrArg Value.bool (show (decide ((bodies a b) = (bodies a b))) = true from (decide_eq_true rfl))) (op_eql (k := .i64) (a := (nextI a b)) (b := (-1)) rfl rfl ?_)
  refine s_cons (op_pick_t (.bool (decide ((nextI a b) = (-1)))) (congrArg Value.bool (show (decide ((bodies a b) = (bodies a b))) = true from (decide_eq_true rfl))) rfl ?_)
  refine s_cons (op_move (.bool (decide ((nextI a b) = (-1)))) rfl ?_)
  refine s_yes 54 rfl (congrArg Value.bool (show (decide ((nextI a b) = (-1))) = true from (decide_eq_true (next_none (by omega))))) (op_move (.int .i64 ((rollI a).1)) rfl ?_)
  refine s_yes 54 rfl (congrArg Value.bool (show (decide ((nextI a b) = (-1))) = true from (decide_eq_true (next_none (by omega))))) (op_move (.int .i64 ((rollI a).1)) rfl ?_)
  refine s_yes 54 rfl (congrArg Value.bool (show (decide ((nextI a b) = (-1))) = true from (decide_eq_true (next_none (by omega))))) (op_eql (k := .i64) (a := (rollI a).1) (b := (rollI a).1) rfl rfl ?_)
  refine s_cons (op_pick_t (.bool (decide (((rollI a).1) = ((rollI a).1)))) (congrArg Value.bool (show (decide ((nextI a b) = (-1))) = true from (decide_eq_true (next_none (by omega))))) rfl ?_)
  refine s_cons (op_move (.bool (decide (((rollI a).1) = ((rollI a).1)))) rfl ?_)
  refine s_yes 59 rfl (congrArg Value.bool (show (decide (((rollI a).1) = ((rollI a).1))) = true from (decide_eq_true rfl))) (op_move (.int .i64 ((rollI a).2)) rfl ?_)
  refine s_yes 59 rfl (congrArg Value.bool (show (decide (((rollI a).1) = ((rollI a).1))) = true from (decide_eq_true rfl))) (op_move (.int .i64 ((rollI a).2)) rfl ?_)
  refine s_yes 59 rfl (congrArg Value.bool (show (decide (((rollI a).1) = ((rollI a).1))) = true from (decide_eq_true rfl))) (op_eql (k := .i64) (a := (rollI a).2) (b := (rollI a).2) rfl rfl ?_)
  refine s_cons (op_pick_t (.bool (decide (((rollI a).2) = ((rollI a).2)))) (congrArg Value.bool (show (decide (((rollI a).1) = ((rollI a).1))) = true from (decide_eq_true rfl))) rfl ?_)
  refine s_cons (op_assign (.bool (decide (((rollI a).2) = ((rollI a).2)))) rfl ?_)
  refine s_nil ?_
  refine then_n ?_
  refine cE_ret ?_
  refine post_r _ (res1 (v := (.bool true)) (congrArg Value.bool (show (decide (((rollI a).2) = ((rollI a).2))) = true from (decide_eq_true rfl)))) ?_
  exact ⟨rfl, hst.bare⟩

end Go.Proofs.Ytadnedoecbfojaa
