/- the law TierMakes -/
import Derived.Test.YtffnhcioponbbaaW13
import Derived.Test.YtffnhcioponbbaaW15
import Derived.Test.YtffnhcioponbbaaW18
import Derived.Test.YtffnhcioponbbaaA
import Derived.Test.YtffnhcioponbbaaTS
import Derived.Test.YtffnhcioponbbaaW20
import Derived.Test.YtffnhcioponbbaaW21
import Derived.Test.YtffnhcioponbbaaW22
import Derived.Test.YtffnhcioponbbaaW23
import Derived.Test.YtffnhcioponbbaaW24
import Derived.Test.YtffnhcioponbbaaW25
import Derived.Test.YtffnhcioponbbaaW26
import Derived.Test.YtffnhcioponbbaaW27
import Derived.Test.YtffnhcioponbbaaW28
import Derived.Test.YtffnhcioponbbaaW29
import Derived.Test.YtffnhcioponbbaaW30
namespace Go.Proofs.Ytffnhcioponbbaa
open Go.RowKit

set_option maxHeartbeats 4000000 in
theorem c_TierMakes (w0 : World) (v_steps : Value) (steps : List Int) (h_steps : Sl w0 (intE .i64) v_steps steps) (v_values : Value) (values : List Int) (h_values : Sl w0 (intE .i64) v_values values) (hv : ∀ v ∈ values, i64R v) (hs : ∀ v ∈ steps, i64R v) :
    Calls Try.prog 10 #[v_steps, v_values] w0 fun e w' => e = .returned (.bool true) ∧ St w0 w' [] := by
  have hNN : riseN steps 60 ≤ 60 := Nat.le_trans (riseN_le2 steps 60) (by decide)
  have hLO := rise_ok (steps := steps) (values := values) (n := riseN steps 60) (riseN_le _ _) (by omega) hv
  have hLL := rise_length steps values (riseN steps 60)
  have hLR := rise_rises (steps := steps) (values := values) (n := riseN steps 60) (riseN_le _ _) (by omega)
  have hrc := raw_code (l := (riseL steps values (riseN steps 60))) (k := 1) (by decide) (by decide) hLR (by omega)
  have hrl := rawA_len (riseL steps values (riseN steps 60)) 1
  have hro := rawA_ok (k := 1) hLO
  refine calls_E (n := 64) (ts := [4]) Try.func10 rfl rfl rfl (by simp) ?_
  have hst := St.start w0
  refine cE_seq ?_
  refine cE_region rfl ?_
  refine s_cons (op_assign (.bool false) rfl ?_)
  refine s_nil ?_
  refine then_n ?_
  refine cE_seq ?_
  refine cE_region rfl ?_
  refine s_cons (op_move v_steps rfl ?_)
  refine s_cons (op_move v_values rfl ?_)
  refine s_cons (op_call Try.call19 (evs_cons (v := v_steps) rfl (evs_cons (v := v_values) rfl (evs_cons (v := (.int .i64 60)) rfl evs_nil))) (c_Rise (w0 := w0) (v_steps := v_steps) (steps := steps) (h_steps := (h_steps.below hst.below)) (v_values := v_values) (values := values) (h_values := (h_values.below hst.below)) (most := 60) (m0 := (by omega)) (m1 := (by omega)) (hv := hv) (hs := hs)) ?_)
  rintro _ w2 ⟨r1, rfl, hcall⟩
  refine ⟨_, rfl, ?_⟩
  have hst : St w0 w2 [rowT 32 sampE r1 (riseL steps values (riseN steps 60))] := hst.call hcall
  refine s_cons (op_assign r1 rfl ?_)
  refine s_nil ?_
  refine then_n ?_
  refine cE_seq ?_
  refine cE_region rfl ?_
  refine s_cons (op_move r1 rfl ?_)
  refine s_cons (op_call Try.call21 (evs_cons (v := r1) rfl (evs_cons (v := (.int .i64 1)) rfl evs_nil)) (c_Raw (w0 := w2) (v_l := r1) (l := (riseL steps values (riseN steps 60))) (h_l := (hst.sl 0 rfl)) (k := 1) (hl := hLO) (hn := (by omega)) (k0 := (by omega)) (k1 := (by omega))) ?_)
  rintro _ w4 ⟨r3, rfl, hcall⟩
  refine ⟨_, rfl, ?_⟩
  have hst : St w0 w4 [rowT 26 aggE r3 ((rawA (riseL steps values (riseN steps 60)) 1).1), rowT 32 sampE r1 (riseL steps values (riseN steps 60))] := hst.call hcall
  refine s_cons (op_move (.tuple #[r3, (.int .i64 ((rawA (riseL steps values (riseN steps 60)) 1).2))]) rfl ?_)
  refine s_cons (op_extract r3 rfl rfl ?_)
  refine s_cons (op_extract (.int .i64 ((rawA (riseL steps values (riseN steps 60)) 1).2)) rfl rfl ?_)
  refine s_cons (op_assign r3 rfl ?_)
  refine s_cons (op_assign (.int .i64 ((rawA (riseL steps values (riseN steps 60)) 1).2)) rfl ?_)
  refine s_nil ?_
  refine then_n ?_
  refine cE_seq ?_
  refine cE_region rfl ?_
  refine s_cons (op_move r1 rfl ?_)
  refine s_cons (op_call Try.call25 (evs_cons (v := r1) rfl (evs_cons (v := (.int .i64 1)) rfl evs_nil)) (c_rRaw (w0 := w4) (v_l := r1) (l := (riseL steps values (riseN steps 60))) (h_l := (hst.sl 1 rfl)) (k := 1) (hl := hLO) (hn := (by omega)) (k0 := (by omega)) (k1 := (by omega))) ?_)
  rintro _ w6 ⟨r5, rfl, hcall⟩
  refine ⟨_, rfl, ?_⟩
  have hst : St w0 w6 [rowT 26 aggE r5 ((rawA (riseL steps values (riseN steps 60)) 1).1), rowT 26 aggE r3 ((rawA (riseL steps values (riseN steps 60)) 1).1), rowT 32 sampE r1 (riseL steps values (riseN steps 60))] := hst.call hcall
  refine s_cons (op_move (.tuple #[r5, (.int .i64 ((rawA (riseL steps values (riseN steps 60)) 1).2))]) rfl ?_)
  refine s_cons (op_extract r5 rfl rfl ?_)
  refine s_cons (op_extract (.int .i64 ((rawA (riseL steps values (riseN steps 60)) 1).2)) rfl rfl ?_)
  refine s_cons (op_assign r5 rfl ?_)
  refine s_cons (op_assign (.int .i64 ((rawA (riseL steps values (riseN steps 60)) 1).2)) rfl ?_)
  refine s_nil ?_
  refine then_n ?_
  refine cE_seq ?_
  refine cE_seq ?_
  refine cE_region rfl ?_
  refine s_cons (op_move (.int .i64 ((rawA (riseL steps values (riseN steps 60)) 1).2)) rfl ?_)
  refine s_cons (op_move (.int .i64 ((rawA (riseL steps values (riseN steps 60)) 1).2)) rfl ?_)
  refine s_cons (op_neq (k := .i64) (a := (rawA (riseL steps values (riseN steps 60)) 1).2) (b := (rawA (riseL steps values (riseN steps 60)) 1).2) rfl rfl ?_)
  refine s_cons (op_move (.bool (!decide (((rawA (riseL steps values (riseN steps 60)) 1).2) = ((rawA (riseL steps values (riseN steps 60)) 1).2)))) rfl ?_)
  refine s_yes 30 rfl (congrArg Value.bool (congrArg (! ·) (show (decide (((rawA (riseL steps values (riseN steps 60)) 1).2) = ((rawA (riseL steps values (riseN steps 60)) 1).2))) = true from (decide_eq_true rfl)))) (op_move r3 rfl ?_)
  refine s_yes 30 rfl (congrArg Value.bool (congrArg (! ·) (show (decide (((rawA (riseL steps values (riseN steps 60)) 1).2) = ((rawA (riseL steps values (riseN steps 60)) 1).2))) = true from (decide_eq_true rfl)))) (op_move r5 rfl ?_)
  refine s_yes 30 rfl (congrArg Value.bool (congrArg (! ·) (show (decide (((rawA (riseL steps values (riseN steps 60)) 1).2) = ((rawA (riseL steps values (riseN steps 60)) 1).2))) = true from (decide_eq_true rfl)))) (op_call Try.call27 (evs_cons (v := r3) rfl (evs_cons (v := r5) rfl evs_nil)) (c_SameAggs (w0 := w6) (v_a := r3) (a := (rawA (riseL steps values (riseN steps 60)) 1).1) (h_a := (hst.sl 1 rfl)) (v_b := r5) (b := (rawA (riseL steps values (riseN steps 60)) 1).1) (h_b := (hst.sl 0 rfl))) ?_)
  rintro _ w7 ⟨rfl, hcall⟩
  refine ⟨_, rfl, ?_⟩
  have hst : St w0 w7 [rowT 26 aggE r5 ((rawA (riseL steps values (riseN steps 60)) 1).1), rowT 26 aggE r3 ((rawA (riseL steps values (riseN steps 60)) 1).1), rowT 32 sampE r1 (riseL steps values (riseN steps 60))] := hst.call hcall
  refine s_yes 30 rfl (congrArg Value.bool (congrArg (! ·) (show (decide (((rawA (riseL steps values (riseN steps 60)) 1).2) = ((rawA (riseL steps values (riseN steps 60)) 1).2))) = true from (decide_eq_true rfl)))) (op_not (b := decide ((rawA (riseL steps values (riseN steps 60)) 1).1 = (rawA (riseL steps values (riseN steps 60)) 1).1)) rfl ?_)
  refine s_cons (op_pick_f (.bool (!(decide ((rawA (riseL steps values (riseN steps 60)) 1).1 = (rawA (riseL steps values (riseN steps 60)) 1).1)))) (congrArg Value.bool (congrArg (! ·) (show (decide (((rawA (riseL steps values (riseN steps 60)) 1).2) = ((rawA (riseL steps values (riseN steps 60)) 1).2))) = true from (decide_eq_true rfl)))) rfl ?_)
  refine s_nil ?_
  refine then_n ?_
  refine cE_cond false (congrArg Value.bool (congrArg (! ·) (show (decide ((rawA (riseL steps values (riseN steps 60)) 1).1 = (rawA (riseL steps values (riseN steps 60)) 1).1)) = true from (decide_eq_true rfl)))) (fun h => by cases h) (fun _ => ?_)
  refine cE_skip ?_
  refine then_n ?_
  refine cE_seq ?_
  refine cE_seq ?_
  refine cE_region rfl ?_
  refine s_cons (op_move (.int .i64 ((rawA (riseL steps values (riseN steps 60)) 1).2)) rfl ?_)
  refine s_cons (op_neq (k := .i64) (a := (rawA (riseL steps values (riseN steps 60)) 1).2) (b := 0) rfl rfl ?_)
  refine s_nil ?_
  refine then_n ?_
  rcases Bool.eq_false_or_eq_true (decide (((rawA (riseL steps values (riseN steps 60)) 1).2) = 0)) with b8 | b8
  · have c9 : ((rawA (riseL steps values (riseN steps 60)) 1).2) = 0 := of_decide_eq_true b8
    refine cE_cond false (congrArg Value.bool (congrArg (! ·) b8)) (fun h => by cases h) (fun _ => ?_)
    refine cE_skip ?_
    refine then_n ?_
    refine cE_seq ?_
    refine cE_region rfl ?_
    refine s_cons (op_move r3 rfl ?_)
    refine s_cons (op_call Try.call22 (evs_cons (v := r3) rfl (evs_cons (v := (.int .i64 2)) rfl evs_nil)) (c_Down (w0 := w7) (v_l := r3) (l := (rawA (riseL steps values (riseN steps 60)) 1).1) (h_l := (hst.sl 1 rfl)) (k := 2) (hl := hro) (hn := (by omega)) (k0 := (by omega)) (k1 := (by omega))) ?_)
    rintro _ w11 ⟨r10, rfl, hcall⟩
    refine ⟨_, rfl, ?_⟩
    have hst : St w0 w11 [rowT 26 aggE r10 ((downA ((rawA (riseL steps values (riseN steps 60)) 1).1) 2).1), rowT 26 aggE r5 ((rawA (riseL steps values (riseN steps 60)) 1).1), rowT 26 aggE r3 ((rawA (riseL steps values (riseN steps 60)) 1).1), rowT 32 sampE r1 (riseL steps values (riseN steps 60))] := hst.call hcall
    refine s_cons (op_move (.tuple #[r10, (.int .i64 ((downA ((rawA (riseL steps values (riseN steps 60)) 1).1) 2).2))]) rfl ?_)
    refine s_cons (op_extract r10 rfl rfl ?_)
    refine s_cons (op_extract (.int .i64 ((downA ((rawA (riseL steps values (riseN steps 60)) 1).1) 2).2)) rfl rfl ?_)
    refine s_cons (op_assign r10 rfl ?_)
    refine s_cons (op_assign (.int .i64 ((downA ((rawA (riseL steps values (riseN steps 60)) 1).1) 2).2)) rfl ?_)
    refine s_nil ?_
    refine then_n ?_
    refine cE_seq ?_
    refine cE_region rfl ?_
    refine s_cons (op_move r5 rfl ?_)
    refine s_cons (op_call Try.call26 (evs_cons (v := r5) rfl (evs_cons (v := (.int .i64 2)) rfl evs_nil)) (c_rDown (w0 := w11) (v_l := r5) (l := (rawA (riseL steps values (riseN steps 60)) 1).1) (h_l := (hst.sl 1 rfl)) (k := 2) (hl := hro) (hn := (by omega)) (k0 := (by omega)) (k1 := (by omega))) ?_)
    rintro _ w13 ⟨r12, rfl, hcall⟩
    refine ⟨_, rfl, ?_⟩
    have hst : St w0 w13 [rowT 26 aggE r12 ((downA ((rawA (riseL steps values (riseN steps 60)) 1).1) 2).1), rowT 26 aggE r10 ((downA ((rawA (riseL steps values (riseN steps 60)) 1).1) 2).1), rowT 26 aggE r5 ((rawA (riseL steps values (riseN steps 60)) 1).1), rowT 26 aggE r3 ((rawA (riseL steps values (riseN steps 60)) 1).1), rowT 32 sampE r1 (riseL steps values (riseN steps 60))] := hst.call hcall
    refine s_cons (op_move (.tuple #[r12, (.int .i64 ((downA ((rawA (riseL steps values (riseN steps 60)) 1).1) 2).2))]) rfl ?_)
    refine s_cons (op_extract r12 rfl rfl ?_)
    refine s_cons (op_extract (.int .i64 ((downA ((rawA (riseL steps values (riseN steps 60)) 1).1) 2).2)) rfl rfl ?_)
    refine s_cons (op_assign r12 rfl ?_)
    refine s_cons (op_assign (.int .i64 ((downA ((rawA (riseL steps values (riseN steps 60)) 1).1) 2).2)) rfl ?_)
    refine s_nil ?_
    refine then_n ?_
    refine cE_seq ?_
    refine cE_region rfl ?_
    refine s_cons (op_call Try.call20 evs_nil (c_told4 (w0 := w13)) ?_)
    rintro _ w14 ⟨rfl, hcall⟩
    refine ⟨_, rfl, ?_⟩
    have hst : St w0 w14 [rowT 26 aggE r12 ((downA ((rawA (riseL steps values (riseN steps 60)) 1).1) 2).1), rowT 26 aggE r10 ((downA ((rawA (riseL steps values (riseN steps 60)) 1).1) 2).1), rowT 26 aggE r5 ((rawA (riseL steps values (riseN steps 60)) 1).1), rowT 26 aggE r3 ((rawA (riseL steps values (riseN steps 60)) 1).1), rowT 32 sampE r1 (riseL steps values (riseN steps 60))] := hst.call hcall
    refine s_cons (op_move (.bool true) rfl ?_)
    refine s_yes 54 rfl rfl (op_move (.int .i64 ((downA ((rawA (riseL steps values (riseN steps 60)) 1).1) 2).2)) rfl ?_)
    refine s_yes 54 rfl rfl (op_move (.int .i64 ((downA ((rawA (riseL steps values (riseN steps 60)) 1).1) 2).2)) rfl ?_)
    refine s_yes 54 rfl rfl (op_eql (k := .i64) (a := (downA ((rawA (riseL steps values (riseN steps 60)) 1).1) 2).2) (b := (downA ((rawA (riseL steps values (riseN steps 60)) 1).1) 2).2) rfl rfl ?_)
    refine s_cons (op_pick_t (.bool (decide (((downA ((rawA (riseL steps values (riseN steps 60)) 1).1) 2).2) = ((downA ((rawA (riseL steps values (riseN steps 60)) 1).1) 2).2)))) rfl rfl ?_)
    refine s_cons (op_move (.bool (decide (((downA ((rawA (riseL steps values (riseN steps 60)) 1).1) 2).2) = ((downA ((rawA (riseL steps values (riseN steps 60)) 1).1) 2).2)))) rfl ?_)
    refine s_yes 59 rfl (congrArg Value.bool (show (decide (((downA ((rawA (riseL steps values (riseN steps 60)) 1).1) 2).2) = ((downA ((rawA (riseL steps values (riseN steps 60)) 1).1) 2).2))) = true from (decide_eq_true rfl))) (op_move r10 rfl ?_)
    refine s_yes 59 rfl (congrArg Value.bool (show (decide (((downA ((rawA (riseL steps values (riseN steps 60)) 1).1) 2).2) = ((downA ((rawA (riseL steps values (riseN steps 60)) 1).1) 2).2))) = true from (decide_eq_true rfl))) (op_move r12 rfl ?_)
    refine s_yes 59 rfl (congrArg Value.bool (show (decide (((downA ((rawA (riseL steps values (riseN steps 60)) 1).1) 2).2) = ((downA ((rawA (riseL steps values (riseN steps 60)) 1).1) 2).2))) = true from (decide_eq_true rfl))) (op_call Try.call27 (evs_cons (v := r10) rfl (evs_cons (v := r12) rfl evs_nil)) (c_SameAggs (w0 := w14) (v_a := r10) (a := (downA ((rawA (riseL steps values (riseN steps 60)) 1).1) 2).1) (h_a := (hst.sl 1 rfl)) (v_b := r12) (b := (downA ((rawA (riseL steps values (riseN steps 60)) 1).1) 2).1) (h_b := (hst.sl 0 rfl))) ?_)
    rintro _ w15 ⟨rfl, hcall⟩
    refine ⟨_, rfl, ?_⟩
    have hst : St w0 w15 [rowT 26 aggE r12 ((downA ((rawA (riseL steps values (riseN steps 60)) 1).1) 2).1), rowT 26 aggE r10 ((downA ((rawA (riseL steps values (riseN steps 60)) 1).1) 2).1), rowT 26 aggE r5 ((rawA (riseL steps values (riseN steps 60)) 1).1), rowT 26 aggE r3 ((rawA (riseL steps values (riseN steps 60)) 1).1), rowT 32 sampE r1 (riseL steps values (riseN steps 60))] := hst.call hcall
    refine s_cons (op_pick_t (.bool (decide ((downA ((rawA (riseL steps values (riseN steps 60)) 1).1) 2).1 = (downA ((rawA (riseL steps values (riseN steps 60)) 1).1) 2).1))) (congrArg Value.bool (show (decide (((downA ((rawA (riseL steps values (riseN steps 60)) 1).1) 2).2) = ((downA ((rawA (riseL steps values (riseN steps 60)) 1).1) 2).2))) = true from (decide_eq_true rfl))) rfl ?_)
    refine s_cons (op_assign (.bool (decide ((downA ((rawA (riseL steps values (riseN steps 60)) 1).1) 2).1 = (downA ((rawA (riseL steps values (riseN steps 60)) 1).1) 2).1))) rfl ?_)
    refine s_nil ?_
    refine then_n ?_
    refine cE_ret ?_
    refine post_r _ (res1 (v := (.bool true)) (congrArg Value.bool (show (decide ((downA ((rawA (riseL steps values (riseN steps 60)) 1).1) 2).1 = (downA ((rawA (riseL steps values (riseN steps 60)) 1).1) 2).1)) = true from (decide_eq_true rfl)))) ?_
    exact ⟨rfl, hst.bare⟩
  · have c16 : ¬ (((rawA (riseL steps values (riseN steps 60)) 1).2) = 0) := of_decide_eq_false b8
    refine cE_cond true (congrArg Value.bool (congrArg (! ·) b8)) (fun _ => ?_) (fun h => by cases h)
    refine cE_seq ?_
    refine cE_region rfl ?_
    refine s_cons (op_call Try.call20 evs_nil (c_told4 (w0 := w7)) ?_)
    rintro _ w17 ⟨rfl, hcall⟩
    refine ⟨_, rfl, ?_⟩
    have hst : St w0 w17 [rowT 26 aggE r5 ((rawA (riseL steps values (riseN steps 60)) 1).1), rowT 26 aggE r3 ((rawA (riseL steps values (riseN steps 60)) 1).1), rowT 32 sampE r1 (riseL steps values (riseN steps 60))] := hst.call hcall
    refine s_cons (op_move (.bool true) rfl ?_)
    refine s_yes 39 rfl rfl (op_move (.int .i64 ((rawA (riseL steps values (riseN steps 60)) 1).2)) rfl ?_)
    refine s_yes 39 rfl rfl (op_eql (k := .i64) (a := (rawA (riseL steps values (riseN steps 60)) 1).2) (b := 3) rfl rfl ?_)
    refine s_cons (op_pick_t (.bool (decide (((rawA (riseL steps values (riseN steps 60)) 1).2) = 3))) rfl rfl ?_)
    refine s_cons (op_assign (.bool (decide (((rawA (riseL steps values (riseN steps 60)) 1).2) = 3))) rfl ?_)
    refine s_nil ?_
    refine then_n ?_
    refine cE_ret ?_
    refine then_r ?_
    refine post_r _ (res1 (v := (.bool true)) (congrArg Value.bool (show (decide (((rawA (riseL steps values (riseN steps 60)) 1).2) = 3)) = true from (decide_eq_true (by omega))))) ?_
    exact ⟨rfl, hst.bare⟩

end Go.Proofs.Ytffnhcioponbbaa
