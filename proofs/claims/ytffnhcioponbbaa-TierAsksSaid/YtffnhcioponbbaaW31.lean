/- the law TierAsks -/
import Derived.Test.YtffnhcioponbbaaW13
import Derived.Test.YtffnhcioponbbaaW15
import Derived.Test.YtffnhcioponbbaaW18
import Derived.Test.YtffnhcioponbbaaA
import Derived.Test.YtffnhcioponbbaaTS
import Derived.Test.YtffnhcioponbbaaW20
import Derived.Test.YtffnhcioponbbaaW21
import Derived.Test.YtffnhcioponbbaaW22
import Derived.Test.YtffnhcioponbbaaW23
import Derived.Test.YtffnhcioponbbaaW24
import Derived.Test.YtffnhcioponbbaaW25
import Derived.Test.YtffnhcioponbbaaW26
import Derived.Test.YtffnhcioponbbaaW27
import Derived.Test.YtffnhcioponbbaaW28
import Derived.Test.YtffnhcioponbbaaW29
import Derived.Test.YtffnhcioponbbaaW30
namespace Go.Proofs.Ytffnhcioponbbaa
open Go.RowKit

set_option maxHeartbeats 4000000 in
theorem c_TierAsks (w0 : World) (v_l : Value) (l : List Sample) (h_l : Sl w0 sampE v_l l) (v_a : Value) (a : List Agg) (h_a : Sl w0 aggE v_a a) (k : Int) (t : Int) (hl : ∀ s ∈ l, s.ok) (ha : ∀ s ∈ a, s.ok) (k0 : -9223372036854775808 ≤ k) (t0 : -9223372036854775808 ≤ t) (k1 : k ≤ 9223372036854775807) (t1 : t ≤ 9223372036854775807) :
    Calls Try.prog 9 #[v_l, v_a, (.int .i64 k), (.int .i64 t)] w0 fun e w' => e = .returned (.bool true) ∧ St w0 w' [] := by
  refine calls_E (n := 103) (ts := [8]) Try.func9 rfl rfl rfl (by simp) ?_
  have hst := St.start w0
  refine cE_seq ?_
  refine cE_region rfl ?_
  refine s_cons (op_assign (.bool false) rfl ?_)
  refine s_nil ?_
  refine then_n ?_
  refine cE_seq ?_
  refine cE_seq ?_
  refine cE_region rfl ?_
  refine s_cons (op_move v_l rfl ?_)
  refine s_cons (op_len (E := sampE) (xs := l) Try.underlying22 rfl h_l ?_)
  refine s_cons (op_gtr (k := .i64) (a := (l.length : Int)) (b := 60) rfl rfl ?_)
  refine s_cons (op_move (.bool (decide (60 < (l.length : Int)))) rfl ?_)
  rcases Bool.eq_false_or_eq_true (decide (60 < (l.length : Int))) with b1 | b1
  · have c2 : 60 < (l.length : Int) := of_decide_eq_true b1
    refine s_no 20 rfl (congrArg Value.bool b1) ?_
    refine s_no 20 rfl (congrArg Value.bool b1) ?_
    refine s_no 20 rfl (congrArg Value.bool b1) ?_
    refine s_cons (op_pick_t (.bool true) (congrArg Value.bool b1) rfl ?_)
    refine s_nil ?_
    refine then_n ?_
    refine cE_cond true rfl (fun _ => ?_) (fun h => by cases h)
    refine cE_seq ?_
    refine cE_region rfl ?_
    refine s_cons (op_call Try.call20 evs_nil (c_told4 (w0 := w0)) ?_)
    rintro _ w3 ⟨rfl, hcall⟩
    refine ⟨_, rfl, ?_⟩
    have hst : St w0 w3 [] := hst.call hcall
    refine s_cons (op_assign (.bool true) rfl ?_)
    refine s_nil ?_
    refine then_n ?_
    refine cE_ret ?_
    refine then_r ?_
    refine post_r _ (res1 (v := (.bool true)) rfl) ?_
    exact ⟨rfl, hst.bare⟩
  · have c4 : ¬ (60 < (l.length : Int)) := of_decide_eq_false b1
    refine s_yes 20 rfl (congrArg Value.bool b1) (op_move v_a rfl ?_)
    refine s_yes 20 rfl (congrArg Value.bool b1) (op_len (E := aggE) (xs := a) Try.underlying41 rfl h_a ?_)
    refine s_yes 20 rfl (congrArg Value.bool b1) (op_gtr (k := .i64) (a := (a.length : Int)) (b := 60) rfl rfl ?_)
    refine s_cons (op_pick_f (.bool (decide (60 < (a.length : Int)))) (congrArg Value.bool b1) rfl ?_)
    refine s_nil ?_
    refine then_n ?_
    rcases Bool.eq_false_or_eq_true (decide (60 < (a.length : Int))) with b5 | b5
    · have c6 : 60 < (a.length : Int) := of_decide_eq_true b5
      refine cE_cond true (congrArg Value.bool b5) (fun _ => ?_) (fun h => by cases h)
      refine cE_seq ?_
      refine cE_region rfl ?_
      refine s_cons (op_call Try.call20 evs_nil (c_told4 (w0 := w0)) ?_)
      rintro _ w7 ⟨rfl, hcall⟩
      refine ⟨_, rfl, ?_⟩
      have hst : St w0 w7 [] := hst.call hcall
      refine s_cons (op_assign (.bool true) rfl ?_)
      refine s_nil ?_
      refine then_n ?_
      refine cE_ret ?_
      refine then_r ?_
      refine post_r _ (res1 (v := (.bool true)) rfl) ?_
      exact ⟨rfl, hst.bare⟩
    · have c8 : ¬ (60 < (a.length : Int)) := of_decide_eq_false b5
      refine cE_cond false (congrArg Value.bool b5) (fun h => by cases h) (fun _ => ?_)
      refine cE_skip ?_
      refine then_n ?_
      refine cE_seq ?_
      refine cE_region rfl ?_
      refine s_cons (op_move v_l rfl ?_)
      refine s_cons (op_move (.int .i64 k) rfl ?_)
      refine s_cons (op_call Try.call21 (evs_cons (v := v_l) rfl (evs_cons (v := (.int .i64 k)) rfl evs_nil)) (c_Raw (w0 := w0) (v_l := v_l) (l := l) (h_l := (h_l.below hst.below)) (k := k) (hl := hl) (hn := (by omega)) (k0 := (by omega)) (k1 := (by omega))) ?_)
      rintro _ w10 ⟨r9, rfl, hcall⟩
      refine ⟨_, rfl, ?_⟩
      have hst : St w0 w10 [rowT 26 aggE r9 ((rawA l k).1)] := hst.call hcall
      refine s_cons (op_move (.tuple #[r9, (.int .i64 ((rawA l k).2))]) rfl ?_)
      refine s_cons (op_extract r9 rfl rfl ?_)
      refine s_cons (op_extract (.int .i64 ((rawA l k).2)) rfl rfl ?_)
      refine s_cons (op_assign r9 rfl ?_)
      refine s_cons (op_assign (.int .i64 ((rawA l k).2)) rfl ?_)
      refine s_nil ?_
      refine then_n ?_
      refine cE_seq ?_
      refine cE_region rfl ?_
      refine s_cons (op_move v_l rfl ?_)
      refine s_cons (op_move (.int .i64 k) rfl ?_)
      refine s_cons (op_call Try.call25 (evs_cons (v := v_l) rfl (evs_cons (v := (.int .i64 k)) rfl evs_nil)) (c_rRaw (w0 := w10) (v_l := v_l) (l := l) (h_l := (h_l.below hst.below)) (k := k) (hl := hl) (hn := (by omega)) (k0 := (by omega)) (k1 := (by omega))) ?_)
      rintro _ w12 ⟨r11, rfl, hcall⟩
      refine ⟨_, rfl, ?_⟩
      have hst : St w0 w12 [rowT 26 aggE r11 ((rawA l k).1), rowT 26 aggE r9 ((rawA l k).1)] := hst.call hcall
      refine s_cons (op_move (.tuple #[r11, (.int .i64 ((rawA l k).2))]) rfl ?_)
      refine s_cons (op_extract r11 rfl rfl ?_)
      refine s_cons (op_extract (.int .i64 ((rawA l k).2)) rfl rfl ?_)
      refine s_cons (op_assign r11 rfl ?_)
      refine s_cons (op_assign (.int .i64 ((rawA l k).2)) rfl ?_)
      refine s_nil ?_
      refine then_n ?_
      refine cE_seq ?_
      refine cE_region rfl ?_
      refine s_cons (op_move v_a rfl ?_)
      refine s_cons (op_move (.int .i64 k) rfl ?_)
      refine s_cons (op_call Try.call22 (evs_cons (v := v_a) rfl (evs_cons (v := (.int .i64 k)) rfl evs_nil)) (c_Down (w0 := w12) (v_l := v_a) (l := a) (h_l := (h_a.below hst.below)) (k := k) (hl := ha) (hn := (by omega)) (k0 := (by omega)) (k1 := (by omega))) ?_)
      rintro _ w14 ⟨r13, rfl, hcall⟩
      refine ⟨_, rfl, ?_⟩
      have hst : St w0 w14 [rowT 26 aggE r13 ((downA a k).1), rowT 26 aggE r11 ((rawA l k).1), rowT 26 aggE r9 ((rawA l k).1)] := hst.call hcall
      refine s_cons (op_move (.tuple #[r13, (.int .i64 ((downA a k).2))]) rfl ?_)
      refine s_cons (op_extract r13 rfl rfl ?_)
      refine s_cons (op_extract (.int .i64 ((downA a k).2)) rfl rfl ?_)
      refine s_cons (op_assign r13 rfl ?_)
      refine s_cons (op_assign (.int .i64 ((downA a k).2)) rfl ?_)
      refine s_nil ?_
      refine then_n ?_
      refine cE_seq ?_
      refine cE_region rfl ?_
      refine s_cons (op_move v_a rfl ?_)
      refine s_cons (op_move (.int .i64 k) rfl ?_)
      refine s_cons (op_call Try.call26 (evs_cons (v := v_a) rfl (evs_cons (v := (.int .i64 k)) rfl evs_nil)) (c_rDown (w0 := w14) (v_l := v_a) (l := a) (h_l := (h_a.below hst.below)) (k := k) (hl := ha) (hn := (by omega)) (k0 := (by omega)) (k1 := (by omega))) ?_)
      rintro _ w16 ⟨r15, rfl, hcall⟩
      refine ⟨_, rfl, ?_⟩
      have hst : St w0 w16 [rowT 26 aggE r15 ((downA a k).1), rowT 26 aggE r13 ((downA a k).1), rowT 26 aggE r11 ((rawA l k).1), rowT 26 aggE r9 ((rawA l k).1)] := hst.call hcall
      refine s_cons (op_move (.tuple #[r15, (.int .i64 ((downA a k).2))]) rfl ?_)
      refine s_cons (op_extract r15 rfl rfl ?_)
      refine s_cons (op_extract (.int .i64 ((downA a k).2)) rfl rfl ?_)
      refine s_cons (op_assign r15 rfl ?_)
      refine s_cons (op_assign (.int .i64 ((downA a k).2)) rfl ?_)
      refine s_nil ?_
      refine then_n ?_
      refine cE_seq ?_
      refine cE_region rfl ?_
      refine s_cons (op_call Try.call20 evs_nil (c_told4 (w0 := w16)) ?_)
      rintro _ w17 ⟨rfl, hcall⟩
      refine ⟨_, rfl, ?_⟩
      have hst : St w0 w17 [rowT 26 aggE r15 ((downA a k).1), rowT 26 aggE r13 ((downA a k).1), rowT 26 aggE r11 ((rawA l k).1), rowT 26 aggE r9 ((rawA l k).1)] := hst.call hcall
      refine s_cons (op_move (.bool true) rfl ?_)
      refine s_yes 51 rfl rfl (op_move (.int .i64 ((rawA l k).2)) rfl ?_)
      refine s_yes 51 rfl rfl (op_move (.int .i64 ((rawA l k).2)) rfl ?_)
      refine s_yes 51 rfl rfl (op_eql (k := .i64) (a := (rawA l k).2) (b := (rawA l k).2) rfl rfl ?_)
      refine s_cons (op_pick_t (.bool (decide (((rawA l k).2) = ((rawA l k).2)))) rfl rfl ?_)
      refine s_cons (op_move (.bool (decide (((rawA l k).2) = ((rawA l k).2)))) rfl ?_)
      refine s_yes 56 rfl (congrArg Value.bool (show (decide (((rawA l k).2) = ((rawA l k).2))) = true from (decide_eq_true rfl))) (op_move r9 rfl ?_)
      refine s_yes 56 rfl (congrArg Value.bool (show (decide (((rawA l k).2) = ((rawA l k).2))) = true from (decide_eq_true rfl))) (op_move r11 rfl ?_)
      refine s_yes 56 rfl (congrArg Value.bool (show (decide (((rawA l k).2) = ((rawA l k).2))) = true from (decide_eq_true rfl))) (op_call Try.call27 (evs_cons (v := r9) rfl (evs_cons (v := r11) rfl evs_nil)) (c_SameAggs (w0 := w17) (v_a := r9) (a := (rawA l k).1) (h_a := (hst.sl 3 rfl)) (v_b := r11) (b := (rawA l k).1) (h_b := (hst.sl 2 rfl))) ?_)
      rintro _ w18 ⟨rfl, hcall⟩
      refine ⟨_, rfl, ?_⟩
      have hst : St w0 w18 [rowT 26 aggE r15 ((downA a k).1), rowT 26 aggE r13 ((downA a k).1), rowT 26 aggE r11 ((rawA l k).1), rowT 26 aggE r9 ((rawA l k).1)] := hst.call hcall
      refine s_cons (op_pick_t (.bool (decide ((rawA l k).1 = (rawA l k).1))) (congrArg Value.bool (show (decide (((rawA l k).2) = ((rawA l k).2))) = true from (decide_eq_true rfl))) rfl ?_)
      refine s_cons (op_move (.bool (decide ((rawA l k).1 = (rawA l k).1))) rfl ?_)
      refine s_yes 61 rfl (congrArg Value.bool (show (decide ((rawA l k).1 = (rawA l k).1)) = true from (decide_eq_true rfl))) (op_move (.int .i64 ((downA a k).2)) rfl ?_)
      refine s_yes 61 rfl (congrArg Value.bool (show (decide ((rawA l k).1 = (rawA l k).1)) = true from (decide_eq_true rfl))) (op_move (.int .i64 ((downA a k).2)) rfl ?_)
      refine s_yes 61 rfl (congrArg Value.bool (show (decide ((rawA l k).1 = (rawA l k).1)) = true from (decide_eq_true rfl))) (op_eql (k := .i64) (a := (downA a k).2) (b := (downA a k).2) rfl rfl ?_)
      refine s_cons (op_pick_t (.bool (decide (((downA a k).2) = ((downA a k).2)))) (congrArg Value.bool (show (decide ((rawA l k).1 = (rawA l k).1)) = true from (decide_eq_true rfl))) rfl ?_)
      refine s_cons (op_move (.bool (decide (((downA a k).2) = ((downA a k).2)))) rfl ?_)
      refine s_yes 66 rfl (congrArg Value.bool (show (decide (((downA a k).2) = ((downA a k).2))) = true from (decide_eq_true rfl))) (op_move r13 rfl ?_)
      refine s_yes 66 rfl (congrArg Value.bool (show (decide (((downA a k).2) = ((downA a k).2))) = true from (decide_eq_true rfl))) (op_move r15 rfl ?_)
      refine s_yes 66 rfl (congrArg Value.bool (show (decide (((downA a k).2) = ((downA a k).2))) = true from (decide_eq_true rfl))) (op_call Try.call27 (evs_cons (v := r13) rfl (evs_cons (v := r15) rfl evs_nil)) (c_SameAggs (w0 := w18) (v_a := r13) (a := (downA a k).1) (h_a := (hst.sl 1 rfl)) (v_b := r15) (b := (downA a k).1) (h_b := (hst.sl 0 rfl))) ?_)
      rintro _ w19 ⟨rfl, hcall⟩
      refine ⟨_, rfl, ?_⟩
      have hst : St w0 w19 [rowT 26 aggE r15 ((downA a k).1), rowT 26 aggE r13 ((downA a k).1), rowT 26 aggE r11 ((rawA l k).1), rowT 26 aggE r9 ((rawA l k).1)] := hst.call hcall
      refine s_cons (op_pick_t (.bool (decide ((downA a k).1 = (downA a k).1))) (congrArg Value.bool (show (decide (((downA a k).2) = ((downA a k).2))) = true from (decide_eq_true rfl))) rfl ?_)
      refine s_cons (op_move (.bool (decide ((downA a k).1 = (downA a k).1))) rfl ?_)
      refine s_yes 71 rfl (congrArg Value.bool (show (decide ((downA a k).1 = (downA a k).1)) = true from (decide_eq_true rfl))) (op_move (.int .i64 k) rfl ?_)
      refine s_yes 71 rfl (congrArg Value.bool (show (decide ((downA a k).1 = (downA a k).1)) = true from (decide_eq_true rfl))) (op_call Try.call28 (evs_cons (v := (.int .i64 k)) rfl evs_nil) (c_Width (w0 := w19) (k := k) (k0 := (by omega)) (k1 := (by omega))) ?_)
      rintro _ w20 ⟨rfl, hcall⟩
      refine ⟨_, rfl, ?_⟩
      have hst : St w0 w20 [rowT 26 aggE r15 ((downA a k).1), rowT 26 aggE r13 ((downA a k).1), rowT 26 aggE r11 ((rawA l k).1), rowT 26 aggE r9 ((rawA l k).1)] := hst.call hcall
      refine s_yes 71 rfl (congrArg Value.bool (show (decide ((downA a k).1 = (downA a k).1)) = true from (decide_eq_true rfl))) (op_move (.int .i64 k) rfl ?_)
      refine s_yes 71 rfl (congrArg Value.bool (show (decide ((downA a k).1 = (downA a k).1)) = true from (decide_eq_true rfl))) (op_call Try.call29 (evs_cons (v := (.int .i64 k)) rfl evs_nil) (c_rWidth (w0 := w20) (k := k) (k0 := (by omega)) (k1 := (by omega))) ?_)
      rintro _ w21 ⟨rfl, hcall⟩
      refine ⟨_, rfl, ?_⟩
      have hst : St w0 w21 [rowT 26 aggE r15 ((downA a k).1), rowT 26 aggE r13 ((downA a k).1), rowT 26 aggE r11 ((rawA l k).1), rowT 26 aggE r9 ((rawA l k).1)] := hst.call hcall
      refine s_yes 71 rfl (congrArg Value.bool (show (decide ((downA a k).1 = (downA a k).1)) = true from (decide_eq_true rfl))) (op_eql (k := .i64) (a := (widthA k)) (b := (widthA k)) rfl rfl ?_)
      refine s_cons (op_pick_t (.bool (decide ((widthA k) = (widthA k)))) (congrArg Value.bool (show (decide ((downA a k).1 = (downA a k).1)) = true from (decide_eq_true rfl))) rfl ?_)
      refine s_cons (op_move (.bool (decide ((widthA k) = (widthA k)))) rfl ?_)
      refine s_yes 78 rfl (congrArg Value.bool (show (decide ((widthA k) = (widthA k))) = true from (decide_eq_true rfl))) (op_move (.int .i64 t) rfl ?_)
      refine s_yes 78 rfl (congrArg Value.bool (show (decide ((widthA k) = (widthA k))) = true from (decide_eq_true rfl))) (op_move (.int .i64 k) rfl ?_)
      refine s_yes 78 rfl (congrArg Value.bool (show (decide ((widthA k) = (widthA k))) = true from (decide_eq_true rfl))) (op_call Try.call30 (evs_cons (v := (.int .i64 t)) rfl (evs_cons (v := (.int .i64 k)) rfl evs_nil)) (c_Floor (w0 := w21) (t := t) (k := k) (t0 := (by omega)) (k0 := (by omega)) (t1 := (by omega)) (k1 := (by omega))) ?_)
      rintro _ w22 ⟨rfl, hcall⟩
      refine ⟨_, rfl, ?_⟩
      have hst : St w0 w22 [rowT 26 aggE r15 ((downA a k).1), rowT 26 aggE r13 ((downA a k).1), rowT 26 aggE r11 ((rawA l k).1), rowT 26 aggE r9 ((rawA l k).1)] := hst.call hcall
      refine s_yes 78 rfl (congrArg Value.bool (show (decide ((widthA k) = (widthA k))) = true from (decide_eq_true rfl))) (op_move (.int .i64 t) rfl ?_)
      refine s_yes 78 rfl (congrArg Value.bool (show (decide ((widthA k) = (widthA k))) = true from (decide_eq_true rfl))) (op_move (.int .i64 k) rfl ?_)
      refine s_yes 78 rfl (congrArg Value.bool (show (decide ((widthA k) = (widthA k))) = true from (decide_eq_true rfl))) (op_call Try.call31 (evs_cons (v := (.int .i64 t)) rfl (evs_cons (v := (.int .i64 k)) rfl evs_nil)) (c_rFloor (w0 := w22) (t := t) (k := k) (t0 := (by omega)) (k0 := (by omega)) (t1 := (by omega)) (k1 := (by omega))) ?_)
      rintro _ w23 ⟨rfl, hcall⟩
      refine ⟨_, rfl, ?_⟩
      have hst : St w0 w23 [rowT 26 aggE r15 ((downA a k).1), rowT 26 aggE r13 ((downA a k).1), rowT 26 aggE r11 ((rawA l k).1), rowT 26 aggE r9 ((rawA l k).1)] := hst.call hcall
      refine s_yes 78 rfl (congrArg Value.bool (show (decide ((widthA k) = (widthA k))) = true from (decide_eq_true rfl))) (op_eql (k := .i64) (a := (floorA t k)) (b := (floorA t k)) rfl rfl ?_)
      refine s_cons (op_pick_t (.bool (decide ((floorA t k) = (floorA t k)))) (congrArg Value.bool (show (decide ((widthA k) = (widthA k))) = true from (decide_eq_true rfl))) rfl ?_)
      refine s_cons (op_move (.bool (decide ((floorA t k) = (floorA t k)))) rfl ?_)
      refine s_yes 87 rfl (congrArg Value.bool (show (decide ((floorA t k) = (floorA t k))) = true from (decide_eq_true rfl))) (op_move v_l rfl ?_)
      refine s_yes 87 rfl (congrArg Value.bool (show (decide ((floorA t k) = (floorA t k))) = true from (decide_eq_true rfl))) (op_call Try.call24 (evs_cons (v := v_l) rfl evs_nil) (c_Rising (w0 := w23) (v_l := v_l) (l := l) (h_l := (h_l.below hst.below))) ?_)
      rintro _ w24 ⟨rfl, hcall⟩
      refine ⟨_, rfl, ?_⟩
      have hst : St w0 w24 [rowT 26 aggE r15 ((downA a k).1), rowT 26 aggE r13 ((downA a k).1), rowT 26 aggE r11 ((rawA l k).1), rowT 26 aggE r9 ((rawA l k).1)] := hst.call hcall
      refine s_yes 87 rfl (congrArg Value.bool (show (decide ((floorA t k) = (floorA t k))) = true from (decide_eq_true rfl))) (op_move v_l rfl ?_)
      refine s_yes 87 rfl (congrArg Value.bool (show (decide ((floorA t k) = (floorA t k))) = true from (decide_eq_true rfl))) (op_call Try.call32 (evs_cons (v := v_l) rfl evs_nil) (c_rRising (w0 := w24) (v_l := v_l) (l := l) (h_l := (h_l.below hst.below)) (hl := hl)) ?_)
      rintro _ w25 ⟨rfl, hcall⟩
      refine ⟨_, rfl, ?_⟩
      have hst : St w0 w25 [rowT 26 aggE r15 ((downA a k).1), rowT 26 aggE r13 ((downA a k).1), rowT 26 aggE r11 ((rawA l k).1), rowT 26 aggE r9 ((rawA l k).1)] := hst.call hcall
      refine s_yes 87 rfl (congrArg Value.bool (show (decide ((floorA t k) = (floorA t k))) = true from (decide_eq_true rfl))) (op_eqlb (a := risingA l) (b := risingA l) Try.underlying4 rfl rfl ?_)
      refine s_cons (op_pick_t (.bool ((risingA l) == (risingA l))) (congrArg Value.bool (show (decide ((floorA t k) = (floorA t k))) = true from (decide_eq_true rfl))) rfl ?_)
      refine s_cons (op_move (.bool ((risingA l) == (risingA l))) rfl ?_)
      refine s_yes 94 rfl (congrArg Value.bool (show ((risingA l) == (risingA l)) = true from (beq_self_eq_true _))) (op_move v_a rfl ?_)
      refine s_yes 94 rfl (congrArg Value.bool (show ((risingA l) == (risingA l)) = true from (beq_self_eq_true _))) (op_move (.int .i64 k) rfl ?_)
      refine s_yes 94 rfl (congrArg Value.bool (show ((risingA l) == (risingA l)) = true from (beq_self_eq_true _))) (op_call Try.call23 (evs_cons (v := v_a) rfl (evs_cons (v := (.int .i64 k)) rfl evs_nil)) (c_Aligned (w0 := w25) (v_l := v_a) (l := a) (h_l := (h_a.below hst.below)) (k := k) (hl := ha) (k0 := (by omega)) (k1 := (by omega))) ?_)
      rintro _ w26 ⟨rfl, hcall⟩
      refine ⟨_, rfl, ?_⟩
      have hst : St w0 w26 [rowT 26 aggE r15 ((downA a k).1), rowT 26 aggE r13 ((downA a k).1), rowT 26 aggE r11 ((rawA l k).1), rowT 26 aggE r9 ((rawA l k).1)] := hst.call hcall
      refine s_yes 94 rfl (congrArg Value.bool (show ((risingA l) == (risingA l)) = true from (beq_self_eq_true _))) (op_move v_a rfl ?_)
      refine s_yes 94 rfl (congrArg Value.bool (show ((risingA l) == (risingA l)) = true from (beq_self_eq_true _))) (op_move (.int .i64 k) rfl ?_)
      refine s_yes 94 rfl (congrArg Value.bool (show ((risingA l) == (risingA l)) = true from (beq_self_eq_true _))) (op_call Try.call33 (evs_cons (v := v_a) rfl (evs_cons (v := (.int .i64 k)) rfl evs_nil)) (c_rAligned (w0 := w26) (v_l := v_a) (l := a) (h_l := (h_a.below hst.below)) (k := k) (hl := ha) (k0 := (by omega)) (k1 := (by omega))) ?_)
      rintro _ w27 ⟨rfl, hcall⟩
      refine ⟨_, rfl, ?_⟩
      have hst : St w0 w27 [rowT 26 aggE r15 ((downA a k).1), rowT 26 aggE r13 ((downA a k).1), rowT 26 aggE r11 ((rawA l k).1), rowT 26 aggE r9 ((rawA l k).1)] := hst.call hcall
      refine s_yes 94 rfl (congrArg Value.bool (show ((risingA l) == (risingA l)) = true from (beq_self_eq_true _))) (op_eqlb (a := alignedA a k) (b := alignedA a k) Try.underlying4 rfl rfl ?_)
      refine s_cons (op_pick_t (.bool ((alignedA a k) == (alignedA a k))) (congrArg Value.bool (show ((risingA l) == (risingA l)) = true from (beq_self_eq_true _))) rfl ?_)
      refine s_cons (op_assign (.bool ((alignedA a k) == (alignedA a k))) rfl ?_)
      refine s_nil ?_
      refine then_n ?_
      refine cE_ret ?_
      refine post_r _ (res1 (v := (.bool true)) (congrArg Value.bool (show ((alignedA a k) == (alignedA a k)) = true from (beq_self_eq_true _)))) ?_
      exact ⟨rfl, hst.bare⟩

end Go.Proofs.Ytffnhcioponbbaa
