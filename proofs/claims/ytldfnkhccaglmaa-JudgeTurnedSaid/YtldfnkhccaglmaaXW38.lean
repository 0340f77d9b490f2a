/- twinkeeplaw4.Rise -/
import Derived.Test.YtldfnkhccaglmaaXLA
import Derived.Test.YtldfnkhccaglmaaXT
namespace Go.Proofs.Ytldfnkhccaglmaa
open Go.RowKit

set_option maxRecDepth 8000 in
theorem c_Rise (w0 : World) (v_steps : Value) (steps : List Int) (h_steps : Sl w0 (intE .i64) v_steps steps) (v_values : Value) (values : List Int) (h_values : Sl w0 (intE .i64) v_values values) (most : Int) (m0 : 0 ≤ most) (m1 : most ≤ 1000) (hv : ∀ v ∈ values, i64R v) (hs : ∀ v ∈ steps, i64R v) :
  Calls Try.prog 47 #[v_steps, v_values, (iV most)] w0 fun e w' => ∃ (r : Value), e = .returned r ∧ St w0 w' [rowT 51 sampE r (riseL steps values (riseN steps most))] := by
 refine calls_E (n := 48) (ts := [6]) Try.func47 rfl rfl rfl (by simp) ?_
 have hst := St.start w0
 refine cE_seq (cE_region rfl (s_cons (op_assign nS rfl (s_nil (then_n (cE_seq (cE_region rfl (s_cons (op_assign nS rfl (s_nil (then_n (cE_seq (cE_region rfl (s_cons (op_assign (iV 0) rfl (s_nil (then_n (cE_seq (cE_seq (cE_region rfl (s_cons (op_assign (iV 0) rfl (s_nil (then_n (cE_block ?_)))))))))))))))))))))))))
 replace hst := hst.nilRow 51 sampE
 refine cE_loop (fun (m : Nat) (ρ : Env) (w : World) => ∃ (vo : Value) (i : Nat), m = steps.length - i ∧ ρ 0 = v_steps ∧ ρ 1 = v_values ∧ ρ 2 = (iV most) ∧ ρ 6 = nS ∧ ρ 9 = (iV (i : Int)) ∧ ρ 8 = (iV (tAt steps i)) ∧ ρ 7 = vo ∧ St w0 w [rowT 51 sampE vo (riseL steps values i)] ∧ (i ≤ steps.length) ∧ (i ≤ most.toNat)) id _ ⟨nS, 0, rfl, rfl, rfl, rfl, rfl, (congrArg iV (show 0 = _ from by omega)), (congrArg iV (show 0 = _ from by rfl)), rfl, (by have h := hst; exact h), (by omega), (by omega)⟩ ?_
 rintro m2 ρ3 w4 ⟨vo, i, hm2, q1_0, q1_1, q1_2, q1_6, q1_9, q1_8, q1_7, hst, hi, him⟩
 have ht := tAt_r (steps := steps) (i := i) hi
 have hlen := h_steps.len
 refine cE_seq (cE_seq (cE_region rfl (s_cons (op_move (iV (i : Int)) q1_9 (s_cons (op_move v_steps q1_0 (s_cons (op_len (E := (intE .i64)) (xs := steps) Try.underlying42 rfl h_steps (s_cons (op_lss (k := .i64) (a := (i : Int)) (b := (steps.length : Int)) rfl rfl (s_cons (op_move (.bool (decide ((i : Int) < (steps.length : Int)))) rfl ?_))))))))))))
 rcases Bool.eq_false_or_eq_true (decide ((i : Int) < (steps.length : Int))) with b5 | b5
 ·have c6 := of_decide_eq_true b5
  refine s_yes 15 rfl (congrArg Value.bool b5) (op_move (iV (i : Int)) q1_9 (s_yes 15 rfl (congrArg Value.bool b5) (op_move (iV most) q1_2 (s_yes 15 rfl (congrArg Value.bool b5) (op_lss (k := .i64) (a := (i : Int)) (b := most) rfl rfl (s_cons (op_pick_t (.bool (decide ((i : Int) < most))) (congrArg Value.bool b5) rfl (s_nil (then_n ?_)))))))))
  rcases Bool.eq_false_or_eq_true (decide ((i : Int) < most)) with b7 | b7
  ·have c8 := of_decide_eq_true b7
   refine cE_cond true (congrArg Value.bool b7) (fun _ => ?_) (fun h => by cases h)
   refine cE_skip (then_n (cE_seq (cE_block (cE_seq (cE_region rfl (s_cons (op_move (iV (tAt steps i)) q1_8 (s_cons (op_add (k := .i64) (a := (tAt steps i)) (b := 1) ((tAt steps i) + 1) rfl rfl (xi64 (by omega) (by omega)) (s_cons (op_move v_steps q1_0 (s_cons (op_move (iV (i : Int)) q1_9 (s_cons (op_indexAddrN (E := (intE .i64)) (xs := steps) i Try.underlying42 Try.sizeOf3 rfl h_steps rfl (by omega) (by omega) (fun a9 o10 p11 => ?_))))))))))))))))
   have hrs := hs (steps[i]'(by omega)) (List.getElem_mem _)
   refine s_cons (op_load1 (u := (iV (steps[i]'(by omega)))) Try.isAgg3 rfl (p11.below hst.below) (s_cons (op_conv (k := .i64) (a := (steps[i]'(by omega))) ((steps[i]'(by omega)) % 18446744073709551616) Try.underlying47 (by rw [Try.underlying3]; rfl) rfl (IntKind.wrap_u64 _) (s_cons (op_rem (k := .u64) (a := ((steps[i]'(by omega)) % 18446744073709551616)) (b := 40) (((steps[i]'(by omega)) % 18446744073709551616) % 40) rfl rfl (by omega) (tmod_nn (by omega)) ?_)))))
   refine s_cons (op_conv (k := .u64) (a := (((steps[i]'(by omega)) % 18446744073709551616) % 40)) (((steps[i]'(by omega)) % 18446744073709551616) % 40) Try.underlying2 (by rw [Try.underlying47]; rfl) rfl (xi64 (by omega) (by omega)) (s_cons (op_add (k := .i64) (a := ((tAt steps i) + 1)) (b := (((steps[i]'(by omega)) % 18446744073709551616) % 40)) (((tAt steps i) + 1) + (((steps[i]'(by omega)) % 18446744073709551616) % 40)) rfl rfl (xi64 (by omega) (by omega)) ?_)))
   refine s_cons (op_assign (iV (((tAt steps i) + 1) + (((steps[i]'(by omega)) % 18446744073709551616) % 40))) rfl (s_nil (then_n (cE_seq (cE_region rfl (s_cons (op_move (iV (i : Int)) q1_9 (s_cons (op_assign (iV (i : Int)) rfl (s_nil (then_n (cE_seq (cE_seq (cE_region rfl (s_cons (op_move (iV (i : Int)) q1_9 (s_cons (op_move v_values q1_1 (s_cons (op_len (E := (intE .i64)) (xs := values) Try.underlying43 rfl h_values ?_))))))))))))))))))))
   refine s_cons (op_lss (k := .i64) (a := (i : Int)) (b := (values.length : Int)) rfl rfl (s_nil (then_n ?_)))
   rcases Bool.eq_false_or_eq_true (decide ((i : Int) < (values.length : Int))) with b12 | b12
   ·have c13 := of_decide_eq_true b12
    refine cE_cond true (congrArg Value.bool b12) (fun _ => ?_) (fun h => by cases h)
    refine cE_region rfl (s_cons (op_move v_values q1_1 (s_cons (op_move (iV (i : Int)) q1_9 (s_cons (op_indexAddrN (E := (intE .i64)) (xs := values) i Try.underlying43 Try.sizeOf2 rfl h_values rfl (by omega) (by omega) (fun a14 o15 p16 => ?_)))))))
    have hrv := hv (values[i]'(by omega)) (List.getElem_mem _)
    refine s_cons (op_load1 (u := (iV (values[i]'(by omega)))) Try.isAgg2 rfl (p16.below hst.below) (s_cons (op_assign (iV (values[i]'(by omega))) rfl (s_nil (then_n (cE_region rfl (s_cons (op_move vo q1_7 (s_cons (op_move (iV (((tAt steps i) + 1) + (((steps[i]'(by omega)) % 18446744073709551616) % 40))) rfl (s_cons (op_move (iV (values[i]'(by omega))) rfl (s_cons (op_build (r := (.agg #[(iV (((tAt steps i) + 1) + (((steps[i]'(by omega)) % 18446744073709551616) % 40))), (iV (values[i]'(by omega)))])) (evp_cons (v := (iV (((tAt steps i) + 1) + (((steps[i]'(by omega)) % 18446744073709551616) % 40)))) rfl (evp_cons (v := (iV (values[i]'(by omega)))) rfl evp_nil)) (by simp [Instr.build, Instr.fill, Value.cells, Try.runUnderlying51, Try.zeroValue51]) ?_))))))))))))))
    refine s_cons (op_buildSlice (E := sampE) [(⟨(((tAt steps i) + 1) + (((steps[i]'(by omega)) % 18446744073709551616) % 40)), (values[i]'(by omega))⟩ : Sample)] hst Try.underlying23 Try.sizeOf51 Try.zeroValue51 (evp_cons (v := (.agg #[(iV (((tAt steps i) + 1) + (((steps[i]'(by omega)) % 18446744073709551616) % 40))), (iV (values[i]'(by omega)))])) rfl evp_nil) (parts_cons rfl parts_nil) rfl (by decide) (fun v17 w18 hst => ?_))
    refine s_cons (op_append (E := sampE) (xs := (riseL steps values i)) (ys := [(⟨(((tAt steps i) + 1) + (((steps[i]'(by omega)) % 18446744073709551616) % 40)), (values[i]'(by omega))⟩ : Sample)]) (z := (.agg #[(iV 0), (iV 0)])) (bytes := 16) hst 1 rfl Try.underlying23 (by kernel_rfl) rfl rfl rfl (hst.sl 0 rfl) (by (simp only [rise_length, List.length_cons, List.length_nil]; omega)) (by (simp only [rise_length, List.length_cons, List.length_nil]; omega)) (fun v19 w20 hst => ?_))
    replace hst : St w0 w20 [rowT 51 sampE v17 ([(⟨(((tAt steps i) + 1) + (((steps[i]'(by omega)) % 18446744073709551616) % 40)), (values[i]'(by omega))⟩ : Sample)]), rowT 51 sampE v19 (riseL steps values (i + 1))] := by rw [show ((riseL steps values i) ++ ([(⟨(((tAt steps i) + 1) + (((steps[i]'(by omega)) % 18446744073709551616) % 40)), (values[i]'(by omega))⟩ : Sample)])) = (riseL steps values (i + 1)) from rise_snoc (by rw [tAt_succ (steps := steps) (i := i) (by omega)]; omega) (by exact (vAt_some (by omega)).symm)] at hst; exact hst
    refine s_cons (op_assign v19 rfl (s_nil (block_n (then_n (cE_region rfl (s_cons (op_move (iV (i : Int)) q1_9 (s_cons (op_add (k := .i64) (a := (i : Int)) (b := 1) ((i : Int) + 1) rfl rfl (xi64 (by omega) (by omega)) (s_cons (op_assign (iV ((i : Int) + 1)) rfl (s_nil (then_n ?_)))))))))))))
    exact ⟨_, ⟨v19, (i + 1), rfl, q1_0, q1_1, q1_2, q1_6, (congrArg iV (show ((i : Int) + 1) = _ from by omega)), (congrArg iV (show (((tAt steps i) + 1) + (((steps[i]'(by omega)) % 18446744073709551616) % 40)) = _ from by (rw [tAt_succ (steps := steps) (i := i) (by omega)]; omega))), rfl, (hst.sub (.cons _ (.cons_cons _ .slnil))), (by omega), (by omega)⟩, (by simp only [id]; omega)⟩
   have c21 := of_decide_eq_false b12
   refine cE_cond false (congrArg Value.bool b12) (fun h => by cases h) (fun _ => ?_)
   refine cE_skip (then_n (cE_region rfl (s_cons (op_move vo q1_7 (s_cons (op_move (iV (((tAt steps i) + 1) + (((steps[i]'(by omega)) % 18446744073709551616) % 40))) rfl (s_cons (op_move (iV (i : Int)) rfl (s_cons (op_build (r := (.agg #[(iV (((tAt steps i) + 1) + (((steps[i]'(by omega)) % 18446744073709551616) % 40))), (iV (i : Int))])) (evp_cons (v := (iV (((tAt steps i) + 1) + (((steps[i]'(by omega)) % 18446744073709551616) % 40)))) rfl (evp_cons (v := (iV (i : Int))) rfl evp_nil)) (by simp [Instr.build, Instr.fill, Value.cells, Try.runUnderlying51, Try.zeroValue51]) ?_))))))))))
   refine s_cons (op_buildSlice (E := sampE) [(⟨(((tAt steps i) + 1) + (((steps[i]'(by omega)) % 18446744073709551616) % 40)), (i : Int)⟩ : Sample)] hst Try.underlying23 Try.sizeOf51 Try.zeroValue51 (evp_cons (v := (.agg #[(iV (((tAt steps i) + 1) + (((steps[i]'(by omega)) % 18446744073709551616) % 40))), (iV (i : Int))])) rfl evp_nil) (parts_cons rfl parts_nil) rfl (by decide) (fun v22 w23 hst => ?_))
   refine s_cons (op_append (E := sampE) (xs := (riseL steps values i)) (ys := [(⟨(((tAt steps i) + 1) + (((steps[i]'(by omega)) % 18446744073709551616) % 40)), (i : Int)⟩ : Sample)]) (z := (.agg #[(iV 0), (iV 0)])) (bytes := 16) hst 1 rfl Try.underlying23 (by kernel_rfl) rfl rfl rfl (hst.sl 0 rfl) (by (simp only [rise_length, List.length_cons, List.length_nil]; omega)) (by (simp only [rise_length, List.length_cons, List.length_nil]; omega)) (fun v24 w25 hst => ?_))
   replace hst : St w0 w25 [rowT 51 sampE v22 ([(⟨(((tAt steps i) + 1) + (((steps[i]'(by omega)) % 18446744073709551616) % 40)), (i : Int)⟩ : Sample)]), rowT 51 sampE v24 (riseL steps values (i + 1))] := by rw [show ((riseL steps values i) ++ ([(⟨(((tAt steps i) + 1) + (((steps[i]'(by omega)) % 18446744073709551616) % 40)), (i : Int)⟩ : Sample)])) = (riseL steps values (i + 1)) from rise_snoc (by rw [tAt_succ (steps := steps) (i := i) (by omega)]; omega) (by exact (vAt_none (by omega)).symm)] at hst; exact hst
   refine s_cons (op_assign v24 rfl (s_nil (block_n (then_n (cE_region rfl (s_cons (op_move (iV (i : Int)) q1_9 (s_cons (op_add (k := .i64) (a := (i : Int)) (b := 1) ((i : Int) + 1) rfl rfl (xi64 (by omega) (by omega)) (s_cons (op_assign (iV ((i : Int) + 1)) rfl (s_nil (then_n ?_)))))))))))))
   exact ⟨_, ⟨v24, (i + 1), rfl, q1_0, q1_1, q1_2, q1_6, (congrArg iV (show ((i : Int) + 1) = _ from by omega)), (congrArg iV (show (((tAt steps i) + 1) + (((steps[i]'(by omega)) % 18446744073709551616) % 40)) = _ from by (rw [tAt_succ (steps := steps) (i := i) (by omega)]; omega))), rfl, (hst.sub (.cons _ (.cons_cons _ .slnil))), (by omega), (by omega)⟩, (by simp only [id]; omega)⟩
  have c26 := of_decide_eq_false b7
  refine cE_cond false (congrArg Value.bool b7) (fun h => by cases h) (fun _ => ?_)
  refine cE_exit (then_x (then_x (block_hit (then_n (cE_seq (cE_region rfl (s_cons (op_move vo q1_7 (s_cons (op_assign vo rfl (s_nil (then_n (cE_ret (post_r _ (res1 (v := vo) rfl) ?_))))))))))))))
  have e27 : (riseL steps values i) = (riseL steps values (riseN steps most)) := by rw [riseN_end (i := i) (by omega) (by omega) (Or.inr (by omega))]
  replace hst : St w0 w4 [rowT 51 sampE vo (riseL steps values (riseN steps most))] := by rw [congrArg (fun l => rowT 51 sampE vo l) e27] at hst; exact hst
  exact ⟨vo, rfl, hst.sub (.cons_cons _ .slnil)⟩
 have c28 := of_decide_eq_false b5
 refine s_no 15 rfl (congrArg Value.bool b5) (s_no 15 rfl (congrArg Value.bool b5) (s_no 15 rfl (congrArg Value.bool b5) (s_cons (op_pick_f (.bool false) (congrArg Value.bool b5) rfl (s_nil (then_n (cE_cond false rfl (fun h => by cases h) (fun _ => ?_))))))))
 refine cE_exit (then_x (then_x (block_hit (then_n (cE_seq (cE_region rfl (s_cons (op_move vo q1_7 (s_cons (op_assign vo rfl (s_nil (then_n (cE_ret (post_r _ (res1 (v := vo) rfl) ?_))))))))))))))
 have e29 : (riseL steps values i) = (riseL steps values (riseN steps most)) := by rw [riseN_end (i := i) (by omega) (by omega) (Or.inl (by omega))]
 replace hst : St w0 w4 [rowT 51 sampE vo (riseL steps values (riseN steps most))] := by rw [congrArg (fun l => rowT 51 sampE vo l) e29] at hst; exact hst
 exact ⟨vo, rfl, hst.sub (.cons_cons _ .slnil)⟩

end Go.Proofs.Ytldfnkhccaglmaa
