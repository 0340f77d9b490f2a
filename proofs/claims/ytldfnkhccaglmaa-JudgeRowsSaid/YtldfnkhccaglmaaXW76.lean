/- twinkeeplaw23.JudgeRows -/
import Derived.Test.YtldfnkhccaglmaaXTW
import Derived.Test.YtldfnkhccaglmaaXLA
import Derived.Test.YtldfnkhccaglmaaXLB
import Derived.Test.YtldfnkhccaglmaaXW42
import Derived.Test.YtldfnkhccaglmaaXW68
namespace Go.Proofs.Ytldfnkhccaglmaa
open Go.RowKit

set_option maxRecDepth 8000 in
set_option maxHeartbeats 8000000 in
theorem c_JudgeRows (w0 : World) (n : Int) (v_steps : Value) (steps : List Int) (h_steps : Sl w0 (intE .i64) v_steps steps) (v_values : Value) (values : List Int) (h_values : Sl w0 (intE .i64) v_values values) (mask : Int) (fr_ : Int) (long : Int) (which : Int) (hv : ∀ v ∈ values, i64R v) (hs : ∀ v ∈ steps, i64R v) (n0 : -9223372036854775808 ≤ n) (mask0 : -9223372036854775808 ≤ mask) (fr_0 : -9223372036854775808 ≤ fr_) (long0 : -9223372036854775808 ≤ long) (which0 : -9223372036854775808 ≤ which) (n1 : n ≤ 9223372036854775807) (mask1 : mask ≤ 9223372036854775807) (fr_1 : fr_ ≤ 9223372036854775807) (long1 : long ≤ 9223372036854775807) (which1 : which ≤ 9223372036854775807) :
  Calls Try.prog 4 #[(iV n), v_steps, v_values, (iV mask), (iV fr_), (iV long), (iV which)] w0 fun e w' => e = .returned (.bool true) ∧ St w0 w' [] := by
 refine calls_E (n := 128) (ts := [14]) Try.func4 rfl rfl rfl (by simp) ?_
 have hst := St.start w0
 refine cE_seq (cE_region rfl (s_cons (op_assign (.bool false) rfl (s_nil (then_n (cE_seq (cE_region rfl (s_cons (op_move (iV n) rfl (s_cons (op_move v_steps rfl (s_cons (op_move v_values rfl (s_cons (op_move (iV mask) rfl (s_cons (op_call Try.call18 (evs_cons (v := (iV n)) rfl (evs_cons (v := v_steps) rfl (evs_cons (v := v_values) rfl (evs_cons (v := (iV mask)) rfl evs_nil)))) (c_Row (w0 := w0) (n := n) (v_steps := v_steps) (steps := steps) (h_steps := (h_steps.below hst.below)) (v_values := v_values) (values := values) (h_values := (h_values.below hst.below)) (mask := mask) (hv := hv) (hs := hs) (n0 := (by omega)) (mask0 := (by omega)) (n1 := (by omega)) (mask1 := (by omega))) ?_)))))))))))))))))
 rintro _ w5 ⟨r1, r2, r3, r4, rfl, hcall, Row_hys, Row_hF⟩
 refine ⟨_, rfl, ?_⟩
 have hst := (hst.call hcall).perm (List.Perm.cons _ (List.Perm.cons _ (List.perm_append_comm)))
 refine s_cons (op_move (.tuple #[r1, r2]) rfl (s_cons (op_extract r1 rfl rfl (s_cons (op_extract r2 rfl rfl (s_cons (op_assign r1 rfl (s_cons (op_assign r2 rfl (s_nil (then_n (cE_seq ?_))))))))))))
 obtain ⟨R, hR⟩ : ∃ R : RowD, R = rowM steps values mask (1 + (n % 18446744073709551616 % 4).toNat) := ⟨_, rfl⟩
 replace hst : St w0 w5 (rowT 76 segE r1 r3 :: rowT 51 sampE r2 R.all :: r4) := by rw [← hR] at hst; exact hst
 have hys := Row_hys.trans (congrArg RowD.l hR.symm)
 have hlen := row_lenY (by omega) (by omega) Row_hys
 have hto : 0 ≤ R.to ∧ R.to ≤ 2000 * (((1 + (n % 18446744073709551616 % 4).toNat) : Nat) : Int) := by rw [hR]; exact rowM_to steps values mask (by omega)
 have hok := row_okY (by omega) Row_hys hv
 have hbst := row_bestY (by omega) Row_hys
 have hF := Row_hF
 refine cE_region rfl (s_cons (op_move (iV fr_) rfl (s_cons (op_conv (k := .i64) (a := fr_) (fr_ % 18446744073709551616) Try.underlying47 (by rw [Try.underlying3]; rfl) rfl (IntKind.wrap_u64 _) ?_))))
 obtain ⟨f, hf, hfl⟩ := rem_nat (a := (fr_ % 18446744073709551616)) (b := 400) (by omega) (by omega)
 refine s_cons (op_rem (k := .u64) (a := (fr_ % 18446744073709551616)) (b := 400) (f : Int) rfl rfl (by omega) hf (s_cons (op_conv (k := .u64) (a := (f : Int)) (f : Int) Try.underlying2 (by rw [Try.underlying47]; rfl) rfl (xi64 (by omega) (by omega)) (s_cons (op_assign (iV (f : Int)) rfl (s_nil (then_n (cE_seq (cE_region rfl (s_cons (op_move (iV (f : Int)) rfl (s_cons (op_add (k := .i64) (a := (f : Int)) (b := 1) ((f : Int) + 1) rfl rfl (xi64 (by omega) (by omega)) ?_)))))))))))))
 refine s_cons (op_move (iV long) rfl (s_cons (op_conv (k := .i64) (a := long) (long % 18446744073709551616) Try.underlying47 (by rw [Try.underlying3]; rfl) rfl (IntKind.wrap_u64 _) ?_)))
 obtain ⟨q, hq, hql⟩ := rem_nat (a := (long % 18446744073709551616)) (b := 400) (by omega) (by omega)
 refine s_cons (op_rem (k := .u64) (a := (long % 18446744073709551616)) (b := 400) (q : Int) rfl rfl (by omega) hq (s_cons (op_conv (k := .u64) (a := (q : Int)) (q : Int) Try.underlying2 (by rw [Try.underlying47]; rfl) rfl (xi64 (by omega) (by omega)) (s_cons (op_add (k := .i64) (a := ((f : Int) + 1)) (b := (q : Int)) (((f : Int) + 1) + (q : Int)) rfl rfl (xi64 (by omega) (by omega)) (s_cons (op_assign (iV (((f : Int) + 1) + (q : Int))) rfl ?_)))))))
 refine s_nil (then_n (cE_seq (cE_region rfl (s_cons (op_move r1 rfl (s_cons (op_move (iV (f : Int)) rfl (s_cons (op_move (iV (((f : Int) + 1) + (q : Int))) rfl (s_cons (op_call Try.call19 (evs_cons (v := r1) rfl (evs_cons (v := nS) rfl (evs_cons (v := (iV (f : Int))) rfl (evs_cons (v := (iV (((f : Int) + 1) + (q : Int)))) rfl evs_nil)))) (c_Range (w0 := w5) (v_segs := r1) (segs := r3) (h_segs := (hst.sl 0 rfl)) (v_head := nS) (head := []) (h_head := (Sl.nil sampE _)) (fr := (f : Int)) (to := (((f : Int) + 1) + (q : Int))) (hsg := (hF.segs hst 2 rfl)) (hso := hok) (hho := (by simp)) (fr0 := (by omega)) (to0 := (by omega)) (fr1 := (by omega)) (to1 := (by omega)) (hll := (by omega)) (hhl := (by decide)) (hbl := hbst)) ?_)))))))))))
 rintro _ w7 ⟨r6, rfl, hcall⟩
 refine ⟨_, rfl, ?_⟩
 have hst := hst.call hcall
 refine s_cons (op_move (.tuple #[r6, (iV ((rangeW (ds r3) ([]) (f : Int) (((f : Int) + 1) + (q : Int))).2))]) rfl (s_cons (op_extract r6 rfl rfl (s_cons (op_extract (iV ((rangeW (ds r3) ([]) (f : Int) (((f : Int) + 1) + (q : Int))).2)) rfl rfl (s_cons (op_assign r6 rfl (s_cons (op_assign (iV ((rangeW (ds r3) ([]) (f : Int) (((f : Int) + 1) + (q : Int))).2)) rfl (s_nil (then_n (cE_seq ?_))))))))))))
 refine cE_seq ?_
 obtain ⟨A, hA, gA, eA⟩ := range_wideY (fr := (f : Int)) (to := ((f : Int) + 1 + (q : Int))) (by omega) hR hys (by omega) (by omega) (by omega)
 replace hst : St w0 w7 (rowT 33 winE r6 A :: rowT 76 segE r1 r3 :: rowT 51 sampE r2 R.all :: r4) := by rw [hA] at hst; exact hst
 obtain ⟨hAok, hAn, hRok, hal⟩ := rows_nums (by omega) hv (by omega) (by omega) hR eA
 have hright := rows_right (by omega) (by omega) (by omega) hR eA
 have hpos := rows_ne (by omega) (by omega) hR
 refine cE_region rfl (s_cons (op_move (iV ((rangeW (ds r3) ([]) (f : Int) (((f : Int) + 1) + (q : Int))).2)) rfl (s_cons (op_neq (k := .i64) (a := (rangeW (ds r3) ([]) (f : Int) (((f : Int) + 1) + (q : Int))).2) (b := 0) rfl rfl (s_cons (op_move (.bool (!decide (((rangeW (ds r3) ([]) (f : Int) (((f : Int) + 1) + (q : Int))).2) = 0))) rfl (s_yes 53 rfl (congrArg Value.bool (congrArg (! ·) (show (decide (((rangeW (ds r3) ([]) (f : Int) (((f : Int) + 1) + (q : Int))).2) = 0)) = true from (decide_eq_true (by assumption))))) (op_move r2 rfl ?_))))))))
 refine s_yes 53 rfl (congrArg Value.bool (congrArg (! ·) (show (decide (((rangeW (ds r3) ([]) (f : Int) (((f : Int) + 1) + (q : Int))).2) = 0)) = true from (decide_eq_true (by assumption))))) (op_len (E := sampE) (xs := R.all) Try.underlying23 rfl (hst.sl 2 rfl) (s_yes 53 rfl (congrArg Value.bool (congrArg (! ·) (show (decide (((rangeW (ds r3) ([]) (f : Int) (((f : Int) + 1) + (q : Int))).2) = 0)) = true from (decide_eq_true (by assumption))))) (op_eql (k := .i64) (a := (R.all.length : Int)) (b := 0) rfl rfl ?_)))
 refine s_cons (op_pick_f (.bool (decide ((R.all.length : Int) = 0))) (congrArg Value.bool (congrArg (! ·) (show (decide (((rangeW (ds r3) ([]) (f : Int) (((f : Int) + 1) + (q : Int))).2) = 0)) = true from (decide_eq_true (by assumption))))) rfl (s_cons (op_move (.bool (decide ((R.all.length : Int) = 0))) rfl (s_yes 58 rfl (congrArg Value.bool (show (decide ((R.all.length : Int) = 0)) = false from (decide_eq_false (by omega)))) (op_move r2 rfl ?_)))))
 refine s_yes 58 rfl (congrArg Value.bool (show (decide ((R.all.length : Int) = 0)) = false from (decide_eq_false (by omega)))) (op_move r6 rfl (s_yes 58 rfl (congrArg Value.bool (show (decide ((R.all.length : Int) = 0)) = false from (decide_eq_false (by omega)))) (op_move (iV (f : Int)) rfl (s_yes 58 rfl (congrArg Value.bool (show (decide ((R.all.length : Int) = 0)) = false from (decide_eq_false (by omega)))) (op_move (iV (((f : Int) + 1) + (q : Int))) rfl ?_)))))
 refine s_yes 58 rfl (congrArg Value.bool (show (decide ((R.all.length : Int) = 0)) = false from (decide_eq_false (by omega)))) (op_call Try.call13 (evs_cons (v := r2) rfl (evs_cons (v := r6) rfl (evs_cons (v := (iV (f : Int))) rfl (evs_cons (v := (iV (((f : Int) + 1) + (q : Int)))) rfl evs_nil)))) (c_Answer (w0 := w7) (v_h := r2) (h := R.all) (h_h := (hst.sl 2 rfl)) (v_ws := r6) (ws := A) (h_ws := (hst.sl 0 rfl)) (fr := (f : Int)) (to := (((f : Int) + 1) + (q : Int))) (hho := (by exact hRok)) (hwo := hAok) (hhl := (by omega)) (fr0 := (by omega)) (to0 := (by omega)) (fr1 := (by omega)) (to1 := (by omega))) ?_)
 rintro _ w8 ⟨rfl, hcall⟩
 refine ⟨_, rfl, ?_⟩
 have hst := hst.call hcall
 refine s_yes 58 rfl (congrArg Value.bool (show (decide ((R.all.length : Int) = 0)) = false from (decide_eq_false (by omega)))) (op_neq (k := .i64) (a := (answerC R.all A (f : Int) (((f : Int) + 1) + (q : Int)))) (b := 0) rfl rfl (s_cons (op_pick_f (.bool (!decide ((answerC R.all A (f : Int) (((f : Int) + 1) + (q : Int))) = 0))) (congrArg Value.bool (show (decide ((R.all.length : Int) = 0)) = false from (decide_eq_false (by omega)))) rfl ?_)))
 refine s_nil (then_n (cE_cond false (congrArg Value.bool (congrArg (! ·) (show (decide ((answerC R.all A (f : Int) (((f : Int) + 1) + (q : Int))) = 0)) = true from (decide_eq_true hright)))) (fun h => by cases h) (fun _ => ?_)))
 refine cE_skip (then_n (cE_seq (cE_region rfl (s_cons (op_move (iV which) rfl (s_cons (op_conv (k := .i64) (a := which) (which % 18446744073709551616) Try.underlying47 (by rw [Try.underlying3]; rfl) rfl (IntKind.wrap_u64 _) (s_cons (op_move r2 rfl (s_cons (op_len (E := sampE) (xs := R.all) Try.underlying23 rfl (hst.sl 2 rfl) (s_cons (op_conv (k := .i64) (a := (R.all.length : Int)) (R.all.length : Int) Try.underlying47 (by rw [Try.underlying3]; rfl) rfl (xu64 (by omega) (by omega)) ?_)))))))))))))
 obtain ⟨k, hk, hkl⟩ := rem_nat (a := (which % 18446744073709551616)) (b := (R.all.length : Int)) (by omega) (by omega)
 refine s_cons (op_rem (k := .u64) (a := (which % 18446744073709551616)) (b := (R.all.length : Int)) (k : Int) rfl rfl (by omega) hk (s_cons (op_conv (k := .u64) (a := (k : Int)) (k : Int) Try.underlying3 (by rw [Try.underlying47]; rfl) rfl (xi64 (by omega) (by omega)) (s_cons (op_assign (iV (k : Int)) rfl (s_nil (then_n (cE_seq (cE_region rfl (s_cons (op_assign (.bool false) rfl (s_nil ?_))))))))))))
 refine then_n (cE_seq (cE_seq (cE_region rfl (s_cons (op_assign (iV 0) rfl (s_nil (then_n (cE_block (cE_loop (fun (m : Nat) (ρ : Env) (w : World) => ∃ (i : Nat), m = A.length - i ∧ ρ 0 = (iV n) ∧ ρ 1 = v_steps ∧ ρ 2 = v_values ∧ ρ 3 = (iV mask) ∧ ρ 4 = (iV fr_) ∧ ρ 5 = (iV long) ∧ ρ 6 = (iV which) ∧ ρ 14 = (.bool false) ∧ ρ 15 = r1 ∧ ρ 16 = r2 ∧ ρ 17 = (iV (f : Int)) ∧ ρ 18 = (iV (((f : Int) + 1) + (q : Int))) ∧ ρ 19 = r6 ∧ ρ 20 = (iV ((rangeW (ds r3) ([]) (f : Int) (((f : Int) + 1) + (q : Int))).2)) ∧ ρ 21 = (iV (k : Int)) ∧ ρ 22 = (.bool (coverB (A.take i) (gd R.all k))) ∧ ρ 23 = (iV (i : Int)) ∧ St w0 w (rowT 33 winE r6 A :: rowT 76 segE r1 r3 :: rowT 51 sampE r2 R.all :: r4) ∧ (i ≤ A.length)) id _ ⟨0, rfl, rfl, rfl, rfl, rfl, rfl, rfl, rfl, rfl, rfl, rfl, rfl, rfl, rfl, rfl, rfl, (congrArg Value.bool (show false = _ from by rfl)), (congrArg iV (show 0 = _ from by omega)), hst, (by omega)⟩ ?_)))))))))
 rintro m10 ρ11 w12 ⟨i, hm10, q9_0, q9_1, q9_2, q9_3, q9_4, q9_5, q9_6, q9_14, q9_15, q9_16, q9_17, q9_18, q9_19, q9_20, q9_21, q9_22, q9_23, hst, hi⟩
 have hAl := (hst.sl 0 rfl).len
 refine cE_seq (cE_seq (cE_region rfl (s_cons (op_move (iV (i : Int)) q9_23 (s_cons (op_move r6 q9_19 (s_cons (op_len (E := winE) (xs := A) Try.underlying27 rfl (hst.sl 0 rfl) (s_cons (op_lss (k := .i64) (a := (i : Int)) (b := (A.length : Int)) rfl rfl (s_nil (then_n ?_))))))))))))
 rcases Bool.eq_false_or_eq_true (decide ((i : Int) < (A.length : Int))) with b13 | b13
 ·have c14 := of_decide_eq_true b13
  refine cE_cond true (congrArg Value.bool b13) (fun _ => ?_) (fun h => by cases h)
  refine cE_skip (then_n (cE_seq (cE_block ?_)))
  obtain ⟨g15, hg16⟩ : ∃ x : Bool, x = !(coverB (A.take i) (gd R.all k)) := ⟨_, rfl⟩
  obtain ⟨g119, hg120⟩ : ∃ x : Bool, x = (g15 && (decide (((gd A i).Lo) ≤ ((gd R.all k).T)))) := ⟨_, rfl⟩
  obtain ⟨g399, hg400⟩ : ∃ x : Bool, x = ((decide (((gd A i).Lo) ≤ ((gd R.all k).T))) && (decide (((gd R.all k).T) < ((gd A i).Hi)))) := ⟨_, rfl⟩
  obtain ⟨g401, hg402⟩ : ∃ x : Bool, x = ((coverB (A.take i) (gd R.all k)) || g399) := ⟨_, rfl⟩
  refine cE_regionM (fun (D : Nat → Bool) (w : World) => St w0 w (rowT 33 winE r6 A :: rowT 76 segE r1 r3 :: rowT 51 sampE r2 R.all :: r4) ∧ (St w0 w (rowT 33 winE r6 A :: rowT 76 segE r1 r3 :: rowT 51 sampE r2 R.all :: r4))) [[(22, none)], [(79, some 0)], [(16, none), (80, some 1)], [(21, none), (80, some 1)], [(81, some 2), (82, some 3), (80, some 1)], [(83, some 4), (80, some 1)], [(84, some 5), (80, some 1)], [(19, none), (80, some 1)], [(23, none), (80, some 1)], [(86, some 7), (87, some 8), (80, some 1)], [(88, some 9), (80, some 1)], [(89, some 10), (80, some 1)], [(85, some 6), (90, some 11), (80, some 1)], [(91, some 12), (80, some 1)], [(16, none), (92, some 13)], [(21, none), (92, some 13)], [(93, some 14), (94, some 15), (92, some 13)], [(95, some 16), (92, some 13)], [(96, some 17), (92, some 13)], [(19, none), (92, some 13)], [(23, none), (92, some 13)], [(98, some 19), (99, some 20), (92, some 13)], [(100, some 21), (92, some 13)], [(101, some 22), (92, some 13)], [(97, some 18), (102, some 23), (92, some 13)], [(92, some 13), (103, some 24), (80, some 1)], [(80, some 1), (104, some 25)], [(105, some 26)]] [] [(kEq (.bool (coverB (A.take i) (gd R.all k)))), (kEq (.bool (coverB (A.take i) (gd R.all k)))), (kEq (bif g15 then r2 else undef)), (kEq (bif g15 then (iV (k : Int)) else undef)), (kPtUc g15 [(iV ((gd R.all k).T)), (iV ((gd R.all k).V))]), (kPtUc g15 [(iV ((gd R.all k).T)), (iV ((gd R.all k).V))]), (kEq (bif g15 then (iV ((gd R.all k).T)) else undef)), (kEq (bif g15 then r6 else undef)), (kEq (bif g15 then (iV (i : Int)) else undef)), (kPtUc g15 [(iV ((gd A i).Tier)), (iV ((gd A i).Lo)), (iV ((gd A i).Hi)), (iV (((gd A i).Agg).From)), (iV (((gd A i).Agg).Count)), (iV (((gd A i).Agg).Sum)), (iV (((gd A i).Agg).Min)), (iV (((gd A i).Agg).Max)), (iV (((gd A i).Agg).First)), (iV (((gd A i).Agg).Last))]), (kPtUc g15 [(iV ((gd A i).Lo)), (iV ((gd A i).Hi)), (iV (((gd A i).Agg).From)), (iV (((gd A i).Agg).Count)), (iV (((gd A i).Agg).Sum)), (iV (((gd A i).Agg).Min)), (iV (((gd A i).Agg).Max)), (iV (((gd A i).Agg).First)), (iV (((gd A i).Agg).Last))]), (kEq (bif g15 then (iV ((gd A i).Lo)) else undef)), (kEq (bif g15 then (.bool (decide (((gd A i).Lo) ≤ ((gd R.all k).T)))) else undef)), (kEq (bif g15 then (.bool (decide (((gd A i).Lo) ≤ ((gd R.all k).T)))) else undef)), (kEq (bif g119 then r2 else undef)), (kEq (bif g119 then (iV (k : Int)) else undef)), (kPtUc g119 [(iV ((gd R.all k).T)), (iV ((gd R.all k).V))]), (kPtUc g119 [(iV ((gd R.all k).T)), (iV ((gd R.all k).V))]), (kEq (bif g119 then (iV ((gd R.all k).T)) else undef)), (kEq (bif g119 then r6 else undef)), (kEq (bif g119 then (iV (i : Int)) else undef)), (kPtUc g119 [(iV ((gd A i).Tier)), (iV ((gd A i).Lo)), (iV ((gd A i).Hi)), (iV (((gd A i).Agg).From)), (iV (((gd A i).Agg).Count)), (iV (((gd A i).Agg).Sum)), (iV (((gd A i).Agg).Min)), (iV (((gd A i).Agg).Max)), (iV (((gd A i).Agg).First)), (iV (((gd A i).Agg).Last))]), (kPtUc g119 [(iV ((gd A i).Hi)), (iV (((gd A i).Agg).From)), (iV (((gd A i).Agg).Count)), (iV (((gd A i).Agg).Sum)), (iV (((gd A i).Agg).Min)), (iV (((gd A i).Agg).Max)), (iV (((gd A i).Agg).First)), (iV (((gd A i).Agg).Last))]), (kEq (bif g119 then (iV ((gd A i).Hi)) else undef)), (kEq (bif g119 then (.bool (decide (((gd R.all k).T) < ((gd A i).Hi)))) else undef)), (kEq (bif g15 then (.bool g399) else undef)), (kEq (.bool g401)), (kEq (.bool g401))] ⟨mEq, mEq, mEq, mEq, mPtUc, mPtUc, mEq, mEq, mEq, mPtUc, mPtUc, mEq, mEq, mEq, mEq, mEq, mPtUc, mPtUc, mEq, mEq, mEq, mPtUc, mPtUc, mEq, mEq, mEq, mEq, mEq, trivial⟩ (by kernel_rfl) rfl (by kernel_rfl) ⟨hst.drewW.sub (.cons_cons _ (.cons_cons _ (.cons_cons _ (List.Sublist.refl _)))), hst.drewW⟩ (fun hM => ⟨?_, ?_, ?_, ?_, ?_, ?_, ?_, ?_, ?_, ?_, ?_, ?_, ?_, ?_, ?_, ?_, ?_, ?_, ?_, ?_, ?_, ?_, ?_, ?_, ?_, ?_, ?_, ?_, trivial⟩) ?_
  ·rintro D ρo wo nD eD cD jD aD ⟨f22, _⟩
   exact go_plain (op_move (.bool (coverB (A.take i) (gd R.all k))) (f22.trans q9_22) (kN0 (i := 0) hM (by decide) (by exact jD) (by exact rfl)))
  ·rintro D ρo wo nD eD cD jD aD ⟨f79, _⟩
   exact go_plain (op_move (.bool (coverB (A.take i) (gd R.all k))) f79 (kN0 (i := 1) hM (by decide) (by exact jD) (by exact rfl)))
  ·rintro D ρo wo nD eD cD jD aD ⟨f16, f80, _⟩
   refine go_lz 80 rfl ((gA_f f80).trans hg16.symm) ?_ (fun hc404 => (kN0 (i := 2) hM (by decide) (by exact jD) (by exact (gf hc404).symm)))
   intro hc404
   exact id (op_move r2 (f16.trans q9_16) (kN0 (i := 2) hM (by decide) (by exact jD) (by exact (gt hc404).symm)))
  ·rintro D ρo wo nD eD cD jD aD ⟨f21, f80, _⟩
   refine go_lz 80 rfl ((gA_f f80).trans hg16.symm) ?_ (fun hc405 => (kN0 (i := 3) hM (by decide) (by exact jD) (by exact (gf hc405).symm)))
   intro hc405
   exact id (op_move (iV (k : Int)) (f21.trans q9_21) (kN0 (i := 3) hM (by decide) (by exact jD) (by exact (gt hc405).symm)))
  ·rintro D ρo wo nD eD cD jD aD ⟨f81, f82, f80, _⟩
   refine go_lz 80 rfl ((gA_f f80).trans hg16.symm) ?_ (fun hc406 => (kN0 (i := 4) hM (by decide) (by exact jD) (by exact fun h => absurd (show _ = true from h) (by rw [hc406]; decide))))
   intro hc406
   have c407 : (coverB (A.take i) (gd R.all k)) = false := (not_t (hg16.symm.trans hc406))
   have hst := jD.2 
   refine id (op_indexAddrD (E := sampE) (xs := R.all) k Try.underlying23 Try.sizeOf51 (f81.trans (gt hc406)) (hst.sl 2 rfl) (f82.trans (gt hc406)) (by omega) (by omega) (fun a408 o409 p410 => ?_))
   exact (kN0 (i := 4) hM (by decide) (by exact jD) (by exact fun _ => ⟨_, _, rfl, p410⟩))
  ·rintro D ρo wo nD eD cD jD aD ⟨f83, f80, _⟩
   refine go_lz 80 rfl ((gA_f f80).trans hg16.symm) ?_ (fun hc411 => (kN0 (i := 5) hM (by decide) (by exact jD) (by exact fun h => absurd (show _ = true from h) (by rw [hc411]; decide))))
   intro hc411
   obtain ⟨a412, o413, e414, p415⟩ := f83 hc411
   exact id (op_fieldAddr (s := 0) Try.underlying51 rfl rfl Try.sizeOf2 e414 (kN0 (i := 5) hM (by decide) (by exact jD) (by exact fun _ => ⟨_, _, rfl, p415⟩)))
  ·rintro D ρo wo nD eD cD jD aD ⟨f84, f80, _⟩
   refine go_lz 80 rfl ((gA_f f80).trans hg16.symm) ?_ (fun hc416 => (kN0 (i := 6) hM (by decide) (by exact jD) (by exact (gf hc416).symm)))
   intro hc416
   obtain ⟨a417, o418, e419, p420⟩ := f84 hc416
   exact id (op_load1 (u := (iV ((gd R.all k).T))) Try.isAgg2 e419 p420 (kN0 (i := 6) hM (by decide) (by exact jD) (by exact (gt hc416).symm)))
  ·rintro D ρo wo nD eD cD jD aD ⟨f19, f80, _⟩
   refine go_lz 80 rfl ((gA_f f80).trans hg16.symm) ?_ (fun hc421 => (kN0 (i := 7) hM (by decide) (by exact jD) (by exact (gf hc421).symm)))
   intro hc421
   exact id (op_move r6 (f19.trans q9_19) (kN0 (i := 7) hM (by decide) (by exact jD) (by exact (gt hc421).symm)))
  ·rintro D ρo wo nD eD cD jD aD ⟨f23, f80, _⟩
   refine go_lz 80 rfl ((gA_f f80).trans hg16.symm) ?_ (fun hc422 => (kN0 (i := 8) hM (by decide) (by exact jD) (by exact (gf hc422).symm)))
   intro hc422
   exact id (op_move (iV (i : Int)) (f23.trans q9_23) (kN0 (i := 8) hM (by decide) (by exact jD) (by exact (gt hc422).symm)))
  ·rintro D ρo wo nD eD cD jD aD ⟨f86, f87, f80, _⟩
   refine go_lz 80 rfl ((gA_f f80).trans hg16.symm) ?_ (fun hc423 => (kN0 (i := 9) hM (by decide) (by exact jD) (by exact fun h => absurd (show _ = true from h) (by rw [hc423]; decide))))
   intro hc423
   have c424 : (coverB (A.take i) (gd R.all k)) = false := (not_t (hg16.symm.trans hc423))
   have hst := jD.2 
   refine id (op_indexAddrD (E := winE) (xs := A) i Try.underlying27 Try.sizeOf33 (f86.trans (gt hc423)) (hst.sl 0 rfl) (f87.trans (gt hc423)) (by omega) (by omega) (fun a425 o426 p427 => ?_))
   exact (kN0 (i := 9) hM (by decide) (by exact jD) (by exact fun _ => ⟨_, _, rfl, p427⟩))
  ·rintro D ρo wo nD eD cD jD aD ⟨f88, f80, _⟩
   refine go_lz 80 rfl ((gA_f f80).trans hg16.symm) ?_ (fun hc428 => (kN0 (i := 10) hM (by decide) (by exact jD) (by exact fun h => absurd (show _ = true from h) (by rw [hc428]; decide))))
   intro hc428
   obtain ⟨a429, o430, e431, p432⟩ := f88 hc428
   exact id (op_fieldAddr (s := 0) Try.underlying33 rfl rfl Try.sizeOf2 e431 (kN0 (i := 10) hM (by decide) (by exact jD) (by exact fun _ => ⟨_, _, rfl, (p432.drop 1)⟩)))
  ·rintro D ρo wo nD eD cD jD aD ⟨f89, f80, _⟩
   refine go_lz 80 rfl ((gA_f f80).trans hg16.symm) ?_ (fun hc433 => (kN0 (i := 11) hM (by decide) (by exact jD) (by exact (gf hc433).symm)))
   intro hc433
   obtain ⟨a434, o435, e436, p437⟩ := f89 hc433
   exact id (op_load1 (u := (iV ((gd A i).Lo))) Try.isAgg2 e436 p437 (kN0 (i := 11) hM (by decide) (by exact jD) (by exact (gt hc433).symm)))
  ·rintro D ρo wo nD eD cD jD aD ⟨f85, f90, f80, _⟩
   refine go_lz 80 rfl ((gA_f f80).trans hg16.symm) ?_ (fun hc438 => (kN0 (i := 12) hM (by decide) (by exact jD) (by exact (gf hc438).symm)))
   intro hc438
   exact id (op_geq (k := .i64) (a := (gd R.all k).T) (b := (gd A i).Lo) (f85.trans (gt hc438)) (f90.trans (gt hc438)) (kN0 (i := 12) hM (by decide) (by exact jD) (by exact (gt hc438).symm)))
  ·rintro D ρo wo nD eD cD jD aD ⟨f91, f80, _⟩
   refine go_lz 80 rfl ((gA_f f80).trans hg16.symm) ?_ (fun hc439 => (kN0 (i := 13) hM (by decide) (by exact jD) (by exact (gf hc439).symm)))
   intro hc439
   exact id (op_move (.bool (decide (((gd A i).Lo) ≤ ((gd R.all k).T)))) (f91.trans (gt hc439)) (kN0 (i := 13) hM (by decide) (by exact jD) (by exact (gt hc439).symm)))
  ·rintro D ρo wo nD eD cD jD aD ⟨f16, f92, _⟩
   refine go_lz 92 rfl ((gB_t f92).trans hg120.symm) ?_ (fun hc440 => (kN0 (i := 14) hM (by decide) (by exact jD) (by exact (gf hc440).symm)))
   intro hc440
   exact id (op_move r2 (f16.trans q9_16) (kN0 (i := 14) hM (by decide) (by exact jD) (by exact (gt hc440).symm)))
  ·rintro D ρo wo nD eD cD jD aD ⟨f21, f92, _⟩
   refine go_lz 92 rfl ((gB_t f92).trans hg120.symm) ?_ (fun hc441 => (kN0 (i := 15) hM (by decide) (by exact jD) (by exact (gf hc441).symm)))
   intro hc441
   exact id (op_move (iV (k : Int)) (f21.trans q9_21) (kN0 (i := 15) hM (by decide) (by exact jD) (by exact (gt hc441).symm)))
  ·rintro D ρo wo nD eD cD jD aD ⟨f93, f94, f92, _⟩
   refine go_lz 92 rfl ((gB_t f92).trans hg120.symm) ?_ (fun hc442 => (kN0 (i := 16) hM (by decide) (by exact jD) (by exact fun h => absurd (show _ = true from h) (by rw [hc442]; decide))))
   intro hc442
   have c443 : (coverB (A.take i) (gd R.all k)) = false := (not_t (hg16.symm.trans (and_l (hg120.symm.trans hc442))))
   have c444 : ((gd A i).Lo) ≤ ((gd R.all k).T) := of_decide_eq_true (and_r (hg120.symm.trans hc442))
   have hst := jD.2 
   refine id (op_indexAddrD (E := sampE) (xs := R.all) k Try.underlying23 Try.sizeOf51 (f93.trans (gt hc442)) (hst.sl 2 rfl) (f94.trans (gt hc442)) (by omega) (by omega) (fun a445 o446 p447 => ?_))
   exact (kN0 (i := 16) hM (by decide) (by exact jD) (by exact fun _ => ⟨_, _, rfl, p447⟩))
  ·rintro D ρo wo nD eD cD jD aD ⟨f95, f92, _⟩
   refine go_lz 92 rfl ((gB_t f92).trans hg120.symm) ?_ (fun hc448 => (kN0 (i := 17) hM (by decide) (by exact jD) (by exact fun h => absurd (show _ = true from h) (by rw [hc448]; decide))))
   intro hc448
   obtain ⟨a449, o450, e451, p452⟩ := f95 hc448
   exact id (op_fieldAddr (s := 0) Try.underlying51 rfl rfl Try.sizeOf2 e451 (kN0 (i := 17) hM (by decide) (by exact jD) (by exact fun _ => ⟨_, _, rfl, p452⟩)))
  ·rintro D ρo wo nD eD cD jD aD ⟨f96, f92, _⟩
   refine go_lz 92 rfl ((gB_t f92).trans hg120.symm) ?_ (fun hc453 => (kN0 (i := 18) hM (by decide) (by exact jD) (by exact (gf hc453).symm)))
   intro hc453
   obtain ⟨a454, o455, e456, p457⟩ := f96 hc453
   exact id (op_load1 (u := (iV ((gd R.all k).T))) Try.isAgg2 e456 p457 (kN0 (i := 18) hM (by decide) (by exact jD) (by exact (gt hc453).symm)))
  ·rintro D ρo wo nD eD cD jD aD ⟨f19, f92, _⟩
   refine go_lz 92 rfl ((gB_t f92).trans hg120.symm) ?_ (fun hc458 => (kN0 (i := 19) hM (by decide) (by exact jD) (by exact (gf hc458).symm)))
   intro hc458
   exact id (op_move r6 (f19.trans q9_19) (kN0 (i := 19) hM (by decide) (by exact jD) (by exact (gt hc458).symm)))
  ·rintro D ρo wo nD eD cD jD aD ⟨f23, f92, _⟩
   refine go_lz 92 rfl ((gB_t f92).trans hg120.symm) ?_ (fun hc459 => (kN0 (i := 20) hM (by decide) (by exact jD) (by exact (gf hc459).symm)))
   intro hc459
   exact id (op_move (iV (i : Int)) (f23.trans q9_23) (kN0 (i := 20) hM (by decide) (by exact jD) (by exact (gt hc459).symm)))
  ·rintro D ρo wo nD eD cD jD aD ⟨f98, f99, f92, _⟩
   refine go_lz 92 rfl ((gB_t f92).trans hg120.symm) ?_ (fun hc460 => (kN0 (i := 21) hM (by decide) (by exact jD) (by exact fun h => absurd (show _ = true from h) (by rw [hc460]; decide))))
   intro hc460
   have c461 : (coverB (A.take i) (gd R.all k)) = false := (not_t (hg16.symm.trans (and_l (hg120.symm.trans hc460))))
   have c462 : ((gd A i).Lo) ≤ ((gd R.all k).T) := of_decide_eq_true (and_r (hg120.symm.trans hc460))
   have hst := jD.2 
   refine id (op_indexAddrD (E := winE) (xs := A) i Try.underlying27 Try.sizeOf33 (f98.trans (gt hc460)) (hst.sl 0 rfl) (f99.trans (gt hc460)) (by omega) (by omega) (fun a463 o464 p465 => ?_))
   exact (kN0 (i := 21) hM (by decide) (by exact jD) (by exact fun _ => ⟨_, _, rfl, p465⟩))
  ·rintro D ρo wo nD eD cD jD aD ⟨f100, f92, _⟩
   refine go_lz 92 rfl ((gB_t f92).trans hg120.symm) ?_ (fun hc466 => (kN0 (i := 22) hM (by decide) (by exact jD) (by exact fun h => absurd (show _ = true from h) (by rw [hc466]; decide))))
   intro hc466
   obtain ⟨a467, o468, e469, p470⟩ := f100 hc466
   exact id (op_fieldAddr (s := 0) Try.underlying33 rfl rfl Try.sizeOf2 e469 (kN0 (i := 22) hM (by decide) (by exact jD) (by exact fun _ => ⟨_, _, rfl, (p470.drop 2)⟩)))
  ·rintro D ρo wo nD eD cD jD aD ⟨f101, f92, _⟩
   refine go_lz 92 rfl ((gB_t f92).trans hg120.symm) ?_ (fun hc471 => (kN0 (i := 23) hM (by decide) (by exact jD) (by exact (gf hc471).symm)))
   intro hc471
   obtain ⟨a472, o473, e474, p475⟩ := f101 hc471
   exact id (op_load1 (u := (iV ((gd A i).Hi))) Try.isAgg2 e474 p475 (kN0 (i := 23) hM (by decide) (by exact jD) (by exact (gt hc471).symm)))
  ·rintro D ρo wo nD eD cD jD aD ⟨f97, f102, f92, _⟩
   refine go_lz 92 rfl ((gB_t f92).trans hg120.symm) ?_ (fun hc476 => (kN0 (i := 24) hM (by decide) (by exact jD) (by exact (gf hc476).symm)))
   intro hc476
   exact id (op_lss (k := .i64) (a := (gd R.all k).T) (b := (gd A i).Hi) (f97.trans (gt hc476)) (f102.trans (gt hc476)) (kN0 (i := 24) hM (by decide) (by exact jD) (by exact (gt hc476).symm)))
  ·rintro D ρo wo nD eD cD jD aD ⟨f92, f103, f80, _⟩
   refine go_lz 80 rfl ((gA_f f80).trans hg16.symm) ?_ (fun hc477 => (kN0 (i := 25) hM (by decide) (by exact jD) (by exact (gf hc477).symm)))
   intro hc477
   refine id (op_pick_and (f92.trans (gt hc477)) f103 (fun hp => (hg120.trans (and_i hc477 hp))) rfl ?_)
   exact (kN0 (i := 25) hM (by decide) (by exact jD) (by exact ((congrArg Value.bool hg400.symm).trans (gt hc477).symm)))
  ·rintro D ρo wo nD eD cD jD aD ⟨f80, f104, _⟩
   refine go_plain (op_pick_or f80 rfl f104 (fun hp => (hg16.trans (congrArg (! ·) hp))) ?_)
   exact (kN0 (i := 26) hM (by decide) (by exact jD) (by exact (congrArg Value.bool hg402.symm)))
  ·rintro D ρo wo nD eD cD jD aD ⟨f105, _⟩
   exact go_plain (op_assign (.bool g401) f105 (kN0 (i := 27) hM (by decide) (by exact jD) (by exact rfl)))
  intro ρ478 w479 Dw479 hallw479 hJw479 hRw479 hkw479
  have hst : St w0 w479 (rowT 33 winE r6 A :: rowT 76 segE r1 r3 :: rowT 51 sampE r2 R.all :: r4) := hJw479.2 
  have uw479_0 := (hkw479 0 rfl).trans q9_0
  have uw479_1 := (hkw479 1 rfl).trans q9_1
  have uw479_2 := (hkw479 2 rfl).trans q9_2
  have uw479_3 := (hkw479 3 rfl).trans q9_3
  have uw479_4 := (hkw479 4 rfl).trans q9_4
  have uw479_5 := (hkw479 5 rfl).trans q9_5
  have uw479_6 := (hkw479 6 rfl).trans q9_6
  have uw479_14 := (hkw479 14 rfl).trans q9_14
  have uw479_15 := (hkw479 15 rfl).trans q9_15
  have uw479_16 := (hkw479 16 rfl).trans q9_16
  have uw479_17 := (hkw479 17 rfl).trans q9_17
  have uw479_18 := (hkw479 18 rfl).trans q9_18
  have uw479_19 := (hkw479 19 rfl).trans q9_19
  have uw479_20 := (hkw479 20 rfl).trans q9_20
  have uw479_21 := (hkw479 21 rfl).trans q9_21
  have uw479_23 := (hkw479 23 rfl).trans q9_23
  have uw479_22 : ρ478 22 = (.bool g401) := hRw479 27 22 rfl
  refine block_n (then_n (cE_region rfl (s_cons (op_move (iV (i : Int)) uw479_23 (s_cons (op_add (k := .i64) (a := (i : Int)) (b := 1) ((i : Int) + 1) rfl rfl (xi64 (by omega) (by omega)) (s_cons (op_assign (iV ((i : Int) + 1)) rfl (s_nil (then_n ?_))))))))))
  exact ⟨_, ⟨(i + 1), rfl, uw479_0, uw479_1, uw479_2, uw479_3, uw479_4, uw479_5, uw479_6, uw479_14, uw479_15, uw479_16, uw479_17, uw479_18, uw479_19, uw479_20, uw479_21, (uw479_22.trans (congrArg Value.bool (show g401 = _ from by (rw [hg402, hg400]; exact cover_go (by omega) _)))), (congrArg iV (show ((i : Int) + 1) = _ from by omega)), hst, (by omega)⟩, (by simp only [id]; omega)⟩
 have c480 := of_decide_eq_false b13
 refine cE_cond false (congrArg Value.bool b13) (fun h => by cases h) (fun _ => ?_)
 refine cE_exit (then_x (then_x (block_hit (then_n (cE_seq (cE_regionM (fun (D : Nat → Bool) (w : World) => St w0 w (rowT 33 winE r6 A :: rowT 76 segE r1 r3 :: rowT 51 sampE r2 R.all :: r4) ∧ (D 4 = false → St w0 w (rowT 33 winE r6 A :: rowT 76 segE r1 r3 :: rowT 51 sampE r2 R.all :: r4))) [[], [(16, none)], [(21, none)], [(107, some 1), (108, some 2)], [(106, some 0), (109, some 3)], [(16, none)], [(21, none)], [(112, some 6)], [(111, some 5), (113, some 7)], [(110, some 4), (114, some 8)], [(115, some 9)]] [4, 9] [(fun (D : Nat → Bool) (v481 : Value) (w : World) => (D 4 = false → St w0 w (rowT 51 sampE v481 ([]) :: rowT 33 winE r6 A :: rowT 76 segE r1 r3 :: rowT 51 sampE r2 R.all :: r4))), (kEq r2), (kEq (iV (k : Int))), (kSlF sampE r2 R.all (R.all.take k)), (fun (D : Nat → Bool) (v485 : Value) (w : World) => (D 4 = true → D 9 = false → St w0 w (rowT 51 sampE v485 (R.all.take k) :: rowT 33 winE r6 A :: rowT 76 segE r1 r3 :: rowT 51 sampE r2 R.all :: r4))), (kEq r2), (kEq (iV (k : Int))), (kEq (iV ((k : Int) + 1))), (kSlF sampE r2 R.all (R.all.drop (k + 1))), (fun (D : Nat → Bool) (v489 : Value) (w : World) => (D 9 = true → St w0 w (rowT 51 sampE v489 ((R.all.take k) ++ (R.all.drop (k + 1))) :: rowT 33 winE r6 A :: rowT 76 segE r1 r3 :: rowT 51 sampE r2 R.all :: r4))), (fun (D : Nat → Bool) (v489 : Value) (w : World) => (D 9 = true → St w0 w (rowT 51 sampE v489 ((R.all.take k) ++ (R.all.drop (k + 1))) :: rowT 33 winE r6 A :: rowT 76 segE r1 r3 :: rowT 51 sampE r2 R.all :: r4)))] ⟨(fun D D' v w w' hD hb h2 => (fun x0 => (h2 ((hD 4 (by decide)).symm.trans x0)).ext hb)), mEq, mEq, mSlF, (fun D D' v w w' hD hb h2 => (fun x0 x1 => (h2 ((hD 4 (by decide)).symm.trans x0) ((hD 9 (by decide)).symm.trans x1)).ext hb)), mEq, mEq, mEq, mSlF, (fun D D' v w w' hD hb h2 => (fun x0 => (h2 ((hD 9 (by decide)).symm.trans x0)).ext hb)), (fun D D' v w w' hD hb h2 => (fun x0 => (h2 ((hD 9 (by decide)).symm.trans x0)).ext hb)), trivial⟩ (by kernel_rfl) rfl (by kernel_rfl) ⟨hst.drewW.sub (.cons_cons _ (.cons_cons _ (.cons_cons _ (List.Sublist.refl _)))), (fun _ => hst.drewW)⟩ (fun hM => ⟨?_, ?_, ?_, ?_, ?_, ?_, ?_, ?_, ?_, ?_, ?_, trivial⟩) ?_))))))
 ·rintro D ρo wo nD eD cD jD aD ⟨_⟩
  have hst := jD.2 (not_yet nD (fun hm => (cD 4 0 hm (by kernel_rfl))))
  have hst := St.start wo
  refine go_plain (op_buildSlice (E := sampE) [] hst Try.underlying23 Try.sizeOf51 Try.zeroValue51 evp_nil parts_nil rfl (by decide) (fun v492 w493 hst => ?_))
  exact kN (i := 0) hM (by decide) hst.below (by exact ⟨(jD.1).ext hst.below, (fun x0 => (jD.2 x0).ext hst.below)⟩) (by exact (fun y0 => (jD.2 y0).call hst))
 ·rintro D ρo wo nD eD cD jD aD ⟨f16, _⟩
  exact go_plain (op_move r2 (f16.trans q9_16) (kN0 (i := 1) hM (by decide) (by exact jD) (by exact rfl)))
 ·rintro D ρo wo nD eD cD jD aD ⟨f21, _⟩
  exact go_plain (op_move (iV (k : Int)) (f21.trans q9_21) (kN0 (i := 2) hM (by decide) (by exact jD) (by exact rfl)))
 ·rintro D ρo wo nD eD cD jD aD ⟨f107, f108, _⟩
  have hst := jD.2 (not_yet nD (fun hm => (cD 4 3 hm (by kernel_rfl))))
  refine go_plain (op_slice_toF k (E := sampE) (xs := R.all) Try.underlying23 Try.sizeOf51 f107 (hst.sl 2 rfl) f108 (by omega) (by omega) (fun v494 hs495 => ?_))
  exact (kN0 (i := 3) hM (by decide) (by exact jD) (by exact hs495))
 ·rintro D ρo wo nD eD cD jD aD ⟨f106, f109, _⟩
  obtain ⟨v496, e497⟩ : ∃ x, ρo 106 = x := ⟨_, rfl⟩
  have hh498 := aD 0 106 (eD 0 (by kernel_rfl)) rfl
  have hst : St w0 wo (rowT 51 sampE v496 ([]) :: rowT 33 winE r6 A :: rowT 76 segE r1 r3 :: rowT 51 sampE r2 R.all :: r4) := by have h := hh498 nD; rw [e497] at h; exact h
  obtain ⟨v500, e501⟩ : ∃ x, ρo 109 = x := ⟨_, rfl⟩
  have hs499 : Sl wo sampE v500 (R.all.take k) := e501 ▸ f109 _ (hst.sl 3 rfl)
  refine go_plain (op_append (E := sampE) (xs := []) (ys := (R.all.take k)) (z := (.agg #[(iV 0), (iV 0)])) (bytes := 16) hst 0 rfl Try.underlying23 (by kernel_rfl) rfl e497 e501 hs499 (by (simp; omega)) (by (simp; omega)) (fun v502 w503 hst => ?_))
  refine ⟨by exact ⟨hst.sub (.cons _ (.cons_cons _ (.cons_cons _ (.cons_cons _ (List.Sublist.refl _))))), (fun y0 => absurd y0 (fun h => Bool.noConfusion h))⟩, by exact (fun y0 y1 => hst.sub (.cons_cons _ (.cons_cons _ (.cons_cons _ (.cons_cons _ (List.Sublist.refl _)))))), kX [0] (by exact ⟨Or.inr (Or.inl (by decide)), Or.inr (Or.inr (Or.inr iEq)), Or.inr (Or.inr (Or.inr iEq)), Or.inr (Or.inr (Or.inr iSlF)), Or.inl rfl, Or.inr (Or.inr (Or.inr iEq)), Or.inr (Or.inr (Or.inr iEq)), Or.inr (Or.inr (Or.inr iEq)), Or.inr (Or.inr (Or.inr iSlF)), Or.inr (Or.inr (Or.inl (not_yet nD (fun hm => (cD 9 4 hm (by kernel_rfl)))))), Or.inr (Or.inr (Or.inl (not_yet nD (fun hm => (cD 10 4 hm (by kernel_rfl)))))), trivial⟩) ?_⟩
  intro j d hj hjd hDj h
  simp only [List.mem_cons, List.not_mem_nil, or_false] at hj
  subst hj
  obtain rfl : 106 = d := Option.some.inj hjd
  exact (by rw [e497]; exact (fun y0 => absurd y0 (fun h => Bool.noConfusion h)))
 ·rintro D ρo wo nD eD cD jD aD ⟨f16, _⟩
  exact go_plain (op_move r2 (f16.trans q9_16) (kN0 (i := 5) hM (by decide) (by exact jD) (by exact rfl)))
 ·rintro D ρo wo nD eD cD jD aD ⟨f21, _⟩
  exact go_plain (op_move (iV (k : Int)) (f21.trans q9_21) (kN0 (i := 6) hM (by decide) (by exact jD) (by exact rfl)))
 ·rintro D ρo wo nD eD cD jD aD ⟨f112, _⟩
  exact go_plain (op_add (k := .i64) (a := (k : Int)) (b := 1) ((k : Int) + 1) f112 rfl (xi64 (by omega) (by omega)) (kN0 (i := 7) hM (by decide) (by exact jD) (by exact rfl)))
 ·rintro D ρo wo nD eD cD jD aD ⟨f111, f113, _⟩
  have hst := jD.1
  refine go_plain (op_slice_fromF (k + 1) (E := sampE) (xs := R.all) Try.underlying23 Try.sizeOf51 f111 (hst.sl 2 rfl) f113 (by omega) (by omega) (fun v505 hs506 => ?_))
  exact (kN0 (i := 8) hM (by decide) (by exact jD) (by exact hs506))
 ·rintro D ρo wo nD eD cD jD aD ⟨f110, f114, _⟩
  obtain ⟨v507, e508⟩ : ∃ x, ρo 110 = x := ⟨_, rfl⟩
  have hh509 := aD 4 110 (eD 4 (by kernel_rfl)) rfl
  have hst : St w0 wo (rowT 51 sampE v507 (R.all.take k) :: rowT 33 winE r6 A :: rowT 76 segE r1 r3 :: rowT 51 sampE r2 R.all :: r4) := by have h := hh509 (eD 4 (by kernel_rfl)) nD; rw [e508] at h; exact h
  obtain ⟨v511, e512⟩ : ∃ x, ρo 114 = x := ⟨_, rfl⟩
  have hs510 : Sl wo sampE v511 (R.all.drop (k + 1)) := e512 ▸ f114 _ (hst.sl 3 rfl)
  refine go_plain (op_append (E := sampE) (xs := (R.all.take k)) (ys := (R.all.drop (k + 1))) (z := (.agg #[(iV 0), (iV 0)])) (bytes := 16) hst 0 rfl Try.underlying23 (by kernel_rfl) rfl e508 e512 hs510 (by (simp only [List.length_take, List.length_drop]; omega)) (by (simp only [List.length_take, List.length_drop]; omega)) (fun v513 w514 hst => ?_))
  refine ⟨by exact ⟨hst.sub (.cons _ (.cons_cons _ (.cons_cons _ (.cons_cons _ (List.Sublist.refl _))))), (fun y0 => absurd (show D 4 = false from y0) (by rw [(eD 4 (by kernel_rfl))]; decide))⟩, by exact (fun y0 => hst.sub (.cons_cons _ (.cons_cons _ (.cons_cons _ (.cons_cons _ (List.Sublist.refl _)))))), kX [0, 4] (by exact ⟨Or.inr (Or.inl (by decide)), Or.inr (Or.inr (Or.inr iEq)), Or.inr (Or.inr (Or.inr iEq)), Or.inr (Or.inr (Or.inr iSlF)), Or.inr (Or.inl (by decide)), Or.inr (Or.inr (Or.inr iEq)), Or.inr (Or.inr (Or.inr iEq)), Or.inr (Or.inr (Or.inr iEq)), Or.inr (Or.inr (Or.inr iSlF)), Or.inl rfl, Or.inr (Or.inr (Or.inl (not_yet nD (fun hm => (cD 10 9 hm (by kernel_rfl)))))), trivial⟩) ?_⟩
  intro j d hj hjd hDj h
  simp only [List.mem_cons, List.not_mem_nil, or_false] at hj
  rcases hj with rfl | rfl
  ·obtain rfl : 106 = d := Option.some.inj hjd
   exact (fun y0 => absurd (show D 4 = false from y0) (by rw [(eD 4 (by kernel_rfl))]; decide))
  ·obtain rfl : 110 = d := Option.some.inj hjd
   exact (by rw [e508]; exact (fun y0 y1 => absurd y1 (fun h => Bool.noConfusion h)))
 ·rintro D ρo wo nD eD cD jD aD ⟨f115, _⟩
  obtain ⟨v516, e517⟩ : ∃ x, ρo 115 = x := ⟨_, rfl⟩
  have hh518 := aD 9 115 (eD 9 (by kernel_rfl)) rfl
  have hst : St w0 wo (rowT 51 sampE v516 ((R.all.take k) ++ (R.all.drop (k + 1))) :: rowT 33 winE r6 A :: rowT 76 segE r1 r3 :: rowT 51 sampE r2 R.all :: r4) := by have h := hh518 (eD 9 (by kernel_rfl)); rw [e517] at h; exact h
  exact go_plain (op_assign _ rfl (kN0 (i := 10) hM (by decide) (by exact jD) (by exact f115)))
 intro ρ519 w520 Dw520 hallw520 hJw520 hRw520 hkw520
 obtain ⟨v521, uw520_24⟩ : ∃ x, ρ519 24 = x := ⟨_, rfl⟩
 have hst : St w0 w520 (rowT 51 sampE v521 ((R.all.take k) ++ (R.all.drop (k + 1))) :: rowT 33 winE r6 A :: rowT 76 segE r1 r3 :: rowT 51 sampE r2 R.all :: r4) := by have h := hRw520 10 24 rfl; rw [uw520_24] at h; exact (h (hallw520 9 (show 9 < 11 from by decide)))
 have uw520_17 := (hkw520 17 rfl).trans q9_17
 have uw520_18 := (hkw520 18 rfl).trans q9_18
 have uw520_19 := (hkw520 19 rfl).trans q9_19
 have uw520_22 := (hkw520 22 rfl).trans q9_22
 refine then_n (cE_seq ?_)
 have hiA : i = A.length := by omega
 have hLess := rows_less (k := k) (by omega) (by omega) (by omega) hR eA (by omega)
 refine cE_region rfl (s_cons (op_call Try.call8 evs_nil (c_told23 (w0 := w520)) ?_))
 rintro _ w522 ⟨rfl, hcall⟩
 refine ⟨_, rfl, ?_⟩
 have hst := hst.call hcall
 refine s_cons (op_move (.bool true) rfl (s_yes 117 rfl rfl (op_move v521 uw520_24 (s_yes 117 rfl rfl (op_move r6 uw520_19 (s_yes 117 rfl rfl (op_move (iV (f : Int)) uw520_17 (s_yes 117 rfl rfl (op_move (iV (((f : Int) + 1) + (q : Int))) uw520_18 (s_yes 117 rfl rfl (op_call Try.call13 (evs_cons (v := v521) rfl (evs_cons (v := r6) rfl (evs_cons (v := (iV (f : Int))) rfl (evs_cons (v := (iV (((f : Int) + 1) + (q : Int)))) rfl evs_nil)))) (c_Answer (w0 := w522) (v_h := v521) (h := ((R.all.take k) ++ (R.all.drop (k + 1)))) (h_h := (hst.sl 0 rfl)) (v_ws := r6) (ws := A) (h_ws := (hst.sl 1 rfl)) (fr := (f : Int)) (to := (((f : Int) + 1) + (q : Int))) (hho := (by exact less_ok hRok)) (hwo := hAok) (hhl := (by (simp only [List.length_append, List.length_take, List.length_drop]; omega))) (fr0 := (by omega)) (to0 := (by omega)) (fr1 := (by omega)) (to1 := (by omega))) ?_)))))))))))
 rintro _ w523 ⟨rfl, hcall⟩
 refine ⟨_, rfl, ?_⟩
 have hst := hst.call hcall
 refine s_yes 117 rfl rfl (op_eql (k := .i64) (a := (answerC ((R.all.take k) ++ (R.all.drop (k + 1))) A (f : Int) (((f : Int) + 1) + (q : Int)))) (b := 0) rfl rfl (s_yes 117 rfl rfl (op_move (.bool (coverB (A.take i) (gd R.all k))) uw520_22 (s_yes 117 rfl rfl (op_not (b := (coverB (A.take i) (gd R.all k))) rfl (s_yes 117 rfl rfl (op_eqlb (a := decide ((answerC ((R.all.take k) ++ (R.all.drop (k + 1))) A (f : Int) (((f : Int) + 1) + (q : Int))) = 0)) (b := !(coverB (A.take i) (gd R.all k))) Try.underlying4 rfl rfl ?_)))))))
 refine s_cons (op_pick_t (.bool ((decide ((answerC ((R.all.take k) ++ (R.all.drop (k + 1))) A (f : Int) (((f : Int) + 1) + (q : Int))) = 0)) == (!(coverB (A.take i) (gd R.all k))))) rfl rfl (s_cons (op_assign (.bool ((decide ((answerC ((R.all.take k) ++ (R.all.drop (k + 1))) A (f : Int) (((f : Int) + 1) + (q : Int))) = 0)) == (!(coverB (A.take i) (gd R.all k))))) rfl (s_nil (then_n (cE_ret ?_))))))
 refine post_r _ (res1 (v := (.bool true)) (congrArg Value.bool (show ((decide ((answerC ((R.all.take k) ++ (R.all.drop (k + 1))) A (f : Int) (((f : Int) + 1) + (q : Int))) = 0)) == (!(coverB (A.take i) (gd R.all k)))) = true from (by rw [hLess, take_all hiA, gd_eq (by omega)]; exact beq_self_eq_true _)))) ?_
 exact ⟨rfl, hst.bare⟩

end Go.Proofs.Ytldfnkhccaglmaa
