/- twinkeeplaw22.AskWide -/
import Derived.Test.YthanfecefjfbjaaXTW
import Derived.Test.YthanfecefjfbjaaXLA
import Derived.Test.YthanfecefjfbjaaXLB
import Derived.Test.YthanfecefjfbjaaXW42
import Derived.Test.YthanfecefjfbjaaXW37
namespace Go.Proofs.Ythanfecefjfbjaa
open Go.RowKit

set_option maxRecDepth 8000 in
set_option maxHeartbeats 8000000 in
theorem c_AskWide (w0 : World) (n : Int) (v_steps : Value) (steps : List Int) (h_steps : Sl w0 (intE .i64) v_steps steps) (v_values : Value) (values : List Int) (h_values : Sl w0 (intE .i64) v_values values) (mask : Int) (fr_ : Int) (long : Int) (more : Int) (hv : ∀ v ∈ values, i64R v) (hs : ∀ v ∈ steps, i64R v) (n0 : -9223372036854775808 ≤ n) (mask0 : -9223372036854775808 ≤ mask) (fr_0 : -9223372036854775808 ≤ fr_) (long0 : -9223372036854775808 ≤ long) (more0 : -9223372036854775808 ≤ more) (n1 : n ≤ 9223372036854775807) (mask1 : mask ≤ 9223372036854775807) (fr_1 : fr_ ≤ 9223372036854775807) (long1 : long ≤ 9223372036854775807) (more1 : more ≤ 9223372036854775807) :
  Calls Try.prog 9 #[(iV n), v_steps, v_values, (iV mask), (iV fr_), (iV long), (iV more)] w0 fun e w' => e = .returned (.bool true) ∧ St w0 w' [] := by
 refine calls_E (n := 111) (ts := [14]) Try.func9 rfl rfl rfl (by simp) ?_
 have hst := St.start w0
 refine cE_seq (cE_region rfl (s_cons (op_assign (.bool false) rfl (s_nil (then_n (cE_seq (cE_region rfl (s_cons (op_move (iV n) rfl (s_cons (op_move v_steps rfl (s_cons (op_move v_values rfl (s_cons (op_move (iV mask) rfl (s_cons (op_call Try.call20 (evs_cons (v := (iV n)) rfl (evs_cons (v := v_steps) rfl (evs_cons (v := v_values) rfl (evs_cons (v := (iV mask)) rfl evs_nil)))) (c_Row (w0 := w0) (n := n) (v_steps := v_steps) (steps := steps) (h_steps := (h_steps.below hst.below)) (v_values := v_values) (values := values) (h_values := (h_values.below hst.below)) (mask := mask) (hv := hv) (hs := hs) (n0 := (by omega)) (mask0 := (by omega)) (n1 := (by omega)) (mask1 := (by omega))) ?_)))))))))))))))))
 rintro _ w5 ⟨r1, r2, r3, r4, rfl, hcall, Row_hys, Row_hF⟩
 refine ⟨_, rfl, ?_⟩
 have hst := (hst.call hcall).perm (List.Perm.cons _ (List.Perm.cons _ (List.perm_append_comm)))
 refine s_cons (op_move (.tuple #[r1, r2]) rfl (s_cons (op_extract r1 rfl rfl (s_cons (op_extract r2 rfl rfl (s_cons (op_assign r1 rfl (s_cons (op_assign r2 rfl (s_nil (then_n (cE_seq ?_))))))))))))
 obtain ⟨R, hR⟩ : ∃ R : RowD, R = rowM steps values mask (1 + (n % 18446744073709551616 % 4).toNat) := ⟨_, rfl⟩
 replace hst : St w0 w5 (rowT 25 segE r1 r3 :: rowT 51 sampE r2 R.all :: r4) := by rw [← hR] at hst; exact hst
 have hys := Row_hys.trans (congrArg RowD.l hR.symm)
 have hlen := row_lenY (by omega) (by omega) Row_hys
 have hto : 0 ≤ R.to ∧ R.to ≤ 2000 * (((1 + (n % 18446744073709551616 % 4).toNat) : Nat) : Int) := by rw [hR]; exact rowM_to steps values mask (by omega)
 have hok := row_okY (by omega) Row_hys hv
 have hbst := row_bestY (by omega) Row_hys
 have hF := Row_hF
 refine cE_region rfl (s_cons (op_move (iV fr_) rfl (s_cons (op_conv (k := .i64) (a := fr_) (fr_ % 18446744073709551616) Try.underlying52 (by rw [Try.underlying3]; rfl) rfl (IntKind.wrap_u64 _) ?_))))
 obtain ⟨f, hf, hfl⟩ := rem_nat (a := (fr_ % 18446744073709551616)) (b := 300) (by omega) (by omega)
 refine s_cons (op_rem (k := .u64) (a := (fr_ % 18446744073709551616)) (b := 300) (f : Int) rfl rfl (by omega) hf (s_cons (op_conv (k := .u64) (a := (f : Int)) (f : Int) Try.underlying2 (by rw [Try.underlying52]; rfl) rfl (xi64 (by omega) (by omega)) (s_cons (op_assign (iV (f : Int)) rfl (s_nil (then_n (cE_seq (cE_region rfl (s_cons (op_move (iV (f : Int)) rfl (s_cons (op_add (k := .i64) (a := (f : Int)) (b := 1) ((f : Int) + 1) rfl rfl (xi64 (by omega) (by omega)) ?_)))))))))))))
 refine s_cons (op_move (iV long) rfl (s_cons (op_conv (k := .i64) (a := long) (long % 18446744073709551616) Try.underlying52 (by rw [Try.underlying3]; rfl) rfl (IntKind.wrap_u64 _) ?_)))
 obtain ⟨q, hq, hql⟩ := rem_nat (a := (long % 18446744073709551616)) (b := 300) (by omega) (by omega)
 refine s_cons (op_rem (k := .u64) (a := (long % 18446744073709551616)) (b := 300) (q : Int) rfl rfl (by omega) hq (s_cons (op_conv (k := .u64) (a := (q : Int)) (q : Int) Try.underlying2 (by rw [Try.underlying52]; rfl) rfl (xi64 (by omega) (by omega)) (s_cons (op_add (k := .i64) (a := ((f : Int) + 1)) (b := (q : Int)) (((f : Int) + 1) + (q : Int)) rfl rfl (xi64 (by omega) (by omega)) (s_cons (op_assign (iV (((f : Int) + 1) + (q : Int))) rfl ?_)))))))
 refine s_nil (then_n (cE_seq (cE_region rfl (s_cons (op_move (iV more) rfl (s_cons (op_conv (k := .i64) (a := more) (more % 18446744073709551616) Try.underlying52 (by rw [Try.underlying3]; rfl) rfl (IntKind.wrap_u64 _) ?_)))))))
 obtain ⟨mo, hmo, hmol⟩ := rem_nat (a := (more % 18446744073709551616)) (b := 100) (by omega) (by omega)
 refine s_cons (op_rem (k := .u64) (a := (more % 18446744073709551616)) (b := 100) (mo : Int) rfl rfl (by omega) hmo (s_cons (op_conv (k := .u64) (a := (mo : Int)) (mo : Int) Try.underlying2 (by rw [Try.underlying52]; rfl) rfl (xi64 (by omega) (by omega)) (s_cons (op_assign (iV (mo : Int)) rfl (s_nil (then_n (cE_seq (cE_region rfl (s_cons (op_move r1 rfl (s_cons (op_move (iV (f : Int)) rfl ?_)))))))))))))
 refine s_cons (op_move (iV (((f : Int) + 1) + (q : Int))) rfl (s_cons (op_call Try.call12 (evs_cons (v := r1) rfl (evs_cons (v := nS) rfl (evs_cons (v := (iV (f : Int))) rfl (evs_cons (v := (iV (((f : Int) + 1) + (q : Int)))) rfl evs_nil)))) (c_Range (w0 := w5) (v_segs := r1) (segs := r3) (h_segs := (hst.sl 0 rfl)) (v_head := nS) (head := []) (h_head := (Sl.nil sampE _)) (fr := (f : Int)) (to := (((f : Int) + 1) + (q : Int))) (hsg := (hF.segs hst 2 rfl)) (hso := hok) (hho := (by simp)) (fr0 := (by omega)) (to0 := (by omega)) (fr1 := (by omega)) (to1 := (by omega)) (hll := (by omega)) (hhl := (by decide)) (hbl := hbst)) ?_)))
 rintro _ w7 ⟨r6, rfl, hcall⟩
 refine ⟨_, rfl, ?_⟩
 have hst := hst.call hcall
 refine s_cons (op_move (.tuple #[r6, (iV ((rangeW (ds r3) ([]) (f : Int) (((f : Int) + 1) + (q : Int))).2))]) rfl (s_cons (op_extract r6 rfl rfl (s_cons (op_extract (iV ((rangeW (ds r3) ([]) (f : Int) (((f : Int) + 1) + (q : Int))).2)) rfl rfl (s_cons (op_assign r6 rfl (s_cons (op_assign (iV ((rangeW (ds r3) ([]) (f : Int) (((f : Int) + 1) + (q : Int))).2)) rfl (s_nil (then_n (cE_seq ?_))))))))))))
 obtain ⟨A, hA, gA, eA⟩ := range_wideY (fr := (f : Int)) (to := ((f : Int) + 1 + (q : Int))) (by omega) hR hys (by omega) (by omega) (by omega)
 replace hst : St w0 w7 (rowT 56 winE r6 A :: rowT 25 segE r1 r3 :: rowT 51 sampE r2 R.all :: r4) := by rw [hA] at hst; exact hst
 refine cE_region rfl (s_cons (op_move r1 rfl (s_cons (op_move (iV (f : Int)) rfl (s_cons (op_move (iV (mo : Int)) rfl (s_cons (op_sub (k := .i64) (a := (f : Int)) (b := (mo : Int)) ((f : Int) - (mo : Int)) rfl rfl (xi64 (by omega) (by omega)) (s_cons (op_max2 (k := .i64) (a := 0) (b := ((f : Int) - (mo : Int))) rfl rfl (s_cons (op_move (iV (((f : Int) + 1) + (q : Int))) rfl (s_cons (op_move (iV (mo : Int)) rfl ?_))))))))))))))
 refine s_cons (op_add (k := .i64) (a := (((f : Int) + 1) + (q : Int))) (b := (mo : Int)) ((((f : Int) + 1) + (q : Int)) + (mo : Int)) rfl rfl (xi64 (by omega) (by omega)) (s_cons (op_call Try.call12 (evs_cons (v := r1) rfl (evs_cons (v := nS) rfl (evs_cons (v := (iV (max 0 ((f : Int) - (mo : Int))))) rfl (evs_cons (v := (iV ((((f : Int) + 1) + (q : Int)) + (mo : Int)))) rfl evs_nil)))) (c_Range (w0 := w7) (v_segs := r1) (segs := r3) (h_segs := (hst.sl 1 rfl)) (v_head := nS) (head := []) (h_head := (Sl.nil sampE _)) (fr := (max 0 ((f : Int) - (mo : Int)))) (to := ((((f : Int) + 1) + (q : Int)) + (mo : Int))) (hsg := (hF.segs hst 3 rfl)) (hso := hok) (hho := (by simp)) (fr0 := (by omega)) (to0 := (by omega)) (fr1 := (by omega)) (to1 := (by omega)) (hll := (by omega)) (hhl := (by decide)) (hbl := hbst)) ?_)))
 rintro _ w9 ⟨r8, rfl, hcall⟩
 refine ⟨_, rfl, ?_⟩
 have hst := hst.call hcall
 refine s_cons (op_move (.tuple #[r8, (iV ((rangeW (ds r3) ([]) (max 0 ((f : Int) - (mo : Int))) ((((f : Int) + 1) + (q : Int)) + (mo : Int))).2))]) rfl (s_cons (op_extract r8 rfl rfl (s_cons (op_extract (iV ((rangeW (ds r3) ([]) (max 0 ((f : Int) - (mo : Int))) ((((f : Int) + 1) + (q : Int)) + (mo : Int))).2)) rfl rfl (s_cons (op_assign r8 rfl (s_cons (op_assign (iV ((rangeW (ds r3) ([]) (max 0 ((f : Int) - (mo : Int))) ((((f : Int) + 1) + (q : Int)) + (mo : Int))).2)) rfl ?_)))))))))
 refine s_nil (then_n (cE_seq (cE_seq ?_)))
 obtain ⟨B, hB, gB, eB⟩ := range_wideY (fr := (max 0 ((f : Int) - (mo : Int)))) (to := ((f : Int) + 1 + (q : Int) + (mo : Int))) (by omega) hR hys (by omega) (by omega) (by omega)
 replace hst : St w0 w9 (rowT 56 winE r8 B :: rowT 56 winE r6 A :: rowT 25 segE r1 r3 :: rowT 51 sampE r2 R.all :: r4) := by rw [hB] at hst; exact hst
 obtain ⟨hsub, hle⟩ := wide_sub eA eB (by omega) (by omega)
 refine cE_region rfl (s_cons (op_move (iV ((rangeW (ds r3) ([]) (f : Int) (((f : Int) + 1) + (q : Int))).2)) rfl (s_cons (op_neq (k := .i64) (a := (rangeW (ds r3) ([]) (f : Int) (((f : Int) + 1) + (q : Int))).2) (b := 0) rfl rfl (s_cons (op_move (.bool (!decide (((rangeW (ds r3) ([]) (f : Int) (((f : Int) + 1) + (q : Int))).2) = 0))) rfl (s_yes 70 rfl (congrArg Value.bool (congrArg (! ·) (show (decide (((rangeW (ds r3) ([]) (f : Int) (((f : Int) + 1) + (q : Int))).2) = 0)) = true from (decide_eq_true (by assumption))))) (op_move (iV ((rangeW (ds r3) ([]) (max 0 ((f : Int) - (mo : Int))) ((((f : Int) + 1) + (q : Int)) + (mo : Int))).2)) rfl ?_))))))))
 refine s_yes 70 rfl (congrArg Value.bool (congrArg (! ·) (show (decide (((rangeW (ds r3) ([]) (f : Int) (((f : Int) + 1) + (q : Int))).2) = 0)) = true from (decide_eq_true (by assumption))))) (op_neq (k := .i64) (a := (rangeW (ds r3) ([]) (max 0 ((f : Int) - (mo : Int))) ((((f : Int) + 1) + (q : Int)) + (mo : Int))).2) (b := 0) rfl rfl (s_cons (op_pick_f (.bool (!decide (((rangeW (ds r3) ([]) (max 0 ((f : Int) - (mo : Int))) ((((f : Int) + 1) + (q : Int)) + (mo : Int))).2) = 0))) (congrArg Value.bool (congrArg (! ·) (show (decide (((rangeW (ds r3) ([]) (f : Int) (((f : Int) + 1) + (q : Int))).2) = 0)) = true from (decide_eq_true (by assumption))))) rfl ?_)))
 refine s_cons (op_move (.bool (!decide (((rangeW (ds r3) ([]) (max 0 ((f : Int) - (mo : Int))) ((((f : Int) + 1) + (q : Int)) + (mo : Int))).2) = 0))) rfl (s_yes 74 rfl (congrArg Value.bool (congrArg (! ·) (show (decide (((rangeW (ds r3) ([]) (max 0 ((f : Int) - (mo : Int))) ((((f : Int) + 1) + (q : Int)) + (mo : Int))).2) = 0)) = true from (decide_eq_true (by assumption))))) (op_move r6 rfl ?_)))
 refine s_yes 74 rfl (congrArg Value.bool (congrArg (! ·) (show (decide (((rangeW (ds r3) ([]) (max 0 ((f : Int) - (mo : Int))) ((((f : Int) + 1) + (q : Int)) + (mo : Int))).2) = 0)) = true from (decide_eq_true (by assumption))))) (op_len (E := winE) (xs := A) Try.underlying29 rfl (hst.sl 1 rfl) (s_yes 74 rfl (congrArg Value.bool (congrArg (! ·) (show (decide (((rangeW (ds r3) ([]) (max 0 ((f : Int) - (mo : Int))) ((((f : Int) + 1) + (q : Int)) + (mo : Int))).2) = 0)) = true from (decide_eq_true (by assumption))))) (op_move r8 rfl ?_)))
 refine s_yes 74 rfl (congrArg Value.bool (congrArg (! ·) (show (decide (((rangeW (ds r3) ([]) (max 0 ((f : Int) - (mo : Int))) ((((f : Int) + 1) + (q : Int)) + (mo : Int))).2) = 0)) = true from (decide_eq_true (by assumption))))) (op_len (E := winE) (xs := B) Try.underlying29 rfl (hst.sl 0 rfl) (s_yes 74 rfl (congrArg Value.bool (congrArg (! ·) (show (decide (((rangeW (ds r3) ([]) (max 0 ((f : Int) - (mo : Int))) ((((f : Int) + 1) + (q : Int)) + (mo : Int))).2) = 0)) = true from (decide_eq_true (by assumption))))) (op_gtr (k := .i64) (a := (A.length : Int)) (b := (B.length : Int)) rfl rfl ?_)))
 refine s_cons (op_pick_f (.bool (decide ((B.length : Int) < (A.length : Int)))) (congrArg Value.bool (congrArg (! ·) (show (decide (((rangeW (ds r3) ([]) (max 0 ((f : Int) - (mo : Int))) ((((f : Int) + 1) + (q : Int)) + (mo : Int))).2) = 0)) = true from (decide_eq_true (by assumption))))) rfl (s_nil (then_n (cE_cond false (congrArg Value.bool (show (decide ((B.length : Int) < (A.length : Int))) = false from (decide_eq_false (by omega)))) (fun h => by cases h) (fun _ => ?_)))))
 refine cE_skip (then_n (cE_seq (cE_region rfl (s_cons (op_assign (iV 0) rfl (s_nil (then_n (cE_seq (cE_seq (cE_region rfl (s_cons (op_assign (iV 0) rfl (s_nil (then_n (cE_block (cE_loop (fun (m : Nat) (ρ : Env) (w : World) => ∃ (k : Nat) (i : Nat), m = B.length - i ∧ ρ 0 = (iV n) ∧ ρ 1 = v_steps ∧ ρ 2 = v_values ∧ ρ 3 = (iV mask) ∧ ρ 4 = (iV fr_) ∧ ρ 5 = (iV long) ∧ ρ 6 = (iV more) ∧ ρ 14 = (.bool false) ∧ ρ 15 = r1 ∧ ρ 17 = (iV (f : Int)) ∧ ρ 18 = (iV (((f : Int) + 1) + (q : Int))) ∧ ρ 19 = (iV (mo : Int)) ∧ ρ 20 = r6 ∧ ρ 21 = (iV ((rangeW (ds r3) ([]) (f : Int) (((f : Int) + 1) + (q : Int))).2)) ∧ ρ 22 = r8 ∧ ρ 23 = (iV ((rangeW (ds r3) ([]) (max 0 ((f : Int) - (mo : Int))) ((((f : Int) + 1) + (q : Int)) + (mo : Int))).2)) ∧ ρ 24 = (iV (k : Int)) ∧ ρ 25 = (iV (i : Int)) ∧ St w0 w (rowT 56 winE r8 B :: rowT 56 winE r6 A :: rowT 25 segE r1 r3 :: rowT 51 sampE r2 R.all :: r4) ∧ (k ≤ A.length) ∧ (i ≤ B.length) ∧ ((A.drop k).Sublist (B.drop i))) id _ ⟨0, 0, rfl, rfl, rfl, rfl, rfl, rfl, rfl, rfl, rfl, rfl, rfl, rfl, rfl, rfl, rfl, rfl, rfl, (congrArg iV (show 0 = _ from by omega)), (congrArg iV (show 0 = _ from by omega)), hst, (by omega), (by omega), (by exact hsub)⟩ ?_))))))))))))))))
 rintro m11 ρ12 w13 ⟨k, i, hm11, q10_0, q10_1, q10_2, q10_3, q10_4, q10_5, q10_6, q10_14, q10_15, q10_17, q10_18, q10_19, q10_20, q10_21, q10_22, q10_23, q10_24, q10_25, hst, hk, hi, hS⟩
 have hBl := (hst.sl 0 rfl).len
 have hAl := (hst.sl 1 rfl).len
 refine cE_seq (cE_seq (cE_region rfl (s_cons (op_move (iV (i : Int)) q10_25 (s_cons (op_move r8 q10_22 (s_cons (op_len (E := winE) (xs := B) Try.underlying29 rfl (hst.sl 0 rfl) (s_cons (op_lss (k := .i64) (a := (i : Int)) (b := (B.length : Int)) rfl rfl (s_cons (op_move (.bool (decide ((i : Int) < (B.length : Int)))) rfl ?_))))))))))))
 rcases Bool.eq_false_or_eq_true (decide ((i : Int) < (B.length : Int))) with b14 | b14
 ·have c15 := of_decide_eq_true b14
  refine s_yes 85 rfl (congrArg Value.bool b14) (op_move (iV (k : Int)) q10_24 (s_yes 85 rfl (congrArg Value.bool b14) (op_move r6 q10_20 (s_yes 85 rfl (congrArg Value.bool b14) (op_len (E := winE) (xs := A) Try.underlying29 rfl (hst.sl 1 rfl) (s_yes 85 rfl (congrArg Value.bool b14) (op_lss (k := .i64) (a := (k : Int)) (b := (A.length : Int)) rfl rfl (s_cons (op_pick_t (.bool (decide ((k : Int) < (A.length : Int)))) (congrArg Value.bool b14) rfl ?_)))))))))
  refine s_nil (then_n ?_)
  rcases Bool.eq_false_or_eq_true (decide ((k : Int) < (A.length : Int))) with b16 | b16
  ·have c17 := of_decide_eq_true b16
   refine cE_cond true (congrArg Value.bool b16) (fun _ => ?_) (fun h => by cases h)
   refine cE_skip (then_n (cE_seq (cE_block (cE_seq (cE_regionL hst [[(20, none)], [(24, none)], [(93, some 0), (94, some 1)], [(95, some 2)], [(22, none)], [(25, none)], [(97, some 4), (98, some 5)], [(99, some 6)], [(96, some 3), (100, some 7)]] [(rEq r6), (rEq (iV (k : Int))), (rPt [(iV ((A[k]'(by omega)).Tier)), (iV ((A[k]'(by omega)).Lo)), (iV ((A[k]'(by omega)).Hi)), (iV (((A[k]'(by omega)).Agg).From)), (iV (((A[k]'(by omega)).Agg).Count)), (iV (((A[k]'(by omega)).Agg).Sum)), (iV (((A[k]'(by omega)).Agg).Min)), (iV (((A[k]'(by omega)).Agg).Max)), (iV (((A[k]'(by omega)).Agg).First)), (iV (((A[k]'(by omega)).Agg).Last))]), (rEq (.agg #[(iV ((A[k]'(by omega)).Tier)), (iV ((A[k]'(by omega)).Lo)), (iV ((A[k]'(by omega)).Hi)), (iV (((A[k]'(by omega)).Agg).From)), (iV (((A[k]'(by omega)).Agg).Count)), (iV (((A[k]'(by omega)).Agg).Sum)), (iV (((A[k]'(by omega)).Agg).Min)), (iV (((A[k]'(by omega)).Agg).Max)), (iV (((A[k]'(by omega)).Agg).First)), (iV (((A[k]'(by omega)).Agg).Last))])), (rEq r8), (rEq (iV (i : Int))), (rPt [(iV ((B[i]'(by omega)).Tier)), (iV ((B[i]'(by omega)).Lo)), (iV ((B[i]'(by omega)).Hi)), (iV (((B[i]'(by omega)).Agg).From)), (iV (((B[i]'(by omega)).Agg).Count)), (iV (((B[i]'(by omega)).Agg).Sum)), (iV (((B[i]'(by omega)).Agg).Min)), (iV (((B[i]'(by omega)).Agg).Max)), (iV (((B[i]'(by omega)).Agg).First)), (iV (((B[i]'(by omega)).Agg).Last))]), (rEq (.agg #[(iV ((B[i]'(by omega)).Tier)), (iV ((B[i]'(by omega)).Lo)), (iV ((B[i]'(by omega)).Hi)), (iV (((B[i]'(by omega)).Agg).From)), (iV (((B[i]'(by omega)).Agg).Count)), (iV (((B[i]'(by omega)).Agg).Sum)), (iV (((B[i]'(by omega)).Agg).Min)), (iV (((B[i]'(by omega)).Agg).Max)), (iV (((B[i]'(by omega)).Agg).First)), (iV (((B[i]'(by omega)).Agg).Last))])), (rEq (.bool (decide ((A[k]'(by omega)) = (B[i]'(by omega))))))] (by kernel_rfl) rfl (by kernel_rfl) ⟨sEq, sEq, sPt, sEq, sEq, sEq, sPt, sEq, sEq, trivial⟩ ⟨?_, ?_, ?_, ?_, ?_, ?_, ?_, ?_, ?_, trivial⟩ ?_)))))
   ·rintro ρ24 w25 hj26 ⟨f20, _⟩
    have hst := hj26.2
    exact go_plain (op_move r6 (f20.trans q10_20) (kS hj26 rfl))
   ·rintro ρ27 w28 hj29 ⟨f24, _⟩
    have hst := hj29.2
    exact go_plain (op_move (iV (k : Int)) (f24.trans q10_24) (kS hj29 rfl))
   ·rintro ρ30 w31 hj32 ⟨f93, f94, _⟩
    have hst := hj32.2
    refine go_plain (op_indexAddrN (E := winE) (xs := A) k Try.underlying29 Try.sizeOf56 f93 (hst.sl 1 rfl) f94 (by omega) (by omega) (fun a33 o34 p35 => ?_))
    exact kS hj32 ⟨_, _, rfl, p35⟩
   ·rintro ρ36 w37 hj38 ⟨f95, _⟩
    have hst := hj38.2
    obtain ⟨a39, o40, e41, p42⟩ := f95
    exact go_plain (op_loadN (cs := [(iV ((A[k]'(by omega)).Tier)), (iV ((A[k]'(by omega)).Lo)), (iV ((A[k]'(by omega)).Hi)), (iV (((A[k]'(by omega)).Agg).From)), (iV (((A[k]'(by omega)).Agg).Count)), (iV (((A[k]'(by omega)).Agg).Sum)), (iV (((A[k]'(by omega)).Agg).Min)), (iV (((A[k]'(by omega)).Agg).Max)), (iV (((A[k]'(by omega)).Agg).First)), (iV (((A[k]'(by omega)).Agg).Last))]) Try.isAgg56 Try.sizeOf56 e41 (Pt.of p42 rfl) rfl (kS hj38 rfl))
   ·rintro ρ43 w44 hj45 ⟨f22, _⟩
    have hst := hj45.2
    exact go_plain (op_move r8 (f22.trans q10_22) (kS hj45 rfl))
   ·rintro ρ46 w47 hj48 ⟨f25, _⟩
    have hst := hj48.2
    exact go_plain (op_move (iV (i : Int)) (f25.trans q10_25) (kS hj48 rfl))
   ·rintro ρ49 w50 hj51 ⟨f97, f98, _⟩
    have hst := hj51.2
    refine go_plain (op_indexAddrN (E := winE) (xs := B) i Try.underlying29 Try.sizeOf56 f97 (hst.sl 0 rfl) f98 (by omega) (by omega) (fun a52 o53 p54 => ?_))
    exact kS hj51 ⟨_, _, rfl, p54⟩
   ·rintro ρ55 w56 hj57 ⟨f99, _⟩
    have hst := hj57.2
    obtain ⟨a58, o59, e60, p61⟩ := f99
    exact go_plain (op_loadN (cs := [(iV ((B[i]'(by omega)).Tier)), (iV ((B[i]'(by omega)).Lo)), (iV ((B[i]'(by omega)).Hi)), (iV (((B[i]'(by omega)).Agg).From)), (iV (((B[i]'(by omega)).Agg).Count)), (iV (((B[i]'(by omega)).Agg).Sum)), (iV (((B[i]'(by omega)).Agg).Min)), (iV (((B[i]'(by omega)).Agg).Max)), (iV (((B[i]'(by omega)).Agg).First)), (iV (((B[i]'(by omega)).Agg).Last))]) Try.isAgg56 Try.sizeOf56 e60 (Pt.of p61 rfl) rfl (kS hj57 rfl))
   ·rintro ρ62 w63 hj64 ⟨f96, f100, _⟩
    have hst := hj64.2
    exact go_plain (op_eqlG Try.eqGuardType56 (Try.eqWin (A[k]'(by omega)) (B[i]'(by omega)) _) f96 f100 (kS hj64 rfl))
   intro ρ65 w66 hbw66 hst hRw66 hkw66
   have uw66_0 := (hkw66 0 rfl).trans q10_0
   have uw66_1 := (hkw66 1 rfl).trans q10_1
   have uw66_2 := (hkw66 2 rfl).trans q10_2
   have uw66_3 := (hkw66 3 rfl).trans q10_3
   have uw66_4 := (hkw66 4 rfl).trans q10_4
   have uw66_5 := (hkw66 5 rfl).trans q10_5
   have uw66_6 := (hkw66 6 rfl).trans q10_6
   have uw66_14 := (hkw66 14 rfl).trans q10_14
   have uw66_15 := (hkw66 15 rfl).trans q10_15
   have uw66_17 := (hkw66 17 rfl).trans q10_17
   have uw66_18 := (hkw66 18 rfl).trans q10_18
   have uw66_19 := (hkw66 19 rfl).trans q10_19
   have uw66_20 := (hkw66 20 rfl).trans q10_20
   have uw66_21 := (hkw66 21 rfl).trans q10_21
   have uw66_22 := (hkw66 22 rfl).trans q10_22
   have uw66_23 := (hkw66 23 rfl).trans q10_23
   have uw66_24 := (hkw66 24 rfl).trans q10_24
   have uw66_25 := (hkw66 25 rfl).trans q10_25
   have uw66_101 : ρ65 101 = (.bool (decide ((A[k]'(by omega)) = (B[i]'(by omega))))) := hRw66 8 101 rfl
   refine then_n ?_
   rcases Bool.eq_false_or_eq_true (decide ((A[k]'(by omega)) = (B[i]'(by omega)))) with b67 | b67
   ·have c68 := of_decide_eq_true b67
    refine cE_cond true (uw66_101.trans (congrArg Value.bool b67)) (fun _ => ?_) (fun h => by cases h)
    refine cE_region rfl (s_cons (op_move (iV (k : Int)) uw66_24 (s_cons (op_add (k := .i64) (a := (k : Int)) (b := 1) ((k : Int) + 1) rfl rfl (xi64 (by omega) (by omega)) (s_cons (op_assign (iV ((k : Int) + 1)) rfl (s_nil (block_n (then_n (cE_region rfl (s_cons (op_move (iV (i : Int)) uw66_25 (s_cons (op_add (k := .i64) (a := (i : Int)) (b := 1) ((i : Int) + 1) rfl rfl (xi64 (by omega) (by omega)) ?_))))))))))))))
    refine s_cons (op_assign (iV ((i : Int) + 1)) rfl (s_nil (then_n ?_)))
    exact ⟨_, ⟨(k + 1), (i + 1), rfl, uw66_0, uw66_1, uw66_2, uw66_3, uw66_4, uw66_5, uw66_6, uw66_14, uw66_15, uw66_17, uw66_18, uw66_19, uw66_20, uw66_21, uw66_22, uw66_23, (congrArg iV (show ((k : Int) + 1) = _ from by omega)), (congrArg iV (show ((i : Int) + 1) = _ from by omega)), hst, (by omega), (by omega), (by exact subl_yes hS (by omega) (by omega) (by assumption))⟩, (by simp only [id]; omega)⟩
   have c69 := of_decide_eq_false b67
   refine cE_cond false (uw66_101.trans (congrArg Value.bool b67)) (fun h => by cases h) (fun _ => ?_)
   refine cE_skip (block_n (then_n (cE_region rfl (s_cons (op_move (iV (i : Int)) uw66_25 (s_cons (op_add (k := .i64) (a := (i : Int)) (b := 1) ((i : Int) + 1) rfl rfl (xi64 (by omega) (by omega)) (s_cons (op_assign (iV ((i : Int) + 1)) rfl (s_nil (then_n ?_)))))))))))
   exact ⟨_, ⟨k, (i + 1), rfl, uw66_0, uw66_1, uw66_2, uw66_3, uw66_4, uw66_5, uw66_6, uw66_14, uw66_15, uw66_17, uw66_18, uw66_19, uw66_20, uw66_21, uw66_22, uw66_23, uw66_24, (congrArg iV (show ((i : Int) + 1) = _ from by omega)), hst, (by omega), (by omega), (by exact subl_no hS (by omega) (by omega) (by assumption))⟩, (by simp only [id]; omega)⟩
  have c70 := of_decide_eq_false b16
  refine cE_cond false (congrArg Value.bool b16) (fun h => by cases h) (fun _ => ?_)
  refine cE_exit (then_x (then_x (block_hit (then_n (cE_seq (cE_region rfl (s_cons (op_call Try.call11 evs_nil (c_told22 (w0 := w13)) ?_))))))))
  rintro _ w71 ⟨rfl, hcall⟩
  refine ⟨_, rfl, ?_⟩
  have hst := hst.call hcall
  refine s_cons (op_move (.bool true) rfl (s_yes 105 rfl rfl (op_move (iV (k : Int)) q10_24 (s_yes 105 rfl rfl (op_move r6 q10_20 (s_yes 105 rfl rfl (op_len (E := winE) (xs := A) Try.underlying29 rfl (hst.sl 1 rfl) (s_yes 105 rfl rfl (op_eql (k := .i64) (a := (k : Int)) (b := (A.length : Int)) rfl rfl (s_cons (op_pick_t (.bool (decide ((k : Int) = (A.length : Int)))) rfl rfl (s_cons (op_assign (.bool (decide ((k : Int) = (A.length : Int)))) rfl ?_)))))))))))))
  refine s_nil (then_n (cE_ret (post_r _ (res1 (v := (.bool true)) (congrArg Value.bool (show (decide ((k : Int) = (A.length : Int))) = true from (decide_eq_true (by omega))))) ?_)))
  exact ⟨rfl, hst.bare⟩
 have c72 := of_decide_eq_false b14
 refine s_no 85 rfl (congrArg Value.bool b14) (s_no 85 rfl (congrArg Value.bool b14) (s_no 85 rfl (congrArg Value.bool b14) (s_no 85 rfl (congrArg Value.bool b14) (s_cons (op_pick_f (.bool false) (congrArg Value.bool b14) rfl (s_nil (then_n (cE_cond false rfl (fun h => by cases h) (fun _ => ?_)))))))))
 refine cE_exit (then_x (then_x (block_hit (then_n (cE_seq (cE_region rfl (s_cons (op_call Try.call11 evs_nil (c_told22 (w0 := w13)) ?_))))))))
 rintro _ w73 ⟨rfl, hcall⟩
 refine ⟨_, rfl, ?_⟩
 have hst := hst.call hcall
 refine s_cons (op_move (.bool true) rfl (s_yes 105 rfl rfl (op_move (iV (k : Int)) q10_24 (s_yes 105 rfl rfl (op_move r6 q10_20 (s_yes 105 rfl rfl (op_len (E := winE) (xs := A) Try.underlying29 rfl (hst.sl 1 rfl) (s_yes 105 rfl rfl (op_eql (k := .i64) (a := (k : Int)) (b := (A.length : Int)) rfl rfl (s_cons (op_pick_t (.bool (decide ((k : Int) = (A.length : Int)))) rfl rfl (s_cons (op_assign (.bool (decide ((k : Int) = (A.length : Int)))) rfl ?_)))))))))))))
 refine s_nil (then_n (cE_ret (post_r _ (res1 (v := (.bool true)) (congrArg Value.bool (show (decide ((k : Int) = (A.length : Int))) = true from (decide_eq_true (by (have := subl_end hS (by omega) hk; omega)))))) ?_)))
 exact ⟨rfl, hst.bare⟩

end Go.Proofs.Ythanfecefjfbjaa
