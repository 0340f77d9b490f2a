/- twinkeeplaw22.AskFine -/
import Derived.Test.YthanfecefjfbjaaXTW
import Derived.Test.YthanfecefjfbjaaXLA
import Derived.Test.YthanfecefjfbjaaXLB
import Derived.Test.YthanfecefjfbjaaXW42
import Derived.Test.YthanfecefjfbjaaXW37
namespace Go.Proofs.Ythanfecefjfbjaa
open Go.RowKit

set_option maxRecDepth 8000 in
set_option maxHeartbeats 8000000 in
theorem c_AskFine (w0 : World) (n : Int) (v_steps : Value) (steps : List Int) (h_steps : Sl w0 (intE .i64) v_steps steps) (v_values : Value) (values : List Int) (h_values : Sl w0 (intE .i64) v_values values) (mask : Int) (fr_ : Int) (long : Int) (hv : ∀ v ∈ values, i64R v) (hs : ∀ v ∈ steps, i64R v) (n0 : -9223372036854775808 ≤ n) (mask0 : -9223372036854775808 ≤ mask) (fr_0 : -9223372036854775808 ≤ fr_) (long0 : -9223372036854775808 ≤ long) (n1 : n ≤ 9223372036854775807) (mask1 : mask ≤ 9223372036854775807) (fr_1 : fr_ ≤ 9223372036854775807) (long1 : long ≤ 9223372036854775807) :
  Calls Try.prog 6 #[(iV n), v_steps, v_values, (iV mask), (iV fr_), (iV long)] w0 fun e w' => e = .returned (.bool true) ∧ St w0 w' [] := by
 refine calls_E (n := 143) (ts := [12]) Try.func6 rfl rfl rfl (by simp) ?_
 have hst := St.start w0
 refine cE_seq (cE_region rfl (s_cons (op_assign (.bool false) rfl (s_nil (then_n (cE_seq (cE_region rfl (s_cons (op_move (iV n) rfl (s_cons (op_move v_steps rfl (s_cons (op_move v_values rfl (s_cons (op_move (iV mask) rfl ?_)))))))))))))))
 obtain ⟨mm, hmm, hm0, hm1, HB⟩ := or4369 mask
 refine s_cons (op_or (k := .i64) (a := mask) (b := 4369) mm rfl rfl hmm (s_cons (op_call Try.call20 (evs_cons (v := (iV n)) rfl (evs_cons (v := v_steps) rfl (evs_cons (v := v_values) rfl (evs_cons (v := (iV mm)) rfl evs_nil)))) (c_Row (w0 := w0) (n := n) (v_steps := v_steps) (steps := steps) (h_steps := (h_steps.below hst.below)) (v_values := v_values) (values := values) (h_values := (h_values.below hst.below)) (mask := mm) (hv := hv) (hs := hs) (n0 := (by omega)) (mask0 := (by omega)) (n1 := (by omega)) (mask1 := (by omega))) ?_)))
 rintro _ w5 ⟨r1, r2, r3, r4, rfl, hcall, Row_hys, Row_hF⟩
 refine ⟨_, rfl, ?_⟩
 have hst := (hst.call hcall).perm (List.Perm.cons _ (List.Perm.cons _ (List.perm_append_comm)))
 refine s_cons (op_move (.tuple #[r1, r2]) rfl (s_cons (op_extract r1 rfl rfl (s_cons (op_extract r2 rfl rfl (s_cons (op_assign r1 rfl (s_cons (op_assign r2 rfl (s_nil (then_n (cE_seq ?_))))))))))))
 obtain ⟨R, hR⟩ : ∃ R : RowD, R = rowM steps values mm (1 + (n % 18446744073709551616 % 4).toNat) := ⟨_, rfl⟩
 replace hst : St w0 w5 (rowT 25 segE r1 r3 :: rowT 51 sampE r2 R.all :: r4) := by rw [← hR] at hst; exact hst
 have hys := Row_hys.trans (congrArg RowD.l hR.symm)
 have hlen := row_lenY (by omega) (by omega) Row_hys
 have hto : 0 ≤ R.to ∧ R.to ≤ 2000 * (((1 + (n % 18446744073709551616 % 4).toNat) : Nat) : Int) := by rw [hR]; exact rowM_to steps values mm (by omega)
 have hok := row_okY (by omega) Row_hys hv
 have hbst := row_bestY (by omega) Row_hys
 have hF := Row_hF
 refine cE_region rfl (s_cons (op_move (iV n) rfl (s_cons (op_move v_steps rfl (s_cons (op_move v_values rfl (s_cons (op_call Try.call20 (evs_cons (v := (iV n)) rfl (evs_cons (v := v_steps) rfl (evs_cons (v := v_values) rfl (evs_cons (v := (iV 4369)) rfl evs_nil)))) (c_Row (w0 := w5) (n := n) (v_steps := v_steps) (steps := steps) (h_steps := (h_steps.below hst.below)) (v_values := v_values) (values := values) (h_values := (h_values.below hst.below)) (mask := 4369) (hv := hv) (hs := hs) (n0 := (by omega)) (mask0 := (by omega)) (n1 := (by omega)) (mask1 := (by omega))) ?_))))))))
 rintro _ w10 ⟨r6, r7, r8, r9, rfl, hcall, Row_hys, Row_hF⟩
 refine ⟨_, rfl, ?_⟩
 obtain ⟨fj11, ej12⟩ : ∃ x : List Item, x = r9 ++ r4 := ⟨_, rfl⟩
 have fj11o : ∀ x ∈ r4, x ∈ fj11 := fun x h => by rw [ej12]; exact List.mem_append_right _ h
 have fj11n : ∀ x ∈ r9, x ∈ fj11 := fun x h => by rw [ej12]; exact List.mem_append_left _ h
 have hst : St w0 w10 (rowT 25 segE r6 r8 :: rowT 51 sampE r7 ((rowM steps values 4369 (1 + (n % 18446744073709551616 % 4).toNat)).all) :: rowT 25 segE r1 r3 :: rowT 51 sampE r2 R.all :: fj11) := by rw [ej12]; exact (hst.call hcall).perm (List.Perm.cons _ (List.Perm.cons _ (List.perm_append_comm_assoc r9 [rowT 25 segE r1 r3, rowT 51 sampE r2 R.all] r4)))
 refine s_cons (op_move (.tuple #[r6, r7]) rfl (s_cons (op_extract r6 rfl rfl (s_cons (op_extract r7 rfl rfl (s_cons (op_assign r6 rfl (s_cons (op_assign r7 rfl (s_nil (then_n (cE_seq ?_))))))))))))
 obtain ⟨R2, hR2⟩ : ∃ R : RowD, R = rowM steps values 4369 (1 + (n % 18446744073709551616 % 4).toNat) := ⟨_, rfl⟩
 replace hst : St w0 w10 (rowT 25 segE r6 r8 :: rowT 51 sampE r7 R2.all :: rowT 25 segE r1 r3 :: rowT 51 sampE r2 R.all :: fj11) := by rw [← hR2] at hst; exact hst
 have hys2 := Row_hys.trans (congrArg RowD.l hR2.symm)
 have hlen2 := row_lenY (by omega) (by omega) Row_hys
 have hto2 : 0 ≤ R2.to ∧ R2.to ≤ 2000 * (((1 + (n % 18446744073709551616 % 4).toNat) : Nat) : Int) := by rw [hR2]; exact rowM_to steps values 4369 (by omega)
 have hok2 := row_okY (by omega) Row_hys hv
 have hbst2 := row_bestY (by omega) Row_hys
 have hF2 := Row_hF
 replace hF := hF.mono fj11o
 replace hF2 := hF2.mono fj11n
 have hall : R2.all = R.all := by rw [hR, hR2]; exact row_all steps values _ _ (by omega)
 replace hst : St w0 w10 (rowT 25 segE r6 r8 :: rowT 51 sampE r7 R.all :: rowT 25 segE r1 r3 :: rowT 51 sampE r2 R.all :: fj11) := by rw [hall] at hst; exact hst
 refine cE_region rfl (s_cons (op_move (iV fr_) rfl (s_cons (op_conv (k := .i64) (a := fr_) (fr_ % 18446744073709551616) Try.underlying52 (by rw [Try.underlying3]; rfl) rfl (IntKind.wrap_u64 _) ?_))))
 obtain ⟨f, hf, hfl⟩ := rem_nat (a := (fr_ % 18446744073709551616)) (b := 400) (by omega) (by omega)
 refine s_cons (op_rem (k := .u64) (a := (fr_ % 18446744073709551616)) (b := 400) (f : Int) rfl rfl (by omega) hf (s_cons (op_conv (k := .u64) (a := (f : Int)) (f : Int) Try.underlying2 (by rw [Try.underlying52]; rfl) rfl (xi64 (by omega) (by omega)) (s_cons (op_assign (iV (f : Int)) rfl (s_nil (then_n (cE_seq (cE_region rfl (s_cons (op_move (iV (f : Int)) rfl (s_cons (op_add (k := .i64) (a := (f : Int)) (b := 1) ((f : Int) + 1) rfl rfl (xi64 (by omega) (by omega)) ?_)))))))))))))
 refine s_cons (op_move (iV long) rfl (s_cons (op_conv (k := .i64) (a := long) (long % 18446744073709551616) Try.underlying52 (by rw [Try.underlying3]; rfl) rfl (IntKind.wrap_u64 _) ?_)))
 obtain ⟨q, hq, hql⟩ := rem_nat (a := (long % 18446744073709551616)) (b := 400) (by omega) (by omega)
 refine s_cons (op_rem (k := .u64) (a := (long % 18446744073709551616)) (b := 400) (q : Int) rfl rfl (by omega) hq (s_cons (op_conv (k := .u64) (a := (q : Int)) (q : Int) Try.underlying2 (by rw [Try.underlying52]; rfl) rfl (xi64 (by omega) (by omega)) (s_cons (op_add (k := .i64) (a := ((f : Int) + 1)) (b := (q : Int)) (((f : Int) + 1) + (q : Int)) rfl rfl (xi64 (by omega) (by omega)) (s_cons (op_assign (iV (((f : Int) + 1) + (q : Int))) rfl ?_)))))))
 refine s_nil (then_n (cE_seq (cE_region rfl (s_cons (op_move r1 rfl (s_cons (op_move (iV (f : Int)) rfl (s_cons (op_move (iV (((f : Int) + 1) + (q : Int))) rfl (s_cons (op_call Try.call12 (evs_cons (v := r1) rfl (evs_cons (v := nS) rfl (evs_cons (v := (iV (f : Int))) rfl (evs_cons (v := (iV (((f : Int) + 1) + (q : Int)))) rfl evs_nil)))) (c_Range (w0 := w10) (v_segs := r1) (segs := r3) (h_segs := (hst.sl 2 rfl)) (v_head := nS) (head := []) (h_head := (Sl.nil sampE _)) (fr := (f : Int)) (to := (((f : Int) + 1) + (q : Int))) (hsg := (hF.segs hst 4 rfl)) (hso := hok) (hho := (by simp)) (fr0 := (by omega)) (to0 := (by omega)) (fr1 := (by omega)) (to1 := (by omega)) (hll := (by omega)) (hhl := (by decide)) (hbl := hbst)) ?_)))))))))))
 rintro _ w14 ⟨r13, rfl, hcall⟩
 refine ⟨_, rfl, ?_⟩
 have hst := hst.call hcall
 refine s_cons (op_move (.tuple #[r13, (iV ((rangeW (ds r3) ([]) (f : Int) (((f : Int) + 1) + (q : Int))).2))]) rfl (s_cons (op_extract r13 rfl rfl (s_cons (op_extract (iV ((rangeW (ds r3) ([]) (f : Int) (((f : Int) + 1) + (q : Int))).2)) rfl rfl (s_cons (op_assign r13 rfl (s_cons (op_assign (iV ((rangeW (ds r3) ([]) (f : Int) (((f : Int) + 1) + (q : Int))).2)) rfl (s_nil (then_n (cE_seq ?_))))))))))))
 obtain ⟨A, hA, gA, eA⟩ := range_cutY (fr := (f : Int)) (to := ((f : Int) + 1 + (q : Int))) (by omega) HB hR hys (by omega) (by omega) (by omega)
 replace hst : St w0 w14 (rowT 56 winE r13 A :: rowT 25 segE r6 r8 :: rowT 51 sampE r7 R.all :: rowT 25 segE r1 r3 :: rowT 51 sampE r2 R.all :: fj11) := by rw [hA] at hst; exact hst
 refine cE_region rfl (s_cons (op_move r6 rfl (s_cons (op_move (iV (f : Int)) rfl (s_cons (op_move (iV (((f : Int) + 1) + (q : Int))) rfl (s_cons (op_call Try.call12 (evs_cons (v := r6) rfl (evs_cons (v := nS) rfl (evs_cons (v := (iV (f : Int))) rfl (evs_cons (v := (iV (((f : Int) + 1) + (q : Int)))) rfl evs_nil)))) (c_Range (w0 := w14) (v_segs := r6) (segs := r8) (h_segs := (hst.sl 1 rfl)) (v_head := nS) (head := []) (h_head := (Sl.nil sampE _)) (fr := (f : Int)) (to := (((f : Int) + 1) + (q : Int))) (hsg := (hF2.segs hst 5 rfl)) (hso := hok2) (hho := (by simp)) (fr0 := (by omega)) (to0 := (by omega)) (fr1 := (by omega)) (to1 := (by omega)) (hll := (by omega)) (hhl := (by decide)) (hbl := hbst2)) ?_))))))))
 rintro _ w16 ⟨r15, rfl, hcall⟩
 refine ⟨_, rfl, ?_⟩
 have hst := hst.call hcall
 refine s_cons (op_move (.tuple #[r15, (iV ((rangeW (ds r8) ([]) (f : Int) (((f : Int) + 1) + (q : Int))).2))]) rfl (s_cons (op_extract r15 rfl rfl (s_cons (op_extract (iV ((rangeW (ds r8) ([]) (f : Int) (((f : Int) + 1) + (q : Int))).2)) rfl rfl (s_cons (op_assign r15 rfl (s_cons (op_assign (iV ((rangeW (ds r8) ([]) (f : Int) (((f : Int) + 1) + (q : Int))).2)) rfl (s_nil (then_n (cE_seq ?_))))))))))))
 refine cE_seq ?_
 obtain ⟨B, hB, gB, eB⟩ := range_cutY (fr := (f : Int)) (to := ((f : Int) + 1 + (q : Int))) (by omega) (fun a h => bit4369 h) hR2 hys2 (by omega) (by omega) (by omega)
 have hBA : B = A := by rw [eB, eA, hall]
 replace hB := hB.trans hBA
 replace hst : St w0 w16 (rowT 56 winE r15 A :: rowT 56 winE r13 A :: rowT 25 segE r6 r8 :: rowT 51 sampE r7 R.all :: rowT 25 segE r1 r3 :: rowT 51 sampE r2 R.all :: fj11) := by rw [hB] at hst; exact hst
 have hAl : A.length = (rawW R.all (f : Int) ((f : Int) + 1 + (q : Int))).length := congrArg List.length eA
 have hal : R.all.length ≤ 24 := by rw [hR]; exact Nat.le_trans (rowM_all steps values mm (by omega)) (by omega)
 have hrl := rawW_len R.all (f : Int) ((f : Int) + 1 + (q : Int))
 have hRok : ∀ s ∈ R.all, s.ok := by rw [hR]; exact row_allok steps values mm hv (by omega)
 refine cE_region rfl (s_cons (op_move (iV ((rangeW (ds r3) ([]) (f : Int) (((f : Int) + 1) + (q : Int))).2)) rfl (s_cons (op_neq (k := .i64) (a := (rangeW (ds r3) ([]) (f : Int) (((f : Int) + 1) + (q : Int))).2) (b := 0) rfl rfl (s_cons (op_move (.bool (!decide (((rangeW (ds r3) ([]) (f : Int) (((f : Int) + 1) + (q : Int))).2) = 0))) rfl (s_yes 68 rfl (congrArg Value.bool (congrArg (! ·) (show (decide (((rangeW (ds r3) ([]) (f : Int) (((f : Int) + 1) + (q : Int))).2) = 0)) = true from (decide_eq_true (by assumption))))) (op_move (iV ((rangeW (ds r8) ([]) (f : Int) (((f : Int) + 1) + (q : Int))).2)) rfl ?_))))))))
 refine s_yes 68 rfl (congrArg Value.bool (congrArg (! ·) (show (decide (((rangeW (ds r3) ([]) (f : Int) (((f : Int) + 1) + (q : Int))).2) = 0)) = true from (decide_eq_true (by assumption))))) (op_neq (k := .i64) (a := (rangeW (ds r8) ([]) (f : Int) (((f : Int) + 1) + (q : Int))).2) (b := 0) rfl rfl (s_cons (op_pick_f (.bool (!decide (((rangeW (ds r8) ([]) (f : Int) (((f : Int) + 1) + (q : Int))).2) = 0))) (congrArg Value.bool (congrArg (! ·) (show (decide (((rangeW (ds r3) ([]) (f : Int) (((f : Int) + 1) + (q : Int))).2) = 0)) = true from (decide_eq_true (by assumption))))) rfl ?_)))
 refine s_cons (op_move (.bool (!decide (((rangeW (ds r8) ([]) (f : Int) (((f : Int) + 1) + (q : Int))).2) = 0))) rfl (s_yes 72 rfl (congrArg Value.bool (congrArg (! ·) (show (decide (((rangeW (ds r8) ([]) (f : Int) (((f : Int) + 1) + (q : Int))).2) = 0)) = true from (decide_eq_true (by assumption))))) (op_move r13 rfl (s_yes 72 rfl (congrArg Value.bool (congrArg (! ·) (show (decide (((rangeW (ds r8) ([]) (f : Int) (((f : Int) + 1) + (q : Int))).2) = 0)) = true from (decide_eq_true (by assumption))))) (op_len (E := winE) (xs := A) Try.underlying29 rfl (hst.sl 1 rfl) ?_)))))
 refine s_yes 72 rfl (congrArg Value.bool (congrArg (! ·) (show (decide (((rangeW (ds r8) ([]) (f : Int) (((f : Int) + 1) + (q : Int))).2) = 0)) = true from (decide_eq_true (by assumption))))) (op_move r15 rfl (s_yes 72 rfl (congrArg Value.bool (congrArg (! ·) (show (decide (((rangeW (ds r8) ([]) (f : Int) (((f : Int) + 1) + (q : Int))).2) = 0)) = true from (decide_eq_true (by assumption))))) (op_len (E := winE) (xs := A) Try.underlying29 rfl (hst.sl 0 rfl) ?_)))
 refine s_yes 72 rfl (congrArg Value.bool (congrArg (! ·) (show (decide (((rangeW (ds r8) ([]) (f : Int) (((f : Int) + 1) + (q : Int))).2) = 0)) = true from (decide_eq_true (by assumption))))) (op_neq (k := .i64) (a := (A.length : Int)) (b := (A.length : Int)) rfl rfl (s_cons (op_pick_f (.bool (!decide ((A.length : Int) = (A.length : Int)))) (congrArg Value.bool (congrArg (! ·) (show (decide (((rangeW (ds r8) ([]) (f : Int) (((f : Int) + 1) + (q : Int))).2) = 0)) = true from (decide_eq_true (by assumption))))) rfl ?_)))
 refine s_nil (then_n (cE_cond false (congrArg Value.bool (congrArg (! ·) (show (decide ((A.length : Int) = (A.length : Int))) = true from (decide_eq_true rfl)))) (fun h => by cases h) (fun _ => ?_)))
 refine cE_skip (then_n (cE_seq (cE_region rfl (s_cons (op_assign (iV 0) rfl (s_nil (then_n (cE_seq (cE_seq (cE_region rfl (s_cons (op_assign (iV 0) rfl (s_nil (then_n (cE_block (cE_loop (fun (m : Nat) (ρ : Env) (w : World) => ∃ (i : Nat), m = R.all.length - i ∧ ρ 0 = (iV n) ∧ ρ 1 = v_steps ∧ ρ 2 = v_values ∧ ρ 3 = (iV mask) ∧ ρ 4 = (iV fr_) ∧ ρ 5 = (iV long) ∧ ρ 13 = r1 ∧ ρ 14 = r2 ∧ ρ 15 = r6 ∧ ρ 17 = (iV (f : Int)) ∧ ρ 18 = (iV (((f : Int) + 1) + (q : Int))) ∧ ρ 19 = r13 ∧ ρ 20 = (iV ((rangeW (ds r3) ([]) (f : Int) (((f : Int) + 1) + (q : Int))).2)) ∧ ρ 21 = r15 ∧ ρ 22 = (iV ((rangeW (ds r8) ([]) (f : Int) (((f : Int) + 1) + (q : Int))).2)) ∧ ρ 24 = (iV (i : Int)) ∧ ρ 23 = (iV ((rawW (R.all.take i) (f : Int) ((f : Int) + 1 + (q : Int))).length : Int)) ∧ St w0 w (rowT 56 winE r15 A :: rowT 56 winE r13 A :: rowT 25 segE r6 r8 :: rowT 51 sampE r7 R.all :: rowT 25 segE r1 r3 :: rowT 51 sampE r2 R.all :: fj11) ∧ (i ≤ R.all.length)) id _ ⟨0, rfl, rfl, rfl, rfl, rfl, rfl, rfl, rfl, rfl, rfl, rfl, rfl, rfl, rfl, rfl, rfl, (congrArg iV (show 0 = _ from by omega)), (congrArg iV (show 0 = _ from by rfl)), hst, (by omega)⟩ ?_))))))))))))))))
 rintro m18 ρ19 w20 ⟨i, hm18, q17_0, q17_1, q17_2, q17_3, q17_4, q17_5, q17_13, q17_14, q17_15, q17_17, q17_18, q17_19, q17_20, q17_21, q17_22, q17_24, q17_23, hst, hi⟩
 have hpl := rawW_len (R.all.take i) (f : Int) ((f : Int) + 1 + (q : Int))
 have htl : (R.all.take i).length ≤ R.all.length := by rw [List.length_take]; omega
 refine cE_seq (cE_seq (cE_region rfl (s_cons (op_move (iV (i : Int)) q17_24 (s_cons (op_move r2 q17_14 (s_cons (op_len (E := sampE) (xs := R.all) Try.underlying22 rfl (hst.sl 5 rfl) (s_cons (op_lss (k := .i64) (a := (i : Int)) (b := (R.all.length : Int)) rfl rfl (s_nil (then_n ?_))))))))))))
 rcases Bool.eq_false_or_eq_true (decide ((i : Int) < (R.all.length : Int))) with b21 | b21
 ·have c22 := of_decide_eq_true b21
  refine cE_cond true (congrArg Value.bool b21) (fun _ => ?_) (fun h => by cases h)
  refine cE_skip (then_n (cE_seq (cE_block (cE_seq (cE_region rfl (s_cons (op_move r2 q17_14 (s_cons (op_move (iV (i : Int)) q17_24 (s_cons (op_indexAddrN (E := sampE) (xs := R.all) i Try.underlying22 Try.sizeOf51 rfl (hst.sl 5 rfl) rfl (by omega) (by omega) (fun a23 o24 p25 => ?_))))))))))))
  refine s_cons (op_fieldAddr (s := 0) Try.underlying51 rfl rfl Try.sizeOf2 rfl (s_cons (op_load1 (u := (iV ((R.all[i]'(by omega)).T))) Try.isAgg2 rfl p25 (s_cons (op_move (iV (f : Int)) q17_17 (s_cons (op_geq (k := .i64) (a := (R.all[i]'(by omega)).T) (b := (f : Int)) rfl rfl (s_cons (op_move (.bool (decide ((f : Int) ≤ ((R.all[i]'(by omega)).T)))) rfl ?_)))))))))
  rcases Bool.eq_false_or_eq_true (decide ((f : Int) ≤ ((R.all[i]'(by omega)).T))) with b26 | b26
  ·have c27 := of_decide_eq_true b26
   refine s_yes 92 rfl (congrArg Value.bool b26) (op_move r2 q17_14 (s_yes 92 rfl (congrArg Value.bool b26) (op_move (iV (i : Int)) q17_24 (s_yes 92 rfl (congrArg Value.bool b26) (op_indexAddrN (E := sampE) (xs := R.all) i Try.underlying22 Try.sizeOf51 rfl (hst.sl 5 rfl) rfl (by omega) (by omega) (fun a28 o29 p30 => ?_))))))
   refine s_yes 92 rfl (congrArg Value.bool b26) (op_fieldAddr (s := 0) Try.underlying51 rfl rfl Try.sizeOf2 rfl (s_yes 92 rfl (congrArg Value.bool b26) (op_load1 (u := (iV ((R.all[i]'(by omega)).T))) Try.isAgg2 rfl p30 (s_yes 92 rfl (congrArg Value.bool b26) (op_move (iV (((f : Int) + 1) + (q : Int))) q17_18 (s_yes 92 rfl (congrArg Value.bool b26) (op_lss (k := .i64) (a := (R.all[i]'(by omega)).T) (b := (((f : Int) + 1) + (q : Int))) rfl rfl ?_)))))))
   refine s_cons (op_pick_t (.bool (decide (((R.all[i]'(by omega)).T) < (((f : Int) + 1) + (q : Int))))) (congrArg Value.bool b26) rfl (s_nil (then_n ?_)))
   rcases Bool.eq_false_or_eq_true (decide (((R.all[i]'(by omega)).T) < (((f : Int) + 1) + (q : Int)))) with b31 | b31
   ·have c32 := of_decide_eq_true b31
    refine cE_cond true (congrArg Value.bool b31) (fun _ => ?_) (fun h => by cases h)
    refine cE_seq (cE_seq ?_)
    have hn0 := raw_lt (l := R.all) (fr := (f : Int)) (to := ((f : Int) + 1 + (q : Int))) (i := i) (by omega) (by omega)
    have hn2 := raw_at (l := R.all) (fr := (f : Int)) (to := ((f : Int) + 1 + (q : Int))) (i := i) (by omega) (by omega)
    refine cE_regionL hst [[(23, none)], [(19, none)], [(102, some 1)], [(101, some 0), (103, some 2)], [(104, some 3)], [(19, none), (105, some 4)], [(23, none), (105, some 4)], [(106, some 5), (107, some 6), (105, some 4)], [(108, some 7), (105, some 4)], [(21, none), (105, some 4)], [(23, none), (105, some 4)], [(110, some 9), (111, some 10), (105, some 4)], [(112, some 11), (105, some 4)], [(109, some 8), (113, some 12), (105, some 4)], [(105, some 4), (114, some 13)], [(115, some 14)], [(19, none), (116, some 15)], [(23, none), (116, some 15)], [(117, some 16), (118, some 17), (116, some 15)], [(119, some 18), (116, some 15)], [(120, some 19), (116, some 15)], [(14, none), (116, some 15)], [(24, none), (116, some 15)], [(122, some 21), (123, some 22), (116, some 15)], [(124, some 23), (116, some 15)], [(14, none), (116, some 15)], [(24, none), (116, some 15)], [(126, some 25), (127, some 26), (116, some 15)], [(128, some 27), (116, some 15)], [(129, some 28), (116, some 15)], [(125, some 24), (130, some 29), (116, some 15)], [(121, some 20), (131, some 30), (116, some 15)], [(116, some 15), (132, some 31)]] [(rEq (iV ((rawW (R.all.take i) (f : Int) ((f : Int) + 1 + (q : Int))).length : Int))), (rEq r13), (rEq (iV (A.length : Int))), (rEq (.bool (decide ((A.length : Int) ≤ ((rawW (R.all.take i) (f : Int) ((f : Int) + 1 + (q : Int))).length : Int))))), (rEq (.bool (decide ((A.length : Int) ≤ ((rawW (R.all.take i) (f : Int) ((f : Int) + 1 + (q : Int))).length : Int))))), (rEq r13), (rEq (iV ((rawW (R.all.take i) (f : Int) ((f : Int) + 1 + (q : Int))).length : Int))), (rPt [(iV ((A[((rawW (R.all.take i) (f : Int) ((f : Int) + 1 + (q : Int))).length)]'(by omega)).Tier)), (iV ((A[((rawW (R.all.take i) (f : Int) ((f : Int) + 1 + (q : Int))).length)]'(by omega)).Lo)), (iV ((A[((rawW (R.all.take i) (f : Int) ((f : Int) + 1 + (q : Int))).length)]'(by omega)).Hi)), (iV (((A[((rawW (R.all.take i) (f : Int) ((f : Int) + 1 + (q : Int))).length)]'(by omega)).Agg).From)), (iV (((A[((rawW (R.all.take i) (f : Int) ((f : Int) + 1 + (q : Int))).length)]'(by omega)).Agg).Count)), (iV (((A[((rawW (R.all.take i) (f : Int) ((f : Int) + 1 + (q : Int))).length)]'(by omega)).Agg).Sum)), (iV (((A[((rawW (R.all.take i) (f : Int) ((f : Int) + 1 + (q : Int))).length)]'(by omega)).Agg).Min)), (iV (((A[((rawW (R.all.take i) (f : Int) ((f : Int) + 1 + (q : Int))).length)]'(by omega)).Agg).Max)), (iV (((A[((rawW (R.all.take i) (f : Int) ((f : Int) + 1 + (q : Int))).length)]'(by omega)).Agg).First)), (iV (((A[((rawW (R.all.take i) (f : Int) ((f : Int) + 1 + (q : Int))).length)]'(by omega)).Agg).Last))]), (rEq (.agg #[(iV ((A[((rawW (R.all.take i) (f : Int) ((f : Int) + 1 + (q : Int))).length)]'(by omega)).Tier)), (iV ((A[((rawW (R.all.take i) (f : Int) ((f : Int) + 1 + (q : Int))).length)]'(by omega)).Lo)), (iV ((A[((rawW (R.all.take i) (f : Int) ((f : Int) + 1 + (q : Int))).length)]'(by omega)).Hi)), (iV (((A[((rawW (R.all.take i) (f : Int) ((f : Int) + 1 + (q : Int))).length)]'(by omega)).Agg).From)), (iV (((A[((rawW (R.all.take i) (f : Int) ((f : Int) + 1 + (q : Int))).length)]'(by omega)).Agg).Count)), (iV (((A[((rawW (R.all.take i) (f : Int) ((f : Int) + 1 + (q : Int))).length)]'(by omega)).Agg).Sum)), (iV (((A[((rawW (R.all.take i) (f : Int) ((f : Int) + 1 + (q : Int))).length)]'(by omega)).Agg).Min)), (iV (((A[((rawW (R.all.take i) (f : Int) ((f : Int) + 1 + (q : Int))).length)]'(by omega)).Agg).Max)), (iV (((A[((rawW (R.all.take i) (f : Int) ((f : Int) + 1 + (q : Int))).length)]'(by omega)).Agg).First)), (iV (((A[((rawW (R.all.take i) (f : Int) ((f : Int) + 1 + (q : Int))).length)]'(by omega)).Agg).Last))])), (rEq r15), (rEq (iV ((rawW (R.all.take i) (f : Int) ((f : Int) + 1 + (q : Int))).length : Int))), (rPt [(iV ((A[((rawW (R.all.take i) (f : Int) ((f : Int) + 1 + (q : Int))).length)]'(by omega)).Tier)), (iV ((A[((rawW (R.all.take i) (f : Int) ((f : Int) + 1 + (q : Int))).length)]'(by omega)).Lo)), (iV ((A[((rawW (R.all.take i) (f : Int) ((f : Int) + 1 + (q : Int))).length)]'(by omega)).Hi)), (iV (((A[((rawW (R.all.take i) (f : Int) ((f : Int) + 1 + (q : Int))).length)]'(by omega)).Agg).From)), (iV (((A[((rawW (R.all.take i) (f : Int) ((f : Int) + 1 + (q : Int))).length)]'(by omega)).Agg).Count)), (iV (((A[((rawW (R.all.take i) (f : Int) ((f : Int) + 1 + (q : Int))).length)]'(by omega)).Agg).Sum)), (iV (((A[((rawW (R.all.take i) (f : Int) ((f : Int) + 1 + (q : Int))).length)]'(by omega)).Agg).Min)), (iV (((A[((rawW (R.all.take i) (f : Int) ((f : Int) + 1 + (q : Int))).length)]'(by omega)).Agg).Max)), (iV (((A[((rawW (R.all.take i) (f : Int) ((f : Int) + 1 + (q : Int))).length)]'(by omega)).Agg).First)), (iV (((A[((rawW (R.all.take i) (f : Int) ((f : Int) + 1 + (q : Int))).length)]'(by omega)).Agg).Last))]), (rEq (.agg #[(iV ((A[((rawW (R.all.take i) (f : Int) ((f : Int) + 1 + (q : Int))).length)]'(by omega)).Tier)), (iV ((A[((rawW (R.all.take i) (f : Int) ((f : Int) + 1 + (q : Int))).length)]'(by omega)).Lo)), (iV ((A[((rawW (R.all.take i) (f : Int) ((f : Int) + 1 + (q : Int))).length)]'(by omega)).Hi)), (iV (((A[((rawW (R.all.take i) (f : Int) ((f : Int) + 1 + (q : Int))).length)]'(by omega)).Agg).From)), (iV (((A[((rawW (R.all.take i) (f : Int) ((f : Int) + 1 + (q : Int))).length)]'(by omega)).Agg).Count)), (iV (((A[((rawW (R.all.take i) (f : Int) ((f : Int) + 1 + (q : Int))).length)]'(by omega)).Agg).Sum)), (iV (((A[((rawW (R.all.take i) (f : Int) ((f : Int) + 1 + (q : Int))).length)]'(by omega)).Agg).Min)), (iV (((A[((rawW (R.all.take i) (f : Int) ((f : Int) + 1 + (q : Int))).length)]'(by omega)).Agg).Max)), (iV (((A[((rawW (R.all.take i) (f : Int) ((f : Int) + 1 + (q : Int))).length)]'(by omega)).Agg).First)), (iV (((A[((rawW (R.all.take i) (f : Int) ((f : Int) + 1 + (q : Int))).length)]'(by omega)).Agg).Last))])), (rEq (.bool (!decide ((A[((rawW (R.all.take i) (f : Int) ((f : Int) + 1 + (q : Int))).length)]'(by omega)) = (A[((rawW (R.all.take i) (f : Int) ((f : Int) + 1 + (q : Int))).length)]'(by omega)))))), (rEq (.bool (!decide ((A[((rawW (R.all.take i) (f : Int) ((f : Int) + 1 + (q : Int))).length)]'(by omega)) = (A[((rawW (R.all.take i) (f : Int) ((f : Int) + 1 + (q : Int))).length)]'(by omega)))))), (rEq (.bool (!decide ((A[((rawW (R.all.take i) (f : Int) ((f : Int) + 1 + (q : Int))).length)]'(by omega)) = (A[((rawW (R.all.take i) (f : Int) ((f : Int) + 1 + (q : Int))).length)]'(by omega)))))), (rEq r13), (rEq (iV ((rawW (R.all.take i) (f : Int) ((f : Int) + 1 + (q : Int))).length : Int))), (rPt [(iV ((A[((rawW (R.all.take i) (f : Int) ((f : Int) + 1 + (q : Int))).length)]'(by omega)).Tier)), (iV ((A[((rawW (R.all.take i) (f : Int) ((f : Int) + 1 + (q : Int))).length)]'(by omega)).Lo)), (iV ((A[((rawW (R.all.take i) (f : Int) ((f : Int) + 1 + (q : Int))).length)]'(by omega)).Hi)), (iV (((A[((rawW (R.all.take i) (f : Int) ((f : Int) + 1 + (q : Int))).length)]'(by omega)).Agg).From)), (iV (((A[((rawW (R.all.take i) (f : Int) ((f : Int) + 1 + (q : Int))).length)]'(by omega)).Agg).Count)), (iV (((A[((rawW (R.all.take i) (f : Int) ((f : Int) + 1 + (q : Int))).length)]'(by omega)).Agg).Sum)), (iV (((A[((rawW (R.all.take i) (f : Int) ((f : Int) + 1 + (q : Int))).length)]'(by omega)).Agg).Min)), (iV (((A[((rawW (R.all.take i) (f : Int) ((f : Int) + 1 + (q : Int))).length)]'(by omega)).Agg).Max)), (iV (((A[((rawW (R.all.take i) (f : Int) ((f : Int) + 1 + (q : Int))).length)]'(by omega)).Agg).First)), (iV (((A[((rawW (R.all.take i) (f : Int) ((f : Int) + 1 + (q : Int))).length)]'(by omega)).Agg).Last))]), (rPt (aggC ((A[((rawW (R.all.take i) (f : Int) ((f : Int) + 1 + (q : Int))).length)]'(by omega)).Agg))), (rEq (.agg (aggA ((A[((rawW (R.all.take i) (f : Int) ((f : Int) + 1 + (q : Int))).length)]'(by omega)).Agg)))), (rEq r2), (rEq (iV (i : Int))), (rPt [(iV ((R.all[i]'(by omega)).T)), (iV ((R.all[i]'(by omega)).V))]), (rEq (.agg #[(iV ((R.all[i]'(by omega)).T)), (iV ((R.all[i]'(by omega)).V))])), (rEq r2), (rEq (iV (i : Int))), (rPt [(iV ((R.all[i]'(by omega)).T)), (iV ((R.all[i]'(by omega)).V))]), (rPt [(iV ((R.all[i]'(by omega)).T)), (iV ((R.all[i]'(by omega)).V))]), (rEq (iV ((R.all[i]'(by omega)).T))), (rEq (.agg #[(iV ((R.all[i]'(by omega)).T)), (iV 1), (iV ((R.all[i]'(by omega)).V)), (iV ((R.all[i]'(by omega)).V)), (iV ((R.all[i]'(by omega)).V)), (iV ((R.all[i]'(by omega)).V)), (iV ((R.all[i]'(by omega)).V))])), (rEq (.bool (!decide (((A[((rawW (R.all.take i) (f : Int) ((f : Int) + 1 + (q : Int))).length)]'(by omega)).Agg) = (⟨(R.all[i]'(by omega)).T, 1, (R.all[i]'(by omega)).V, (R.all[i]'(by omega)).V, (R.all[i]'(by omega)).V, (R.all[i]'(by omega)).V, (R.all[i]'(by omega)).V⟩ : Agg))))), (rEq (.bool (!decide (((A[((rawW (R.all.take i) (f : Int) ((f : Int) + 1 + (q : Int))).length)]'(by omega)).Agg) = (⟨(R.all[i]'(by omega)).T, 1, (R.all[i]'(by omega)).V, (R.all[i]'(by omega)).V, (R.all[i]'(by omega)).V, (R.all[i]'(by omega)).V, (R.all[i]'(by omega)).V⟩ : Agg)))))] (by kernel_rfl) rfl (by kernel_rfl) ⟨sEq, sEq, sEq, sEq, sEq, sEq, sEq, sPt, sEq, sEq, sEq, sPt, sEq, sEq, sEq, sEq, sEq, sEq, sPt, sPt, sEq, sEq, sEq, sPt, sEq, sEq, sEq, sPt, sPt, sEq, sEq, sEq, sEq, trivial⟩ ⟨?_, ?_, ?_, ?_, ?_, ?_, ?_, ?_, ?_, ?_, ?_, ?_, ?_, ?_, ?_, ?_, ?_, ?_, ?_, ?_, ?_, ?_, ?_, ?_, ?_, ?_, ?_, ?_, ?_, ?_, ?_, ?_, ?_, trivial⟩ ?_
    ·rintro ρ49 w50 hj51 ⟨f23, _⟩
     have hst := hj51.2
     exact go_plain (op_move (iV ((rawW (R.all.take i) (f : Int) ((f : Int) + 1 + (q : Int))).length : Int)) (f23.trans q17_23) (kS hj51 rfl))
    ·rintro ρ52 w53 hj54 ⟨f19, _⟩
     have hst := hj54.2
     exact go_plain (op_move r13 (f19.trans q17_19) (kS hj54 rfl))
    ·rintro ρ55 w56 hj57 ⟨f102, _⟩
     have hst := hj57.2
     exact go_plain (op_len (E := winE) (xs := A) Try.underlying29 f102 (hst.sl 1 rfl) (kS hj57 rfl))
    ·rintro ρ58 w59 hj60 ⟨f101, f103, _⟩
     have hst := hj60.2
     exact go_plain (op_geq (k := .i64) (a := ((rawW (R.all.take i) (f : Int) ((f : Int) + 1 + (q : Int))).length : Int)) (b := (A.length : Int)) f101 f103 (kS hj60 rfl))
    ·rintro ρ61 w62 hj63 ⟨f104, _⟩
     have hst := hj63.2
     exact go_plain (op_move (.bool (decide ((A.length : Int) ≤ ((rawW (R.all.take i) (f : Int) ((f : Int) + 1 + (q : Int))).length : Int)))) f104 (kS hj63 rfl))
    ·rintro ρ64 w65 hj66 ⟨f19, f105, _⟩
     have hst := hj66.2
     exact go_yes 105 rfl (f105.trans (congrArg Value.bool (show (decide ((A.length : Int) ≤ ((rawW (R.all.take i) (f : Int) ((f : Int) + 1 + (q : Int))).length : Int))) = false from (decide_eq_false (by omega))))) (op_move r13 (f19.trans q17_19) (kS hj66 rfl))
    ·rintro ρ67 w68 hj69 ⟨f23, f105, _⟩
     have hst := hj69.2
     exact go_yes 105 rfl (f105.trans (congrArg Value.bool (show (decide ((A.length : Int) ≤ ((rawW (R.all.take i) (f : Int) ((f : Int) + 1 + (q : Int))).length : Int))) = false from (decide_eq_false (by omega))))) (op_move (iV ((rawW (R.all.take i) (f : Int) ((f : Int) + 1 + (q : Int))).length : Int)) (f23.trans q17_23) (kS hj69 rfl))
    ·rintro ρ70 w71 hj72 ⟨f106, f107, f105, _⟩
     have hst := hj72.2
     refine go_yes 105 rfl (f105.trans (congrArg Value.bool (show (decide ((A.length : Int) ≤ ((rawW (R.all.take i) (f : Int) ((f : Int) + 1 + (q : Int))).length : Int))) = false from (decide_eq_false (by omega))))) (op_indexAddrN (E := winE) (xs := A) ((rawW (R.all.take i) (f : Int) ((f : Int) + 1 + (q : Int))).length) Try.underlying29 Try.sizeOf56 f106 (hst.sl 1 rfl) f107 (by omega) (by omega) (fun a73 o74 p75 => ?_))
     exact kS hj72 ⟨_, _, rfl, p75⟩
    ·rintro ρ76 w77 hj78 ⟨f108, f105, _⟩
     have hst := hj78.2
     obtain ⟨a79, o80, e81, p82⟩ := f108
     exact go_yes 105 rfl (f105.trans (congrArg Value.bool (show (decide ((A.length : Int) ≤ ((rawW (R.all.take i) (f : Int) ((f : Int) + 1 + (q : Int))).length : Int))) = false from (decide_eq_false (by omega))))) (op_loadN (cs := [(iV ((A[((rawW (R.all.take i) (f : Int) ((f : Int) + 1 + (q : Int))).length)]'(by omega)).Tier)), (iV ((A[((rawW (R.all.take i) (f : Int) ((f : Int) + 1 + (q : Int))).length)]'(by omega)).Lo)), (iV ((A[((rawW (R.all.take i) (f : Int) ((f : Int) + 1 + (q : Int))).length)]'(by omega)).Hi)), (iV (((A[((rawW (R.all.take i) (f : Int) ((f : Int) + 1 + (q : Int))).length)]'(by omega)).Agg).From)), (iV (((A[((rawW (R.all.take i) (f : Int) ((f : Int) + 1 + (q : Int))).length)]'(by omega)).Agg).Count)), (iV (((A[((rawW (R.all.take i) (f : Int) ((f : Int) + 1 + (q : Int))).length)]'(by omega)).Agg).Sum)), (iV (((A[((rawW (R.all.take i) (f : Int) ((f : Int) + 1 + (q : Int))).length)]'(by omega)).Agg).Min)), (iV (((A[((rawW (R.all.take i) (f : Int) ((f : Int) + 1 + (q : Int))).length)]'(by omega)).Agg).Max)), (iV (((A[((rawW (R.all.take i) (f : Int) ((f : Int) + 1 + (q : Int))).length)]'(by omega)).Agg).First)), (iV (((A[((rawW (R.all.take i) (f : Int) ((f : Int) + 1 + (q : Int))).length)]'(by omega)).Agg).Last))]) Try.isAgg56 Try.sizeOf56 e81 (Pt.of p82 rfl) rfl (kS hj78 rfl))
    ·rintro ρ83 w84 hj85 ⟨f21, f105, _⟩
     have hst := hj85.2
     exact go_yes 105 rfl (f105.trans (congrArg Value.bool (show (decide ((A.length : Int) ≤ ((rawW (R.all.take i) (f : Int) ((f : Int) + 1 + (q : Int))).length : Int))) = false from (decide_eq_false (by omega))))) (op_move r15 (f21.trans q17_21) (kS hj85 rfl))
    ·rintro ρ86 w87 hj88 ⟨f23, f105, _⟩
     have hst := hj88.2
     exact go_yes 105 rfl (f105.trans (congrArg Value.bool (show (decide ((A.length : Int) ≤ ((rawW (R.all.take i) (f : Int) ((f : Int) + 1 + (q : Int))).length : Int))) = false from (decide_eq_false (by omega))))) (op_move (iV ((rawW (R.all.take i) (f : Int) ((f : Int) + 1 + (q : Int))).length : Int)) (f23.trans q17_23) (kS hj88 rfl))
    ·rintro ρ89 w90 hj91 ⟨f110, f111, f105, _⟩
     have hst := hj91.2
     refine go_yes 105 rfl (f105.trans (congrArg Value.bool (show (decide ((A.length : Int) ≤ ((rawW (R.all.take i) (f : Int) ((f : Int) + 1 + (q : Int))).length : Int))) = false from (decide_eq_false (by omega))))) (op_indexAddrN (E := winE) (xs := A) ((rawW (R.all.take i) (f : Int) ((f : Int) + 1 + (q : Int))).length) Try.underlying29 Try.sizeOf56 f110 (hst.sl 0 rfl) f111 (by omega) (by omega) (fun a92 o93 p94 => ?_))
     exact kS hj91 ⟨_, _, rfl, p94⟩
    ·rintro ρ95 w96 hj97 ⟨f112, f105, _⟩
     have hst := hj97.2
     obtain ⟨a98, o99, e100, p101⟩ := f112
     exact go_yes 105 rfl (f105.trans (congrArg Value.bool (show (decide ((A.length : Int) ≤ ((rawW (R.all.take i) (f : Int) ((f : Int) + 1 + (q : Int))).length : Int))) = false from (decide_eq_false (by omega))))) (op_loadN (cs := [(iV ((A[((rawW (R.all.take i) (f : Int) ((f : Int) + 1 + (q : Int))).length)]'(by omega)).Tier)), (iV ((A[((rawW (R.all.take i) (f : Int) ((f : Int) + 1 + (q : Int))).length)]'(by omega)).Lo)), (iV ((A[((rawW (R.all.take i) (f : Int) ((f : Int) + 1 + (q : Int))).length)]'(by omega)).Hi)), (iV (((A[((rawW (R.all.take i) (f : Int) ((f : Int) + 1 + (q : Int))).length)]'(by omega)).Agg).From)), (iV (((A[((rawW (R.all.take i) (f : Int) ((f : Int) + 1 + (q : Int))).length)]'(by omega)).Agg).Count)), (iV (((A[((rawW (R.all.take i) (f : Int) ((f : Int) + 1 + (q : Int))).length)]'(by omega)).Agg).Sum)), (iV (((A[((rawW (R.all.take i) (f : Int) ((f : Int) + 1 + (q : Int))).length)]'(by omega)).Agg).Min)), (iV (((A[((rawW (R.all.take i) (f : Int) ((f : Int) + 1 + (q : Int))).length)]'(by omega)).Agg).Max)), (iV (((A[((rawW (R.all.take i) (f : Int) ((f : Int) + 1 + (q : Int))).length)]'(by omega)).Agg).First)), (iV (((A[((rawW (R.all.take i) (f : Int) ((f : Int) + 1 + (q : Int))).length)]'(by omega)).Agg).Last))]) Try.isAgg56 Try.sizeOf56 e100 (Pt.of p101 rfl) rfl (kS hj97 rfl))
    ·rintro ρ102 w103 hj104 ⟨f109, f113, f105, _⟩
     have hst := hj104.2
     exact go_yes 105 rfl (f105.trans (congrArg Value.bool (show (decide ((A.length : Int) ≤ ((rawW (R.all.take i) (f : Int) ((f : Int) + 1 + (q : Int))).length : Int))) = false from (decide_eq_false (by omega))))) (op_neqG Try.eqGuardType56 (Try.eqWin (A[((rawW (R.all.take i) (f : Int) ((f : Int) + 1 + (q : Int))).length)]'(by omega)) (A[((rawW (R.all.take i) (f : Int) ((f : Int) + 1 + (q : Int))).length)]'(by omega)) _) f109 f113 (kS hj104 rfl))
    ·rintro ρ105 w106 hj107 ⟨f105, f114, _⟩
     have hst := hj107.2
     exact go_plain (op_pick_f (.bool (!decide ((A[((rawW (R.all.take i) (f : Int) ((f : Int) + 1 + (q : Int))).length)]'(by omega)) = (A[((rawW (R.all.take i) (f : Int) ((f : Int) + 1 + (q : Int))).length)]'(by omega))))) (f105.trans (congrArg Value.bool (show (decide ((A.length : Int) ≤ ((rawW (R.all.take i) (f : Int) ((f : Int) + 1 + (q : Int))).length : Int))) = false from (decide_eq_false (by omega))))) f114 (kS hj107 rfl))
    ·rintro ρ108 w109 hj110 ⟨f115, _⟩
     have hst := hj110.2
     exact go_plain (op_move (.bool (!decide ((A[((rawW (R.all.take i) (f : Int) ((f : Int) + 1 + (q : Int))).length)]'(by omega)) = (A[((rawW (R.all.take i) (f : Int) ((f : Int) + 1 + (q : Int))).length)]'(by omega))))) f115 (kS hj110 rfl))
    ·rintro ρ111 w112 hj113 ⟨f19, f116, _⟩
     have hst := hj113.2
     exact go_yes 116 rfl (f116.trans (congrArg Value.bool (congrArg (! ·) (show (decide ((A[((rawW (R.all.take i) (f : Int) ((f : Int) + 1 + (q : Int))).length)]'(by omega)) = (A[((rawW (R.all.take i) (f : Int) ((f : Int) + 1 + (q : Int))).length)]'(by omega)))) = true from (decide_eq_true rfl))))) (op_move r13 (f19.trans q17_19) (kS hj113 rfl))
    ·rintro ρ114 w115 hj116 ⟨f23, f116, _⟩
     have hst := hj116.2
     exact go_yes 116 rfl (f116.trans (congrArg Value.bool (congrArg (! ·) (show (decide ((A[((rawW (R.all.take i) (f : Int) ((f : Int) + 1 + (q : Int))).length)]'(by omega)) = (A[((rawW (R.all.take i) (f : Int) ((f : Int) + 1 + (q : Int))).length)]'(by omega)))) = true from (decide_eq_true rfl))))) (op_move (iV ((rawW (R.all.take i) (f : Int) ((f : Int) + 1 + (q : Int))).length : Int)) (f23.trans q17_23) (kS hj116 rfl))
    ·rintro ρ117 w118 hj119 ⟨f117, f118, f116, _⟩
     have hst := hj119.2
     refine go_yes 116 rfl (f116.trans (congrArg Value.bool (congrArg (! ·) (show (decide ((A[((rawW (R.all.take i) (f : Int) ((f : Int) + 1 + (q : Int))).length)]'(by omega)) = (A[((rawW (R.all.take i) (f : Int) ((f : Int) + 1 + (q : Int))).length)]'(by omega)))) = true from (decide_eq_true rfl))))) (op_indexAddrN (E := winE) (xs := A) ((rawW (R.all.take i) (f : Int) ((f : Int) + 1 + (q : Int))).length) Try.underlying29 Try.sizeOf56 f117 (hst.sl 1 rfl) f118 (by omega) (by omega) (fun a120 o121 p122 => ?_))
     exact kS hj119 ⟨_, _, rfl, p122⟩
    ·rintro ρ123 w124 hj125 ⟨f119, f116, _⟩
     have hst := hj125.2
     obtain ⟨a126, o127, e128, p129⟩ := f119
     exact go_yes 116 rfl (f116.trans (congrArg Value.bool (congrArg (! ·) (show (decide ((A[((rawW (R.all.take i) (f : Int) ((f : Int) + 1 + (q : Int))).length)]'(by omega)) = (A[((rawW (R.all.take i) (f : Int) ((f : Int) + 1 + (q : Int))).length)]'(by omega)))) = true from (decide_eq_true rfl))))) (op_fieldAddr (s := 6) Try.underlying56 rfl rfl Try.sizeOf37 e128 (kS hj125 ⟨_, _, rfl, (p129.drop 3)⟩))
    ·rintro ρ130 w131 hj132 ⟨f120, f116, _⟩
     have hst := hj132.2
     obtain ⟨a133, o134, e135, p136⟩ := f120
     exact go_yes 116 rfl (f116.trans (congrArg Value.bool (congrArg (! ·) (show (decide ((A[((rawW (R.all.take i) (f : Int) ((f : Int) + 1 + (q : Int))).length)]'(by omega)) = (A[((rawW (R.all.take i) (f : Int) ((f : Int) + 1 + (q : Int))).length)]'(by omega)))) = true from (decide_eq_true rfl))))) (op_loadN (cs := (aggC ((A[((rawW (R.all.take i) (f : Int) ((f : Int) + 1 + (q : Int))).length)]'(by omega)).Agg))) Try.isAgg37 Try.sizeOf37 e135 (Pt.of p136 rfl) rfl (kS hj132 rfl))
    ·rintro ρ137 w138 hj139 ⟨f14, f116, _⟩
     have hst := hj139.2
     exact go_yes 116 rfl (f116.trans (congrArg Value.bool (congrArg (! ·) (show (decide ((A[((rawW (R.all.take i) (f : Int) ((f : Int) + 1 + (q : Int))).length)]'(by omega)) = (A[((rawW (R.all.take i) (f : Int) ((f : Int) + 1 + (q : Int))).length)]'(by omega)))) = true from (decide_eq_true rfl))))) (op_move r2 (f14.trans q17_14) (kS hj139 rfl))
    ·rintro ρ140 w141 hj142 ⟨f24, f116, _⟩
     have hst := hj142.2
     exact go_yes 116 rfl (f116.trans (congrArg Value.bool (congrArg (! ·) (show (decide ((A[((rawW (R.all.take i) (f : Int) ((f : Int) + 1 + (q : Int))).length)]'(by omega)) = (A[((rawW (R.all.take i) (f : Int) ((f : Int) + 1 + (q : Int))).length)]'(by omega)))) = true from (decide_eq_true rfl))))) (op_move (iV (i : Int)) (f24.trans q17_24) (kS hj142 rfl))
    ·rintro ρ143 w144 hj145 ⟨f122, f123, f116, _⟩
     have hst := hj145.2
     refine go_yes 116 rfl (f116.trans (congrArg Value.bool (congrArg (! ·) (show (decide ((A[((rawW (R.all.take i) (f : Int) ((f : Int) + 1 + (q : Int))).length)]'(by omega)) = (A[((rawW (R.all.take i) (f : Int) ((f : Int) + 1 + (q : Int))).length)]'(by omega)))) = true from (decide_eq_true rfl))))) (op_indexAddrN (E := sampE) (xs := R.all) i Try.underlying22 Try.sizeOf51 f122 (hst.sl 5 rfl) f123 (by omega) (by omega) (fun a146 o147 p148 => ?_))
     exact kS hj145 ⟨_, _, rfl, p148⟩
    ·rintro ρ149 w150 hj151 ⟨f124, f116, _⟩
     have hst := hj151.2
     obtain ⟨a152, o153, e154, p155⟩ := f124
     exact go_yes 116 rfl (f116.trans (congrArg Value.bool (congrArg (! ·) (show (decide ((A[((rawW (R.all.take i) (f : Int) ((f : Int) + 1 + (q : Int))).length)]'(by omega)) = (A[((rawW (R.all.take i) (f : Int) ((f : Int) + 1 + (q : Int))).length)]'(by omega)))) = true from (decide_eq_true rfl))))) (op_loadN (cs := [(iV ((R.all[i]'(by omega)).T)), (iV ((R.all[i]'(by omega)).V))]) Try.isAgg51 Try.sizeOf51 e154 (Pt.of p155 rfl) rfl (kS hj151 rfl))
    ·rintro ρ156 w157 hj158 ⟨f14, f116, _⟩
     have hst := hj158.2
     exact go_yes 116 rfl (f116.trans (congrArg Value.bool (congrArg (! ·) (show (decide ((A[((rawW (R.all.take i) (f : Int) ((f : Int) + 1 + (q : Int))).length)]'(by omega)) = (A[((rawW (R.all.take i) (f : Int) ((f : Int) + 1 + (q : Int))).length)]'(by omega)))) = true from (decide_eq_true rfl))))) (op_move r2 (f14.trans q17_14) (kS hj158 rfl))
    ·rintro ρ159 w160 hj161 ⟨f24, f116, _⟩
     have hst := hj161.2
     exact go_yes 116 rfl (f116.trans (congrArg Value.bool (congrArg (! ·) (show (decide ((A[((rawW (R.all.take i) (f : Int) ((f : Int) + 1 + (q : Int))).length)]'(by omega)) = (A[((rawW (R.all.take i) (f : Int) ((f : Int) + 1 + (q : Int))).length)]'(by omega)))) = true from (decide_eq_true rfl))))) (op_move (iV (i : Int)) (f24.trans q17_24) (kS hj161 rfl))
    ·rintro ρ162 w163 hj164 ⟨f126, f127, f116, _⟩
     have hst := hj164.2
     refine go_yes 116 rfl (f116.trans (congrArg Value.bool (congrArg (! ·) (show (decide ((A[((rawW (R.all.take i) (f : Int) ((f : Int) + 1 + (q : Int))).length)]'(by omega)) = (A[((rawW (R.all.take i) (f : Int) ((f : Int) + 1 + (q : Int))).length)]'(by omega)))) = true from (decide_eq_true rfl))))) (op_indexAddrN (E := sampE) (xs := R.all) i Try.underlying22 Try.sizeOf51 f126 (hst.sl 5 rfl) f127 (by omega) (by omega) (fun a165 o166 p167 => ?_))
     exact kS hj164 ⟨_, _, rfl, p167⟩
    ·rintro ρ168 w169 hj170 ⟨f128, f116, _⟩
     have hst := hj170.2
     obtain ⟨a171, o172, e173, p174⟩ := f128
     exact go_yes 116 rfl (f116.trans (congrArg Value.bool (congrArg (! ·) (show (decide ((A[((rawW (R.all.take i) (f : Int) ((f : Int) + 1 + (q : Int))).length)]'(by omega)) = (A[((rawW (R.all.take i) (f : Int) ((f : Int) + 1 + (q : Int))).length)]'(by omega)))) = true from (decide_eq_true rfl))))) (op_fieldAddr (s := 0) Try.underlying51 rfl rfl Try.sizeOf2 e173 (kS hj170 ⟨_, _, rfl, p174⟩))
    ·rintro ρ175 w176 hj177 ⟨f129, f116, _⟩
     have hst := hj177.2
     obtain ⟨a178, o179, e180, p181⟩ := f129
     exact go_yes 116 rfl (f116.trans (congrArg Value.bool (congrArg (! ·) (show (decide ((A[((rawW (R.all.take i) (f : Int) ((f : Int) + 1 + (q : Int))).length)]'(by omega)) = (A[((rawW (R.all.take i) (f : Int) ((f : Int) + 1 + (q : Int))).length)]'(by omega)))) = true from (decide_eq_true rfl))))) (op_load1 (u := (iV ((R.all[i]'(by omega)).T))) Try.isAgg2 e180 p181 (kS hj177 rfl))
    ·rintro ρ182 w183 hj184 ⟨f125, f130, f116, _⟩
     have hst := hj184.2
     refine go_yes 116 rfl (f116.trans (congrArg Value.bool (congrArg (! ·) (show (decide ((A[((rawW (R.all.take i) (f : Int) ((f : Int) + 1 + (q : Int))).length)]'(by omega)) = (A[((rawW (R.all.take i) (f : Int) ((f : Int) + 1 + (q : Int))).length)]'(by omega)))) = true from (decide_eq_true rfl))))) (op_call Try.call23 (evs_cons (v := (.agg #[(iV ((R.all[i]'(by omega)).T)), (iV ((R.all[i]'(by omega)).V))])) f125 (evs_cons (v := (iV ((R.all[i]'(by omega)).T))) f130 evs_nil)) (c_rOne (w0 := w183) (s := (R.all[i]'(by omega))) (fr := (R.all[i]'(by omega)).T)) ?_)
     rintro _ w185 ⟨rfl, hcall⟩
     refine ⟨_, rfl, ?_⟩
     exact kD hj184 hcall rfl
    ·rintro ρ186 w187 hj188 ⟨f121, f131, f116, _⟩
     have hst := hj188.2
     exact go_yes 116 rfl (f116.trans (congrArg Value.bool (congrArg (! ·) (show (decide ((A[((rawW (R.all.take i) (f : Int) ((f : Int) + 1 + (q : Int))).length)]'(by omega)) = (A[((rawW (R.all.take i) (f : Int) ((f : Int) + 1 + (q : Int))).length)]'(by omega)))) = true from (decide_eq_true rfl))))) (op_neqG Try.eqGuardType37 (Try.eqAgg ((A[((rawW (R.all.take i) (f : Int) ((f : Int) + 1 + (q : Int))).length)]'(by omega)).Agg) (⟨(R.all[i]'(by omega)).T, 1, (R.all[i]'(by omega)).V, (R.all[i]'(by omega)).V, (R.all[i]'(by omega)).V, (R.all[i]'(by omega)).V, (R.all[i]'(by omega)).V⟩ : Agg) _) f121 f131 (kS hj188 rfl))
    ·rintro ρ189 w190 hj191 ⟨f116, f132, _⟩
     have hst := hj191.2
     exact go_plain (op_pick_f (.bool (!decide (((A[((rawW (R.all.take i) (f : Int) ((f : Int) + 1 + (q : Int))).length)]'(by omega)).Agg) = (⟨(R.all[i]'(by omega)).T, 1, (R.all[i]'(by omega)).V, (R.all[i]'(by omega)).V, (R.all[i]'(by omega)).V, (R.all[i]'(by omega)).V, (R.all[i]'(by omega)).V⟩ : Agg)))) (f116.trans (congrArg Value.bool (congrArg (! ·) (show (decide ((A[((rawW (R.all.take i) (f : Int) ((f : Int) + 1 + (q : Int))).length)]'(by omega)) = (A[((rawW (R.all.take i) (f : Int) ((f : Int) + 1 + (q : Int))).length)]'(by omega)))) = true from (decide_eq_true rfl))))) f132 (kS hj191 rfl))
    intro ρ192 w193 hbw193 hst hRw193 hkw193
    have uw193_0 := (hkw193 0 rfl).trans q17_0
    have uw193_1 := (hkw193 1 rfl).trans q17_1
    have uw193_2 := (hkw193 2 rfl).trans q17_2
    have uw193_3 := (hkw193 3 rfl).trans q17_3
    have uw193_4 := (hkw193 4 rfl).trans q17_4
    have uw193_5 := (hkw193 5 rfl).trans q17_5
    have uw193_13 := (hkw193 13 rfl).trans q17_13
    have uw193_14 := (hkw193 14 rfl).trans q17_14
    have uw193_15 := (hkw193 15 rfl).trans q17_15
    have uw193_17 := (hkw193 17 rfl).trans q17_17
    have uw193_18 := (hkw193 18 rfl).trans q17_18
    have uw193_19 := (hkw193 19 rfl).trans q17_19
    have uw193_20 := (hkw193 20 rfl).trans q17_20
    have uw193_21 := (hkw193 21 rfl).trans q17_21
    have uw193_22 := (hkw193 22 rfl).trans q17_22
    have uw193_24 := (hkw193 24 rfl).trans q17_24
    have uw193_23 := (hkw193 23 rfl).trans q17_23
    have uw193_133 : ρ192 133 = (.bool (!decide (((A[((rawW (R.all.take i) (f : Int) ((f : Int) + 1 + (q : Int))).length)]'(by omega)).Agg) = (⟨(R.all[i]'(by omega)).T, 1, (R.all[i]'(by omega)).V, (R.all[i]'(by omega)).V, (R.all[i]'(by omega)).V, (R.all[i]'(by omega)).V, (R.all[i]'(by omega)).V⟩ : Agg)))) := hRw193 32 133 rfl
    refine then_n (cE_cond false (uw193_133.trans (congrArg Value.bool (congrArg (! ·) (show (decide (((A[((rawW (R.all.take i) (f : Int) ((f : Int) + 1 + (q : Int))).length)]'(by omega)).Agg) = (⟨(R.all[i]'(by omega)).T, 1, (R.all[i]'(by omega)).V, (R.all[i]'(by omega)).V, (R.all[i]'(by omega)).V, (R.all[i]'(by omega)).V, (R.all[i]'(by omega)).V⟩ : Agg))) = true from (decide_eq_true (by simp only [eA, hn2])))))) (fun h => by cases h) (fun _ => ?_))
    refine cE_skip (then_n (cE_region rfl (s_cons (op_move (iV ((rawW (R.all.take i) (f : Int) ((f : Int) + 1 + (q : Int))).length : Int)) uw193_23 (s_cons (op_add (k := .i64) (a := ((rawW (R.all.take i) (f : Int) ((f : Int) + 1 + (q : Int))).length : Int)) (b := 1) (((rawW (R.all.take i) (f : Int) ((f : Int) + 1 + (q : Int))).length : Int) + 1) rfl rfl (xi64 (by omega) (by omega)) (s_cons (op_assign (iV (((rawW (R.all.take i) (f : Int) ((f : Int) + 1 + (q : Int))).length : Int) + 1)) rfl ?_))))))))
    refine s_nil (block_n (then_n (cE_region rfl (s_cons (op_move (iV (i : Int)) uw193_24 (s_cons (op_add (k := .i64) (a := (i : Int)) (b := 1) ((i : Int) + 1) rfl rfl (xi64 (by omega) (by omega)) (s_cons (op_assign (iV ((i : Int) + 1)) rfl (s_nil (then_n ?_)))))))))))
    exact ⟨_, ⟨(i + 1), rfl, uw193_0, uw193_1, uw193_2, uw193_3, uw193_4, uw193_5, uw193_13, uw193_14, uw193_15, uw193_17, uw193_18, uw193_19, uw193_20, uw193_21, uw193_22, (congrArg iV (show ((i : Int) + 1) = _ from by omega)), (congrArg iV (show (((rawW (R.all.take i) (f : Int) ((f : Int) + 1 + (q : Int))).length : Int) + 1) = _ from by (rw [raw_up (by omega) (by omega)]; omega))), hst, (by omega)⟩, (by simp only [id]; omega)⟩
   have c194 := of_decide_eq_false b31
   refine cE_cond false (congrArg Value.bool b31) (fun h => by cases h) (fun _ => ?_)
   refine cE_skip (block_n (then_n (cE_region rfl (s_cons (op_move (iV (i : Int)) q17_24 (s_cons (op_add (k := .i64) (a := (i : Int)) (b := 1) ((i : Int) + 1) rfl rfl (xi64 (by omega) (by omega)) (s_cons (op_assign (iV ((i : Int) + 1)) rfl (s_nil (then_n ?_)))))))))))
   exact ⟨_, ⟨(i + 1), rfl, q17_0, q17_1, q17_2, q17_3, q17_4, q17_5, q17_13, q17_14, q17_15, q17_17, q17_18, q17_19, q17_20, q17_21, q17_22, (congrArg iV (show ((i : Int) + 1) = _ from by omega)), (q17_23.trans (congrArg iV (show ((rawW (R.all.take i) (f : Int) ((f : Int) + 1 + (q : Int))).length : Int) = _ from by (rw [raw_eq (by omega) (by omega)])))), hst, (by omega)⟩, (by simp only [id]; omega)⟩
  have c195 := of_decide_eq_false b26
  refine s_no 92 rfl (congrArg Value.bool b26) (s_no 92 rfl (congrArg Value.bool b26) (s_no 92 rfl (congrArg Value.bool b26) (s_no 92 rfl (congrArg Value.bool b26) (s_no 92 rfl (congrArg Value.bool b26) (s_no 92 rfl (congrArg Value.bool b26) (s_no 92 rfl (congrArg Value.bool b26) (s_cons (op_pick_f (.bool false) (congrArg Value.bool b26) rfl (s_nil (then_n (cE_cond false rfl (fun h => by cases h) (fun _ => ?_))))))))))))
  refine cE_skip (block_n (then_n (cE_region rfl (s_cons (op_move (iV (i : Int)) q17_24 (s_cons (op_add (k := .i64) (a := (i : Int)) (b := 1) ((i : Int) + 1) rfl rfl (xi64 (by omega) (by omega)) (s_cons (op_assign (iV ((i : Int) + 1)) rfl (s_nil (then_n ?_)))))))))))
  exact ⟨_, ⟨(i + 1), rfl, q17_0, q17_1, q17_2, q17_3, q17_4, q17_5, q17_13, q17_14, q17_15, q17_17, q17_18, q17_19, q17_20, q17_21, q17_22, (congrArg iV (show ((i : Int) + 1) = _ from by omega)), (q17_23.trans (congrArg iV (show ((rawW (R.all.take i) (f : Int) ((f : Int) + 1 + (q : Int))).length : Int) = _ from by (rw [raw_eq (by omega) (by omega)])))), hst, (by omega)⟩, (by simp only [id]; omega)⟩
 have c196 := of_decide_eq_false b21
 refine cE_cond false (congrArg Value.bool b21) (fun h => by cases h) (fun _ => ?_)
 refine cE_exit (then_x (then_x (block_hit (then_n (cE_seq (cE_region rfl (s_cons (op_call Try.call11 evs_nil (c_told22 (w0 := w20)) ?_))))))))
 rintro _ w197 ⟨rfl, hcall⟩
 refine ⟨_, rfl, ?_⟩
 have hst := hst.call hcall
 refine s_cons (op_move (.bool true) rfl (s_yes 137 rfl rfl (op_move (iV ((rawW (R.all.take i) (f : Int) ((f : Int) + 1 + (q : Int))).length : Int)) q17_23 (s_yes 137 rfl rfl (op_move r13 q17_19 (s_yes 137 rfl rfl (op_len (E := winE) (xs := A) Try.underlying29 rfl (hst.sl 1 rfl) (s_yes 137 rfl rfl (op_eql (k := .i64) (a := ((rawW (R.all.take i) (f : Int) ((f : Int) + 1 + (q : Int))).length : Int)) (b := (A.length : Int)) rfl rfl ?_)))))))))
 refine s_cons (op_pick_t (.bool (decide (((rawW (R.all.take i) (f : Int) ((f : Int) + 1 + (q : Int))).length : Int) = (A.length : Int)))) rfl rfl (s_cons (op_assign (.bool (decide (((rawW (R.all.take i) (f : Int) ((f : Int) + 1 + (q : Int))).length : Int) = (A.length : Int)))) rfl (s_nil (then_n (cE_ret (post_r _ (res1 (v := (.bool true)) (congrArg Value.bool (show (decide (((rawW (R.all.take i) (f : Int) ((f : Int) + 1 + (q : Int))).length : Int) = (A.length : Int))) = true from (decide_eq_true (by rw [take_all (show i = _ by omega)]; omega))))) ?_)))))))
 exact ⟨rfl, hst.bare⟩

end Go.Proofs.Ythanfecefjfbjaa
