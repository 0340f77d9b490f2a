/- twinkeeplaw22.AskCuts -/
import Derived.Test.YthanfecefjfbjaaXTW
import Derived.Test.YthanfecefjfbjaaXLA
import Derived.Test.YthanfecefjfbjaaXLB
import Derived.Test.YthanfecefjfbjaaXW42
import Derived.Test.YthanfecefjfbjaaXW37
namespace Go.Proofs.Ythanfecefjfbjaa
open Go.RowKit

set_option maxRecDepth 8000 in
set_option maxHeartbeats 8000000 in
theorem c_AskCuts (w0 : World) (n : Int) (v_steps : Value) (steps : List Int) (h_steps : Sl w0 (intE .i64) v_steps steps) (v_values : Value) (values : List Int) (h_values : Sl w0 (intE .i64) v_values values) (cut : Int) (hv : ∀ v ∈ values, i64R v) (hs : ∀ v ∈ steps, i64R v) (n0 : -9223372036854775808 ≤ n) (cut0 : -9223372036854775808 ≤ cut) (n1 : n ≤ 9223372036854775807) (cut1 : cut ≤ 9223372036854775807) :
  Calls Try.prog 8 #[(iV n), v_steps, v_values, (iV cut)] w0 fun e w' => e = .returned (.bool true) ∧ St w0 w' [] := by
 refine calls_E (n := 136) (ts := [8]) Try.func8 rfl rfl rfl (by simp) ?_
 have hst := St.start w0
 refine cE_seq (cE_region rfl (s_cons (op_assign (.bool false) rfl (s_nil (then_n (cE_seq (cE_region rfl (s_cons (op_move (iV n) rfl (s_cons (op_move v_steps rfl (s_cons (op_move v_values rfl (s_cons (op_call Try.call20 (evs_cons (v := (iV n)) rfl (evs_cons (v := v_steps) rfl (evs_cons (v := v_values) rfl (evs_cons (v := (iV 4369)) rfl evs_nil)))) (c_Row (w0 := w0) (n := n) (v_steps := v_steps) (steps := steps) (h_steps := (h_steps.below hst.below)) (v_values := v_values) (values := values) (h_values := (h_values.below hst.below)) (mask := 4369) (hv := hv) (hs := hs) (n0 := (by omega)) (mask0 := (by omega)) (n1 := (by omega)) (mask1 := (by omega))) ?_)))))))))))))))
 rintro _ w5 ⟨r1, r2, r3, r4, rfl, hcall, Row_hys, Row_hF⟩
 refine ⟨_, rfl, ?_⟩
 have hst := (hst.call hcall).perm (List.Perm.cons _ (List.Perm.cons _ (List.perm_append_comm)))
 refine s_cons (op_move (.tuple #[r1, r2]) rfl (s_cons (op_extract r1 rfl rfl (s_cons (op_extract r2 rfl rfl (s_cons (op_assign r1 rfl (s_cons (op_assign r2 rfl (s_nil (then_n (cE_seq ?_))))))))))))
 obtain ⟨R, hR⟩ : ∃ R : RowD, R = rowM steps values 4369 (1 + (n % 18446744073709551616 % 4).toNat) := ⟨_, rfl⟩
 replace hst : St w0 w5 (rowT 25 segE r1 r3 :: rowT 51 sampE r2 R.all :: r4) := by rw [← hR] at hst; exact hst
 have hys := Row_hys.trans (congrArg RowD.l hR.symm)
 have hlen := row_lenY (by omega) (by omega) Row_hys
 have hto : 0 ≤ R.to ∧ R.to ≤ 2000 * (((1 + (n % 18446744073709551616 % 4).toNat) : Nat) : Int) := by rw [hR]; exact rowM_to steps values 4369 (by omega)
 have hok := row_okY (by omega) Row_hys hv
 have hbst := row_bestY (by omega) Row_hys
 refine cE_region rfl (s_cons (op_move r1 rfl (s_cons (op_move r1 rfl (s_cons (op_len (E := segE) (xs := r3) Try.underlying32 rfl (hst.sl 0 rfl) (s_cons (op_sub (k := .i64) (a := (r3.length : Int)) (b := 1) ((r3.length : Int) - 1) rfl rfl (xi64 (by omega) (by omega)) (s_cons (op_indexAddrN (E := segE) (xs := r3) (r3.length - 1) Try.underlying32 Try.sizeOf25 rfl (hst.sl 0 rfl) rfl (by omega) (by omega) (fun a6 o7 p8 => ?_)))))))))))
 refine s_cons (op_fieldAddr (s := 0) Try.underlying25 rfl rfl Try.sizeOf2 rfl (s_cons (op_load1 (u := (iV ((r3[(r3.length - 1)]'(by omega)).d.To))) Try.isAgg2 rfl (p8.drop 3) ?_)))
 have hEnd : ((r3[(r3.length - 1)]'(by omega)).d.To) = R.to := (row_endY (by omega) (by omega) Row_hys _ (by omega)).trans (congrArg RowD.to hR.symm)
 refine s_cons (op_assign (iV R.to) (evI (a := (r3[(r3.length - 1)]'(by omega)).d.To) rfl hEnd.symm) (s_nil (then_n (cE_seq (cE_region rfl (s_cons (op_move (iV cut) rfl (s_cons (op_conv (k := .i64) (a := cut) (cut % 18446744073709551616) Try.underlying52 (by rw [Try.underlying3]; rfl) rfl (IntKind.wrap_u64 _) (s_cons (op_move (iV R.to) rfl (s_cons (op_add (k := .i64) (a := R.to) (b := 1) (R.to + 1) rfl rfl (xi64 (by omega) (by omega)) ?_)))))))))))))
 refine s_cons (op_conv (k := .i64) (a := (R.to + 1)) (R.to + 1) Try.underlying52 (by rw [Try.underlying2]; rfl) rfl (xu64 (by omega) (by omega)) ?_)
 obtain ⟨q, hq, hql⟩ := rem_nat (a := (cut % 18446744073709551616)) (b := (R.to + 1)) (by omega) (by omega)
 refine s_cons (op_rem (k := .u64) (a := (cut % 18446744073709551616)) (b := (R.to + 1)) (q : Int) rfl rfl (by omega) hq (s_cons (op_conv (k := .u64) (a := (q : Int)) (q : Int) Try.underlying2 (by rw [Try.underlying52]; rfl) rfl (xi64 (by omega) (by omega)) (s_cons (op_add (k := .i64) (a := 1) (b := (q : Int)) (1 + (q : Int)) rfl rfl (xi64 (by omega) (by omega)) (s_cons (op_assign (iV (1 + (q : Int))) rfl ?_)))))))
 refine s_nil (then_n (cE_seq (cE_region rfl (s_cons (op_move r1 rfl (s_cons (op_move (iV (1 + (q : Int))) rfl (s_cons (op_call Try.call12 (evs_cons (v := r1) rfl (evs_cons (v := nS) rfl (evs_cons (v := (iV 0)) rfl (evs_cons (v := (iV (1 + (q : Int)))) rfl evs_nil)))) (c_Range (w0 := w5) (v_segs := r1) (segs := r3) (h_segs := (hst.sl 0 rfl)) (v_head := nS) (head := []) (h_head := (Sl.nil sampE _)) (fr := 0) (to := (1 + (q : Int))) (hsg := (Row_hF.segs hst 2 rfl)) (hso := hok) (hho := (by simp)) (fr0 := (by omega)) (to0 := (by omega)) (fr1 := (by omega)) (to1 := (by omega)) (hll := (by omega)) (hhl := (by decide)) (hbl := hbst)) ?_)))))))))
 rintro _ w10 ⟨r9, rfl, hcall⟩
 refine ⟨_, rfl, ?_⟩
 have hst := hst.call hcall
 refine s_cons (op_move (.tuple #[r9, (iV ((rangeW (ds r3) ([]) 0 (1 + (q : Int))).2))]) rfl (s_cons (op_extract r9 rfl rfl (s_cons (op_extract (iV ((rangeW (ds r3) ([]) 0 (1 + (q : Int))).2)) rfl rfl (s_cons (op_assign r9 rfl (s_cons (op_assign (iV ((rangeW (ds r3) ([]) 0 (1 + (q : Int))).2)) rfl (s_nil (then_n (cE_seq ?_))))))))))))
 obtain ⟨A, hA, gA, eA⟩ := range_cutY (fr := 0) (to := (1 + (q : Int))) (by omega) (fun a h => bit4369 h) hR hys (by omega) (by omega) (by omega)
 replace hst : St w0 w10 (rowT 56 winE r9 A :: rowT 25 segE r1 r3 :: rowT 51 sampE r2 R.all :: r4) := by rw [hA] at hst; exact hst
 refine cE_region rfl (s_cons (op_move r1 rfl (s_cons (op_move (iV (1 + (q : Int))) rfl (s_cons (op_move (iV (1 + (q : Int))) rfl (s_cons (op_move (iV R.to) rfl (s_cons (op_add (k := .i64) (a := (1 + (q : Int))) (b := R.to) ((1 + (q : Int)) + R.to) rfl rfl (xi64 (by omega) (by omega)) (s_cons (op_add (k := .i64) (a := ((1 + (q : Int)) + R.to)) (b := 5) (((1 + (q : Int)) + R.to) + 5) rfl rfl (xi64 (by omega) (by omega)) ?_))))))))))))
 refine s_cons (op_call Try.call12 (evs_cons (v := r1) rfl (evs_cons (v := nS) rfl (evs_cons (v := (iV (1 + (q : Int)))) rfl (evs_cons (v := (iV (((1 + (q : Int)) + R.to) + 5))) rfl evs_nil)))) (c_Range (w0 := w10) (v_segs := r1) (segs := r3) (h_segs := (hst.sl 1 rfl)) (v_head := nS) (head := []) (h_head := (Sl.nil sampE _)) (fr := (1 + (q : Int))) (to := (((1 + (q : Int)) + R.to) + 5)) (hsg := (Row_hF.segs hst 3 rfl)) (hso := hok) (hho := (by simp)) (fr0 := (by omega)) (to0 := (by omega)) (fr1 := (by omega)) (to1 := (by omega)) (hll := (by omega)) (hhl := (by decide)) (hbl := hbst)) ?_)
 rintro _ w12 ⟨r11, rfl, hcall⟩
 refine ⟨_, rfl, ?_⟩
 have hst := hst.call hcall
 refine s_cons (op_move (.tuple #[r11, (iV ((rangeW (ds r3) ([]) (1 + (q : Int)) (((1 + (q : Int)) + R.to) + 5)).2))]) rfl (s_cons (op_extract r11 rfl rfl (s_cons (op_extract (iV ((rangeW (ds r3) ([]) (1 + (q : Int)) (((1 + (q : Int)) + R.to) + 5)).2)) rfl rfl (s_cons (op_assign r11 rfl (s_cons (op_assign (iV ((rangeW (ds r3) ([]) (1 + (q : Int)) (((1 + (q : Int)) + R.to) + 5)).2)) rfl ?_)))))))))
 refine s_nil (then_n (cE_seq ?_))
 obtain ⟨B, hB, gB, eB⟩ := range_cutY (fr := (1 + (q : Int))) (to := (1 + (q : Int) + R.to + 5)) (by omega) (fun a h => bit4369 h) hR hys (by omega) (by omega) (by omega)
 replace hst : St w0 w12 (rowT 56 winE r11 B :: rowT 56 winE r9 A :: rowT 25 segE r1 r3 :: rowT 51 sampE r2 R.all :: r4) := by rw [hB] at hst; exact hst
 refine cE_region rfl (s_cons (op_move r1 rfl (s_cons (op_move (iV (1 + (q : Int))) rfl (s_cons (op_move (iV R.to) rfl (s_cons (op_add (k := .i64) (a := (1 + (q : Int))) (b := R.to) ((1 + (q : Int)) + R.to) rfl rfl (xi64 (by omega) (by omega)) (s_cons (op_add (k := .i64) (a := ((1 + (q : Int)) + R.to)) (b := 5) (((1 + (q : Int)) + R.to) + 5) rfl rfl (xi64 (by omega) (by omega)) (s_cons (op_call Try.call12 (evs_cons (v := r1) rfl (evs_cons (v := nS) rfl (evs_cons (v := (iV 0)) rfl (evs_cons (v := (iV (((1 + (q : Int)) + R.to) + 5))) rfl evs_nil)))) (c_Range (w0 := w12) (v_segs := r1) (segs := r3) (h_segs := (hst.sl 2 rfl)) (v_head := nS) (head := []) (h_head := (Sl.nil sampE _)) (fr := 0) (to := (((1 + (q : Int)) + R.to) + 5)) (hsg := (Row_hF.segs hst 4 rfl)) (hso := hok) (hho := (by simp)) (fr0 := (by omega)) (to0 := (by omega)) (fr1 := (by omega)) (to1 := (by omega)) (hll := (by omega)) (hhl := (by decide)) (hbl := hbst)) ?_))))))))))))
 rintro _ w14 ⟨r13, rfl, hcall⟩
 refine ⟨_, rfl, ?_⟩
 have hst := hst.call hcall
 refine s_cons (op_move (.tuple #[r13, (iV ((rangeW (ds r3) ([]) 0 (((1 + (q : Int)) + R.to) + 5)).2))]) rfl (s_cons (op_extract r13 rfl rfl (s_cons (op_extract (iV ((rangeW (ds r3) ([]) 0 (((1 + (q : Int)) + R.to) + 5)).2)) rfl rfl (s_cons (op_assign r13 rfl (s_cons (op_assign (iV ((rangeW (ds r3) ([]) 0 (((1 + (q : Int)) + R.to) + 5)).2)) rfl (s_nil (then_n (cE_seq (cE_seq ?_)))))))))))))
 obtain ⟨C, hC, gC, eC⟩ := range_cutY (fr := 0) (to := (1 + (q : Int) + R.to + 5)) (by omega) (fun a h => bit4369 h) hR hys (by omega) (by omega) (by omega)
 replace hst : St w0 w14 (rowT 56 winE r13 C :: rowT 56 winE r11 B :: rowT 56 winE r9 A :: rowT 25 segE r1 r3 :: rowT 51 sampE r2 R.all :: r4) := by rw [hC] at hst; exact hst
 obtain ⟨hcut, hcl, hcs⟩ := cut_all (by omega) hR (by omega) rfl eA eB eC
 have hal : R.all.length ≤ 24 := by rw [hR]; exact Nat.le_trans (rowM_all steps values 4369 (by omega)) (by omega)
 refine cE_region rfl (s_cons (op_move (iV ((rangeW (ds r3) ([]) 0 (1 + (q : Int))).2)) rfl (s_cons (op_move (iV ((rangeW (ds r3) ([]) (1 + (q : Int)) (((1 + (q : Int)) + R.to) + 5)).2)) rfl (s_cons (op_add (k := .i64) (a := (rangeW (ds r3) ([]) 0 (1 + (q : Int))).2) (b := (rangeW (ds r3) ([]) (1 + (q : Int)) (((1 + (q : Int)) + R.to) + 5)).2) (((rangeW (ds r3) ([]) 0 (1 + (q : Int))).2) + ((rangeW (ds r3) ([]) (1 + (q : Int)) (((1 + (q : Int)) + R.to) + 5)).2)) rfl rfl (xi64 (by omega) (by omega)) ?_))))))
 refine s_cons (op_move (iV ((rangeW (ds r3) ([]) 0 (((1 + (q : Int)) + R.to) + 5)).2)) rfl (s_cons (op_add (k := .i64) (a := (((rangeW (ds r3) ([]) 0 (1 + (q : Int))).2) + ((rangeW (ds r3) ([]) (1 + (q : Int)) (((1 + (q : Int)) + R.to) + 5)).2))) (b := (rangeW (ds r3) ([]) 0 (((1 + (q : Int)) + R.to) + 5)).2) ((((rangeW (ds r3) ([]) 0 (1 + (q : Int))).2) + ((rangeW (ds r3) ([]) (1 + (q : Int)) (((1 + (q : Int)) + R.to) + 5)).2)) + ((rangeW (ds r3) ([]) 0 (((1 + (q : Int)) + R.to) + 5)).2)) rfl rfl (xi64 (by omega) (by omega)) ?_)))
 refine s_cons (op_neq (k := .i64) (a := ((((rangeW (ds r3) ([]) 0 (1 + (q : Int))).2) + ((rangeW (ds r3) ([]) (1 + (q : Int)) (((1 + (q : Int)) + R.to) + 5)).2)) + ((rangeW (ds r3) ([]) 0 (((1 + (q : Int)) + R.to) + 5)).2))) (b := 0) rfl rfl (s_cons (op_move (.bool (!decide (((((rangeW (ds r3) ([]) 0 (1 + (q : Int))).2) + ((rangeW (ds r3) ([]) (1 + (q : Int)) (((1 + (q : Int)) + R.to) + 5)).2)) + ((rangeW (ds r3) ([]) 0 (((1 + (q : Int)) + R.to) + 5)).2)) = 0))) rfl ?_)))
 refine s_yes 73 rfl (congrArg Value.bool (congrArg (! ·) (show (decide (((((rangeW (ds r3) ([]) 0 (1 + (q : Int))).2) + ((rangeW (ds r3) ([]) (1 + (q : Int)) (((1 + (q : Int)) + R.to) + 5)).2)) + ((rangeW (ds r3) ([]) 0 (((1 + (q : Int)) + R.to) + 5)).2)) = 0)) = true from (decide_eq_true (by omega))))) (op_move r9 rfl (s_yes 73 rfl (congrArg Value.bool (congrArg (! ·) (show (decide (((((rangeW (ds r3) ([]) 0 (1 + (q : Int))).2) + ((rangeW (ds r3) ([]) (1 + (q : Int)) (((1 + (q : Int)) + R.to) + 5)).2)) + ((rangeW (ds r3) ([]) 0 (((1 + (q : Int)) + R.to) + 5)).2)) = 0)) = true from (decide_eq_true (by omega))))) (op_len (E := winE) (xs := A) Try.underlying29 rfl (hst.sl 2 rfl) ?_)))
 refine s_yes 73 rfl (congrArg Value.bool (congrArg (! ·) (show (decide (((((rangeW (ds r3) ([]) 0 (1 + (q : Int))).2) + ((rangeW (ds r3) ([]) (1 + (q : Int)) (((1 + (q : Int)) + R.to) + 5)).2)) + ((rangeW (ds r3) ([]) 0 (((1 + (q : Int)) + R.to) + 5)).2)) = 0)) = true from (decide_eq_true (by omega))))) (op_move r11 rfl (s_yes 73 rfl (congrArg Value.bool (congrArg (! ·) (show (decide (((((rangeW (ds r3) ([]) 0 (1 + (q : Int))).2) + ((rangeW (ds r3) ([]) (1 + (q : Int)) (((1 + (q : Int)) + R.to) + 5)).2)) + ((rangeW (ds r3) ([]) 0 (((1 + (q : Int)) + R.to) + 5)).2)) = 0)) = true from (decide_eq_true (by omega))))) (op_len (E := winE) (xs := B) Try.underlying29 rfl (hst.sl 1 rfl) ?_)))
 refine s_yes 73 rfl (congrArg Value.bool (congrArg (! ·) (show (decide (((((rangeW (ds r3) ([]) 0 (1 + (q : Int))).2) + ((rangeW (ds r3) ([]) (1 + (q : Int)) (((1 + (q : Int)) + R.to) + 5)).2)) + ((rangeW (ds r3) ([]) 0 (((1 + (q : Int)) + R.to) + 5)).2)) = 0)) = true from (decide_eq_true (by omega))))) (op_add (k := .i64) (a := (A.length : Int)) (b := (B.length : Int)) ((A.length : Int) + (B.length : Int)) rfl rfl (xi64 (by omega) (by omega)) ?_)
 refine s_yes 73 rfl (congrArg Value.bool (congrArg (! ·) (show (decide (((((rangeW (ds r3) ([]) 0 (1 + (q : Int))).2) + ((rangeW (ds r3) ([]) (1 + (q : Int)) (((1 + (q : Int)) + R.to) + 5)).2)) + ((rangeW (ds r3) ([]) 0 (((1 + (q : Int)) + R.to) + 5)).2)) = 0)) = true from (decide_eq_true (by omega))))) (op_move r13 rfl (s_yes 73 rfl (congrArg Value.bool (congrArg (! ·) (show (decide (((((rangeW (ds r3) ([]) 0 (1 + (q : Int))).2) + ((rangeW (ds r3) ([]) (1 + (q : Int)) (((1 + (q : Int)) + R.to) + 5)).2)) + ((rangeW (ds r3) ([]) 0 (((1 + (q : Int)) + R.to) + 5)).2)) = 0)) = true from (decide_eq_true (by omega))))) (op_len (E := winE) (xs := C) Try.underlying29 rfl (hst.sl 0 rfl) ?_)))
 refine s_yes 73 rfl (congrArg Value.bool (congrArg (! ·) (show (decide (((((rangeW (ds r3) ([]) 0 (1 + (q : Int))).2) + ((rangeW (ds r3) ([]) (1 + (q : Int)) (((1 + (q : Int)) + R.to) + 5)).2)) + ((rangeW (ds r3) ([]) 0 (((1 + (q : Int)) + R.to) + 5)).2)) = 0)) = true from (decide_eq_true (by omega))))) (op_neq (k := .i64) (a := ((A.length : Int) + (B.length : Int))) (b := (C.length : Int)) rfl rfl ?_)
 refine s_cons (op_pick_f (.bool (!decide (((A.length : Int) + (B.length : Int)) = (C.length : Int)))) (congrArg Value.bool (congrArg (! ·) (show (decide (((((rangeW (ds r3) ([]) 0 (1 + (q : Int))).2) + ((rangeW (ds r3) ([]) (1 + (q : Int)) (((1 + (q : Int)) + R.to) + 5)).2)) + ((rangeW (ds r3) ([]) 0 (((1 + (q : Int)) + R.to) + 5)).2)) = 0)) = true from (decide_eq_true (by omega))))) rfl (s_cons (op_move (.bool (!decide (((A.length : Int) + (B.length : Int)) = (C.length : Int)))) rfl ?_)))
 refine s_yes 83 rfl (congrArg Value.bool (congrArg (! ·) (show (decide (((A.length : Int) + (B.length : Int)) = (C.length : Int))) = true from (decide_eq_true (by omega))))) (op_move r13 rfl (s_yes 83 rfl (congrArg Value.bool (congrArg (! ·) (show (decide (((A.length : Int) + (B.length : Int)) = (C.length : Int))) = true from (decide_eq_true (by omega))))) (op_len (E := winE) (xs := C) Try.underlying29 rfl (hst.sl 0 rfl) ?_)))
 refine s_yes 83 rfl (congrArg Value.bool (congrArg (! ·) (show (decide (((A.length : Int) + (B.length : Int)) = (C.length : Int))) = true from (decide_eq_true (by omega))))) (op_move r2 rfl (s_yes 83 rfl (congrArg Value.bool (congrArg (! ·) (show (decide (((A.length : Int) + (B.length : Int)) = (C.length : Int))) = true from (decide_eq_true (by omega))))) (op_len (E := sampE) (xs := R.all) Try.underlying22 rfl (hst.sl 4 rfl) ?_)))
 refine s_yes 83 rfl (congrArg Value.bool (congrArg (! ·) (show (decide (((A.length : Int) + (B.length : Int)) = (C.length : Int))) = true from (decide_eq_true (by omega))))) (op_neq (k := .i64) (a := (C.length : Int)) (b := (R.all.length : Int)) rfl rfl (s_cons (op_pick_f (.bool (!decide ((C.length : Int) = (R.all.length : Int)))) (congrArg Value.bool (congrArg (! ·) (show (decide (((A.length : Int) + (B.length : Int)) = (C.length : Int))) = true from (decide_eq_true (by omega))))) rfl ?_)))
 refine s_nil (then_n (cE_cond false (congrArg Value.bool (congrArg (! ·) (show (decide ((C.length : Int) = (R.all.length : Int))) = true from (decide_eq_true (by omega))))) (fun h => by cases h) (fun _ => ?_)))
 refine cE_skip (then_n (cE_seq (cE_seq (cE_region rfl (s_cons (op_assign (iV 0) rfl (s_nil (then_n (cE_block (cE_loop (fun (m : Nat) (ρ : Env) (w : World) => ∃ (i : Nat), m = C.length - i ∧ ρ 0 = (iV n) ∧ ρ 1 = v_steps ∧ ρ 2 = v_values ∧ ρ 3 = (iV cut) ∧ ρ 9 = r1 ∧ ρ 10 = r2 ∧ ρ 11 = (iV R.to) ∧ ρ 12 = (iV (1 + (q : Int))) ∧ ρ 13 = r9 ∧ ρ 14 = (iV ((rangeW (ds r3) ([]) 0 (1 + (q : Int))).2)) ∧ ρ 15 = r11 ∧ ρ 16 = (iV ((rangeW (ds r3) ([]) (1 + (q : Int)) (((1 + (q : Int)) + R.to) + 5)).2)) ∧ ρ 17 = r13 ∧ ρ 18 = (iV ((rangeW (ds r3) ([]) 0 (((1 + (q : Int)) + R.to) + 5)).2)) ∧ ρ 19 = (iV (i : Int)) ∧ St w0 w (rowT 56 winE r13 C :: rowT 56 winE r11 B :: rowT 56 winE r9 A :: rowT 25 segE r1 r3 :: rowT 51 sampE r2 R.all :: r4) ∧ (i ≤ C.length)) id _ ⟨0, rfl, rfl, rfl, rfl, rfl, rfl, rfl, rfl, rfl, rfl, rfl, rfl, rfl, rfl, rfl, (congrArg iV (show 0 = _ from by omega)), hst, (by omega)⟩ ?_))))))))))
 rintro m16 ρ17 w18 ⟨i, hm16, q15_0, q15_1, q15_2, q15_3, q15_9, q15_10, q15_11, q15_12, q15_13, q15_14, q15_15, q15_16, q15_17, q15_18, q15_19, hst, hi⟩
 refine cE_seq (cE_seq (cE_region rfl (s_cons (op_move (iV (i : Int)) q15_19 (s_cons (op_move r13 q15_17 (s_cons (op_len (E := winE) (xs := C) Try.underlying29 rfl (hst.sl 0 rfl) (s_cons (op_lss (k := .i64) (a := (i : Int)) (b := (C.length : Int)) rfl rfl (s_nil (then_n ?_))))))))))))
 rcases Bool.eq_false_or_eq_true (decide ((i : Int) < (C.length : Int))) with b19 | b19
 ·have c20 := of_decide_eq_true b19
  refine cE_cond true (congrArg Value.bool b19) (fun _ => ?_) (fun h => by cases h)
  refine cE_skip (then_n (cE_seq (cE_block (cE_seq ?_))))
  rcases Bool.eq_false_or_eq_true (decide ((i : Int) < (A.length : Int))) with b21 | b21
  ·have c22 := of_decide_eq_true b21
   rcases Bool.eq_false_or_eq_true (decide ((A.length : Int) ≤ (i : Int))) with b29 | b29
   ·have c30 := of_decide_eq_true b29
    refine cE_regionL hst [[(19, none)], [(13, none)], [(97, some 1)], [(96, some 0), (98, some 2)], [(99, some 3)], [(17, none), (100, some 4)], [(19, none), (100, some 4)], [(101, some 5), (102, some 6), (100, some 4)], [(103, some 7), (100, some 4)], [(13, none), (100, some 4)], [(19, none), (100, some 4)], [(105, some 9), (106, some 10), (100, some 4)], [(107, some 11), (100, some 4)], [(104, some 8), (108, some 12), (100, some 4)], [(100, some 4), (109, some 13)], [(110, some 14)], [(19, none), (111, some 15)], [(13, none), (111, some 15)], [(113, some 17), (111, some 15)], [(112, some 16), (114, some 18), (111, some 15)], [(115, some 19), (111, some 15)], [(17, none), (116, some 20)], [(19, none), (116, some 20)], [(117, some 21), (118, some 22), (116, some 20)], [(119, some 23), (116, some 20)], [(15, none), (116, some 20)], [(19, none), (116, some 20)], [(13, none), (116, some 20)], [(123, some 27), (116, some 20)], [(122, some 26), (124, some 28), (116, some 20)], [(121, some 25), (125, some 29), (116, some 20)], [(126, some 30), (116, some 20)], [(120, some 24), (127, some 31), (116, some 20)], [(116, some 20), (128, some 32), (111, some 15)], [(111, some 15), (129, some 33)]] [(rEq (iV (i : Int))), (rEq r9), (rEq (iV (A.length : Int))), (rEq (.bool (decide ((i : Int) < (A.length : Int))))), (rEq (.bool (decide ((i : Int) < (A.length : Int))))), (rEq r13), (rEq (iV (i : Int))), (rPt [(iV ((C[i]'(by omega)).Tier)), (iV ((C[i]'(by omega)).Lo)), (iV ((C[i]'(by omega)).Hi)), (iV (((C[i]'(by omega)).Agg).From)), (iV (((C[i]'(by omega)).Agg).Count)), (iV (((C[i]'(by omega)).Agg).Sum)), (iV (((C[i]'(by omega)).Agg).Min)), (iV (((C[i]'(by omega)).Agg).Max)), (iV (((C[i]'(by omega)).Agg).First)), (iV (((C[i]'(by omega)).Agg).Last))]), (rEq (.agg #[(iV ((C[i]'(by omega)).Tier)), (iV ((C[i]'(by omega)).Lo)), (iV ((C[i]'(by omega)).Hi)), (iV (((C[i]'(by omega)).Agg).From)), (iV (((C[i]'(by omega)).Agg).Count)), (iV (((C[i]'(by omega)).Agg).Sum)), (iV (((C[i]'(by omega)).Agg).Min)), (iV (((C[i]'(by omega)).Agg).Max)), (iV (((C[i]'(by omega)).Agg).First)), (iV (((C[i]'(by omega)).Agg).Last))])), (rEq r9), (rEq (iV (i : Int))), (rPt [(iV ((A[i]'(by omega)).Tier)), (iV ((A[i]'(by omega)).Lo)), (iV ((A[i]'(by omega)).Hi)), (iV (((A[i]'(by omega)).Agg).From)), (iV (((A[i]'(by omega)).Agg).Count)), (iV (((A[i]'(by omega)).Agg).Sum)), (iV (((A[i]'(by omega)).Agg).Min)), (iV (((A[i]'(by omega)).Agg).Max)), (iV (((A[i]'(by omega)).Agg).First)), (iV (((A[i]'(by omega)).Agg).Last))]), (rEq (.agg #[(iV ((A[i]'(by omega)).Tier)), (iV ((A[i]'(by omega)).Lo)), (iV ((A[i]'(by omega)).Hi)), (iV (((A[i]'(by omega)).Agg).From)), (iV (((A[i]'(by omega)).Agg).Count)), (iV (((A[i]'(by omega)).Agg).Sum)), (iV (((A[i]'(by omega)).Agg).Min)), (iV (((A[i]'(by omega)).Agg).Max)), (iV (((A[i]'(by omega)).Agg).First)), (iV (((A[i]'(by omega)).Agg).Last))])), (rEq (.bool (!decide ((C[i]'(by omega)) = (A[i]'(by omega)))))), (rEq (.bool (!decide ((C[i]'(by omega)) = (A[i]'(by omega)))))), (rEq (.bool (!decide ((C[i]'(by omega)) = (A[i]'(by omega)))))), (rEq (iV (i : Int))), (rEq r9), (rEq (iV (A.length : Int))), (rEq (.bool (decide ((A.length : Int) ≤ (i : Int))))), (rEq (.bool (decide ((A.length : Int) ≤ (i : Int))))), (rEq r13), (rEq (iV (i : Int))), (rPt [(iV ((C[i]'(by omega)).Tier)), (iV ((C[i]'(by omega)).Lo)), (iV ((C[i]'(by omega)).Hi)), (iV (((C[i]'(by omega)).Agg).From)), (iV (((C[i]'(by omega)).Agg).Count)), (iV (((C[i]'(by omega)).Agg).Sum)), (iV (((C[i]'(by omega)).Agg).Min)), (iV (((C[i]'(by omega)).Agg).Max)), (iV (((C[i]'(by omega)).Agg).First)), (iV (((C[i]'(by omega)).Agg).Last))]), (rEq (.agg #[(iV ((C[i]'(by omega)).Tier)), (iV ((C[i]'(by omega)).Lo)), (iV ((C[i]'(by omega)).Hi)), (iV (((C[i]'(by omega)).Agg).From)), (iV (((C[i]'(by omega)).Agg).Count)), (iV (((C[i]'(by omega)).Agg).Sum)), (iV (((C[i]'(by omega)).Agg).Min)), (iV (((C[i]'(by omega)).Agg).Max)), (iV (((C[i]'(by omega)).Agg).First)), (iV (((C[i]'(by omega)).Agg).Last))])), (rEq r11), (rEq (iV (i : Int))), (rEq r9), (rEq (iV (A.length : Int))), (rEq (iV ((i : Int) - (A.length : Int)))), (rPt [(iV ((B[(Int.toNat ((i : Int) - (A.length : Int)))]'(by omega)).Tier)), (iV ((B[(Int.toNat ((i : Int) - (A.length : Int)))]'(by omega)).Lo)), (iV ((B[(Int.toNat ((i : Int) - (A.length : Int)))]'(by omega)).Hi)), (iV (((B[(Int.toNat ((i : Int) - (A.length : Int)))]'(by omega)).Agg).From)), (iV (((B[(Int.toNat ((i : Int) - (A.length : Int)))]'(by omega)).Agg).Count)), (iV (((B[(Int.toNat ((i : Int) - (A.length : Int)))]'(by omega)).Agg).Sum)), (iV (((B[(Int.toNat ((i : Int) - (A.length : Int)))]'(by omega)).Agg).Min)), (iV (((B[(Int.toNat ((i : Int) - (A.length : Int)))]'(by omega)).Agg).Max)), (iV (((B[(Int.toNat ((i : Int) - (A.length : Int)))]'(by omega)).Agg).First)), (iV (((B[(Int.toNat ((i : Int) - (A.length : Int)))]'(by omega)).Agg).Last))]), (rEq (.agg #[(iV ((B[(Int.toNat ((i : Int) - (A.length : Int)))]'(by omega)).Tier)), (iV ((B[(Int.toNat ((i : Int) - (A.length : Int)))]'(by omega)).Lo)), (iV ((B[(Int.toNat ((i : Int) - (A.length : Int)))]'(by omega)).Hi)), (iV (((B[(Int.toNat ((i : Int) - (A.length : Int)))]'(by omega)).Agg).From)), (iV (((B[(Int.toNat ((i : Int) - (A.length : Int)))]'(by omega)).Agg).Count)), (iV (((B[(Int.toNat ((i : Int) - (A.length : Int)))]'(by omega)).Agg).Sum)), (iV (((B[(Int.toNat ((i : Int) - (A.length : Int)))]'(by omega)).Agg).Min)), (iV (((B[(Int.toNat ((i : Int) - (A.length : Int)))]'(by omega)).Agg).Max)), (iV (((B[(Int.toNat ((i : Int) - (A.length : Int)))]'(by omega)).Agg).First)), (iV (((B[(Int.toNat ((i : Int) - (A.length : Int)))]'(by omega)).Agg).Last))])), (rEq (.bool (!decide ((C[i]'(by omega)) = (B[(Int.toNat ((i : Int) - (A.length : Int)))]'(by omega)))))), (rEq (.bool (!decide ((C[i]'(by omega)) = (B[(Int.toNat ((i : Int) - (A.length : Int)))]'(by omega)))))), (rEq (.bool (!decide ((C[i]'(by omega)) = (B[(Int.toNat ((i : Int) - (A.length : Int)))]'(by omega))))))] (by kernel_rfl) rfl (by kernel_rfl) ⟨sEq, sEq, sEq, sEq, sEq, sEq, sEq, sPt, sEq, sEq, sEq, sPt, sEq, sEq, sEq, sEq, sEq, sEq, sEq, sEq, sEq, sEq, sEq, sPt, sEq, sEq, sEq, sEq, sEq, sEq, sPt, sEq, sEq, sEq, sEq, trivial⟩ ⟨?_, ?_, ?_, ?_, ?_, ?_, ?_, ?_, ?_, ?_, ?_, ?_, ?_, ?_, ?_, ?_, ?_, ?_, ?_, ?_, ?_, ?_, ?_, ?_, ?_, ?_, ?_, ?_, ?_, ?_, ?_, ?_, ?_, ?_, ?_, trivial⟩ ?_
    ·rintro ρ43 w44 hj45 ⟨f19, _⟩
     have hst := hj45.2
     exact go_plain (op_move (iV (i : Int)) (f19.trans q15_19) (kS hj45 rfl))
    ·rintro ρ46 w47 hj48 ⟨f13, _⟩
     have hst := hj48.2
     exact go_plain (op_move r9 (f13.trans q15_13) (kS hj48 rfl))
    ·rintro ρ49 w50 hj51 ⟨f97, _⟩
     have hst := hj51.2
     exact go_plain (op_len (E := winE) (xs := A) Try.underlying29 f97 (hst.sl 2 rfl) (kS hj51 rfl))
    ·rintro ρ52 w53 hj54 ⟨f96, f98, _⟩
     have hst := hj54.2
     exact go_plain (op_lss (k := .i64) (a := (i : Int)) (b := (A.length : Int)) f96 f98 (kS hj54 rfl))
    ·rintro ρ55 w56 hj57 ⟨f99, _⟩
     have hst := hj57.2
     exact go_plain (op_move (.bool (decide ((i : Int) < (A.length : Int)))) f99 (kS hj57 rfl))
    ·rintro ρ58 w59 hj60 ⟨f17, f100, _⟩
     have hst := hj60.2
     exact go_yes 100 rfl (f100.trans (congrArg Value.bool b21)) (op_move r13 (f17.trans q15_17) (kS hj60 rfl))
    ·rintro ρ61 w62 hj63 ⟨f19, f100, _⟩
     have hst := hj63.2
     exact go_yes 100 rfl (f100.trans (congrArg Value.bool b21)) (op_move (iV (i : Int)) (f19.trans q15_19) (kS hj63 rfl))
    ·rintro ρ64 w65 hj66 ⟨f101, f102, f100, _⟩
     have hst := hj66.2
     refine go_yes 100 rfl (f100.trans (congrArg Value.bool b21)) (op_indexAddrN (E := winE) (xs := C) i Try.underlying29 Try.sizeOf56 f101 (hst.sl 0 rfl) f102 (by omega) (by omega) (fun a67 o68 p69 => ?_))
     exact kS hj66 ⟨_, _, rfl, p69⟩
    ·rintro ρ70 w71 hj72 ⟨f103, f100, _⟩
     have hst := hj72.2
     obtain ⟨a73, o74, e75, p76⟩ := f103
     exact go_yes 100 rfl (f100.trans (congrArg Value.bool b21)) (op_loadN (cs := [(iV ((C[i]'(by omega)).Tier)), (iV ((C[i]'(by omega)).Lo)), (iV ((C[i]'(by omega)).Hi)), (iV (((C[i]'(by omega)).Agg).From)), (iV (((C[i]'(by omega)).Agg).Count)), (iV (((C[i]'(by omega)).Agg).Sum)), (iV (((C[i]'(by omega)).Agg).Min)), (iV (((C[i]'(by omega)).Agg).Max)), (iV (((C[i]'(by omega)).Agg).First)), (iV (((C[i]'(by omega)).Agg).Last))]) Try.isAgg56 Try.sizeOf56 e75 (Pt.of p76 rfl) rfl (kS hj72 rfl))
    ·rintro ρ77 w78 hj79 ⟨f13, f100, _⟩
     have hst := hj79.2
     exact go_yes 100 rfl (f100.trans (congrArg Value.bool b21)) (op_move r9 (f13.trans q15_13) (kS hj79 rfl))
    ·rintro ρ80 w81 hj82 ⟨f19, f100, _⟩
     have hst := hj82.2
     exact go_yes 100 rfl (f100.trans (congrArg Value.bool b21)) (op_move (iV (i : Int)) (f19.trans q15_19) (kS hj82 rfl))
    ·rintro ρ83 w84 hj85 ⟨f105, f106, f100, _⟩
     have hst := hj85.2
     refine go_yes 100 rfl (f100.trans (congrArg Value.bool b21)) (op_indexAddrN (E := winE) (xs := A) i Try.underlying29 Try.sizeOf56 f105 (hst.sl 2 rfl) f106 (by omega) (by omega) (fun a86 o87 p88 => ?_))
     exact kS hj85 ⟨_, _, rfl, p88⟩
    ·rintro ρ89 w90 hj91 ⟨f107, f100, _⟩
     have hst := hj91.2
     obtain ⟨a92, o93, e94, p95⟩ := f107
     exact go_yes 100 rfl (f100.trans (congrArg Value.bool b21)) (op_loadN (cs := [(iV ((A[i]'(by omega)).Tier)), (iV ((A[i]'(by omega)).Lo)), (iV ((A[i]'(by omega)).Hi)), (iV (((A[i]'(by omega)).Agg).From)), (iV (((A[i]'(by omega)).Agg).Count)), (iV (((A[i]'(by omega)).Agg).Sum)), (iV (((A[i]'(by omega)).Agg).Min)), (iV (((A[i]'(by omega)).Agg).Max)), (iV (((A[i]'(by omega)).Agg).First)), (iV (((A[i]'(by omega)).Agg).Last))]) Try.isAgg56 Try.sizeOf56 e94 (Pt.of p95 rfl) rfl (kS hj91 rfl))
    ·rintro ρ96 w97 hj98 ⟨f104, f108, f100, _⟩
     have hst := hj98.2
     exact go_yes 100 rfl (f100.trans (congrArg Value.bool b21)) (op_neqG Try.eqGuardType56 (Try.eqWin (C[i]'(by omega)) (A[i]'(by omega)) _) f104 f108 (kS hj98 rfl))
    ·rintro ρ99 w100 hj101 ⟨f100, f109, _⟩
     have hst := hj101.2
     exact go_plain (op_pick_t (.bool (!decide ((C[i]'(by omega)) = (A[i]'(by omega))))) (f100.trans (congrArg Value.bool b21)) f109 (kS hj101 rfl))
    ·rintro ρ102 w103 hj104 ⟨f110, _⟩
     have hst := hj104.2
     exact go_plain (op_move (.bool (!decide ((C[i]'(by omega)) = (A[i]'(by omega))))) f110 (kS hj104 rfl))
    ·rintro ρ105 w106 hj107 ⟨f19, f111, _⟩
     have hst := hj107.2
     exact go_yes 111 rfl (f111.trans (congrArg Value.bool (congrArg (! ·) (show (decide ((C[i]'(by omega)) = (A[i]'(by omega)))) = true from (decide_eq_true (cut_left hcut _ _)))))) (op_move (iV (i : Int)) (f19.trans q15_19) (kS hj107 rfl))
    ·rintro ρ108 w109 hj110 ⟨f13, f111, _⟩
     have hst := hj110.2
     exact go_yes 111 rfl (f111.trans (congrArg Value.bool (congrArg (! ·) (show (decide ((C[i]'(by omega)) = (A[i]'(by omega)))) = true from (decide_eq_true (cut_left hcut _ _)))))) (op_move r9 (f13.trans q15_13) (kS hj110 rfl))
    ·rintro ρ111 w112 hj113 ⟨f113, f111, _⟩
     have hst := hj113.2
     exact go_yes 111 rfl (f111.trans (congrArg Value.bool (congrArg (! ·) (show (decide ((C[i]'(by omega)) = (A[i]'(by omega)))) = true from (decide_eq_true (cut_left hcut _ _)))))) (op_len (E := winE) (xs := A) Try.underlying29 f113 (hst.sl 2 rfl) (kS hj113 rfl))
    ·rintro ρ114 w115 hj116 ⟨f112, f114, f111, _⟩
     have hst := hj116.2
     exact go_yes 111 rfl (f111.trans (congrArg Value.bool (congrArg (! ·) (show (decide ((C[i]'(by omega)) = (A[i]'(by omega)))) = true from (decide_eq_true (cut_left hcut _ _)))))) (op_geq (k := .i64) (a := (i : Int)) (b := (A.length : Int)) f112 f114 (kS hj116 rfl))
    ·rintro ρ117 w118 hj119 ⟨f115, f111, _⟩
     have hst := hj119.2
     exact go_yes 111 rfl (f111.trans (congrArg Value.bool (congrArg (! ·) (show (decide ((C[i]'(by omega)) = (A[i]'(by omega)))) = true from (decide_eq_true (cut_left hcut _ _)))))) (op_move (.bool (decide ((A.length : Int) ≤ (i : Int)))) f115 (kS hj119 rfl))
    ·rintro ρ120 w121 hj122 ⟨f17, f116, _⟩
     have hst := hj122.2
     exact go_yes 116 rfl (f116.trans (congrArg Value.bool b29)) (op_move r13 (f17.trans q15_17) (kS hj122 rfl))
    ·rintro ρ123 w124 hj125 ⟨f19, f116, _⟩
     have hst := hj125.2
     exact go_yes 116 rfl (f116.trans (congrArg Value.bool b29)) (op_move (iV (i : Int)) (f19.trans q15_19) (kS hj125 rfl))
    ·rintro ρ126 w127 hj128 ⟨f117, f118, f116, _⟩
     have hst := hj128.2
     refine go_yes 116 rfl (f116.trans (congrArg Value.bool b29)) (op_indexAddrN (E := winE) (xs := C) i Try.underlying29 Try.sizeOf56 f117 (hst.sl 0 rfl) f118 (by omega) (by omega) (fun a129 o130 p131 => ?_))
     exact kS hj128 ⟨_, _, rfl, p131⟩
    ·rintro ρ132 w133 hj134 ⟨f119, f116, _⟩
     have hst := hj134.2
     obtain ⟨a135, o136, e137, p138⟩ := f119
     exact go_yes 116 rfl (f116.trans (congrArg Value.bool b29)) (op_loadN (cs := [(iV ((C[i]'(by omega)).Tier)), (iV ((C[i]'(by omega)).Lo)), (iV ((C[i]'(by omega)).Hi)), (iV (((C[i]'(by omega)).Agg).From)), (iV (((C[i]'(by omega)).Agg).Count)), (iV (((C[i]'(by omega)).Agg).Sum)), (iV (((C[i]'(by omega)).Agg).Min)), (iV (((C[i]'(by omega)).Agg).Max)), (iV (((C[i]'(by omega)).Agg).First)), (iV (((C[i]'(by omega)).Agg).Last))]) Try.isAgg56 Try.sizeOf56 e137 (Pt.of p138 rfl) rfl (kS hj134 rfl))
    ·rintro ρ139 w140 hj141 ⟨f15, f116, _⟩
     have hst := hj141.2
     exact go_yes 116 rfl (f116.trans (congrArg Value.bool b29)) (op_move r11 (f15.trans q15_15) (kS hj141 rfl))
    ·rintro ρ142 w143 hj144 ⟨f19, f116, _⟩
     have hst := hj144.2
     exact go_yes 116 rfl (f116.trans (congrArg Value.bool b29)) (op_move (iV (i : Int)) (f19.trans q15_19) (kS hj144 rfl))
    ·rintro ρ145 w146 hj147 ⟨f13, f116, _⟩
     have hst := hj147.2
     exact go_yes 116 rfl (f116.trans (congrArg Value.bool b29)) (op_move r9 (f13.trans q15_13) (kS hj147 rfl))
    ·rintro ρ148 w149 hj150 ⟨f123, f116, _⟩
     have hst := hj150.2
     exact go_yes 116 rfl (f116.trans (congrArg Value.bool b29)) (op_len (E := winE) (xs := A) Try.underlying29 f123 (hst.sl 2 rfl) (kS hj150 rfl))
    ·rintro ρ151 w152 hj153 ⟨f122, f124, f116, _⟩
     have hst := hj153.2
     exact go_yes 116 rfl (f116.trans (congrArg Value.bool b29)) (op_sub (k := .i64) (a := (i : Int)) (b := (A.length : Int)) ((i : Int) - (A.length : Int)) f122 f124 (xi64 (by omega) (by omega)) (kS hj153 rfl))
    ·rintro ρ154 w155 hj156 ⟨f121, f125, f116, _⟩
     have hst := hj156.2
     refine go_yes 116 rfl (f116.trans (congrArg Value.bool b29)) (op_indexAddrN (E := winE) (xs := B) (Int.toNat ((i : Int) - (A.length : Int))) Try.underlying29 Try.sizeOf56 f121 (hst.sl 1 rfl) f125 (by omega) (by omega) (fun a157 o158 p159 => ?_))
     exact kS hj156 ⟨_, _, rfl, p159⟩
    ·rintro ρ160 w161 hj162 ⟨f126, f116, _⟩
     have hst := hj162.2
     obtain ⟨a163, o164, e165, p166⟩ := f126
     exact go_yes 116 rfl (f116.trans (congrArg Value.bool b29)) (op_loadN (cs := [(iV ((B[(Int.toNat ((i : Int) - (A.length : Int)))]'(by omega)).Tier)), (iV ((B[(Int.toNat ((i : Int) - (A.length : Int)))]'(by omega)).Lo)), (iV ((B[(Int.toNat ((i : Int) - (A.length : Int)))]'(by omega)).Hi)), (iV (((B[(Int.toNat ((i : Int) - (A.length : Int)))]'(by omega)).Agg).From)), (iV (((B[(Int.toNat ((i : Int) - (A.length : Int)))]'(by omega)).Agg).Count)), (iV (((B[(Int.toNat ((i : Int) - (A.length : Int)))]'(by omega)).Agg).Sum)), (iV (((B[(Int.toNat ((i : Int) - (A.length : Int)))]'(by omega)).Agg).Min)), (iV (((B[(Int.toNat ((i : Int) - (A.length : Int)))]'(by omega)).Agg).Max)), (iV (((B[(Int.toNat ((i : Int) - (A.length : Int)))]'(by omega)).Agg).First)), (iV (((B[(Int.toNat ((i : Int) - (A.length : Int)))]'(by omega)).Agg).Last))]) Try.isAgg56 Try.sizeOf56 e165 (Pt.of p166 rfl) rfl (kS hj162 rfl))
    ·rintro ρ167 w168 hj169 ⟨f120, f127, f116, _⟩
     have hst := hj169.2
     exact go_yes 116 rfl (f116.trans (congrArg Value.bool b29)) (op_neqG Try.eqGuardType56 (Try.eqWin (C[i]'(by omega)) (B[(Int.toNat ((i : Int) - (A.length : Int)))]'(by omega)) _) f120 f127 (kS hj169 rfl))
    ·rintro ρ170 w171 hj172 ⟨f116, f128, f111, _⟩
     have hst := hj172.2
     exact go_yes 111 rfl (f111.trans (congrArg Value.bool (congrArg (! ·) (show (decide ((C[i]'(by omega)) = (A[i]'(by omega)))) = true from (decide_eq_true (cut_left hcut _ _)))))) (op_pick_t (.bool (!decide ((C[i]'(by omega)) = (B[(Int.toNat ((i : Int) - (A.length : Int)))]'(by omega))))) (f116.trans (congrArg Value.bool b29)) f128 (kS hj172 rfl))
    ·rintro ρ173 w174 hj175 ⟨f111, f129, _⟩
     have hst := hj175.2
     exact go_plain (op_pick_f (.bool (!decide ((C[i]'(by omega)) = (B[(Int.toNat ((i : Int) - (A.length : Int)))]'(by omega))))) (f111.trans (congrArg Value.bool (congrArg (! ·) (show (decide ((C[i]'(by omega)) = (A[i]'(by omega)))) = true from (decide_eq_true (cut_left hcut _ _)))))) f129 (kS hj175 rfl))
    intro ρ176 w177 hbw177 hst hRw177 hkw177
    have uw177_0 := (hkw177 0 rfl).trans q15_0
    have uw177_1 := (hkw177 1 rfl).trans q15_1
    have uw177_2 := (hkw177 2 rfl).trans q15_2
    have uw177_3 := (hkw177 3 rfl).trans q15_3
    have uw177_9 := (hkw177 9 rfl).trans q15_9
    have uw177_10 := (hkw177 10 rfl).trans q15_10
    have uw177_11 := (hkw177 11 rfl).trans q15_11
    have uw177_12 := (hkw177 12 rfl).trans q15_12
    have uw177_13 := (hkw177 13 rfl).trans q15_13
    have uw177_14 := (hkw177 14 rfl).trans q15_14
    have uw177_15 := (hkw177 15 rfl).trans q15_15
    have uw177_16 := (hkw177 16 rfl).trans q15_16
    have uw177_17 := (hkw177 17 rfl).trans q15_17
    have uw177_18 := (hkw177 18 rfl).trans q15_18
    have uw177_19 := (hkw177 19 rfl).trans q15_19
    have uw177_130 : ρ176 130 = (.bool (!decide ((C[i]'(by omega)) = (B[(Int.toNat ((i : Int) - (A.length : Int)))]'(by omega))))) := hRw177 34 130 rfl
    refine then_n (cE_cond false (uw177_130.trans (congrArg Value.bool (congrArg (! ·) (show (decide ((C[i]'(by omega)) = (B[(Int.toNat ((i : Int) - (A.length : Int)))]'(by omega)))) = true from (decide_eq_true (cut_right hcut (by omega) _ _ (by omega))))))) (fun h => by cases h) (fun _ => ?_))
    refine cE_skip (block_n (then_n (cE_region rfl (s_cons (op_move (iV (i : Int)) uw177_19 (s_cons (op_add (k := .i64) (a := (i : Int)) (b := 1) ((i : Int) + 1) rfl rfl (xi64 (by omega) (by omega)) (s_cons (op_assign (iV ((i : Int) + 1)) rfl (s_nil (then_n ?_)))))))))))
    exact ⟨_, ⟨(i + 1), rfl, uw177_0, uw177_1, uw177_2, uw177_3, uw177_9, uw177_10, uw177_11, uw177_12, uw177_13, uw177_14, uw177_15, uw177_16, uw177_17, uw177_18, (congrArg iV (show ((i : Int) + 1) = _ from by omega)), hst, (by omega)⟩, (by simp only [id]; omega)⟩
   have c178 := of_decide_eq_false b29
   refine cE_regionL hst [[(19, none)], [(13, none)], [(97, some 1)], [(96, some 0), (98, some 2)], [(99, some 3)], [(17, none), (100, some 4)], [(19, none), (100, some 4)], [(101, some 5), (102, some 6), (100, some 4)], [(103, some 7), (100, some 4)], [(13, none), (100, some 4)], [(19, none), (100, some 4)], [(105, some 9), (106, some 10), (100, some 4)], [(107, some 11), (100, some 4)], [(104, some 8), (108, some 12), (100, some 4)], [(100, some 4), (109, some 13)], [(110, some 14)], [(19, none), (111, some 15)], [(13, none), (111, some 15)], [(113, some 17), (111, some 15)], [(112, some 16), (114, some 18), (111, some 15)], [(115, some 19), (111, some 15)], [(17, none), (116, some 20)], [(19, none), (116, some 20)], [(117, some 21), (118, some 22), (116, some 20)], [(119, some 23), (116, some 20)], [(15, none), (116, some 20)], [(19, none), (116, some 20)], [(13, none), (116, some 20)], [(123, some 27), (116, some 20)], [(122, some 26), (124, some 28), (116, some 20)], [(121, some 25), (125, some 29), (116, some 20)], [(126, some 30), (116, some 20)], [(120, some 24), (127, some 31), (116, some 20)], [(116, some 20), (128, some 32), (111, some 15)], [(111, some 15), (129, some 33)]] [(rEq (iV (i : Int))), (rEq r9), (rEq (iV (A.length : Int))), (rEq (.bool (decide ((i : Int) < (A.length : Int))))), (rEq (.bool (decide ((i : Int) < (A.length : Int))))), (rEq r13), (rEq (iV (i : Int))), (rPt [(iV ((C[i]'(by omega)).Tier)), (iV ((C[i]'(by omega)).Lo)), (iV ((C[i]'(by omega)).Hi)), (iV (((C[i]'(by omega)).Agg).From)), (iV (((C[i]'(by omega)).Agg).Count)), (iV (((C[i]'(by omega)).Agg).Sum)), (iV (((C[i]'(by omega)).Agg).Min)), (iV (((C[i]'(by omega)).Agg).Max)), (iV (((C[i]'(by omega)).Agg).First)), (iV (((C[i]'(by omega)).Agg).Last))]), (rEq (.agg #[(iV ((C[i]'(by omega)).Tier)), (iV ((C[i]'(by omega)).Lo)), (iV ((C[i]'(by omega)).Hi)), (iV (((C[i]'(by omega)).Agg).From)), (iV (((C[i]'(by omega)).Agg).Count)), (iV (((C[i]'(by omega)).Agg).Sum)), (iV (((C[i]'(by omega)).Agg).Min)), (iV (((C[i]'(by omega)).Agg).Max)), (iV (((C[i]'(by omega)).Agg).First)), (iV (((C[i]'(by omega)).Agg).Last))])), (rEq r9), (rEq (iV (i : Int))), (rPt [(iV ((A[i]'(by omega)).Tier)), (iV ((A[i]'(by omega)).Lo)), (iV ((A[i]'(by omega)).Hi)), (iV (((A[i]'(by omega)).Agg).From)), (iV (((A[i]'(by omega)).Agg).Count)), (iV (((A[i]'(by omega)).Agg).Sum)), (iV (((A[i]'(by omega)).Agg).Min)), (iV (((A[i]'(by omega)).Agg).Max)), (iV (((A[i]'(by omega)).Agg).First)), (iV (((A[i]'(by omega)).Agg).Last))]), (rEq (.agg #[(iV ((A[i]'(by omega)).Tier)), (iV ((A[i]'(by omega)).Lo)), (iV ((A[i]'(by omega)).Hi)), (iV (((A[i]'(by omega)).Agg).From)), (iV (((A[i]'(by omega)).Agg).Count)), (iV (((A[i]'(by omega)).Agg).Sum)), (iV (((A[i]'(by omega)).Agg).Min)), (iV (((A[i]'(by omega)).Agg).Max)), (iV (((A[i]'(by omega)).Agg).First)), (iV (((A[i]'(by omega)).Agg).Last))])), (rEq (.bool (!decide ((C[i]'(by omega)) = (A[i]'(by omega)))))), (rEq (.bool (!decide ((C[i]'(by omega)) = (A[i]'(by omega)))))), (rEq (.bool (!decide ((C[i]'(by omega)) = (A[i]'(by omega)))))), (rEq (iV (i : Int))), (rEq r9), (rEq (iV (A.length : Int))), (rEq (.bool (decide ((A.length : Int) ≤ (i : Int))))), (rEq (.bool (decide ((A.length : Int) ≤ (i : Int))))), (rEq undef), (rEq undef), (rEq undef), (rEq undef), (rEq undef), (rEq undef), (rEq undef), (rEq undef), (rEq undef), (rEq undef), (rEq undef), (rEq undef), (rEq (.bool false)), (rEq (.bool false))] (by kernel_rfl) rfl (by kernel_rfl) ⟨sEq, sEq, sEq, sEq, sEq, sEq, sEq, sPt, sEq, sEq, sEq, sPt, sEq, sEq, sEq, sEq, sEq, sEq, sEq, sEq, sEq, sEq, sEq, sEq, sEq, sEq, sEq, sEq, sEq, sEq, sEq, sEq, sEq, sEq, sEq, trivial⟩ ⟨?_, ?_, ?_, ?_, ?_, ?_, ?_, ?_, ?_, ?_, ?_, ?_, ?_, ?_, ?_, ?_, ?_, ?_, ?_, ?_, ?_, ?_, ?_, ?_, ?_, ?_, ?_, ?_, ?_, ?_, ?_, ?_, ?_, ?_, ?_, trivial⟩ ?_
   ·rintro ρ185 w186 hj187 ⟨f19, _⟩
    have hst := hj187.2
    exact go_plain (op_move (iV (i : Int)) (f19.trans q15_19) (kS hj187 rfl))
   ·rintro ρ188 w189 hj190 ⟨f13, _⟩
    have hst := hj190.2
    exact go_plain (op_move r9 (f13.trans q15_13) (kS hj190 rfl))
   ·rintro ρ191 w192 hj193 ⟨f97, _⟩
    have hst := hj193.2
    exact go_plain (op_len (E := winE) (xs := A) Try.underlying29 f97 (hst.sl 2 rfl) (kS hj193 rfl))
   ·rintro ρ194 w195 hj196 ⟨f96, f98, _⟩
    have hst := hj196.2
    exact go_plain (op_lss (k := .i64) (a := (i : Int)) (b := (A.length : Int)) f96 f98 (kS hj196 rfl))
   ·rintro ρ197 w198 hj199 ⟨f99, _⟩
    have hst := hj199.2
    exact go_plain (op_move (.bool (decide ((i : Int) < (A.length : Int)))) f99 (kS hj199 rfl))
   ·rintro ρ200 w201 hj202 ⟨f17, f100, _⟩
    have hst := hj202.2
    exact go_yes 100 rfl (f100.trans (congrArg Value.bool b21)) (op_move r13 (f17.trans q15_17) (kS hj202 rfl))
   ·rintro ρ203 w204 hj205 ⟨f19, f100, _⟩
    have hst := hj205.2
    exact go_yes 100 rfl (f100.trans (congrArg Value.bool b21)) (op_move (iV (i : Int)) (f19.trans q15_19) (kS hj205 rfl))
   ·rintro ρ206 w207 hj208 ⟨f101, f102, f100, _⟩
    have hst := hj208.2
    refine go_yes 100 rfl (f100.trans (congrArg Value.bool b21)) (op_indexAddrN (E := winE) (xs := C) i Try.underlying29 Try.sizeOf56 f101 (hst.sl 0 rfl) f102 (by omega) (by omega) (fun a209 o210 p211 => ?_))
    exact kS hj208 ⟨_, _, rfl, p211⟩
   ·rintro ρ212 w213 hj214 ⟨f103, f100, _⟩
    have hst := hj214.2
    obtain ⟨a215, o216, e217, p218⟩ := f103
    exact go_yes 100 rfl (f100.trans (congrArg Value.bool b21)) (op_loadN (cs := [(iV ((C[i]'(by omega)).Tier)), (iV ((C[i]'(by omega)).Lo)), (iV ((C[i]'(by omega)).Hi)), (iV (((C[i]'(by omega)).Agg).From)), (iV (((C[i]'(by omega)).Agg).Count)), (iV (((C[i]'(by omega)).Agg).Sum)), (iV (((C[i]'(by omega)).Agg).Min)), (iV (((C[i]'(by omega)).Agg).Max)), (iV (((C[i]'(by omega)).Agg).First)), (iV (((C[i]'(by omega)).Agg).Last))]) Try.isAgg56 Try.sizeOf56 e217 (Pt.of p218 rfl) rfl (kS hj214 rfl))
   ·rintro ρ219 w220 hj221 ⟨f13, f100, _⟩
    have hst := hj221.2
    exact go_yes 100 rfl (f100.trans (congrArg Value.bool b21)) (op_move r9 (f13.trans q15_13) (kS hj221 rfl))
   ·rintro ρ222 w223 hj224 ⟨f19, f100, _⟩
    have hst := hj224.2
    exact go_yes 100 rfl (f100.trans (congrArg Value.bool b21)) (op_move (iV (i : Int)) (f19.trans q15_19) (kS hj224 rfl))
   ·rintro ρ225 w226 hj227 ⟨f105, f106, f100, _⟩
    have hst := hj227.2
    refine go_yes 100 rfl (f100.trans (congrArg Value.bool b21)) (op_indexAddrN (E := winE) (xs := A) i Try.underlying29 Try.sizeOf56 f105 (hst.sl 2 rfl) f106 (by omega) (by omega) (fun a228 o229 p230 => ?_))
    exact kS hj227 ⟨_, _, rfl, p230⟩
   ·rintro ρ231 w232 hj233 ⟨f107, f100, _⟩
    have hst := hj233.2
    obtain ⟨a234, o235, e236, p237⟩ := f107
    exact go_yes 100 rfl (f100.trans (congrArg Value.bool b21)) (op_loadN (cs := [(iV ((A[i]'(by omega)).Tier)), (iV ((A[i]'(by omega)).Lo)), (iV ((A[i]'(by omega)).Hi)), (iV (((A[i]'(by omega)).Agg).From)), (iV (((A[i]'(by omega)).Agg).Count)), (iV (((A[i]'(by omega)).Agg).Sum)), (iV (((A[i]'(by omega)).Agg).Min)), (iV (((A[i]'(by omega)).Agg).Max)), (iV (((A[i]'(by omega)).Agg).First)), (iV (((A[i]'(by omega)).Agg).Last))]) Try.isAgg56 Try.sizeOf56 e236 (Pt.of p237 rfl) rfl (kS hj233 rfl))
   ·rintro ρ238 w239 hj240 ⟨f104, f108, f100, _⟩
    have hst := hj240.2
    exact go_yes 100 rfl (f100.trans (congrArg Value.bool b21)) (op_neqG Try.eqGuardType56 (Try.eqWin (C[i]'(by omega)) (A[i]'(by omega)) _) f104 f108 (kS hj240 rfl))
   ·rintro ρ241 w242 hj243 ⟨f100, f109, _⟩
    have hst := hj243.2
    exact go_plain (op_pick_t (.bool (!decide ((C[i]'(by omega)) = (A[i]'(by omega))))) (f100.trans (congrArg Value.bool b21)) f109 (kS hj243 rfl))
   ·rintro ρ244 w245 hj246 ⟨f110, _⟩
    have hst := hj246.2
    exact go_plain (op_move (.bool (!decide ((C[i]'(by omega)) = (A[i]'(by omega))))) f110 (kS hj246 rfl))
   ·rintro ρ247 w248 hj249 ⟨f19, f111, _⟩
    have hst := hj249.2
    exact go_yes 111 rfl (f111.trans (congrArg Value.bool (congrArg (! ·) (show (decide ((C[i]'(by omega)) = (A[i]'(by omega)))) = true from (decide_eq_true (cut_left hcut _ _)))))) (op_move (iV (i : Int)) (f19.trans q15_19) (kS hj249 rfl))
   ·rintro ρ250 w251 hj252 ⟨f13, f111, _⟩
    have hst := hj252.2
    exact go_yes 111 rfl (f111.trans (congrArg Value.bool (congrArg (! ·) (show (decide ((C[i]'(by omega)) = (A[i]'(by omega)))) = true from (decide_eq_true (cut_left hcut _ _)))))) (op_move r9 (f13.trans q15_13) (kS hj252 rfl))
   ·rintro ρ253 w254 hj255 ⟨f113, f111, _⟩
    have hst := hj255.2
    exact go_yes 111 rfl (f111.trans (congrArg Value.bool (congrArg (! ·) (show (decide ((C[i]'(by omega)) = (A[i]'(by omega)))) = true from (decide_eq_true (cut_left hcut _ _)))))) (op_len (E := winE) (xs := A) Try.underlying29 f113 (hst.sl 2 rfl) (kS hj255 rfl))
   ·rintro ρ256 w257 hj258 ⟨f112, f114, f111, _⟩
    have hst := hj258.2
    exact go_yes 111 rfl (f111.trans (congrArg Value.bool (congrArg (! ·) (show (decide ((C[i]'(by omega)) = (A[i]'(by omega)))) = true from (decide_eq_true (cut_left hcut _ _)))))) (op_geq (k := .i64) (a := (i : Int)) (b := (A.length : Int)) f112 f114 (kS hj258 rfl))
   ·rintro ρ259 w260 hj261 ⟨f115, f111, _⟩
    have hst := hj261.2
    exact go_yes 111 rfl (f111.trans (congrArg Value.bool (congrArg (! ·) (show (decide ((C[i]'(by omega)) = (A[i]'(by omega)))) = true from (decide_eq_true (cut_left hcut _ _)))))) (op_move (.bool (decide ((A.length : Int) ≤ (i : Int)))) f115 (kS hj261 rfl))
   ·rintro ρ262 w263 hj264 ⟨f17, f116, _⟩
    have hst := hj264.2
    exact go_no 116 rfl (f116.trans (congrArg Value.bool b29)) (kS hj264 rfl)
   ·rintro ρ265 w266 hj267 ⟨f19, f116, _⟩
    have hst := hj267.2
    exact go_no 116 rfl (f116.trans (congrArg Value.bool b29)) (kS hj267 rfl)
   ·rintro ρ268 w269 hj270 ⟨f117, f118, f116, _⟩
    have hst := hj270.2
    exact go_no 116 rfl (f116.trans (congrArg Value.bool b29)) (kS hj270 rfl)
   ·rintro ρ271 w272 hj273 ⟨f119, f116, _⟩
    have hst := hj273.2
    exact go_no 116 rfl (f116.trans (congrArg Value.bool b29)) (kS hj273 rfl)
   ·rintro ρ274 w275 hj276 ⟨f15, f116, _⟩
    have hst := hj276.2
    exact go_no 116 rfl (f116.trans (congrArg Value.bool b29)) (kS hj276 rfl)
   ·rintro ρ277 w278 hj279 ⟨f19, f116, _⟩
    have hst := hj279.2
    exact go_no 116 rfl (f116.trans (congrArg Value.bool b29)) (kS hj279 rfl)
   ·rintro ρ280 w281 hj282 ⟨f13, f116, _⟩
    have hst := hj282.2
    exact go_no 116 rfl (f116.trans (congrArg Value.bool b29)) (kS hj282 rfl)
   ·rintro ρ283 w284 hj285 ⟨f123, f116, _⟩
    have hst := hj285.2
    exact go_no 116 rfl (f116.trans (congrArg Value.bool b29)) (kS hj285 rfl)
   ·rintro ρ286 w287 hj288 ⟨f122, f124, f116, _⟩
    have hst := hj288.2
    exact go_no 116 rfl (f116.trans (congrArg Value.bool b29)) (kS hj288 rfl)
   ·rintro ρ289 w290 hj291 ⟨f121, f125, f116, _⟩
    have hst := hj291.2
    exact go_no 116 rfl (f116.trans (congrArg Value.bool b29)) (kS hj291 rfl)
   ·rintro ρ292 w293 hj294 ⟨f126, f116, _⟩
    have hst := hj294.2
    exact go_no 116 rfl (f116.trans (congrArg Value.bool b29)) (kS hj294 rfl)
   ·rintro ρ295 w296 hj297 ⟨f120, f127, f116, _⟩
    have hst := hj297.2
    exact go_no 116 rfl (f116.trans (congrArg Value.bool b29)) (kS hj297 rfl)
   ·rintro ρ298 w299 hj300 ⟨f116, f128, f111, _⟩
    have hst := hj300.2
    exact go_yes 111 rfl (f111.trans (congrArg Value.bool (congrArg (! ·) (show (decide ((C[i]'(by omega)) = (A[i]'(by omega)))) = true from (decide_eq_true (cut_left hcut _ _)))))) (op_pick_f (.bool false) (f116.trans (congrArg Value.bool b29)) rfl (kS hj300 rfl))
   ·rintro ρ301 w302 hj303 ⟨f111, f129, _⟩
    have hst := hj303.2
    exact go_plain (op_pick_f (.bool false) (f111.trans (congrArg Value.bool (congrArg (! ·) (show (decide ((C[i]'(by omega)) = (A[i]'(by omega)))) = true from (decide_eq_true (cut_left hcut _ _)))))) f129 (kS hj303 rfl))
   intro ρ304 w305 hbw305 hst hRw305 hkw305
   have uw305_0 := (hkw305 0 rfl).trans q15_0
   have uw305_1 := (hkw305 1 rfl).trans q15_1
   have uw305_2 := (hkw305 2 rfl).trans q15_2
   have uw305_3 := (hkw305 3 rfl).trans q15_3
   have uw305_9 := (hkw305 9 rfl).trans q15_9
   have uw305_10 := (hkw305 10 rfl).trans q15_10
   have uw305_11 := (hkw305 11 rfl).trans q15_11
   have uw305_12 := (hkw305 12 rfl).trans q15_12
   have uw305_13 := (hkw305 13 rfl).trans q15_13
   have uw305_14 := (hkw305 14 rfl).trans q15_14
   have uw305_15 := (hkw305 15 rfl).trans q15_15
   have uw305_16 := (hkw305 16 rfl).trans q15_16
   have uw305_17 := (hkw305 17 rfl).trans q15_17
   have uw305_18 := (hkw305 18 rfl).trans q15_18
   have uw305_19 := (hkw305 19 rfl).trans q15_19
   have uw305_130 : ρ304 130 = (.bool false) := hRw305 34 130 rfl
   refine then_n (cE_cond false uw305_130 (fun h => by cases h) (fun _ => ?_))
   refine cE_skip (block_n (then_n (cE_region rfl (s_cons (op_move (iV (i : Int)) uw305_19 (s_cons (op_add (k := .i64) (a := (i : Int)) (b := 1) ((i : Int) + 1) rfl rfl (xi64 (by omega) (by omega)) (s_cons (op_assign (iV ((i : Int) + 1)) rfl (s_nil (then_n ?_)))))))))))
   exact ⟨_, ⟨(i + 1), rfl, uw305_0, uw305_1, uw305_2, uw305_3, uw305_9, uw305_10, uw305_11, uw305_12, uw305_13, uw305_14, uw305_15, uw305_16, uw305_17, uw305_18, (congrArg iV (show ((i : Int) + 1) = _ from by omega)), hst, (by omega)⟩, (by simp only [id]; omega)⟩
  have c306 := of_decide_eq_false b21
  rcases Bool.eq_false_or_eq_true (decide ((A.length : Int) ≤ (i : Int))) with b307 | b307
  ·have c308 := of_decide_eq_true b307
   refine cE_regionL hst [[(19, none)], [(13, none)], [(97, some 1)], [(96, some 0), (98, some 2)], [(99, some 3)], [(17, none), (100, some 4)], [(19, none), (100, some 4)], [(101, some 5), (102, some 6), (100, some 4)], [(103, some 7), (100, some 4)], [(13, none), (100, some 4)], [(19, none), (100, some 4)], [(105, some 9), (106, some 10), (100, some 4)], [(107, some 11), (100, some 4)], [(104, some 8), (108, some 12), (100, some 4)], [(100, some 4), (109, some 13)], [(110, some 14)], [(19, none), (111, some 15)], [(13, none), (111, some 15)], [(113, some 17), (111, some 15)], [(112, some 16), (114, some 18), (111, some 15)], [(115, some 19), (111, some 15)], [(17, none), (116, some 20)], [(19, none), (116, some 20)], [(117, some 21), (118, some 22), (116, some 20)], [(119, some 23), (116, some 20)], [(15, none), (116, some 20)], [(19, none), (116, some 20)], [(13, none), (116, some 20)], [(123, some 27), (116, some 20)], [(122, some 26), (124, some 28), (116, some 20)], [(121, some 25), (125, some 29), (116, some 20)], [(126, some 30), (116, some 20)], [(120, some 24), (127, some 31), (116, some 20)], [(116, some 20), (128, some 32), (111, some 15)], [(111, some 15), (129, some 33)]] [(rEq (iV (i : Int))), (rEq r9), (rEq (iV (A.length : Int))), (rEq (.bool (decide ((i : Int) < (A.length : Int))))), (rEq (.bool (decide ((i : Int) < (A.length : Int))))), (rEq undef), (rEq undef), (rEq undef), (rEq undef), (rEq undef), (rEq undef), (rEq undef), (rEq undef), (rEq undef), (rEq (.bool false)), (rEq (.bool false)), (rEq (iV (i : Int))), (rEq r9), (rEq (iV (A.length : Int))), (rEq (.bool (decide ((A.length : Int) ≤ (i : Int))))), (rEq (.bool (decide ((A.length : Int) ≤ (i : Int))))), (rEq r13), (rEq (iV (i : Int))), (rPt [(iV ((C[i]'(by omega)).Tier)), (iV ((C[i]'(by omega)).Lo)), (iV ((C[i]'(by omega)).Hi)), (iV (((C[i]'(by omega)).Agg).From)), (iV (((C[i]'(by omega)).Agg).Count)), (iV (((C[i]'(by omega)).Agg).Sum)), (iV (((C[i]'(by omega)).Agg).Min)), (iV (((C[i]'(by omega)).Agg).Max)), (iV (((C[i]'(by omega)).Agg).First)), (iV (((C[i]'(by omega)).Agg).Last))]), (rEq (.agg #[(iV ((C[i]'(by omega)).Tier)), (iV ((C[i]'(by omega)).Lo)), (iV ((C[i]'(by omega)).Hi)), (iV (((C[i]'(by omega)).Agg).From)), (iV (((C[i]'(by omega)).Agg).Count)), (iV (((C[i]'(by omega)).Agg).Sum)), (iV (((C[i]'(by omega)).Agg).Min)), (iV (((C[i]'(by omega)).Agg).Max)), (iV (((C[i]'(by omega)).Agg).First)), (iV (((C[i]'(by omega)).Agg).Last))])), (rEq r11), (rEq (iV (i : Int))), (rEq r9), (rEq (iV (A.length : Int))), (rEq (iV ((i : Int) - (A.length : Int)))), (rPt [(iV ((B[(Int.toNat ((i : Int) - (A.length : Int)))]'(by omega)).Tier)), (iV ((B[(Int.toNat ((i : Int) - (A.length : Int)))]'(by omega)).Lo)), (iV ((B[(Int.toNat ((i : Int) - (A.length : Int)))]'(by omega)).Hi)), (iV (((B[(Int.toNat ((i : Int) - (A.length : Int)))]'(by omega)).Agg).From)), (iV (((B[(Int.toNat ((i : Int) - (A.length : Int)))]'(by omega)).Agg).Count)), (iV (((B[(Int.toNat ((i : Int) - (A.length : Int)))]'(by omega)).Agg).Sum)), (iV (((B[(Int.toNat ((i : Int) - (A.length : Int)))]'(by omega)).Agg).Min)), (iV (((B[(Int.toNat ((i : Int) - (A.length : Int)))]'(by omega)).Agg).Max)), (iV (((B[(Int.toNat ((i : Int) - (A.length : Int)))]'(by omega)).Agg).First)), (iV (((B[(Int.toNat ((i : Int) - (A.length : Int)))]'(by omega)).Agg).Last))]), (rEq (.agg #[(iV ((B[(Int.toNat ((i : Int) - (A.length : Int)))]'(by omega)).Tier)), (iV ((B[(Int.toNat ((i : Int) - (A.length : Int)))]'(by omega)).Lo)), (iV ((B[(Int.toNat ((i : Int) - (A.length : Int)))]'(by omega)).Hi)), (iV (((B[(Int.toNat ((i : Int) - (A.length : Int)))]'(by omega)).Agg).From)), (iV (((B[(Int.toNat ((i : Int) - (A.length : Int)))]'(by omega)).Agg).Count)), (iV (((B[(Int.toNat ((i : Int) - (A.length : Int)))]'(by omega)).Agg).Sum)), (iV (((B[(Int.toNat ((i : Int) - (A.length : Int)))]'(by omega)).Agg).Min)), (iV (((B[(Int.toNat ((i : Int) - (A.length : Int)))]'(by omega)).Agg).Max)), (iV (((B[(Int.toNat ((i : Int) - (A.length : Int)))]'(by omega)).Agg).First)), (iV (((B[(Int.toNat ((i : Int) - (A.length : Int)))]'(by omega)).Agg).Last))])), (rEq (.bool (!decide ((C[i]'(by omega)) = (B[(Int.toNat ((i : Int) - (A.length : Int)))]'(by omega)))))), (rEq (.bool (!decide ((C[i]'(by omega)) = (B[(Int.toNat ((i : Int) - (A.length : Int)))]'(by omega)))))), (rEq (.bool (!decide ((C[i]'(by omega)) = (B[(Int.toNat ((i : Int) - (A.length : Int)))]'(by omega))))))] (by kernel_rfl) rfl (by kernel_rfl) ⟨sEq, sEq, sEq, sEq, sEq, sEq, sEq, sEq, sEq, sEq, sEq, sEq, sEq, sEq, sEq, sEq, sEq, sEq, sEq, sEq, sEq, sEq, sEq, sPt, sEq, sEq, sEq, sEq, sEq, sEq, sPt, sEq, sEq, sEq, sEq, trivial⟩ ⟨?_, ?_, ?_, ?_, ?_, ?_, ?_, ?_, ?_, ?_, ?_, ?_, ?_, ?_, ?_, ?_, ?_, ?_, ?_, ?_, ?_, ?_, ?_, ?_, ?_, ?_, ?_, ?_, ?_, ?_, ?_, ?_, ?_, ?_, ?_, trivial⟩ ?_
   ·rintro ρ315 w316 hj317 ⟨f19, _⟩
    have hst := hj317.2
    exact go_plain (op_move (iV (i : Int)) (f19.trans q15_19) (kS hj317 rfl))
   ·rintro ρ318 w319 hj320 ⟨f13, _⟩
    have hst := hj320.2
    exact go_plain (op_move r9 (f13.trans q15_13) (kS hj320 rfl))
   ·rintro ρ321 w322 hj323 ⟨f97, _⟩
    have hst := hj323.2
    exact go_plain (op_len (E := winE) (xs := A) Try.underlying29 f97 (hst.sl 2 rfl) (kS hj323 rfl))
   ·rintro ρ324 w325 hj326 ⟨f96, f98, _⟩
    have hst := hj326.2
    exact go_plain (op_lss (k := .i64) (a := (i : Int)) (b := (A.length : Int)) f96 f98 (kS hj326 rfl))
   ·rintro ρ327 w328 hj329 ⟨f99, _⟩
    have hst := hj329.2
    exact go_plain (op_move (.bool (decide ((i : Int) < (A.length : Int)))) f99 (kS hj329 rfl))
   ·rintro ρ330 w331 hj332 ⟨f17, f100, _⟩
    have hst := hj332.2
    exact go_no 100 rfl (f100.trans (congrArg Value.bool b21)) (kS hj332 rfl)
   ·rintro ρ333 w334 hj335 ⟨f19, f100, _⟩
    have hst := hj335.2
    exact go_no 100 rfl (f100.trans (congrArg Value.bool b21)) (kS hj335 rfl)
   ·rintro ρ336 w337 hj338 ⟨f101, f102, f100, _⟩
    have hst := hj338.2
    exact go_no 100 rfl (f100.trans (congrArg Value.bool b21)) (kS hj338 rfl)
   ·rintro ρ339 w340 hj341 ⟨f103, f100, _⟩
    have hst := hj341.2
    exact go_no 100 rfl (f100.trans (congrArg Value.bool b21)) (kS hj341 rfl)
   ·rintro ρ342 w343 hj344 ⟨f13, f100, _⟩
    have hst := hj344.2
    exact go_no 100 rfl (f100.trans (congrArg Value.bool b21)) (kS hj344 rfl)
   ·rintro ρ345 w346 hj347 ⟨f19, f100, _⟩
    have hst := hj347.2
    exact go_no 100 rfl (f100.trans (congrArg Value.bool b21)) (kS hj347 rfl)
   ·rintro ρ348 w349 hj350 ⟨f105, f106, f100, _⟩
    have hst := hj350.2
    exact go_no 100 rfl (f100.trans (congrArg Value.bool b21)) (kS hj350 rfl)
   ·rintro ρ351 w352 hj353 ⟨f107, f100, _⟩
    have hst := hj353.2
    exact go_no 100 rfl (f100.trans (congrArg Value.bool b21)) (kS hj353 rfl)
   ·rintro ρ354 w355 hj356 ⟨f104, f108, f100, _⟩
    have hst := hj356.2
    exact go_no 100 rfl (f100.trans (congrArg Value.bool b21)) (kS hj356 rfl)
   ·rintro ρ357 w358 hj359 ⟨f100, f109, _⟩
    have hst := hj359.2
    exact go_plain (op_pick_f (.bool false) (f100.trans (congrArg Value.bool b21)) rfl (kS hj359 rfl))
   ·rintro ρ360 w361 hj362 ⟨f110, _⟩
    have hst := hj362.2
    exact go_plain (op_move (.bool false) f110 (kS hj362 rfl))
   ·rintro ρ363 w364 hj365 ⟨f19, f111, _⟩
    have hst := hj365.2
    exact go_yes 111 rfl f111 (op_move (iV (i : Int)) (f19.trans q15_19) (kS hj365 rfl))
   ·rintro ρ366 w367 hj368 ⟨f13, f111, _⟩
    have hst := hj368.2
    exact go_yes 111 rfl f111 (op_move r9 (f13.trans q15_13) (kS hj368 rfl))
   ·rintro ρ369 w370 hj371 ⟨f113, f111, _⟩
    have hst := hj371.2
    exact go_yes 111 rfl f111 (op_len (E := winE) (xs := A) Try.underlying29 f113 (hst.sl 2 rfl) (kS hj371 rfl))
   ·rintro ρ372 w373 hj374 ⟨f112, f114, f111, _⟩
    have hst := hj374.2
    exact go_yes 111 rfl f111 (op_geq (k := .i64) (a := (i : Int)) (b := (A.length : Int)) f112 f114 (kS hj374 rfl))
   ·rintro ρ375 w376 hj377 ⟨f115, f111, _⟩
    have hst := hj377.2
    exact go_yes 111 rfl f111 (op_move (.bool (decide ((A.length : Int) ≤ (i : Int)))) f115 (kS hj377 rfl))
   ·rintro ρ378 w379 hj380 ⟨f17, f116, _⟩
    have hst := hj380.2
    exact go_yes 116 rfl (f116.trans (congrArg Value.bool b307)) (op_move r13 (f17.trans q15_17) (kS hj380 rfl))
   ·rintro ρ381 w382 hj383 ⟨f19, f116, _⟩
    have hst := hj383.2
    exact go_yes 116 rfl (f116.trans (congrArg Value.bool b307)) (op_move (iV (i : Int)) (f19.trans q15_19) (kS hj383 rfl))
   ·rintro ρ384 w385 hj386 ⟨f117, f118, f116, _⟩
    have hst := hj386.2
    refine go_yes 116 rfl (f116.trans (congrArg Value.bool b307)) (op_indexAddrN (E := winE) (xs := C) i Try.underlying29 Try.sizeOf56 f117 (hst.sl 0 rfl) f118 (by omega) (by omega) (fun a387 o388 p389 => ?_))
    exact kS hj386 ⟨_, _, rfl, p389⟩
   ·rintro ρ390 w391 hj392 ⟨f119, f116, _⟩
    have hst := hj392.2
    obtain ⟨a393, o394, e395, p396⟩ := f119
    exact go_yes 116 rfl (f116.trans (congrArg Value.bool b307)) (op_loadN (cs := [(iV ((C[i]'(by omega)).Tier)), (iV ((C[i]'(by omega)).Lo)), (iV ((C[i]'(by omega)).Hi)), (iV (((C[i]'(by omega)).Agg).From)), (iV (((C[i]'(by omega)).Agg).Count)), (iV (((C[i]'(by omega)).Agg).Sum)), (iV (((C[i]'(by omega)).Agg).Min)), (iV (((C[i]'(by omega)).Agg).Max)), (iV (((C[i]'(by omega)).Agg).First)), (iV (((C[i]'(by omega)).Agg).Last))]) Try.isAgg56 Try.sizeOf56 e395 (Pt.of p396 rfl) rfl (kS hj392 rfl))
   ·rintro ρ397 w398 hj399 ⟨f15, f116, _⟩
    have hst := hj399.2
    exact go_yes 116 rfl (f116.trans (congrArg Value.bool b307)) (op_move r11 (f15.trans q15_15) (kS hj399 rfl))
   ·rintro ρ400 w401 hj402 ⟨f19, f116, _⟩
    have hst := hj402.2
    exact go_yes 116 rfl (f116.trans (congrArg Value.bool b307)) (op_move (iV (i : Int)) (f19.trans q15_19) (kS hj402 rfl))
   ·rintro ρ403 w404 hj405 ⟨f13, f116, _⟩
    have hst := hj405.2
    exact go_yes 116 rfl (f116.trans (congrArg Value.bool b307)) (op_move r9 (f13.trans q15_13) (kS hj405 rfl))
   ·rintro ρ406 w407 hj408 ⟨f123, f116, _⟩
    have hst := hj408.2
    exact go_yes 116 rfl (f116.trans (congrArg Value.bool b307)) (op_len (E := winE) (xs := A) Try.underlying29 f123 (hst.sl 2 rfl) (kS hj408 rfl))
   ·rintro ρ409 w410 hj411 ⟨f122, f124, f116, _⟩
    have hst := hj411.2
    exact go_yes 116 rfl (f116.trans (congrArg Value.bool b307)) (op_sub (k := .i64) (a := (i : Int)) (b := (A.length : Int)) ((i : Int) - (A.length : Int)) f122 f124 (xi64 (by omega) (by omega)) (kS hj411 rfl))
   ·rintro ρ412 w413 hj414 ⟨f121, f125, f116, _⟩
    have hst := hj414.2
    refine go_yes 116 rfl (f116.trans (congrArg Value.bool b307)) (op_indexAddrN (E := winE) (xs := B) (Int.toNat ((i : Int) - (A.length : Int))) Try.underlying29 Try.sizeOf56 f121 (hst.sl 1 rfl) f125 (by omega) (by omega) (fun a415 o416 p417 => ?_))
    exact kS hj414 ⟨_, _, rfl, p417⟩
   ·rintro ρ418 w419 hj420 ⟨f126, f116, _⟩
    have hst := hj420.2
    obtain ⟨a421, o422, e423, p424⟩ := f126
    exact go_yes 116 rfl (f116.trans (congrArg Value.bool b307)) (op_loadN (cs := [(iV ((B[(Int.toNat ((i : Int) - (A.length : Int)))]'(by omega)).Tier)), (iV ((B[(Int.toNat ((i : Int) - (A.length : Int)))]'(by omega)).Lo)), (iV ((B[(Int.toNat ((i : Int) - (A.length : Int)))]'(by omega)).Hi)), (iV (((B[(Int.toNat ((i : Int) - (A.length : Int)))]'(by omega)).Agg).From)), (iV (((B[(Int.toNat ((i : Int) - (A.length : Int)))]'(by omega)).Agg).Count)), (iV (((B[(Int.toNat ((i : Int) - (A.length : Int)))]'(by omega)).Agg).Sum)), (iV (((B[(Int.toNat ((i : Int) - (A.length : Int)))]'(by omega)).Agg).Min)), (iV (((B[(Int.toNat ((i : Int) - (A.length : Int)))]'(by omega)).Agg).Max)), (iV (((B[(Int.toNat ((i : Int) - (A.length : Int)))]'(by omega)).Agg).First)), (iV (((B[(Int.toNat ((i : Int) - (A.length : Int)))]'(by omega)).Agg).Last))]) Try.isAgg56 Try.sizeOf56 e423 (Pt.of p424 rfl) rfl (kS hj420 rfl))
   ·rintro ρ425 w426 hj427 ⟨f120, f127, f116, _⟩
    have hst := hj427.2
    exact go_yes 116 rfl (f116.trans (congrArg Value.bool b307)) (op_neqG Try.eqGuardType56 (Try.eqWin (C[i]'(by omega)) (B[(Int.toNat ((i : Int) - (A.length : Int)))]'(by omega)) _) f120 f127 (kS hj427 rfl))
   ·rintro ρ428 w429 hj430 ⟨f116, f128, f111, _⟩
    have hst := hj430.2
    exact go_yes 111 rfl f111 (op_pick_t (.bool (!decide ((C[i]'(by omega)) = (B[(Int.toNat ((i : Int) - (A.length : Int)))]'(by omega))))) (f116.trans (congrArg Value.bool b307)) f128 (kS hj430 rfl))
   ·rintro ρ431 w432 hj433 ⟨f111, f129, _⟩
    have hst := hj433.2
    exact go_plain (op_pick_f (.bool (!decide ((C[i]'(by omega)) = (B[(Int.toNat ((i : Int) - (A.length : Int)))]'(by omega))))) f111 f129 (kS hj433 rfl))
   intro ρ434 w435 hbw435 hst hRw435 hkw435
   have uw435_0 := (hkw435 0 rfl).trans q15_0
   have uw435_1 := (hkw435 1 rfl).trans q15_1
   have uw435_2 := (hkw435 2 rfl).trans q15_2
   have uw435_3 := (hkw435 3 rfl).trans q15_3
   have uw435_9 := (hkw435 9 rfl).trans q15_9
   have uw435_10 := (hkw435 10 rfl).trans q15_10
   have uw435_11 := (hkw435 11 rfl).trans q15_11
   have uw435_12 := (hkw435 12 rfl).trans q15_12
   have uw435_13 := (hkw435 13 rfl).trans q15_13
   have uw435_14 := (hkw435 14 rfl).trans q15_14
   have uw435_15 := (hkw435 15 rfl).trans q15_15
   have uw435_16 := (hkw435 16 rfl).trans q15_16
   have uw435_17 := (hkw435 17 rfl).trans q15_17
   have uw435_18 := (hkw435 18 rfl).trans q15_18
   have uw435_19 := (hkw435 19 rfl).trans q15_19
   have uw435_130 : ρ434 130 = (.bool (!decide ((C[i]'(by omega)) = (B[(Int.toNat ((i : Int) - (A.length : Int)))]'(by omega))))) := hRw435 34 130 rfl
   refine then_n (cE_cond false (uw435_130.trans (congrArg Value.bool (congrArg (! ·) (show (decide ((C[i]'(by omega)) = (B[(Int.toNat ((i : Int) - (A.length : Int)))]'(by omega)))) = true from (decide_eq_true (cut_right hcut (by omega) _ _ (by omega))))))) (fun h => by cases h) (fun _ => ?_))
   refine cE_skip (block_n (then_n (cE_region rfl (s_cons (op_move (iV (i : Int)) uw435_19 (s_cons (op_add (k := .i64) (a := (i : Int)) (b := 1) ((i : Int) + 1) rfl rfl (xi64 (by omega) (by omega)) (s_cons (op_assign (iV ((i : Int) + 1)) rfl (s_nil (then_n ?_)))))))))))
   exact ⟨_, ⟨(i + 1), rfl, uw435_0, uw435_1, uw435_2, uw435_3, uw435_9, uw435_10, uw435_11, uw435_12, uw435_13, uw435_14, uw435_15, uw435_16, uw435_17, uw435_18, (congrArg iV (show ((i : Int) + 1) = _ from by omega)), hst, (by omega)⟩, (by simp only [id]; omega)⟩
  have c436 := of_decide_eq_false b307
  refine cE_regionL hst [[(19, none)], [(13, none)], [(97, some 1)], [(96, some 0), (98, some 2)], [(99, some 3)], [(17, none), (100, some 4)], [(19, none), (100, some 4)], [(101, some 5), (102, some 6), (100, some 4)], [(103, some 7), (100, some 4)], [(13, none), (100, some 4)], [(19, none), (100, some 4)], [(105, some 9), (106, some 10), (100, some 4)], [(107, some 11), (100, some 4)], [(104, some 8), (108, some 12), (100, some 4)], [(100, some 4), (109, some 13)], [(110, some 14)], [(19, none), (111, some 15)], [(13, none), (111, some 15)], [(113, some 17), (111, some 15)], [(112, some 16), (114, some 18), (111, some 15)], [(115, some 19), (111, some 15)], [(17, none), (116, some 20)], [(19, none), (116, some 20)], [(117, some 21), (118, some 22), (116, some 20)], [(119, some 23), (116, some 20)], [(15, none), (116, some 20)], [(19, none), (116, some 20)], [(13, none), (116, some 20)], [(123, some 27), (116, some 20)], [(122, some 26), (124, some 28), (116, some 20)], [(121, some 25), (125, some 29), (116, some 20)], [(126, some 30), (116, some 20)], [(120, some 24), (127, some 31), (116, some 20)], [(116, some 20), (128, some 32), (111, some 15)], [(111, some 15), (129, some 33)]] [(rEq (iV (i : Int))), (rEq r9), (rEq (iV (A.length : Int))), (rEq (.bool (decide ((i : Int) < (A.length : Int))))), (rEq (.bool (decide ((i : Int) < (A.length : Int))))), (rEq undef), (rEq undef), (rEq undef), (rEq undef), (rEq undef), (rEq undef), (rEq undef), (rEq undef), (rEq undef), (rEq (.bool false)), (rEq (.bool false)), (rEq (iV (i : Int))), (rEq r9), (rEq (iV (A.length : Int))), (rEq (.bool (decide ((A.length : Int) ≤ (i : Int))))), (rEq (.bool (decide ((A.length : Int) ≤ (i : Int))))), (rEq undef), (rEq undef), (rEq undef), (rEq undef), (rEq undef), (rEq undef), (rEq undef), (rEq undef), (rEq undef), (rEq undef), (rEq undef), (rEq undef), (rEq (.bool false)), (rEq (.bool false))] (by kernel_rfl) rfl (by kernel_rfl) ⟨sEq, sEq, sEq, sEq, sEq, sEq, sEq, sEq, sEq, sEq, sEq, sEq, sEq, sEq, sEq, sEq, sEq, sEq, sEq, sEq, sEq, sEq, sEq, sEq, sEq, sEq, sEq, sEq, sEq, sEq, sEq, sEq, sEq, sEq, sEq, trivial⟩ ⟨?_, ?_, ?_, ?_, ?_, ?_, ?_, ?_, ?_, ?_, ?_, ?_, ?_, ?_, ?_, ?_, ?_, ?_, ?_, ?_, ?_, ?_, ?_, ?_, ?_, ?_, ?_, ?_, ?_, ?_, ?_, ?_, ?_, ?_, ?_, trivial⟩ ?_
  ·rintro ρ437 w438 hj439 ⟨f19, _⟩
   have hst := hj439.2
   exact go_plain (op_move (iV (i : Int)) (f19.trans q15_19) (kS hj439 rfl))
  ·rintro ρ440 w441 hj442 ⟨f13, _⟩
   have hst := hj442.2
   exact go_plain (op_move r9 (f13.trans q15_13) (kS hj442 rfl))
  ·rintro ρ443 w444 hj445 ⟨f97, _⟩
   have hst := hj445.2
   exact go_plain (op_len (E := winE) (xs := A) Try.underlying29 f97 (hst.sl 2 rfl) (kS hj445 rfl))
  ·rintro ρ446 w447 hj448 ⟨f96, f98, _⟩
   have hst := hj448.2
   exact go_plain (op_lss (k := .i64) (a := (i : Int)) (b := (A.length : Int)) f96 f98 (kS hj448 rfl))
  ·rintro ρ449 w450 hj451 ⟨f99, _⟩
   have hst := hj451.2
   exact go_plain (op_move (.bool (decide ((i : Int) < (A.length : Int)))) f99 (kS hj451 rfl))
  ·rintro ρ452 w453 hj454 ⟨f17, f100, _⟩
   have hst := hj454.2
   exact go_no 100 rfl (f100.trans (congrArg Value.bool b21)) (kS hj454 rfl)
  ·rintro ρ455 w456 hj457 ⟨f19, f100, _⟩
   have hst := hj457.2
   exact go_no 100 rfl (f100.trans (congrArg Value.bool b21)) (kS hj457 rfl)
  ·rintro ρ458 w459 hj460 ⟨f101, f102, f100, _⟩
   have hst := hj460.2
   exact go_no 100 rfl (f100.trans (congrArg Value.bool b21)) (kS hj460 rfl)
  ·rintro ρ461 w462 hj463 ⟨f103, f100, _⟩
   have hst := hj463.2
   exact go_no 100 rfl (f100.trans (congrArg Value.bool b21)) (kS hj463 rfl)
  ·rintro ρ464 w465 hj466 ⟨f13, f100, _⟩
   have hst := hj466.2
   exact go_no 100 rfl (f100.trans (congrArg Value.bool b21)) (kS hj466 rfl)
  ·rintro ρ467 w468 hj469 ⟨f19, f100, _⟩
   have hst := hj469.2
   exact go_no 100 rfl (f100.trans (congrArg Value.bool b21)) (kS hj469 rfl)
  ·rintro ρ470 w471 hj472 ⟨f105, f106, f100, _⟩
   have hst := hj472.2
   exact go_no 100 rfl (f100.trans (congrArg Value.bool b21)) (kS hj472 rfl)
  ·rintro ρ473 w474 hj475 ⟨f107, f100, _⟩
   have hst := hj475.2
   exact go_no 100 rfl (f100.trans (congrArg Value.bool b21)) (kS hj475 rfl)
  ·rintro ρ476 w477 hj478 ⟨f104, f108, f100, _⟩
   have hst := hj478.2
   exact go_no 100 rfl (f100.trans (congrArg Value.bool b21)) (kS hj478 rfl)
  ·rintro ρ479 w480 hj481 ⟨f100, f109, _⟩
   have hst := hj481.2
   exact go_plain (op_pick_f (.bool false) (f100.trans (congrArg Value.bool b21)) rfl (kS hj481 rfl))
  ·rintro ρ482 w483 hj484 ⟨f110, _⟩
   have hst := hj484.2
   exact go_plain (op_move (.bool false) f110 (kS hj484 rfl))
  ·rintro ρ485 w486 hj487 ⟨f19, f111, _⟩
   have hst := hj487.2
   exact go_yes 111 rfl f111 (op_move (iV (i : Int)) (f19.trans q15_19) (kS hj487 rfl))
  ·rintro ρ488 w489 hj490 ⟨f13, f111, _⟩
   have hst := hj490.2
   exact go_yes 111 rfl f111 (op_move r9 (f13.trans q15_13) (kS hj490 rfl))
  ·rintro ρ491 w492 hj493 ⟨f113, f111, _⟩
   have hst := hj493.2
   exact go_yes 111 rfl f111 (op_len (E := winE) (xs := A) Try.underlying29 f113 (hst.sl 2 rfl) (kS hj493 rfl))
  ·rintro ρ494 w495 hj496 ⟨f112, f114, f111, _⟩
   have hst := hj496.2
   exact go_yes 111 rfl f111 (op_geq (k := .i64) (a := (i : Int)) (b := (A.length : Int)) f112 f114 (kS hj496 rfl))
  ·rintro ρ497 w498 hj499 ⟨f115, f111, _⟩
   have hst := hj499.2
   exact go_yes 111 rfl f111 (op_move (.bool (decide ((A.length : Int) ≤ (i : Int)))) f115 (kS hj499 rfl))
  ·rintro ρ500 w501 hj502 ⟨f17, f116, _⟩
   have hst := hj502.2
   exact go_no 116 rfl (f116.trans (congrArg Value.bool b307)) (kS hj502 rfl)
  ·rintro ρ503 w504 hj505 ⟨f19, f116, _⟩
   have hst := hj505.2
   exact go_no 116 rfl (f116.trans (congrArg Value.bool b307)) (kS hj505 rfl)
  ·rintro ρ506 w507 hj508 ⟨f117, f118, f116, _⟩
   have hst := hj508.2
   exact go_no 116 rfl (f116.trans (congrArg Value.bool b307)) (kS hj508 rfl)
  ·rintro ρ509 w510 hj511 ⟨f119, f116, _⟩
   have hst := hj511.2
   exact go_no 116 rfl (f116.trans (congrArg Value.bool b307)) (kS hj511 rfl)
  ·rintro ρ512 w513 hj514 ⟨f15, f116, _⟩
   have hst := hj514.2
   exact go_no 116 rfl (f116.trans (congrArg Value.bool b307)) (kS hj514 rfl)
  ·rintro ρ515 w516 hj517 ⟨f19, f116, _⟩
   have hst := hj517.2
   exact go_no 116 rfl (f116.trans (congrArg Value.bool b307)) (kS hj517 rfl)
  ·rintro ρ518 w519 hj520 ⟨f13, f116, _⟩
   have hst := hj520.2
   exact go_no 116 rfl (f116.trans (congrArg Value.bool b307)) (kS hj520 rfl)
  ·rintro ρ521 w522 hj523 ⟨f123, f116, _⟩
   have hst := hj523.2
   exact go_no 116 rfl (f116.trans (congrArg Value.bool b307)) (kS hj523 rfl)
  ·rintro ρ524 w525 hj526 ⟨f122, f124, f116, _⟩
   have hst := hj526.2
   exact go_no 116 rfl (f116.trans (congrArg Value.bool b307)) (kS hj526 rfl)
  ·rintro ρ527 w528 hj529 ⟨f121, f125, f116, _⟩
   have hst := hj529.2
   exact go_no 116 rfl (f116.trans (congrArg Value.bool b307)) (kS hj529 rfl)
  ·rintro ρ530 w531 hj532 ⟨f126, f116, _⟩
   have hst := hj532.2
   exact go_no 116 rfl (f116.trans (congrArg Value.bool b307)) (kS hj532 rfl)
  ·rintro ρ533 w534 hj535 ⟨f120, f127, f116, _⟩
   have hst := hj535.2
   exact go_no 116 rfl (f116.trans (congrArg Value.bool b307)) (kS hj535 rfl)
  ·rintro ρ536 w537 hj538 ⟨f116, f128, f111, _⟩
   have hst := hj538.2
   exact go_yes 111 rfl f111 (op_pick_f (.bool false) (f116.trans (congrArg Value.bool b307)) rfl (kS hj538 rfl))
  ·rintro ρ539 w540 hj541 ⟨f111, f129, _⟩
   have hst := hj541.2
   exact go_plain (op_pick_f (.bool false) f111 f129 (kS hj541 rfl))
  intro ρ542 w543 hbw543 hst hRw543 hkw543
  have uw543_0 := (hkw543 0 rfl).trans q15_0
  have uw543_1 := (hkw543 1 rfl).trans q15_1
  have uw543_2 := (hkw543 2 rfl).trans q15_2
  have uw543_3 := (hkw543 3 rfl).trans q15_3
  have uw543_9 := (hkw543 9 rfl).trans q15_9
  have uw543_10 := (hkw543 10 rfl).trans q15_10
  have uw543_11 := (hkw543 11 rfl).trans q15_11
  have uw543_12 := (hkw543 12 rfl).trans q15_12
  have uw543_13 := (hkw543 13 rfl).trans q15_13
  have uw543_14 := (hkw543 14 rfl).trans q15_14
  have uw543_15 := (hkw543 15 rfl).trans q15_15
  have uw543_16 := (hkw543 16 rfl).trans q15_16
  have uw543_17 := (hkw543 17 rfl).trans q15_17
  have uw543_18 := (hkw543 18 rfl).trans q15_18
  have uw543_19 := (hkw543 19 rfl).trans q15_19
  have uw543_130 : ρ542 130 = (.bool false) := hRw543 34 130 rfl
  refine then_n (cE_cond false uw543_130 (fun h => by cases h) (fun _ => ?_))
  refine cE_skip (block_n (then_n (cE_region rfl (s_cons (op_move (iV (i : Int)) uw543_19 (s_cons (op_add (k := .i64) (a := (i : Int)) (b := 1) ((i : Int) + 1) rfl rfl (xi64 (by omega) (by omega)) (s_cons (op_assign (iV ((i : Int) + 1)) rfl (s_nil (then_n ?_)))))))))))
  exact ⟨_, ⟨(i + 1), rfl, uw543_0, uw543_1, uw543_2, uw543_3, uw543_9, uw543_10, uw543_11, uw543_12, uw543_13, uw543_14, uw543_15, uw543_16, uw543_17, uw543_18, (congrArg iV (show ((i : Int) + 1) = _ from by omega)), hst, (by omega)⟩, (by simp only [id]; omega)⟩
 have c544 := of_decide_eq_false b19
 refine cE_cond false (congrArg Value.bool b19) (fun h => by cases h) (fun _ => ?_)
 refine cE_exit (then_x (then_x (block_hit (then_n (cE_seq (cE_region rfl (s_cons (op_call Try.call11 evs_nil (c_told22 (w0 := w18)) ?_))))))))
 rintro _ w545 ⟨rfl, hcall⟩
 refine ⟨_, rfl, ?_⟩
 have hst := hst.call hcall
 refine s_cons (op_move (.bool true) rfl (s_yes 132 rfl rfl (op_move (iV R.to) q15_11 (s_yes 132 rfl rfl (op_leq (k := .i64) (a := R.to) (b := 1099511627776) rfl rfl (s_cons (op_pick_t (.bool (decide (R.to ≤ 1099511627776))) rfl rfl (s_cons (op_assign (.bool (decide (R.to ≤ 1099511627776))) rfl (s_nil (then_n (cE_ret (post_r _ (res1 (v := (.bool (decide (R.to ≤ 1099511627776)))) rfl) ?_)))))))))))))
 exact ⟨(retv1 (congrArg Value.bool (show (decide (R.to ≤ 1099511627776)) = true from by exact decide_eq_true (by omega)))), hst.bare⟩

end Go.Proofs.Ythanfecefjfbjaa
