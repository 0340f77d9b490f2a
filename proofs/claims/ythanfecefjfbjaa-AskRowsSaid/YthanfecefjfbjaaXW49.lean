/- twinkeeplaw22.AskRows -/
import Derived.Test.YthanfecefjfbjaaXLB
import Derived.Test.YthanfecefjfbjaaXW47
import Derived.Test.YthanfecefjfbjaaXW51
import Derived.Test.YthanfecefjfbjaaXW38
import Derived.Test.YthanfecefjfbjaaXW42
import Derived.Test.YthanfecefjfbjaaXW37
namespace Go.Proofs.Ythanfecefjfbjaa
open Go.RowKit

set_option maxRecDepth 8000 in
set_option maxHeartbeats 8000000 in
theorem c_AskRows (w0 : World) (n : Int) (v_steps : Value) (steps : List Int) (h_steps : Sl w0 (intE .i64) v_steps steps) (v_values : Value) (values : List Int) (h_values : Sl w0 (intE .i64) v_values values) (mask : Int) (fr_ : Int) (long : Int) (hv : ∀ v ∈ values, i64R v) (hs : ∀ v ∈ steps, i64R v) (n0 : -9223372036854775808 ≤ n) (mask0 : -9223372036854775808 ≤ mask) (fr_0 : -9223372036854775808 ≤ fr_) (long0 : -9223372036854775808 ≤ long) (n1 : n ≤ 9223372036854775807) (mask1 : mask ≤ 9223372036854775807) (fr_1 : fr_ ≤ 9223372036854775807) (long1 : long ≤ 9223372036854775807) :
  Calls Try.prog 4 #[(iV n), v_steps, v_values, (iV mask), (iV fr_), (iV long)] w0 fun e w' => e = .returned (.bool true) ∧ St w0 w' [] := by
 have hN6 := hdN steps
 have hL := hdL_len steps values
 have hT := hdL_T (steps := steps) (values := values)
 have hO := hdL_ok (steps := steps) hv
 refine calls_E (n := 115) (ts := [12]) Try.func4 rfl rfl rfl (by simp) ?_
 have hst := St.start w0
 refine cE_seq (cE_region rfl (s_cons (op_assign (.bool false) rfl (s_nil (then_n (cE_seq (cE_region rfl (s_cons (op_move (iV n) rfl (s_cons (op_move v_steps rfl (s_cons (op_move v_values rfl (s_cons (op_move (iV mask) rfl (s_cons (op_call Try.call20 (evs_cons (v := (iV n)) rfl (evs_cons (v := v_steps) rfl (evs_cons (v := v_values) rfl (evs_cons (v := (iV mask)) rfl evs_nil)))) (c_Row (w0 := w0) (n := n) (v_steps := v_steps) (steps := steps) (h_steps := (h_steps.below hst.below)) (v_values := v_values) (values := values) (h_values := (h_values.below hst.below)) (mask := mask) (hv := hv) (hs := hs) (n0 := (by omega)) (mask0 := (by omega)) (n1 := (by omega)) (mask1 := (by omega))) ?_)))))))))))))))))
 rintro _ w5 ⟨r1, r2, r3, r4, rfl, hcall, Row_hys, Row_hF⟩
 refine ⟨_, rfl, ?_⟩
 have hst := (hst.call hcall).perm (List.Perm.cons _ (List.Perm.cons _ (List.perm_append_comm)))
 refine s_cons (op_move (.tuple #[r1, r2]) rfl (s_cons (op_extract r1 rfl rfl (s_cons (op_extract r2 rfl rfl (s_cons (op_assign r1 rfl (s_cons (op_assign r2 rfl (s_nil (then_n (cE_seq ?_))))))))))))
 obtain ⟨R, hR⟩ : ∃ R : RowD, R = rowM steps values mask (1 + (n % 18446744073709551616 % 4).toNat) := ⟨_, rfl⟩
 replace hst : St w0 w5 (rowT 25 segE r1 r3 :: rowT 51 sampE r2 R.all :: r4) := by rw [← hR] at hst; exact hst
 have hys := Row_hys.trans (congrArg RowD.l hR.symm)
 have hlen := row_lenY (by omega) (by omega) Row_hys
 have hto : 0 ≤ R.to ∧ R.to ≤ 2000 * (((1 + (n % 18446744073709551616 % 4).toNat) : Nat) : Int) := by rw [hR]; exact rowM_to steps values mask (by omega)
 have hok := row_okY (by omega) Row_hys hv
 have hbst := row_bestY (by omega) Row_hys
 have hF := Row_hF
 refine cE_region rfl (s_cons (op_move r1 rfl (s_cons (op_move r1 rfl (s_cons (op_len (E := segE) (xs := r3) Try.underlying32 rfl (hst.sl 0 rfl) (s_cons (op_sub (k := .i64) (a := (r3.length : Int)) (b := 1) ((r3.length : Int) - 1) rfl rfl (xi64 (by omega) (by omega)) (s_cons (op_indexAddrN (E := segE) (xs := r3) (r3.length - 1) Try.underlying32 Try.sizeOf25 rfl (hst.sl 0 rfl) rfl (by omega) (by omega) (fun a6 o7 p8 => ?_)))))))))))
 refine s_cons (op_fieldAddr (s := 0) Try.underlying25 rfl rfl Try.sizeOf2 rfl (s_cons (op_load1 (u := (iV ((r3[(r3.length - 1)]'(by omega)).d.To))) Try.isAgg2 rfl (p8.drop 3) ?_)))
 have hEnd : ((r3[(r3.length - 1)]'(by omega)).d.To) = R.to := (row_endY (by omega) (by omega) Row_hys _ (by omega)).trans (congrArg RowD.to hR.symm)
 refine s_cons (op_assign (iV R.to) (evI (a := (r3[(r3.length - 1)]'(by omega)).d.To) rfl hEnd.symm) (s_nil (then_n (cE_seq (cE_region rfl (s_cons (op_move v_steps rfl (s_cons (op_move v_values rfl (s_cons (op_call Try.call21 (evs_cons (v := v_steps) rfl (evs_cons (v := v_values) rfl (evs_cons (v := (iV 6)) rfl evs_nil))) (c_Rise (w0 := w5) (v_steps := v_steps) (steps := steps) (h_steps := (h_steps.below hst.below)) (v_values := v_values) (values := values) (h_values := (h_values.below hst.below)) (most := 6) (m0 := (by omega)) (m1 := (by omega)) (hv := hv) (hs := hs)) ?_)))))))))))
 rintro _ w10 ⟨r9, rfl, hcall⟩
 refine ⟨_, rfl, ?_⟩
 have hst := hst.call hcall
 refine s_cons (op_assign r9 rfl (s_nil (then_n (cE_seq (cE_seq (cE_region rfl (s_cons (op_assign (iV 0) rfl (s_nil (then_n (cE_block (cE_loop (fun (m : Nat) (ρ : Env) (w : World) => ∃ (xs : List Sample) (i : Nat), m = xs.length - i ∧ ρ 0 = (iV n) ∧ ρ 1 = v_steps ∧ ρ 2 = v_values ∧ ρ 3 = (iV mask) ∧ ρ 4 = (iV fr_) ∧ ρ 5 = (iV long) ∧ ρ 12 = (.bool false) ∧ ρ 13 = r1 ∧ ρ 14 = r2 ∧ ρ 15 = (iV R.to) ∧ ρ 17 = (iV (i : Int)) ∧ ρ 16 = r9 ∧ St w0 w (rowT 51 sampE r9 xs :: rowT 25 segE r1 r3 :: rowT 51 sampE r2 R.all :: r4) ∧ (xs.length = (hdL steps values).length) ∧ (i ≤ xs.length) ∧ (xs = trTo (hdL steps values) R.to i)) id _ ⟨(riseL steps values (riseN steps 6)), 0, rfl, rfl, rfl, rfl, rfl, rfl, rfl, rfl, rfl, rfl, rfl, (congrArg iV (show 0 = _ from by omega)), rfl, hst, (by rfl), (by omega), (by exact trTo_zero _ _)⟩ ?_))))))))))))
 rintro m12 ρ13 w14 ⟨xs, i, hm12, q11_0, q11_1, q11_2, q11_3, q11_4, q11_5, q11_12, q11_13, q11_14, q11_15, q11_17, q11_16, hst, hxl, hi, hX⟩
 refine cE_seq (cE_seq (cE_region rfl (s_cons (op_move (iV (i : Int)) q11_17 (s_cons (op_move r9 q11_16 (s_cons (op_len (E := sampE) (xs := xs) Try.underlying22 rfl (hst.sl 0 rfl) (s_cons (op_lss (k := .i64) (a := (i : Int)) (b := (xs.length : Int)) rfl rfl (s_nil (then_n ?_))))))))))))
 rcases Bool.eq_false_or_eq_true (decide ((i : Int) < (xs.length : Int))) with b15 | b15
 ·have c16 := of_decide_eq_true b15
  refine cE_cond true (congrArg Value.bool b15) (fun _ => ?_) (fun h => by cases h)
  refine cE_skip (then_n (cE_seq (cE_block (cE_seq ?_))))
  have hel : (xs[i]'(by omega)) = (hdL steps values)[i]'(by omega) := (getElem_eq hX _).trans (trTo_get (by omega))
  have hTi := hT _ (List.getElem_mem (show i < (hdL steps values).length by omega))
  rw [← hel] at hTi
  refine cE_region rfl (s_cons (op_move r9 q11_16 (s_cons (op_move (iV (i : Int)) q11_17 (s_cons (op_move r9 q11_16 (s_cons (op_move (iV (i : Int)) q11_17 (s_cons (op_indexAddrN (E := sampE) (xs := xs) i Try.underlying22 Try.sizeOf51 rfl (hst.sl 0 rfl) rfl (by omega) (by omega) (fun a17 o18 p19 => ?_)))))))))))
  refine s_cons (op_fieldAddr (s := 0) Try.underlying51 rfl rfl Try.sizeOf2 rfl (s_cons (op_load1 (u := (iV ((xs[i]'(by omega)).T))) Try.isAgg2 rfl p19 (s_cons (op_move (iV R.to) q11_15 (s_cons (op_add (k := .i64) (a := (xs[i]'(by omega)).T) (b := R.to) (((xs[i]'(by omega)).T) + R.to) rfl rfl (xi64 (by omega) (by omega)) ?_)))))))
  refine s_cons (op_indexRowN hst 0 rfl i Try.underlying22 Try.sizeOf51 rfl rfl (by omega) (by omega) (fun g24 hb23 p22 => ?_))
  refine s_cons (op_fieldAddr (s := 0) Try.underlying51 rfl rfl Try.sizeOf2 rfl (s_cons0 (op_storeRow1 (y := (⟨(((xs[i]'(by omega)).T) + R.to), (xs[i]'(by omega)).V⟩ : Sample)) hst 0 rfl hb23 Try.sizeOf2 rfl rfl rfl (i) 0 rfl (by omega) (by decide) rfl (fun w25 hst => ?_))))
  refine s_nil (then_n (cE_region rfl (s_cons (op_move r9 q11_16 (s_cons (op_move (iV (i : Int)) q11_17 (s_cons (op_move r9 q11_16 (s_cons (op_move (iV (i : Int)) q11_17 (s_cons (op_indexAddrN (E := sampE) (xs := (xs.set (i) (⟨(((xs[i]'(by omega)).T) + R.to), (xs[i]'(by omega)).V⟩ : Sample))) i Try.underlying22 Try.sizeOf51 rfl (hst.sl 0 rfl) rfl (by omega) (by (simp only [List.length_set]; omega)) (fun a26 o27 p28 => ?_)))))))))))))
  refine s_cons (op_fieldAddr (s := 0) Try.underlying51 rfl rfl Try.sizeOf2 rfl (s_cons (op_load1 (u := (iV (((xs.set (i) (⟨(((xs[i]'(by omega)).T) + R.to), (xs[i]'(by omega)).V⟩ : Sample))[i]'(by (simp only [List.length_set]; omega))).V))) Try.isAgg2 rfl (p28.drop 1) (s_cons (op_rem (k := .i64) (a := ((xs.set (i) (⟨(((xs[i]'(by omega)).T) + R.to), (xs[i]'(by omega)).V⟩ : Sample))[i]'(by (simp only [List.length_set]; omega))).V) (b := 1000000000) (Int.tmod ((xs.set (i) (⟨(((xs[i]'(by omega)).T) + R.to), (xs[i]'(by omega)).V⟩ : Sample))[i]'(by (simp only [List.length_set]; omega))).V 1000000000) rfl rfl (by omega) rfl ?_)))))
  refine s_cons (op_indexRowN hst 0 rfl i Try.underlying22 Try.sizeOf51 rfl rfl (by omega) (by (simp only [List.length_set]; omega)) (fun g33 hb32 p31 => ?_))
  refine s_cons (op_fieldAddr (s := 0) Try.underlying51 rfl rfl Try.sizeOf2 rfl (s_cons0 (op_storeRow1 (y := (⟨((xs.set (i) (⟨(((xs[i]'(by omega)).T) + R.to), (xs[i]'(by omega)).V⟩ : Sample))[i]'(by (simp only [List.length_set]; omega))).T, (Int.tmod ((xs.set (i) (⟨(((xs[i]'(by omega)).T) + R.to), (xs[i]'(by omega)).V⟩ : Sample))[i]'(by (simp only [List.length_set]; omega))).V 1000000000)⟩ : Sample)) hst 0 rfl hb32 Try.sizeOf2 rfl rfl rfl (i) 1 rfl (by (simp only [List.length_set]; omega)) (by decide) rfl (fun w34 hst => ?_))))
  refine s_nil (block_n (then_n (cE_region rfl (s_cons (op_move (iV (i : Int)) q11_17 (s_cons (op_add (k := .i64) (a := (i : Int)) (b := 1) ((i : Int) + 1) rfl rfl (xi64 (by omega) (by omega)) (s_cons (op_assign (iV ((i : Int) + 1)) rfl (s_nil (then_n ?_)))))))))))
  exact ⟨_, ⟨((xs.set (i) (⟨(((xs[i]'(by omega)).T) + R.to), (xs[i]'(by omega)).V⟩ : Sample)).set (i) (⟨((xs.set (i) (⟨(((xs[i]'(by omega)).T) + R.to), (xs[i]'(by omega)).V⟩ : Sample))[i]'(by (simp only [List.length_set]; omega))).T, (Int.tmod ((xs.set (i) (⟨(((xs[i]'(by omega)).T) + R.to), (xs[i]'(by omega)).V⟩ : Sample))[i]'(by (simp only [List.length_set]; omega))).V 1000000000)⟩ : Sample)), (i + 1), rfl, q11_0, q11_1, q11_2, q11_3, q11_4, q11_5, q11_12, q11_13, q11_14, q11_15, (congrArg iV (show ((i : Int) + 1) = _ from by omega)), q11_16, hst, (by (simp only [List.length_set]; omega)), (by (simp only [List.length_set]; omega)), (by exact trTo_step (by omega) hX (by simp only [List.getElem_set_self]; rfl))⟩, (by simp only [id, List.length_set]; omega)⟩
 have c35 := of_decide_eq_false b15
 refine cE_cond false (congrArg Value.bool b15) (fun h => by cases h) (fun _ => ?_)
 refine cE_exit (then_x (then_x (block_hit (then_n (cE_seq ?_)))))
 have hxA : xs = (hdL steps values).map (trS R.to) := hX.trans (trTo_all (by omega))
 have hHo := tr_ok hT (by omega) (by omega) hxA
 have hpos : 0 < R.all.length := by rw [hR]; exact row_allne steps values mask (by omega) (by omega)
 refine cE_region rfl (s_cons (op_move (iV fr_) q11_4 (s_cons (op_conv (k := .i64) (a := fr_) (fr_ % 18446744073709551616) Try.underlying52 (by rw [Try.underlying3]; rfl) rfl (IntKind.wrap_u64 _) (s_cons (op_move (iV R.to) q11_15 (s_cons (op_add (k := .i64) (a := R.to) (b := 40) (R.to + 40) rfl rfl (xi64 (by omega) (by omega)) (s_cons (op_conv (k := .i64) (a := (R.to + 40)) (R.to + 40) Try.underlying52 (by rw [Try.underlying2]; rfl) rfl (xu64 (by omega) (by omega)) ?_))))))))))
 obtain ⟨f, hf, hfl⟩ := rem_nat (a := (fr_ % 18446744073709551616)) (b := (R.to + 40)) (by omega) (by omega)
 refine s_cons (op_rem (k := .u64) (a := (fr_ % 18446744073709551616)) (b := (R.to + 40)) (f : Int) rfl rfl (by omega) hf (s_cons (op_conv (k := .u64) (a := (f : Int)) (f : Int) Try.underlying2 (by rw [Try.underlying52]; rfl) rfl (xi64 (by omega) (by omega)) (s_cons (op_assign (iV (f : Int)) rfl (s_nil (then_n (cE_seq (cE_region rfl (s_cons (op_move (iV (f : Int)) rfl (s_cons (op_add (k := .i64) (a := (f : Int)) (b := 1) ((f : Int) + 1) rfl rfl (xi64 (by omega) (by omega)) ?_)))))))))))))
 refine s_cons (op_move (iV long) q11_5 (s_cons (op_conv (k := .i64) (a := long) (long % 18446744073709551616) Try.underlying52 (by rw [Try.underlying3]; rfl) rfl (IntKind.wrap_u64 _) ?_)))
 obtain ⟨q, hq, hql⟩ := rem_nat (a := (long % 18446744073709551616)) (b := 200) (by omega) (by omega)
 refine s_cons (op_rem (k := .u64) (a := (long % 18446744073709551616)) (b := 200) (q : Int) rfl rfl (by omega) hq (s_cons (op_conv (k := .u64) (a := (q : Int)) (q : Int) Try.underlying2 (by rw [Try.underlying52]; rfl) rfl (xi64 (by omega) (by omega)) (s_cons (op_add (k := .i64) (a := ((f : Int) + 1)) (b := (q : Int)) (((f : Int) + 1) + (q : Int)) rfl rfl (xi64 (by omega) (by omega)) (s_cons (op_assign (iV (((f : Int) + 1) + (q : Int))) rfl ?_)))))))
 refine s_nil (then_n (cE_seq (cE_region rfl (s_cons (op_move r1 q11_13 (s_cons (op_move r9 q11_16 (s_cons (op_move (iV (f : Int)) rfl (s_cons (op_move (iV (((f : Int) + 1) + (q : Int))) rfl (s_cons (op_call Try.call12 (evs_cons (v := r1) rfl (evs_cons (v := r9) rfl (evs_cons (v := (iV (f : Int))) rfl (evs_cons (v := (iV (((f : Int) + 1) + (q : Int)))) rfl evs_nil)))) (c_Range (w0 := w14) (v_segs := r1) (segs := r3) (h_segs := (hst.sl 1 rfl)) (v_head := r9) (head := xs) (h_head := (hst.sl 0 rfl)) (fr := (f : Int)) (to := (((f : Int) + 1) + (q : Int))) (hsg := (hF.segs hst 3 rfl)) (hso := hok) (hho := hHo) (fr0 := (by omega)) (to0 := (by omega)) (fr1 := (by omega)) (to1 := (by omega)) (hll := (by omega)) (hhl := (by omega)) (hbl := hbst)) ?_)))))))))))))
 rintro _ w37 ⟨r36, rfl, hcall⟩
 refine ⟨_, rfl, ?_⟩
 have hst := hst.call hcall
 refine s_cons (op_move (.tuple #[r36, (iV ((rangeW (ds r3) xs (f : Int) (((f : Int) + 1) + (q : Int))).2))]) rfl (s_cons (op_extract r36 rfl rfl (s_cons (op_extract (iV ((rangeW (ds r3) xs (f : Int) (((f : Int) + 1) + (q : Int))).2)) rfl rfl (s_cons (op_assign r36 rfl (s_cons (op_assign (iV ((rangeW (ds r3) xs (f : Int) (((f : Int) + 1) + (q : Int))).2)) rfl (s_nil (then_n (cE_seq ?_))))))))))))
 refine cE_region rfl (s_cons (op_move r1 q11_13 (s_cons (op_move r9 q11_16 (s_cons (op_move (iV (f : Int)) rfl (s_cons (op_move (iV (((f : Int) + 1) + (q : Int))) rfl (s_cons (op_call Try.call13 (evs_cons (v := r1) rfl (evs_cons (v := r9) rfl (evs_cons (v := (iV (f : Int))) rfl (evs_cons (v := (iV (((f : Int) + 1) + (q : Int)))) rfl evs_nil)))) (c_rRange (w0 := w37) (v_segs := r1) (segs := r3) (h_segs := (hst.sl 2 rfl)) (v_head := r9) (head := xs) (h_head := (hst.sl 1 rfl)) (fr := (f : Int)) (to := (((f : Int) + 1) + (q : Int))) (hsg := (hF.segs hst 4 rfl)) (hso := hok) (hho := hHo) (fr0 := (by omega)) (to0 := (by omega)) (fr1 := (by omega)) (to1 := (by omega)) (hll := (by omega)) (hhl := (by omega))) ?_))))))))))
 rintro _ w39 ⟨r38, rfl, hcall⟩
 refine ⟨_, rfl, ?_⟩
 have hst := hst.call hcall
 refine s_cons (op_move (.tuple #[r38, (iV ((rangeW (ds r3) xs (f : Int) (((f : Int) + 1) + (q : Int))).2))]) rfl (s_cons (op_extract r38 rfl rfl (s_cons (op_extract (iV ((rangeW (ds r3) xs (f : Int) (((f : Int) + 1) + (q : Int))).2)) rfl rfl (s_cons (op_assign r38 rfl (s_cons (op_assign (iV ((rangeW (ds r3) xs (f : Int) (((f : Int) + 1) + (q : Int))).2)) rfl (s_nil (then_n (cE_seq ?_))))))))))))
 refine cE_region rfl (s_cons (op_call Try.call11 evs_nil (c_told22 (w0 := w39)) ?_))
 rintro _ w40 ⟨rfl, hcall⟩
 refine ⟨_, rfl, ?_⟩
 have hst := hst.call hcall
 refine s_cons (op_move (.bool true) rfl (s_yes 100 rfl rfl (op_move (iV ((rangeW (ds r3) xs (f : Int) (((f : Int) + 1) + (q : Int))).2)) rfl (s_yes 100 rfl rfl (op_move (iV ((rangeW (ds r3) xs (f : Int) (((f : Int) + 1) + (q : Int))).2)) rfl (s_yes 100 rfl rfl (op_eql (k := .i64) (a := (rangeW (ds r3) xs (f : Int) (((f : Int) + 1) + (q : Int))).2) (b := (rangeW (ds r3) xs (f : Int) (((f : Int) + 1) + (q : Int))).2) rfl rfl ?_)))))))
 refine s_cons (op_pick_t (.bool (decide (((rangeW (ds r3) xs (f : Int) (((f : Int) + 1) + (q : Int))).2) = ((rangeW (ds r3) xs (f : Int) (((f : Int) + 1) + (q : Int))).2)))) rfl rfl (s_cons (op_move (.bool (decide (((rangeW (ds r3) xs (f : Int) (((f : Int) + 1) + (q : Int))).2) = ((rangeW (ds r3) xs (f : Int) (((f : Int) + 1) + (q : Int))).2)))) rfl (s_yes 105 rfl (congrArg Value.bool (show (decide (((rangeW (ds r3) xs (f : Int) (((f : Int) + 1) + (q : Int))).2) = ((rangeW (ds r3) xs (f : Int) (((f : Int) + 1) + (q : Int))).2))) = true from (decide_eq_true rfl))) (op_move r36 rfl ?_)))))
 refine s_yes 105 rfl (congrArg Value.bool (show (decide (((rangeW (ds r3) xs (f : Int) (((f : Int) + 1) + (q : Int))).2) = ((rangeW (ds r3) xs (f : Int) (((f : Int) + 1) + (q : Int))).2))) = true from (decide_eq_true rfl))) (op_move r38 rfl (s_yes 105 rfl (congrArg Value.bool (show (decide (((rangeW (ds r3) xs (f : Int) (((f : Int) + 1) + (q : Int))).2) = ((rangeW (ds r3) xs (f : Int) (((f : Int) + 1) + (q : Int))).2))) = true from (decide_eq_true rfl))) (op_call Try.call16 (evs_cons (v := r36) rfl (evs_cons (v := r38) rfl evs_nil)) (c_wins (w0 := w40) (v_a := r36) (a := (rangeW (ds r3) xs (f : Int) (((f : Int) + 1) + (q : Int))).1) (h_a := (hst.sl 1 rfl)) (v_b := r38) (b := (rangeW (ds r3) xs (f : Int) (((f : Int) + 1) + (q : Int))).1) (h_b := (hst.sl 0 rfl))) ?_)))
 rintro _ w41 ⟨rfl, hcall⟩
 refine ⟨_, rfl, ?_⟩
 have hst := hst.call hcall
 refine s_cons (op_pick_t (.bool (decide ((rangeW (ds r3) xs (f : Int) (((f : Int) + 1) + (q : Int))).1 = (rangeW (ds r3) xs (f : Int) (((f : Int) + 1) + (q : Int))).1))) (congrArg Value.bool (show (decide (((rangeW (ds r3) xs (f : Int) (((f : Int) + 1) + (q : Int))).2) = ((rangeW (ds r3) xs (f : Int) (((f : Int) + 1) + (q : Int))).2))) = true from (decide_eq_true rfl))) rfl (s_cons (op_move (.bool (decide ((rangeW (ds r3) xs (f : Int) (((f : Int) + 1) + (q : Int))).1 = (rangeW (ds r3) xs (f : Int) (((f : Int) + 1) + (q : Int))).1))) rfl ?_)))
 refine s_yes 110 rfl (congrArg Value.bool (show (decide ((rangeW (ds r3) xs (f : Int) (((f : Int) + 1) + (q : Int))).1 = (rangeW (ds r3) xs (f : Int) (((f : Int) + 1) + (q : Int))).1)) = true from (decide_eq_true rfl))) (op_move r2 q11_14 (s_yes 110 rfl (congrArg Value.bool (show (decide ((rangeW (ds r3) xs (f : Int) (((f : Int) + 1) + (q : Int))).1 = (rangeW (ds r3) xs (f : Int) (((f : Int) + 1) + (q : Int))).1)) = true from (decide_eq_true rfl))) (op_len (E := sampE) (xs := R.all) Try.underlying22 rfl (hst.sl 4 rfl) ?_)))
 refine s_yes 110 rfl (congrArg Value.bool (show (decide ((rangeW (ds r3) xs (f : Int) (((f : Int) + 1) + (q : Int))).1 = (rangeW (ds r3) xs (f : Int) (((f : Int) + 1) + (q : Int))).1)) = true from (decide_eq_true rfl))) (op_gtr (k := .i64) (a := (R.all.length : Int)) (b := 0) rfl rfl (s_cons (op_pick_t (.bool (decide (0 < (R.all.length : Int)))) (congrArg Value.bool (show (decide ((rangeW (ds r3) xs (f : Int) (((f : Int) + 1) + (q : Int))).1 = (rangeW (ds r3) xs (f : Int) (((f : Int) + 1) + (q : Int))).1)) = true from (decide_eq_true rfl))) rfl ?_)))
 refine s_cons (op_assign (.bool (decide (0 < (R.all.length : Int)))) rfl (s_nil (then_n (cE_ret (post_r _ (res1 (v := (.bool true)) (congrArg Value.bool (show (decide (0 < (R.all.length : Int))) = true from (decide_eq_true (by omega))))) ?_)))))
 exact ⟨rfl, hst.bare⟩

end Go.Proofs.Ythanfecefjfbjaa
