/- windows -/
import Derived.Test.YtgibfidebdgffaaDoorXW4
import Derived.Test.YtgibfidebdgffaaDoorXLB
namespace Go.Proofs.YtgibfidebdgffaaDoor
open Go.RowKit

set_option maxRecDepth 8000 in
theorem c_Width (w0 : World) (k : Int) (k0 : -9223372036854775808 ≤ k) (k1 : k ≤ 9223372036854775807) :
  Calls Tryd.prog 39 #[(iV k)] w0 fun e w' => e = .returned (iV (widthA k)) ∧ St w0 w' [] := by
 refine calls_E (n := 12) (ts := [2]) Tryd.func39 rfl rfl rfl (by simp) ?_
 have hst := St.start w0
 refine cE_seq (cE_region rfl (s_cons (op_assign (iV 0) rfl (s_nil (then_n (cE_seq (cE_seq (cE_region rfl (s_cons (op_move (iV k) rfl (s_cons (op_lss (k := .i64) (a := k) (b := 0) rfl rfl (s_cons (op_move (.bool (decide (k < 0))) rfl ?_))))))))))))))
 rcases Bool.eq_false_or_eq_true (decide (k < 0)) with b1 | b1
 ·have c2 : k < 0 := of_decide_eq_true b1
  refine s_no 5 rfl (congrArg Value.bool b1) (s_no 5 rfl (congrArg Value.bool b1) (s_cons (op_pick_t (.bool true) (congrArg Value.bool b1) rfl (s_nil (then_n (cE_cond true rfl (fun _ => ?_) (fun h => by cases h)))))))
  refine cE_seq (cE_region rfl (s_cons (op_assign (iV 0) rfl (s_nil (then_n (cE_ret (then_r (post_r _ (res1 (v := (iV 0)) rfl) ?_))))))))
  exact ⟨(retv1 (congrArg iV (show 0 = (widthA k) from by exact (width_none (by omega)).symm))), hst.bare⟩
 have c3 : ¬ (k < 0) := of_decide_eq_false b1
 refine s_yes 5 rfl (congrArg Value.bool b1) (op_move (iV k) rfl (s_yes 5 rfl (congrArg Value.bool b1) (op_geq (k := .i64) (a := k) (b := 4) rfl rfl (s_cons (op_pick_f (.bool (decide (4 ≤ k))) (congrArg Value.bool b1) rfl (s_nil (then_n ?_)))))))
 rcases Bool.eq_false_or_eq_true (decide (4 ≤ k)) with b4 | b4
 ·have c5 : 4 ≤ k := of_decide_eq_true b4
  refine cE_cond true (congrArg Value.bool b4) (fun _ => ?_) (fun h => by cases h)
  refine cE_seq (cE_region rfl (s_cons (op_assign (iV 0) rfl (s_nil (then_n (cE_ret (then_r (post_r _ (res1 (v := (iV 0)) rfl) ?_))))))))
  exact ⟨(retv1 (congrArg iV (show 0 = (widthA k) from by exact (width_none (by omega)).symm))), hst.bare⟩
 have c6 : ¬ (4 ≤ k) := of_decide_eq_false b4
 refine cE_cond false (congrArg Value.bool b4) (fun h => by cases h) (fun _ => ?_)
 refine cE_skip (then_n (cE_seq (cE_region rfl (s_cons (op_build (r := (.agg #[(iV 1), (iV 5), (iV 60), (iV 1440)])) (evp_cons (v := (iV 1)) rfl (evp_cons (v := (iV 5)) rfl (evp_cons (v := (iV 60)) rfl (evp_cons (v := (iV 1440)) rfl evp_nil)))) (by simp [Instr.build, Instr.fill, Value.cells, Tryd.runUnderlying95, Tryd.zeroValue95]) (s_cons (op_move (iV k) rfl (s_cons (op_indexArr (v := (iV (widthA k))) Tryd.underlying95 Tryd.isAgg2 Tryd.sizeOf2 rfl rfl (by omega) (by omega) (width_at (by omega) (by omega)) ?_)))))))))
 refine s_cons (op_assign (iV (widthA k)) rfl (s_nil (then_n (cE_ret (post_r _ (res1 (v := (iV (widthA k))) rfl) ?_)))))
 exact ⟨rfl, hst.bare⟩

set_option maxRecDepth 8000 in
theorem c_Floor (w0 : World) (t : Int) (k : Int) (t0 : -9223372036854775808 ≤ t) (k0 : -9223372036854775808 ≤ k) (t1 : t ≤ 9223372036854775807) (k1 : k ≤ 9223372036854775807) :
  Calls Tryd.prog 26 #[(iV t), (iV k)] w0 fun e w' => e = .returned (iV (floorA t k)) ∧ St w0 w' [] := by
 have hw := width_r k
 refine calls_E (n := 23) (ts := [4]) Tryd.func26 rfl rfl rfl (by simp) ?_
 have hst := St.start w0
 refine cE_seq (cE_region rfl (s_cons (op_assign (iV 0) rfl (s_nil (then_n (cE_seq (cE_region rfl (s_cons (op_move (iV k) rfl (s_cons (op_call Tryd.call39 (evs_cons (v := (iV k)) rfl evs_nil) (c_Width (w0 := w0) (k := k) (k0 := (by omega)) (k1 := (by omega))) ?_)))))))))))
 rintro _ w7 ⟨rfl, hcall⟩
 refine ⟨_, rfl, ?_⟩
 have hst : St w0 w7 [] := hst.call hcall
 refine s_cons (op_assign (iV (widthA k)) rfl (s_nil (then_n (cE_seq (cE_seq (cE_region rfl (s_cons (op_move (iV (widthA k)) rfl (s_cons (op_eql (k := .i64) (a := (widthA k)) (b := 0) rfl rfl (s_cons (op_move (.bool (decide ((widthA k) = 0))) rfl ?_))))))))))))
 rcases Bool.eq_false_or_eq_true (decide ((widthA k) = 0)) with b8 | b8
 ·have c9 : (widthA k) = 0 := of_decide_eq_true b8
  refine s_no 10 rfl (congrArg Value.bool b8) (s_no 10 rfl (congrArg Value.bool b8) (s_cons (op_pick_t (.bool true) (congrArg Value.bool b8) rfl (s_cons (op_move (.bool true) rfl (s_no 14 rfl rfl (s_no 14 rfl rfl (s_cons (op_pick_t (.bool true) rfl rfl (s_nil (then_n (cE_cond true rfl (fun _ => ?_) (fun h => by cases h)))))))))))))
  refine cE_seq (cE_region rfl (s_cons (op_assign (iV (-1)) rfl (s_nil (then_n (cE_ret (then_r (post_r _ (res1 (v := (iV (-1))) rfl) ?_))))))))
  exact ⟨(retv1 (congrArg iV (show (-1) = (floorA t k) from by first | exact (floor_none (by omega)).symm | exact (floor_some (by omega) (by omega) (by omega)).symm))), hst.bare⟩
 have c10 : ¬ ((widthA k) = 0) := of_decide_eq_false b8
 refine s_yes 10 rfl (congrArg Value.bool b8) (op_move (iV t) rfl (s_yes 10 rfl (congrArg Value.bool b8) (op_lss (k := .i64) (a := t) (b := 0) rfl rfl (s_cons (op_pick_f (.bool (decide (t < 0))) (congrArg Value.bool b8) rfl (s_cons (op_move (.bool (decide (t < 0))) rfl ?_)))))))
 rcases Bool.eq_false_or_eq_true (decide (t < 0)) with b11 | b11
 ·have c12 : t < 0 := of_decide_eq_true b11
  refine s_no 14 rfl (congrArg Value.bool b11) (s_no 14 rfl (congrArg Value.bool b11) (s_cons (op_pick_t (.bool true) (congrArg Value.bool b11) rfl (s_nil (then_n (cE_cond true rfl (fun _ => ?_) (fun h => by cases h)))))))
  refine cE_seq (cE_region rfl (s_cons (op_assign (iV (-1)) rfl (s_nil (then_n (cE_ret (then_r (post_r _ (res1 (v := (iV (-1))) rfl) ?_))))))))
  exact ⟨(retv1 (congrArg iV (show (-1) = (floorA t k) from by first | exact (floor_none (by omega)).symm | exact (floor_some (by omega) (by omega) (by omega)).symm))), hst.bare⟩
 have c13 : ¬ (t < 0) := of_decide_eq_false b11
 refine s_yes 14 rfl (congrArg Value.bool b11) (op_move (iV t) rfl (s_yes 14 rfl (congrArg Value.bool b11) (op_gtr (k := .i64) (a := t) (b := 1099511627776) rfl rfl (s_cons (op_pick_f (.bool (decide (1099511627776 < t))) (congrArg Value.bool b11) rfl (s_nil (then_n ?_)))))))
 rcases Bool.eq_false_or_eq_true (decide (1099511627776 < t)) with b14 | b14
 ·have c15 : 1099511627776 < t := of_decide_eq_true b14
  refine cE_cond true (congrArg Value.bool b14) (fun _ => ?_) (fun h => by cases h)
  refine cE_seq (cE_region rfl (s_cons (op_assign (iV (-1)) rfl (s_nil (then_n (cE_ret (then_r (post_r _ (res1 (v := (iV (-1))) rfl) ?_))))))))
  exact ⟨(retv1 (congrArg iV (show (-1) = (floorA t k) from by first | exact (floor_none (by omega)).symm | exact (floor_some (by omega) (by omega) (by omega)).symm))), hst.bare⟩
 have c16 : ¬ (1099511627776 < t) := of_decide_eq_false b14
 refine cE_cond false (congrArg Value.bool b14) (fun h => by cases h) (fun _ => ?_)
 refine cE_skip (then_n (cE_seq ?_))
 have hw2 := emod_w (t := t) (w := widthA k) (by omega) (by omega) hw.1
 refine cE_region rfl (s_cons (op_move (iV t) rfl (s_cons (op_move (iV t) rfl (s_cons (op_move (iV (widthA k)) rfl (s_cons (op_rem (k := .i64) (a := t) (b := (widthA k)) (t % (widthA k)) rfl rfl (by omega) (tmod_nn (by omega)) (s_cons (op_sub (k := .i64) (a := t) (b := (t % (widthA k))) (t - (t % (widthA k))) rfl rfl (xi64 (by omega) (by omega)) (s_cons (op_assign (iV (t - (t % (widthA k)))) rfl ?_))))))))))))
 refine s_nil (then_n (cE_ret (post_r _ (res1 (v := (iV (t - (t % (widthA k))))) rfl) ?_)))
 exact ⟨(retv1 (congrArg iV (show (t - (t % (widthA k))) = (floorA t k) from by first | exact (floor_none (by omega)).symm | exact (floor_some (by omega) (by omega) (by omega)).symm))), hst.bare⟩

set_option maxRecDepth 8000 in
theorem c_coarse (w0 : World) (k : Int) :
  Calls Tryd.prog 44 #[(iV k)] w0 fun e w' => e = .returned (.bool (coarseA k)) ∧ St w0 w' [] := by
 refine calls_E (n := 9) (ts := [2]) Tryd.func44 rfl rfl rfl (by simp) ?_
 have hst := St.start w0
 refine cE_seq (cE_region rfl (s_cons (op_assign (.bool false) rfl (s_nil (then_n (cE_seq (cE_region rfl (s_cons (op_move (iV k) rfl (s_cons (op_gtr (k := .i64) (a := k) (b := 0) rfl rfl (s_cons (op_move (.bool (decide (0 < k))) rfl ?_)))))))))))))
 rcases Bool.eq_false_or_eq_true (decide (0 < k)) with b17 | b17
 ·have c18 : 0 < k := of_decide_eq_true b17
  refine s_yes 5 rfl (congrArg Value.bool b17) (op_move (iV k) rfl (s_yes 5 rfl (congrArg Value.bool b17) (op_lss (k := .i64) (a := k) (b := 4) rfl rfl (s_cons (op_pick_t (.bool (decide (k < 4))) (congrArg Value.bool b17) rfl (s_cons (op_assign (.bool (decide (k < 4))) rfl (s_nil (then_n (cE_ret (post_r _ (res1 (v := (.bool (decide (k < 4)))) rfl) ?_)))))))))))
  exact ⟨(retv1 (congrArg Value.bool (show (decide (k < 4)) = (coarseA k) from by (rw [Bool.eq_iff_iff]; simp only [coarseA, decide_eq_true_eq, Bool.false_eq_true, true_iff, false_iff]; omega)))), hst.bare⟩
 have c19 : ¬ (0 < k) := of_decide_eq_false b17
 refine s_no 5 rfl (congrArg Value.bool b17) (s_no 5 rfl (congrArg Value.bool b17) (s_cons (op_pick_f (.bool false) (congrArg Value.bool b17) rfl (s_cons (op_assign (.bool false) rfl (s_nil (then_n (cE_ret (post_r _ (res1 (v := (.bool false)) rfl) ?_)))))))))
 exact ⟨(retv1 (congrArg Value.bool (show false = (coarseA k) from by (rw [Bool.eq_iff_iff]; simp only [coarseA, decide_eq_true_eq, Bool.false_eq_true, true_iff, false_iff]; omega)))), hst.bare⟩

set_option maxRecDepth 8000 in
theorem c_Rising (w0 : World) (v_l : Value) (l : List Sample) (h_l : Sl w0 sampE v_l l) :
  Calls Tryd.prog 24 #[v_l] w0 fun e w' => e = .returned (.bool (risingA l)) ∧ St w0 w' [] := by
 refine calls_E (n := 24) (ts := [2]) Tryd.func24 rfl rfl rfl (by simp) ?_
 have hst := St.start w0
 refine cE_seq (cE_region rfl (s_cons (op_assign (.bool false) rfl (s_nil (then_n (cE_scope (cE_seq (cE_region rfl (s_cons (op_assign (iV (-1)) rfl (s_nil (then_n (cE_seq (cE_label (then_n (cE_seq (cE_seq (cE_region rfl (s_cons (op_move v_l rfl (s_cons (op_len (E := sampE) (xs := l) Tryd.underlying23 rfl h_l (s_cons (op_move (iV 0) rfl (s_nil (then_n (cE_block (cE_loop (fun (m : Nat) (ρ : Env) (w : World) => ∃ (last : Int) (i : Nat), m = l.length - i ∧ ρ 0 = v_l ∧ ρ 6 = v_l ∧ ρ 7 = (iV (l.length : Int)) ∧ ρ 3 = (iV last) ∧ ρ 8 = (iV (i : Int)) ∧ St w0 w [] ∧ (i ≤ l.length) ∧ (risingA l = risesFrom last (l.drop i))) id _ ⟨(-1), 0, rfl, rfl, rfl, rfl, rfl, (congrArg iV (show 0 = _ from by omega)), hst, (by omega), (by first | rfl | exact hI.trans (rises_go (by omega) (by omega) (by omega)))⟩ ?_))))))))))))))))))))))))))))
 rintro m21 ρ22 w23 ⟨last, i, hm21, q20_0, q20_6, q20_7, q20_3, q20_8, hst, hi, hI⟩
 have hlen := h_l.len
 refine cE_seq (cE_region rfl (s_cons (op_lss (k := .i64) (a := (i : Int)) (b := (l.length : Int)) q20_8 q20_7 (s_nil (then_n (cE_seq ?_))))))
 rcases Bool.eq_false_or_eq_true (decide ((i : Int) < (l.length : Int))) with b24 | b24
 ·have c25 : (i : Int) < (l.length : Int) := of_decide_eq_true b24
  refine cE_cond true (congrArg Value.bool b24) (fun _ => ?_) (fun h => by cases h)
  refine cE_skip (then_n (cE_seq (cE_block (cE_seq (cE_region rfl (s_cons (op_indexAddrN (E := sampE) (xs := l) i Tryd.underlying23 Tryd.sizeOf28 q20_6 h_l q20_8 (by omega) (by omega) (fun a26 o27 p28 => ?_))))))))
  refine s_cons (op_loadN (cs := [(iV ((l[i]'(by omega)).T)), (iV ((l[i]'(by omega)).V))]) Tryd.isAgg28 Tryd.sizeOf28 rfl (Pt.of (p28.below hst.below) rfl) rfl (s_cons (op_alloc (cs := #[(iV 0), (iV 0)]) hst Tryd.zeroValue28 rfl (fun g29 w30 hst _ => ?_))))
  replace hst : St w0 w30 [.blk g29 28 #[(iV 0), (iV 0)]] := hst
  refine s_cons0 (op_storeAll hst 0 rfl Tryd.sizeOf28 rfl rfl rfl rfl (by simp [Value.oneCell']) (fun w31 hst => ?_))
  replace hst : St w0 w31 [.blk g29 28 #[(iV ((l[i]'(by omega)).T)), (iV ((l[i]'(by omega)).V))]] := hst
  refine s_nil (then_n (cE_seq (cE_seq (cE_region rfl (s_cons (op_fieldAddr (s := 0) Tryd.underlying28 rfl rfl Tryd.sizeOf2 rfl (s_cons (op_load1 (u := (iV ((l[i]'(by omega)).T))) Tryd.isAgg2 rfl (hst.cell 0 rfl) (s_cons (op_move (iV last) q20_3 (s_cons (op_leq (k := .i64) (a := (l[i]'(by omega)).T) (b := last) rfl rfl (s_cons (op_move (.bool (decide (((l[i]'(by omega)).T) ≤ last))) rfl ?_))))))))))))))
  rcases Bool.eq_false_or_eq_true (decide (((l[i]'(by omega)).T) ≤ last)) with b32 | b32
  ·have c33 : ((l[i]'(by omega)).T) ≤ last := of_decide_eq_true b32
   refine s_no 16 rfl (congrArg Value.bool b32) (s_no 16 rfl (congrArg Value.bool b32) (s_no 16 rfl (congrArg Value.bool b32) (s_cons (op_pick_t (.bool true) (congrArg Value.bool b32) rfl (s_nil (then_n (cE_cond true rfl (fun _ => ?_) (fun h => by cases h))))))))
   refine cE_seq (cE_region rfl (s_cons (op_assign (.bool false) rfl (s_nil (then_n (cE_ret (then_r (block_r (then_r (then_r (block_r (then_r (scope_r (post_r _ (res1 (v := (.bool false)) rfl) ?_))))))))))))))
   exact ⟨(retv1 (congrArg Value.bool (show false = (risingA l) from by first | exact (hI.trans (rises_no (by omega) (by omega))).symm | exact (hI.trans (rises_end (by omega))).symm))), hst.bare⟩
  have c34 : ¬ (((l[i]'(by omega)).T) ≤ last) := of_decide_eq_false b32
  refine s_yes 16 rfl (congrArg Value.bool b32) (op_fieldAddr (s := 0) Tryd.underlying28 rfl rfl Tryd.sizeOf2 rfl (s_yes 16 rfl (congrArg Value.bool b32) (op_load1 (u := (iV ((l[i]'(by omega)).T))) Tryd.isAgg2 rfl (hst.cell 0 rfl) (s_yes 16 rfl (congrArg Value.bool b32) (op_gtr (k := .i64) (a := (l[i]'(by omega)).T) (b := 1099511627776) rfl rfl (s_cons (op_pick_f (.bool (decide (1099511627776 < ((l[i]'(by omega)).T)))) (congrArg Value.bool b32) rfl ?_)))))))
  refine s_nil (then_n ?_)
  rcases Bool.eq_false_or_eq_true (decide (1099511627776 < ((l[i]'(by omega)).T))) with b35 | b35
  ·have c36 : 1099511627776 < ((l[i]'(by omega)).T) := of_decide_eq_true b35
   refine cE_cond true (congrArg Value.bool b35) (fun _ => ?_) (fun h => by cases h)
   refine cE_seq (cE_region rfl (s_cons (op_assign (.bool false) rfl (s_nil (then_n (cE_ret (then_r (block_r (then_r (then_r (block_r (then_r (scope_r (post_r _ (res1 (v := (.bool false)) rfl) ?_))))))))))))))
   exact ⟨(retv1 (congrArg Value.bool (show false = (risingA l) from by first | exact (hI.trans (rises_no (by omega) (by omega))).symm | exact (hI.trans (rises_end (by omega))).symm))), hst.bare⟩
  have c37 : ¬ (1099511627776 < ((l[i]'(by omega)).T)) := of_decide_eq_false b35
  refine cE_cond false (congrArg Value.bool b35) (fun h => by cases h) (fun _ => ?_)
  refine cE_skip (then_n (cE_seq (cE_region rfl (s_cons (op_fieldAddr (s := 0) Tryd.underlying28 rfl rfl Tryd.sizeOf2 rfl (s_cons (op_load1 (u := (iV ((l[i]'(by omega)).T))) Tryd.isAgg2 rfl (hst.cell 0 rfl) (s_cons (op_assign (iV ((l[i]'(by omega)).T)) rfl (s_nil (then_n (cE_exit (block_hit (then_n (cE_region rfl (s_cons (op_add (k := .i64) (a := (i : Int)) (b := 1) ((i : Int) + 1) q20_8 rfl (xi64 (by omega) (by omega)) ?_)))))))))))))))))
  refine s_cons (op_move (iV ((i : Int) + 1)) rfl (s_nil (then_n ?_)))
  exact ⟨_, ⟨(l[i]'(by omega)).T, (i + 1), rfl, q20_0, q20_6, q20_7, rfl, (congrArg iV (show ((i : Int) + 1) = _ from by omega)), (hst.sub (.cons _ .slnil)), (by omega), (by first | rfl | exact hI.trans (rises_go (by omega) (by omega) (by omega)))⟩, (by simp only [id]; omega)⟩
 have c38 : ¬ ((i : Int) < (l.length : Int)) := of_decide_eq_false b24
 refine cE_cond false (congrArg Value.bool b24) (fun h => by cases h) (fun _ => ?_)
 refine cE_exit (then_x (then_x (block_hit (then_n (cE_seq (cE_region rfl (s_cons (op_assign (.bool true) rfl (s_nil (then_n (cE_ret (scope_r (post_r _ (res1 (v := (.bool true)) rfl) ?_)))))))))))))
 exact ⟨(retv1 (congrArg Value.bool (show true = (risingA l) from by first | exact (hI.trans (rises_no (by omega) (by omega))).symm | exact (hI.trans (rises_end (by omega))).symm))), hst.bare⟩

set_option maxRecDepth 8000 in
theorem c_Aligned (w0 : World) (v_l : Value) (l : List Agg) (h_l : Sl w0 aggE v_l l) (k : Int) (hl : ∀ a ∈ l, a.ok) (k0 : -9223372036854775808 ≤ k) (k1 : k ≤ 9223372036854775807) :
  Calls Tryd.prog 25 #[v_l, (iV k)] w0 fun e w' => e = .returned (.bool (alignedA l k)) ∧ St w0 w' [] := by
 refine calls_E (n := 38) (ts := [4]) Tryd.func25 rfl rfl rfl (by simp) ?_
 have hst := St.start w0
 refine cE_seq (cE_region rfl (s_cons (op_assign (.bool false) rfl (s_nil (then_n (cE_scope (cE_seq (cE_seq (cE_region rfl (s_cons (op_move (iV k) rfl (s_cons (op_call Tryd.call44 (evs_cons (v := (iV k)) rfl evs_nil) (c_coarse (w0 := w0) (k := k)) ?_)))))))))))))
 rintro _ w39 ⟨rfl, hcall⟩
 refine ⟨_, rfl, ?_⟩
 have hst : St w0 w39 [] := hst.call hcall
 refine s_cons (op_not (b := coarseA k) rfl (s_nil (then_n ?_)))
 rcases Bool.eq_false_or_eq_true (coarseA k) with b40 | b40
 ·have hc := b40
  refine cE_cond false (congrArg Value.bool (congrArg (! ·) b40)) (fun h => by cases h) (fun _ => ?_)
  refine cE_skip (then_n (cE_seq (cE_region rfl (s_cons (op_assign (iV (-1)) rfl (s_nil (then_n (cE_seq (cE_label (then_n (cE_seq (cE_seq (cE_region rfl (s_cons (op_move v_l rfl (s_cons (op_len (E := aggE) (xs := l) Tryd.underlying24 rfl h_l (s_cons (op_move (iV 0) rfl (s_nil (then_n (cE_block (cE_loop (fun (m : Nat) (ρ : Env) (w : World) => ∃ (last : Int) (i : Nat), m = l.length - i ∧ ρ 0 = v_l ∧ ρ 1 = (iV k) ∧ ρ 11 = v_l ∧ ρ 12 = (iV (l.length : Int)) ∧ ρ 5 = (iV last) ∧ ρ 13 = (iV (i : Int)) ∧ St w0 w [] ∧ (i ≤ l.length) ∧ (alignedA l k = alignsFrom k last (l.drop i))) id _ ⟨(-1), 0, rfl, rfl, rfl, rfl, rfl, rfl, (congrArg iV (show 0 = _ from by omega)), hst, (by omega), (by first | (unfold alignedA; rw [hc]; rfl) | exact hI.trans (aligns_go (by omega) (by assumption) (by assumption) (by assumption)))⟩ ?_)))))))))))))))))))))))
  rintro m42 ρ43 w44 ⟨last, i, hm42, q41_0, q41_1, q41_11, q41_12, q41_5, q41_13, hst, hi, hI⟩
  have hlen := h_l.len
  refine cE_seq (cE_region rfl (s_cons (op_lss (k := .i64) (a := (i : Int)) (b := (l.length : Int)) q41_13 q41_12 (s_nil (then_n (cE_seq ?_))))))
  rcases Bool.eq_false_or_eq_true (decide ((i : Int) < (l.length : Int))) with b45 | b45
  ·have c46 : (i : Int) < (l.length : Int) := of_decide_eq_true b45
   refine cE_cond true (congrArg Value.bool b45) (fun _ => ?_) (fun h => by cases h)
   refine cE_skip (then_n (cE_seq (cE_block (cE_seq (cE_region rfl (s_cons (op_indexAddrN (E := aggE) (xs := l) i Tryd.underlying24 Tryd.sizeOf45 q41_11 h_l q41_13 (by omega) (by omega) (fun a47 o48 p49 => ?_))))))))
   have hr := hl (l[i]'(by omega)) (List.getElem_mem _)
   refine s_cons (op_loadN (cs := (aggC (l[i]'(by omega)))) Tryd.isAgg45 Tryd.sizeOf45 rfl (Pt.of (p49.below hst.below) rfl) rfl (s_cons (op_alloc (cs := #[(iV 0), (iV 0), (iV 0), (iV 0), (iV 0), (iV 0), (iV 0)]) hst Tryd.zeroValue45 rfl (fun g50 w51 hst _ => ?_))))
   replace hst : St w0 w51 [.blk g50 45 #[(iV 0), (iV 0), (iV 0), (iV 0), (iV 0), (iV 0), (iV 0)]] := hst
   refine s_cons0 (op_storeAll hst 0 rfl Tryd.sizeOf45 rfl rfl rfl rfl (by simp [Value.oneCell']) (fun w52 hst => ?_))
   replace hst : St w0 w52 [.blk g50 45 (aggA (l[i]'(by omega)))] := hst
   refine s_nil (then_n (cE_seq (cE_seq ?_)))
   rcases Bool.eq_false_or_eq_true (mayA (l[i]'(by omega))) with b54 | b54
   ·rcases Bool.eq_false_or_eq_true (decide (((l[i]'(by omega)).From) = (floorA ((l[i]'(by omega)).From) k))) with b57 | b57
    ·have c58 : ((l[i]'(by omega)).From) = (floorA ((l[i]'(by omega)).From) k) := of_decide_eq_true b57
     refine cE_regionL hst [[(7, none)], [(17, some 0)], [(18, some 1)], [(19, some 2)], [(7, none), (20, some 3)], [(21, some 4), (20, some 3)], [(7, none), (20, some 3)], [(23, some 6), (20, some 3)], [(1, none), (20, some 3)], [(24, some 7), (25, some 8), (20, some 3)], [(22, some 5), (26, some 9), (20, some 3)], [(20, some 3), (27, some 10)], [(28, some 11)], [(7, none), (29, some 12)], [(30, some 13), (29, some 12)], [(5, none), (29, some 12)], [(31, some 14), (32, some 15), (29, some 12)], [(29, some 12), (33, some 16)]] [(rEq (.agg (aggA (l[i]'(by omega))))), (rEq (.bool (mayA (l[i]'(by omega))))), (rEq (.bool (!(mayA (l[i]'(by omega)))))), (rEq (.bool (!(mayA (l[i]'(by omega)))))), (rEq (.pointer (some ⟨g50, (0 + 0), none⟩))), (rEq (iV ((l[i]'(by omega)).From))), (rEq (.pointer (some ⟨g50, (0 + 0), none⟩))), (rEq (iV ((l[i]'(by omega)).From))), (rEq (iV k)), (rEq (iV (floorA ((l[i]'(by omega)).From) k))), (rEq (.bool (!decide (((l[i]'(by omega)).From) = (floorA ((l[i]'(by omega)).From) k))))), (rEq (.bool (!decide (((l[i]'(by omega)).From) = (floorA ((l[i]'(by omega)).From) k))))), (rEq (.bool (!decide (((l[i]'(by omega)).From) = (floorA ((l[i]'(by omega)).From) k))))), (rEq (.pointer (some ⟨g50, (0 + 0), none⟩))), (rEq (iV ((l[i]'(by omega)).From))), (rEq (iV last)), (rEq (.bool (decide (((l[i]'(by omega)).From) ≤ last)))), (rEq (.bool (decide (((l[i]'(by omega)).From) ≤ last))))] (by kernel_rfl) rfl (by kernel_rfl) ⟨sEq, sEq, sEq, sEq, sEq, sEq, sEq, sEq, sEq, sEq, sEq, sEq, sEq, sEq, sEq, sEq, sEq, sEq, trivial⟩ ⟨?_, ?_, ?_, ?_, ?_, ?_, ?_, ?_, ?_, ?_, ?_, ?_, ?_, ?_, ?_, ?_, ?_, ?_, trivial⟩ ?_
     ·rintro ρ61 w62 hj63 ⟨f7, _⟩
      have hst := hj63.2
      exact go_plain (op_loadN (cs := (aggC (l[i]'(by omega)))) Tryd.isAgg45 Tryd.sizeOf45 (f7.trans rfl) (Pt.of (hst.cell 0 rfl) rfl) rfl (kS hj63 rfl))
     ·rintro ρ64 w65 hj66 ⟨f17, _⟩
      have hst := hj66.2
      refine go_plain (op_call Tryd.call45 (evs_cons (v := (.agg (aggA (l[i]'(by omega))))) f17 evs_nil) (c_May (w0 := w65) (a := (l[i]'(by omega)))) ?_)
      rintro _ w67 ⟨rfl, hcall⟩
      refine ⟨_, rfl, ?_⟩
      exact kD hj66 hcall rfl
     ·rintro ρ68 w69 hj70 ⟨f18, _⟩
      have hst := hj70.2
      exact go_plain (op_not (b := mayA (l[i]'(by omega))) f18 (kS hj70 rfl))
     ·rintro ρ71 w72 hj73 ⟨f19, _⟩
      have hst := hj73.2
      exact go_plain (op_move (.bool (!(mayA (l[i]'(by omega))))) f19 (kS hj73 rfl))
     ·rintro ρ74 w75 hj76 ⟨f7, f20, _⟩
      have hst := hj76.2
      exact go_yes 20 rfl (f20.trans (congrArg Value.bool (congrArg (! ·) b54))) (op_fieldAddr (s := 0) Tryd.underlying45 rfl rfl Tryd.sizeOf2 (f7.trans rfl) (kS hj76 rfl))
     ·rintro ρ77 w78 hj79 ⟨f21, f20, _⟩
      have hst := hj79.2
      exact go_yes 20 rfl (f20.trans (congrArg Value.bool (congrArg (! ·) b54))) (op_load1 (u := (iV ((l[i]'(by omega)).From))) Tryd.isAgg2 f21 (hst.cell 0 rfl) (kS hj79 rfl))
     ·rintro ρ80 w81 hj82 ⟨f7, f20, _⟩
      have hst := hj82.2
      exact go_yes 20 rfl (f20.trans (congrArg Value.bool (congrArg (! ·) b54))) (op_fieldAddr (s := 0) Tryd.underlying45 rfl rfl Tryd.sizeOf2 (f7.trans rfl) (kS hj82 rfl))
     ·rintro ρ83 w84 hj85 ⟨f23, f20, _⟩
      have hst := hj85.2
      exact go_yes 20 rfl (f20.trans (congrArg Value.bool (congrArg (! ·) b54))) (op_load1 (u := (iV ((l[i]'(by omega)).From))) Tryd.isAgg2 f23 (hst.cell 0 rfl) (kS hj85 rfl))
     ·rintro ρ86 w87 hj88 ⟨f1, f20, _⟩
      have hst := hj88.2
      exact go_yes 20 rfl (f20.trans (congrArg Value.bool (congrArg (! ·) b54))) (op_move (iV k) (f1.trans q41_1) (kS hj88 rfl))
     ·rintro ρ89 w90 hj91 ⟨f24, f25, f20, _⟩
      have hst := hj91.2
      refine go_yes 20 rfl (f20.trans (congrArg Value.bool (congrArg (! ·) b54))) (op_call Tryd.call26 (evs_cons (v := (iV ((l[i]'(by omega)).From))) f24 (evs_cons (v := (iV k)) f25 evs_nil)) (c_Floor (w0 := w90) (t := (l[i]'(by omega)).From) (k := k) (t0 := (by omega)) (k0 := (by omega)) (t1 := (by omega)) (k1 := (by omega))) ?_)
      rintro _ w92 ⟨rfl, hcall⟩
      refine ⟨_, rfl, ?_⟩
      exact kD hj91 hcall rfl
     ·rintro ρ93 w94 hj95 ⟨f22, f26, f20, _⟩
      have hst := hj95.2
      exact go_yes 20 rfl (f20.trans (congrArg Value.bool (congrArg (! ·) b54))) (op_neq (k := .i64) (a := (l[i]'(by omega)).From) (b := (floorA ((l[i]'(by omega)).From) k)) f22 f26 (kS hj95 rfl))
     ·rintro ρ96 w97 hj98 ⟨f20, f27, _⟩
      have hst := hj98.2
      exact go_plain (op_pick_f (.bool (!decide (((l[i]'(by omega)).From) = (floorA ((l[i]'(by omega)).From) k)))) (f20.trans (congrArg Value.bool (congrArg (! ·) b54))) f27 (kS hj98 rfl))
     ·rintro ρ99 w100 hj101 ⟨f28, _⟩
      have hst := hj101.2
      exact go_plain (op_move (.bool (!decide (((l[i]'(by omega)).From) = (floorA ((l[i]'(by omega)).From) k)))) f28 (kS hj101 rfl))
     ·rintro ρ102 w103 hj104 ⟨f7, f29, _⟩
      have hst := hj104.2
      exact go_yes 29 rfl (f29.trans (congrArg Value.bool (congrArg (! ·) b57))) (op_fieldAddr (s := 0) Tryd.underlying45 rfl rfl Tryd.sizeOf2 (f7.trans rfl) (kS hj104 rfl))
     ·rintro ρ105 w106 hj107 ⟨f30, f29, _⟩
      have hst := hj107.2
      exact go_yes 29 rfl (f29.trans (congrArg Value.bool (congrArg (! ·) b57))) (op_load1 (u := (iV ((l[i]'(by omega)).From))) Tryd.isAgg2 f30 (hst.cell 0 rfl) (kS hj107 rfl))
     ·rintro ρ108 w109 hj110 ⟨f5, f29, _⟩
      have hst := hj110.2
      exact go_yes 29 rfl (f29.trans (congrArg Value.bool (congrArg (! ·) b57))) (op_move (iV last) (f5.trans q41_5) (kS hj110 rfl))
     ·rintro ρ111 w112 hj113 ⟨f31, f32, f29, _⟩
      have hst := hj113.2
      exact go_yes 29 rfl (f29.trans (congrArg Value.bool (congrArg (! ·) b57))) (op_leq (k := .i64) (a := (l[i]'(by omega)).From) (b := last) f31 f32 (kS hj113 rfl))
     ·rintro ρ114 w115 hj116 ⟨f29, f33, _⟩
      have hst := hj116.2
      exact go_plain (op_pick_f (.bool (decide (((l[i]'(by omega)).From) ≤ last))) (f29.trans (congrArg Value.bool (congrArg (! ·) b57))) f33 (kS hj116 rfl))
     intro ρ117 w118 hbw118 hst hRw118 hkw118
     have uw118_0 : ρ117 0 = v_l := (hkw118 0 rfl).trans q41_0
     have uw118_1 : ρ117 1 = (iV k) := (hkw118 1 rfl).trans q41_1
     have uw118_11 : ρ117 11 = v_l := (hkw118 11 rfl).trans q41_11
     have uw118_12 : ρ117 12 = (iV (l.length : Int)) := (hkw118 12 rfl).trans q41_12
     have uw118_5 : ρ117 5 = (iV last) := (hkw118 5 rfl).trans q41_5
     have uw118_13 : ρ117 13 = (iV (i : Int)) := (hkw118 13 rfl).trans q41_13
     have uw118_14 : ρ117 14 = (.bool (decide ((i : Int) < (l.length : Int)))) := (hkw118 14 rfl).trans rfl
     have uw118_15 : ρ117 15 = (.pointer (some ⟨a47, o48, none⟩)) := (hkw118 15 rfl).trans rfl
     have uw118_16 : ρ117 16 = (.agg (aggA (l[i]'(by omega)))) := (hkw118 16 rfl).trans rfl
     have uw118_7 : ρ117 7 = (.pointer (some ⟨g50, 0, none⟩)) := (hkw118 7 rfl).trans rfl
     have uw118_34 : ρ117 34 = (.bool (decide (((l[i]'(by omega)).From) ≤ last))) := hRw118 17 34 rfl
     refine then_n ?_
     rcases Bool.eq_false_or_eq_true (decide (((l[i]'(by omega)).From) ≤ last)) with b119 | b119
     ·have c120 : ((l[i]'(by omega)).From) ≤ last := of_decide_eq_true b119
      refine cE_cond true (uw118_34.trans (congrArg Value.bool b119)) (fun _ => ?_) (fun h => by cases h)
      refine cE_seq (cE_region rfl (s_cons (op_assign (.bool false) rfl (s_nil (then_n (cE_ret (then_r (block_r (then_r (then_r (block_r (then_r (scope_r (post_r _ (res1 (v := (.bool false)) rfl) ?_))))))))))))))
      exact ⟨(retv1 (congrArg Value.bool (show false = (alignedA l k) from by first | (unfold alignedA; rw [hc]; rfl) | exact (hI.trans (aligns_no (by omega) (Or.inl (by assumption)))).symm | exact (hI.trans (aligns_no (by omega) (Or.inr (Or.inl (by assumption))))).symm | exact (hI.trans (aligns_no (by omega) (Or.inr (Or.inr (by assumption))))).symm | exact (hI.trans (aligns_end (by omega))).symm))), hst.bare⟩
     have c121 : ¬ (((l[i]'(by omega)).From) ≤ last) := of_decide_eq_false b119
     refine cE_cond false (uw118_34.trans (congrArg Value.bool b119)) (fun h => by cases h) (fun _ => ?_)
     refine cE_skip (then_n (cE_seq (cE_region rfl (s_cons (op_fieldAddr (s := 0) Tryd.underlying45 rfl rfl Tryd.sizeOf2 uw118_7 (s_cons (op_load1 (u := (iV ((l[i]'(by omega)).From))) Tryd.isAgg2 rfl (hst.cell 0 rfl) (s_cons (op_assign (iV ((l[i]'(by omega)).From)) rfl (s_nil (then_n (cE_exit (block_hit (then_n (cE_region rfl (s_cons (op_add (k := .i64) (a := (i : Int)) (b := 1) ((i : Int) + 1) uw118_13 rfl (xi64 (by omega) (by omega)) ?_)))))))))))))))))
     refine s_cons (op_move (iV ((i : Int) + 1)) rfl (s_nil (then_n ?_)))
     exact ⟨_, ⟨(l[i]'(by omega)).From, (i + 1), rfl, uw118_0, uw118_1, uw118_11, uw118_12, rfl, (congrArg iV (show ((i : Int) + 1) = _ from by omega)), (hst.sub (.cons _ .slnil)), (by omega), (by first | (unfold alignedA; rw [hc]; rfl) | exact hI.trans (aligns_go (by omega) (by assumption) (by assumption) (by assumption)))⟩, (by simp only [id]; omega)⟩
    have c122 : ¬ (((l[i]'(by omega)).From) = (floorA ((l[i]'(by omega)).From) k)) := of_decide_eq_false b57
    refine cE_regionL hst [[(7, none)], [(17, some 0)], [(18, some 1)], [(19, some 2)], [(7, none), (20, some 3)], [(21, some 4), (20, some 3)], [(7, none), (20, some 3)], [(23, some 6), (20, some 3)], [(1, none), (20, some 3)], [(24, some 7), (25, some 8), (20, some 3)], [(22, some 5), (26, some 9), (20, some 3)], [(20, some 3), (27, some 10)], [(28, some 11)], [(7, none), (29, some 12)], [(30, some 13), (29, some 12)], [(5, none), (29, some 12)], [(31, some 14), (32, some 15), (29, some 12)], [(29, some 12), (33, some 16)]] [(rEq (.agg (aggA (l[i]'(by omega))))), (rEq (.bool (mayA (l[i]'(by omega))))), (rEq (.bool (!(mayA (l[i]'(by omega)))))), (rEq (.bool (!(mayA (l[i]'(by omega)))))), (rEq (.pointer (some ⟨g50, (0 + 0), none⟩))), (rEq (iV ((l[i]'(by omega)).From))), (rEq (.pointer (some ⟨g50, (0 + 0), none⟩))), (rEq (iV ((l[i]'(by omega)).From))), (rEq (iV k)), (rEq (iV (floorA ((l[i]'(by omega)).From) k))), (rEq (.bool (!decide (((l[i]'(by omega)).From) = (floorA ((l[i]'(by omega)).From) k))))), (rEq (.bool (!decide (((l[i]'(by omega)).From) = (floorA ((l[i]'(by omega)).From) k))))), (rEq (.bool (!decide (((l[i]'(by omega)).From) = (floorA ((l[i]'(by omega)).From) k))))), (rEq undef), (rEq undef), (rEq undef), (rEq undef), (rEq (.bool true))] (by kernel_rfl) rfl (by kernel_rfl) ⟨sEq, sEq, sEq, sEq, sEq, sEq, sEq, sEq, sEq, sEq, sEq, sEq, sEq, sEq, sEq, sEq, sEq, sEq, trivial⟩ ⟨?_, ?_, ?_, ?_, ?_, ?_, ?_, ?_, ?_, ?_, ?_, ?_, ?_, ?_, ?_, ?_, ?_, ?_, trivial⟩ ?_
    ·rintro ρ125 w126 hj127 ⟨f7, _⟩
     have hst := hj127.2
     exact go_plain (op_loadN (cs := (aggC (l[i]'(by omega)))) Tryd.isAgg45 Tryd.sizeOf45 (f7.trans rfl) (Pt.of (hst.cell 0 rfl) rfl) rfl (kS hj127 rfl))
    ·rintro ρ128 w129 hj130 ⟨f17, _⟩
     have hst := hj130.2
     refine go_plain (op_call Tryd.call45 (evs_cons (v := (.agg (aggA (l[i]'(by omega))))) f17 evs_nil) (c_May (w0 := w129) (a := (l[i]'(by omega)))) ?_)
     rintro _ w131 ⟨rfl, hcall⟩
     refine ⟨_, rfl, ?_⟩
     exact kD hj130 hcall rfl
    ·rintro ρ132 w133 hj134 ⟨f18, _⟩
     have hst := hj134.2
     exact go_plain (op_not (b := mayA (l[i]'(by omega))) f18 (kS hj134 rfl))
    ·rintro ρ135 w136 hj137 ⟨f19, _⟩
     have hst := hj137.2
     exact go_plain (op_move (.bool (!(mayA (l[i]'(by omega))))) f19 (kS hj137 rfl))
    ·rintro ρ138 w139 hj140 ⟨f7, f20, _⟩
     have hst := hj140.2
     exact go_yes 20 rfl (f20.trans (congrArg Value.bool (congrArg (! ·) b54))) (op_fieldAddr (s := 0) Tryd.underlying45 rfl rfl Tryd.sizeOf2 (f7.trans rfl) (kS hj140 rfl))
    ·rintro ρ141 w142 hj143 ⟨f21, f20, _⟩
     have hst := hj143.2
     exact go_yes 20 rfl (f20.trans (congrArg Value.bool (congrArg (! ·) b54))) (op_load1 (u := (iV ((l[i]'(by omega)).From))) Tryd.isAgg2 f21 (hst.cell 0 rfl) (kS hj143 rfl))
    ·rintro ρ144 w145 hj146 ⟨f7, f20, _⟩
     have hst := hj146.2
     exact go_yes 20 rfl (f20.trans (congrArg Value.bool (congrArg (! ·) b54))) (op_fieldAddr (s := 0) Tryd.underlying45 rfl rfl Tryd.sizeOf2 (f7.trans rfl) (kS hj146 rfl))
    ·rintro ρ147 w148 hj149 ⟨f23, f20, _⟩
     have hst := hj149.2
     exact go_yes 20 rfl (f20.trans (congrArg Value.bool (congrArg (! ·) b54))) (op_load1 (u := (iV ((l[i]'(by omega)).From))) Tryd.isAgg2 f23 (hst.cell 0 rfl) (kS hj149 rfl))
    ·rintro ρ150 w151 hj152 ⟨f1, f20, _⟩
     have hst := hj152.2
     exact go_yes 20 rfl (f20.trans (congrArg Value.bool (congrArg (! ·) b54))) (op_move (iV k) (f1.trans q41_1) (kS hj152 rfl))
    ·rintro ρ153 w154 hj155 ⟨f24, f25, f20, _⟩
     have hst := hj155.2
     refine go_yes 20 rfl (f20.trans (congrArg Value.bool (congrArg (! ·) b54))) (op_call Tryd.call26 (evs_cons (v := (iV ((l[i]'(by omega)).From))) f24 (evs_cons (v := (iV k)) f25 evs_nil)) (c_Floor (w0 := w154) (t := (l[i]'(by omega)).From) (k := k) (t0 := (by omega)) (k0 := (by omega)) (t1 := (by omega)) (k1 := (by omega))) ?_)
     rintro _ w156 ⟨rfl, hcall⟩
     refine ⟨_, rfl, ?_⟩
     exact kD hj155 hcall rfl
    ·rintro ρ157 w158 hj159 ⟨f22, f26, f20, _⟩
     have hst := hj159.2
     exact go_yes 20 rfl (f20.trans (congrArg Value.bool (congrArg (! ·) b54))) (op_neq (k := .i64) (a := (l[i]'(by omega)).From) (b := (floorA ((l[i]'(by omega)).From) k)) f22 f26 (kS hj159 rfl))
    ·rintro ρ160 w161 hj162 ⟨f20, f27, _⟩
     have hst := hj162.2
     exact go_plain (op_pick_f (.bool (!decide (((l[i]'(by omega)).From) = (floorA ((l[i]'(by omega)).From) k)))) (f20.trans (congrArg Value.bool (congrArg (! ·) b54))) f27 (kS hj162 rfl))
    ·rintro ρ163 w164 hj165 ⟨f28, _⟩
     have hst := hj165.2
     exact go_plain (op_move (.bool (!decide (((l[i]'(by omega)).From) = (floorA ((l[i]'(by omega)).From) k)))) f28 (kS hj165 rfl))
    ·rintro ρ166 w167 hj168 ⟨f7, f29, _⟩
     have hst := hj168.2
     exact go_no 29 rfl (f29.trans (congrArg Value.bool (congrArg (! ·) b57))) (kS hj168 rfl)
    ·rintro ρ169 w170 hj171 ⟨f30, f29, _⟩
     have hst := hj171.2
     exact go_no 29 rfl (f29.trans (congrArg Value.bool (congrArg (! ·) b57))) (kS hj171 rfl)
    ·rintro ρ172 w173 hj174 ⟨f5, f29, _⟩
     have hst := hj174.2
     exact go_no 29 rfl (f29.trans (congrArg Value.bool (congrArg (! ·) b57))) (kS hj174 rfl)
    ·rintro ρ175 w176 hj177 ⟨f31, f32, f29, _⟩
     have hst := hj177.2
     exact go_no 29 rfl (f29.trans (congrArg Value.bool (congrArg (! ·) b57))) (kS hj177 rfl)
    ·rintro ρ178 w179 hj180 ⟨f29, f33, _⟩
     have hst := hj180.2
     exact go_plain (op_pick_t (.bool true) (f29.trans (congrArg Value.bool (congrArg (! ·) b57))) rfl (kS hj180 rfl))
    intro ρ181 w182 hbw182 hst hRw182 hkw182
    have uw182_0 : ρ181 0 = v_l := (hkw182 0 rfl).trans q41_0
    have uw182_1 : ρ181 1 = (iV k) := (hkw182 1 rfl).trans q41_1
    have uw182_11 : ρ181 11 = v_l := (hkw182 11 rfl).trans q41_11
    have uw182_12 : ρ181 12 = (iV (l.length : Int)) := (hkw182 12 rfl).trans q41_12
    have uw182_5 : ρ181 5 = (iV last) := (hkw182 5 rfl).trans q41_5
    have uw182_13 : ρ181 13 = (iV (i : Int)) := (hkw182 13 rfl).trans q41_13
    have uw182_14 : ρ181 14 = (.bool (decide ((i : Int) < (l.length : Int)))) := (hkw182 14 rfl).trans rfl
    have uw182_15 : ρ181 15 = (.pointer (some ⟨a47, o48, none⟩)) := (hkw182 15 rfl).trans rfl
    have uw182_16 : ρ181 16 = (.agg (aggA (l[i]'(by omega)))) := (hkw182 16 rfl).trans rfl
    have uw182_7 : ρ181 7 = (.pointer (some ⟨g50, 0, none⟩)) := (hkw182 7 rfl).trans rfl
    have uw182_34 : ρ181 34 = (.bool true) := hRw182 17 34 rfl
    refine then_n (cE_cond true uw182_34 (fun _ => ?_) (fun h => by cases h))
    refine cE_seq (cE_region rfl (s_cons (op_assign (.bool false) rfl (s_nil (then_n (cE_ret (then_r (block_r (then_r (then_r (block_r (then_r (scope_r (post_r _ (res1 (v := (.bool false)) rfl) ?_))))))))))))))
    exact ⟨(retv1 (congrArg Value.bool (show false = (alignedA l k) from by first | (unfold alignedA; rw [hc]; rfl) | exact (hI.trans (aligns_no (by omega) (Or.inl (by assumption)))).symm | exact (hI.trans (aligns_no (by omega) (Or.inr (Or.inl (by assumption))))).symm | exact (hI.trans (aligns_no (by omega) (Or.inr (Or.inr (by assumption))))).symm | exact (hI.trans (aligns_end (by omega))).symm))), hst.bare⟩
   refine cE_regionL hst [[(7, none)], [(17, some 0)], [(18, some 1)], [(19, some 2)], [(7, none), (20, some 3)], [(21, some 4), (20, some 3)], [(7, none), (20, some 3)], [(23, some 6), (20, some 3)], [(1, none), (20, some 3)], [(24, some 7), (25, some 8), (20, some 3)], [(22, some 5), (26, some 9), (20, some 3)], [(20, some 3), (27, some 10)], [(28, some 11)], [(7, none), (29, some 12)], [(30, some 13), (29, some 12)], [(5, none), (29, some 12)], [(31, some 14), (32, some 15), (29, some 12)], [(29, some 12), (33, some 16)]] [(rEq (.agg (aggA (l[i]'(by omega))))), (rEq (.bool (mayA (l[i]'(by omega))))), (rEq (.bool (!(mayA (l[i]'(by omega)))))), (rEq (.bool (!(mayA (l[i]'(by omega)))))), (rEq undef), (rEq undef), (rEq undef), (rEq undef), (rEq undef), (rEq undef), (rEq undef), (rEq (.bool true)), (rEq (.bool true)), (rEq undef), (rEq undef), (rEq undef), (rEq undef), (rEq (.bool true))] (by kernel_rfl) rfl (by kernel_rfl) ⟨sEq, sEq, sEq, sEq, sEq, sEq, sEq, sEq, sEq, sEq, sEq, sEq, sEq, sEq, sEq, sEq, sEq, sEq, trivial⟩ ⟨?_, ?_, ?_, ?_, ?_, ?_, ?_, ?_, ?_, ?_, ?_, ?_, ?_, ?_, ?_, ?_, ?_, ?_, trivial⟩ ?_
   ·rintro ρ184 w185 hj186 ⟨f7, _⟩
    have hst := hj186.2
    exact go_plain (op_loadN (cs := (aggC (l[i]'(by omega)))) Tryd.isAgg45 Tryd.sizeOf45 (f7.trans rfl) (Pt.of (hst.cell 0 rfl) rfl) rfl (kS hj186 rfl))
   ·rintro ρ187 w188 hj189 ⟨f17, _⟩
    have hst := hj189.2
    refine go_plain (op_call Tryd.call45 (evs_cons (v := (.agg (aggA (l[i]'(by omega))))) f17 evs_nil) (c_May (w0 := w188) (a := (l[i]'(by omega)))) ?_)
    rintro _ w190 ⟨rfl, hcall⟩
    refine ⟨_, rfl, ?_⟩
    exact kD hj189 hcall rfl
   ·rintro ρ191 w192 hj193 ⟨f18, _⟩
    have hst := hj193.2
    exact go_plain (op_not (b := mayA (l[i]'(by omega))) f18 (kS hj193 rfl))
   ·rintro ρ194 w195 hj196 ⟨f19, _⟩
    have hst := hj196.2
    exact go_plain (op_move (.bool (!(mayA (l[i]'(by omega))))) f19 (kS hj196 rfl))
   ·rintro ρ197 w198 hj199 ⟨f7, f20, _⟩
    have hst := hj199.2
    exact go_no 20 rfl (f20.trans (congrArg Value.bool (congrArg (! ·) b54))) (kS hj199 rfl)
   ·rintro ρ200 w201 hj202 ⟨f21, f20, _⟩
    have hst := hj202.2
    exact go_no 20 rfl (f20.trans (congrArg Value.bool (congrArg (! ·) b54))) (kS hj202 rfl)
   ·rintro ρ203 w204 hj205 ⟨f7, f20, _⟩
    have hst := hj205.2
    exact go_no 20 rfl (f20.trans (congrArg Value.bool (congrArg (! ·) b54))) (kS hj205 rfl)
   ·rintro ρ206 w207 hj208 ⟨f23, f20, _⟩
    have hst := hj208.2
    exact go_no 20 rfl (f20.trans (congrArg Value.bool (congrArg (! ·) b54))) (kS hj208 rfl)
   ·rintro ρ209 w210 hj211 ⟨f1, f20, _⟩
    have hst := hj211.2
    exact go_no 20 rfl (f20.trans (congrArg Value.bool (congrArg (! ·) b54))) (kS hj211 rfl)
   ·rintro ρ212 w213 hj214 ⟨f24, f25, f20, _⟩
    have hst := hj214.2
    exact go_no 20 rfl (f20.trans (congrArg Value.bool (congrArg (! ·) b54))) (kS hj214 rfl)
   ·rintro ρ215 w216 hj217 ⟨f22, f26, f20, _⟩
    have hst := hj217.2
    exact go_no 20 rfl (f20.trans (congrArg Value.bool (congrArg (! ·) b54))) (kS hj217 rfl)
   ·rintro ρ218 w219 hj220 ⟨f20, f27, _⟩
    have hst := hj220.2
    exact go_plain (op_pick_t (.bool true) (f20.trans (congrArg Value.bool (congrArg (! ·) b54))) rfl (kS hj220 rfl))
   ·rintro ρ221 w222 hj223 ⟨f28, _⟩
    have hst := hj223.2
    exact go_plain (op_move (.bool true) f28 (kS hj223 rfl))
   ·rintro ρ224 w225 hj226 ⟨f7, f29, _⟩
    have hst := hj226.2
    exact go_no 29 rfl f29 (kS hj226 rfl)
   ·rintro ρ227 w228 hj229 ⟨f30, f29, _⟩
    have hst := hj229.2
    exact go_no 29 rfl f29 (kS hj229 rfl)
   ·rintro ρ230 w231 hj232 ⟨f5, f29, _⟩
    have hst := hj232.2
    exact go_no 29 rfl f29 (kS hj232 rfl)
   ·rintro ρ233 w234 hj235 ⟨f31, f32, f29, _⟩
    have hst := hj235.2
    exact go_no 29 rfl f29 (kS hj235 rfl)
   ·rintro ρ236 w237 hj238 ⟨f29, f33, _⟩
    have hst := hj238.2
    exact go_plain (op_pick_t (.bool true) f29 rfl (kS hj238 rfl))
   intro ρ239 w240 hbw240 hst hRw240 hkw240
   have uw240_0 : ρ239 0 = v_l := (hkw240 0 rfl).trans q41_0
   have uw240_1 : ρ239 1 = (iV k) := (hkw240 1 rfl).trans q41_1
   have uw240_11 : ρ239 11 = v_l := (hkw240 11 rfl).trans q41_11
   have uw240_12 : ρ239 12 = (iV (l.length : Int)) := (hkw240 12 rfl).trans q41_12
   have uw240_5 : ρ239 5 = (iV last) := (hkw240 5 rfl).trans q41_5
   have uw240_13 : ρ239 13 = (iV (i : Int)) := (hkw240 13 rfl).trans q41_13
   have uw240_14 : ρ239 14 = (.bool (decide ((i : Int) < (l.length : Int)))) := (hkw240 14 rfl).trans rfl
   have uw240_15 : ρ239 15 = (.pointer (some ⟨a47, o48, none⟩)) := (hkw240 15 rfl).trans rfl
   have uw240_16 : ρ239 16 = (.agg (aggA (l[i]'(by omega)))) := (hkw240 16 rfl).trans rfl
   have uw240_7 : ρ239 7 = (.pointer (some ⟨g50, 0, none⟩)) := (hkw240 7 rfl).trans rfl
   have uw240_34 : ρ239 34 = (.bool true) := hRw240 17 34 rfl
   refine then_n (cE_cond true uw240_34 (fun _ => ?_) (fun h => by cases h))
   refine cE_seq (cE_region rfl (s_cons (op_assign (.bool false) rfl (s_nil (then_n (cE_ret (then_r (block_r (then_r (then_r (block_r (then_r (scope_r (post_r _ (res1 (v := (.bool false)) rfl) ?_))))))))))))))
   exact ⟨(retv1 (congrArg Value.bool (show false = (alignedA l k) from by first | (unfold alignedA; rw [hc]; rfl) | exact (hI.trans (aligns_no (by omega) (Or.inl (by assumption)))).symm | exact (hI.trans (aligns_no (by omega) (Or.inr (Or.inl (by assumption))))).symm | exact (hI.trans (aligns_no (by omega) (Or.inr (Or.inr (by assumption))))).symm | exact (hI.trans (aligns_end (by omega))).symm))), hst.bare⟩
  have c241 : ¬ ((i : Int) < (l.length : Int)) := of_decide_eq_false b45
  refine cE_cond false (congrArg Value.bool b45) (fun h => by cases h) (fun _ => ?_)
  refine cE_exit (then_x (then_x (block_hit (then_n (cE_seq (cE_region rfl (s_cons (op_assign (.bool true) rfl (s_nil (then_n (cE_ret (scope_r (post_r _ (res1 (v := (.bool true)) rfl) ?_)))))))))))))
  exact ⟨(retv1 (congrArg Value.bool (show true = (alignedA l k) from by first | (unfold alignedA; rw [hc]; rfl) | exact (hI.trans (aligns_no (by omega) (Or.inl (by assumption)))).symm | exact (hI.trans (aligns_no (by omega) (Or.inr (Or.inl (by assumption))))).symm | exact (hI.trans (aligns_no (by omega) (Or.inr (Or.inr (by assumption))))).symm | exact (hI.trans (aligns_end (by omega))).symm))), hst.bare⟩
 have hc := b40
 refine cE_cond true (congrArg Value.bool (congrArg (! ·) b40)) (fun _ => ?_) (fun h => by cases h)
 refine cE_seq (cE_region rfl (s_cons (op_assign (.bool false) rfl (s_nil (then_n (cE_ret (then_r (scope_r (post_r _ (res1 (v := (.bool false)) rfl) ?_)))))))))
 exact ⟨(retv1 (congrArg Value.bool (show false = (alignedA l k) from by first | (unfold alignedA; rw [hc]; rfl) | exact (hI.trans (aligns_no (by omega) (Or.inl (by assumption)))).symm | exact (hI.trans (aligns_no (by omega) (Or.inr (Or.inl (by assumption))))).symm | exact (hI.trans (aligns_no (by omega) (Or.inr (Or.inr (by assumption))))).symm | exact (hI.trans (aligns_end (by omega))).symm))), hst.bare⟩

end Go.Proofs.YtgibfidebdgffaaDoor
