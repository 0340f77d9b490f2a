/- comparisons -/
import Derived.Test.YtldfnkhccaglmaaXT
import Derived.Test.YtldfnkhccaglmaaXLA
import Derived.Test.YtldfnkhccaglmaaXLB
namespace Go.Proofs.Ytldfnkhccaglmaa
open Go.RowKit

set_option maxRecDepth 8000 in
theorem c_isNaN_int (w0 : World) (x : Int) :
  Calls Try.prog 71 #[(iV x)] w0 fun e w' => e = .returned (.bool false) ∧ St w0 w' [] := by
 refine calls_E (n := 6) (ts := [2]) Try.func71 rfl rfl rfl (by simp) ?_
 have hst := St.start w0
 refine cE_seq (cE_region rfl (s_cons (op_assign (.bool false) rfl (s_nil (then_n (cE_seq (cE_region rfl (s_cons (op_move (iV x) rfl (s_cons (op_move (iV x) rfl (s_cons (op_neq (k := .i64) (a := x) (b := x) rfl rfl (s_cons (op_assign (.bool (!decide (x = x))) rfl (s_nil (then_n (cE_ret (post_r _ (res1 (v := (.bool false)) (congrArg Value.bool (congrArg (! ·) (show (decide (x = x)) = true from (decide_eq_true rfl))))) ?_)))))))))))))))))))
 exact ⟨rfl, hst.bare⟩

set_option maxRecDepth 8000 in
theorem c_Compare_int (w0 : World) (x : Int) (y : Int) :
  Calls Try.prog 64 #[(iV x), (iV y)] w0 fun e w' => e = .returned (iV (cmpI x y)) ∧ St w0 w' [] := by
 refine calls_E (n := 20) (ts := [4]) Try.func64 rfl rfl rfl (by simp) ?_
 have hst := St.start w0
 refine cE_seq (cE_region rfl (s_cons (op_assign (iV 0) rfl (s_nil (then_n (cE_seq (cE_region rfl (s_cons (op_move (iV x) rfl (s_cons (op_call Try.call71 (evs_cons (v := (iV x)) rfl evs_nil) (c_isNaN_int (w0 := w0) (x := x)) ?_)))))))))))
 rintro _ w1 ⟨rfl, hcall⟩
 refine ⟨_, rfl, ?_⟩
 have hst := hst.call hcall
 refine s_cons (op_assign (.bool false) rfl (s_nil (then_n (cE_seq (cE_region rfl (s_cons (op_move (iV y) rfl (s_cons (op_call Try.call71 (evs_cons (v := (iV y)) rfl evs_nil) (c_isNaN_int (w0 := w1) (x := y)) ?_)))))))))
 rintro _ w2 ⟨rfl, hcall⟩
 refine ⟨_, rfl, ?_⟩
 have hst := hst.call hcall
 refine s_cons (op_assign (.bool false) rfl (s_nil (then_n (cE_seq (cE_seq (cE_region rfl (s_cons (op_move (.bool false) rfl (s_nil (then_n (cE_cond false rfl (fun h => by cases h) (fun _ => ?_))))))))))))
 refine cE_skip (then_n (cE_seq (cE_seq (cE_region rfl (s_cons (op_move (.bool false) rfl (s_nil (then_n (cE_cond false rfl (fun h => by cases h) (fun _ => ?_))))))))))
 refine cE_skip (then_n (cE_seq (cE_seq (cE_region rfl (s_cons (op_move (iV x) rfl (s_cons (op_move (iV y) rfl (s_cons (op_lss (k := .i64) (a := x) (b := y) rfl rfl (s_nil (then_n ?_))))))))))))
 rcases Bool.eq_false_or_eq_true (decide (x < y)) with b3 | b3
 ·have c4 := of_decide_eq_true b3
  refine cE_cond true (congrArg Value.bool b3) (fun _ => ?_) (fun h => by cases h)
  refine cE_seq (cE_region rfl (s_cons (op_assign (iV (-1)) rfl (s_nil (then_n (cE_ret (then_r (post_r _ (res1 (v := (iV (-1))) rfl) ?_))))))))
  exact ⟨(retv1 (congrArg iV (show (-1) = (cmpI x y) from by (unfold cmpI; (repeat' split) <;> omega)))), hst.bare⟩
 have c5 := of_decide_eq_false b3
 refine cE_cond false (congrArg Value.bool b3) (fun h => by cases h) (fun _ => ?_)
 refine cE_skip (then_n (cE_seq (cE_seq (cE_region rfl (s_cons (op_move (iV x) rfl (s_cons (op_move (iV y) rfl (s_cons (op_gtr (k := .i64) (a := x) (b := y) rfl rfl (s_nil (then_n ?_))))))))))))
 rcases Bool.eq_false_or_eq_true (decide (y < x)) with b6 | b6
 ·have c7 := of_decide_eq_true b6
  refine cE_cond true (congrArg Value.bool b6) (fun _ => ?_) (fun h => by cases h)
  refine cE_seq (cE_region rfl (s_cons (op_assign (iV 1) rfl (s_nil (then_n (cE_ret (then_r (post_r _ (res1 (v := (iV 1)) rfl) ?_))))))))
  exact ⟨(retv1 (congrArg iV (show 1 = (cmpI x y) from by (unfold cmpI; (repeat' split) <;> omega)))), hst.bare⟩
 have c8 := of_decide_eq_false b6
 refine cE_cond false (congrArg Value.bool b6) (fun h => by cases h) (fun _ => ?_)
 refine cE_skip (then_n (cE_seq (cE_region rfl (s_cons (op_assign (iV 0) rfl (s_nil (then_n (cE_ret (post_r _ (res1 (v := (iV 0)) rfl) ?_)))))))))
 exact ⟨(retv1 (congrArg iV (show 0 = (cmpI x y) from by (unfold cmpI; (repeat' split) <;> omega)))), hst.bare⟩

set_option maxRecDepth 8000 in
theorem c_isNaN_int64 (w0 : World) (x : Int) :
  Calls Try.prog 74 #[(iV x)] w0 fun e w' => e = .returned (.bool false) ∧ St w0 w' [] := by
 refine calls_E (n := 6) (ts := [2]) Try.func74 rfl rfl rfl (by simp) ?_
 have hst := St.start w0
 refine cE_seq (cE_region rfl (s_cons (op_assign (.bool false) rfl (s_nil (then_n (cE_seq (cE_region rfl (s_cons (op_move (iV x) rfl (s_cons (op_move (iV x) rfl (s_cons (op_neq (k := .i64) (a := x) (b := x) rfl rfl (s_cons (op_assign (.bool (!decide (x = x))) rfl (s_nil (then_n (cE_ret (post_r _ (res1 (v := (.bool false)) (congrArg Value.bool (congrArg (! ·) (show (decide (x = x)) = true from (decide_eq_true rfl))))) ?_)))))))))))))))))))
 exact ⟨rfl, hst.bare⟩

set_option maxRecDepth 8000 in
theorem c_Compare_int64 (w0 : World) (x : Int) (y : Int) :
  Calls Try.prog 67 #[(iV x), (iV y)] w0 fun e w' => e = .returned (iV (cmpI x y)) ∧ St w0 w' [] := by
 refine calls_E (n := 20) (ts := [4]) Try.func67 rfl rfl rfl (by simp) ?_
 have hst := St.start w0
 refine cE_seq (cE_region rfl (s_cons (op_assign (iV 0) rfl (s_nil (then_n (cE_seq (cE_region rfl (s_cons (op_move (iV x) rfl (s_cons (op_call Try.call74 (evs_cons (v := (iV x)) rfl evs_nil) (c_isNaN_int64 (w0 := w0) (x := x)) ?_)))))))))))
 rintro _ w9 ⟨rfl, hcall⟩
 refine ⟨_, rfl, ?_⟩
 have hst := hst.call hcall
 refine s_cons (op_assign (.bool false) rfl (s_nil (then_n (cE_seq (cE_region rfl (s_cons (op_move (iV y) rfl (s_cons (op_call Try.call74 (evs_cons (v := (iV y)) rfl evs_nil) (c_isNaN_int64 (w0 := w9) (x := y)) ?_)))))))))
 rintro _ w10 ⟨rfl, hcall⟩
 refine ⟨_, rfl, ?_⟩
 have hst := hst.call hcall
 refine s_cons (op_assign (.bool false) rfl (s_nil (then_n (cE_seq (cE_seq (cE_region rfl (s_cons (op_move (.bool false) rfl (s_nil (then_n (cE_cond false rfl (fun h => by cases h) (fun _ => ?_))))))))))))
 refine cE_skip (then_n (cE_seq (cE_seq (cE_region rfl (s_cons (op_move (.bool false) rfl (s_nil (then_n (cE_cond false rfl (fun h => by cases h) (fun _ => ?_))))))))))
 refine cE_skip (then_n (cE_seq (cE_seq (cE_region rfl (s_cons (op_move (iV x) rfl (s_cons (op_move (iV y) rfl (s_cons (op_lss (k := .i64) (a := x) (b := y) rfl rfl (s_nil (then_n ?_))))))))))))
 rcases Bool.eq_false_or_eq_true (decide (x < y)) with b11 | b11
 ·have c12 := of_decide_eq_true b11
  refine cE_cond true (congrArg Value.bool b11) (fun _ => ?_) (fun h => by cases h)
  refine cE_seq (cE_region rfl (s_cons (op_assign (iV (-1)) rfl (s_nil (then_n (cE_ret (then_r (post_r _ (res1 (v := (iV (-1))) rfl) ?_))))))))
  exact ⟨(retv1 (congrArg iV (show (-1) = (cmpI x y) from by (unfold cmpI; (repeat' split) <;> omega)))), hst.bare⟩
 have c13 := of_decide_eq_false b11
 refine cE_cond false (congrArg Value.bool b11) (fun h => by cases h) (fun _ => ?_)
 refine cE_skip (then_n (cE_seq (cE_seq (cE_region rfl (s_cons (op_move (iV x) rfl (s_cons (op_move (iV y) rfl (s_cons (op_gtr (k := .i64) (a := x) (b := y) rfl rfl (s_nil (then_n ?_))))))))))))
 rcases Bool.eq_false_or_eq_true (decide (y < x)) with b14 | b14
 ·have c15 := of_decide_eq_true b14
  refine cE_cond true (congrArg Value.bool b14) (fun _ => ?_) (fun h => by cases h)
  refine cE_seq (cE_region rfl (s_cons (op_assign (iV 1) rfl (s_nil (then_n (cE_ret (then_r (post_r _ (res1 (v := (iV 1)) rfl) ?_))))))))
  exact ⟨(retv1 (congrArg iV (show 1 = (cmpI x y) from by (unfold cmpI; (repeat' split) <;> omega)))), hst.bare⟩
 have c16 := of_decide_eq_false b14
 refine cE_cond false (congrArg Value.bool b14) (fun h => by cases h) (fun _ => ?_)
 refine cE_skip (then_n (cE_seq (cE_region rfl (s_cons (op_assign (iV 0) rfl (s_nil (then_n (cE_ret (post_r _ (res1 (v := (iV 0)) rfl) ?_)))))))))
 exact ⟨(retv1 (congrArg iV (show 0 = (cmpI x y) from by (unfold cmpI; (repeat' split) <;> omega)))), hst.bare⟩

set_option maxRecDepth 8000 in
theorem c_Or (w0 : World) (v_l : Value) (l : List Int) (h_l : Sl w0 (intE .i64) v_l l) :
  Calls Try.prog 63 #[v_l] w0 fun e w' => e = .returned (iV (orI l)) ∧ St w0 w' [] := by
 refine calls_E (n := 18) (ts := [2]) Try.func63 rfl rfl rfl (by simp) ?_
 have hst := St.start w0
 refine cE_seq (cE_region rfl (s_cons (op_assign (iV 0) rfl (s_nil (then_n (cE_seq (cE_region rfl (s_cons (op_assign (iV 0) rfl (s_nil (then_n (cE_seq (cE_seq (cE_region rfl (s_cons (op_move v_l rfl (s_cons (op_len (E := (intE .i64)) (xs := l) Try.underlying42 rfl h_l (s_cons (op_move (iV 0) rfl (s_nil (then_n (cE_block (cE_loop (fun (m : Nat) (ρ : Env) (w : World) => ∃ (i : Nat), m = l.length - i ∧ ρ 0 = v_l ∧ ρ 3 = (iV 0) ∧ ρ 6 = v_l ∧ ρ 7 = (iV (l.length : Int)) ∧ ρ 8 = (iV (i : Int)) ∧ St w0 w [] ∧ (i ≤ l.length) ∧ (orI l = orI (l.drop i))) id _ ⟨0, rfl, rfl, rfl, rfl, rfl, (congrArg iV (show 0 = _ from by omega)), hst, (by omega), (by rfl)⟩ ?_))))))))))))))))))))))))
 rintro m18 ρ19 w20 ⟨i, hm18, q17_0, q17_3, q17_6, q17_7, q17_8, hst, hi, hI⟩
 have hlen := h_l.len
 refine cE_seq (cE_region rfl (s_cons (op_lss (k := .i64) (a := (i : Int)) (b := (l.length : Int)) q17_8 q17_7 (s_nil (then_n (cE_seq ?_))))))
 rcases Bool.eq_false_or_eq_true (decide ((i : Int) < (l.length : Int))) with b21 | b21
 ·have c22 := of_decide_eq_true b21
  refine cE_cond true (congrArg Value.bool b21) (fun _ => ?_) (fun h => by cases h)
  refine cE_skip (then_n (cE_seq (cE_block (cE_seq (cE_region rfl (s_cons (op_indexAddrN (E := (intE .i64)) (xs := l) i Try.underlying42 Try.sizeOf3 q17_6 h_l q17_8 (by omega) (by omega) (fun a23 o24 p25 => ?_))))))))
  refine s_cons (op_load1 (u := (iV (l[i]'(by omega)))) Try.isAgg3 rfl (p25.below hst.below) (s_cons (op_assign (iV (l[i]'(by omega))) rfl (s_nil (then_n (cE_seq (cE_region rfl (s_cons (op_move (iV (l[i]'(by omega))) rfl (s_cons (op_move (iV 0) q17_3 (s_cons (op_neq (k := .i64) (a := (l[i]'(by omega))) (b := 0) rfl rfl (s_nil (then_n ?_)))))))))))))))
  rcases Bool.eq_false_or_eq_true (decide ((l[i]'(by omega)) = 0)) with b26 | b26
  ·have c27 := of_decide_eq_true b26
   refine cE_cond false (congrArg Value.bool (congrArg (! ·) b26)) (fun h => by cases h) (fun _ => ?_)
   refine cE_skip (block_n (then_n (cE_region rfl (s_cons (op_add (k := .i64) (a := (i : Int)) (b := 1) ((i : Int) + 1) q17_8 rfl (xi64 (by omega) (by omega)) (s_cons (op_move (iV ((i : Int) + 1)) rfl (s_nil (then_n ?_)))))))))
   exact ⟨_, ⟨(i + 1), rfl, q17_0, q17_3, q17_6, q17_7, (congrArg iV (show ((i : Int) + 1) = _ from by omega)), hst, (by omega), (by exact hI.trans (or_go (by omega) (by assumption)))⟩, (by simp only [id]; omega)⟩
  have c28 := of_decide_eq_false b26
  refine cE_cond true (congrArg Value.bool (congrArg (! ·) b26)) (fun _ => ?_) (fun h => by cases h)
  refine cE_seq (cE_region rfl (s_cons (op_move (iV (l[i]'(by omega))) rfl (s_cons (op_assign (iV (l[i]'(by omega))) rfl (s_nil (then_n (cE_ret (block_r (then_r (then_r (block_r (then_r (post_r _ (res1 (v := (iV (l[i]'(by omega)))) rfl) ?_))))))))))))))
  exact ⟨(retv1 (congrArg iV (show (l[i]'(by omega)) = (orI l) from by exact (hI.trans (or_at (by omega) (by assumption))).symm))), hst.bare⟩
 have c29 := of_decide_eq_false b21
 refine cE_cond false (congrArg Value.bool b21) (fun h => by cases h) (fun _ => ?_)
 refine cE_exit (then_x (then_x (block_hit (then_n (cE_seq (cE_region rfl (s_cons (op_move (iV 0) q17_3 (s_cons (op_assign (iV 0) rfl (s_nil (then_n (cE_ret (post_r _ (res1 (v := (iV 0)) rfl) ?_))))))))))))))
 exact ⟨(retv1 (congrArg iV (show 0 = (orI l) from by exact (hI.trans (or_end (by omega))).symm))), hst.bare⟩

set_option maxRecDepth 8000 in
theorem c_cmpF (w0 : World) (a : Info) (b : Info) :
  Calls Try.prog 66 #[(.agg #[(iV a.Id), (iV a.Tier), (iV a.From), (iV a.To), (.int .u32 a.Sum)]), (.agg #[(iV b.Id), (iV b.Tier), (iV b.From), (iV b.To), (.int .u32 b.Sum)])] w0 fun e w' => e = .returned (iV (cmpF a b)) ∧ St w0 w' [] := by
 refine calls_E (n := 17) (ts := [4]) Try.func66 rfl rfl rfl (by simp) ?_
 have hst := St.start w0
 refine cE_seq (cE_region rfl (s_cons (op_box (v := (.agg #[(iV a.Id), (iV a.Tier), (iV a.From), (iV a.To), (.int .u32 a.Sum)])) (cs := #[(iV a.Id), (iV a.Tier), (iV a.From), (iV a.To), (.int .u32 a.Sum)]) hst rfl rfl (fun g30 w31 hst _ => ?_))))
 refine s_cons (op_box (v := (.agg #[(iV b.Id), (iV b.Tier), (iV b.From), (iV b.To), (.int .u32 b.Sum)])) (cs := #[(iV b.Id), (iV b.Tier), (iV b.From), (iV b.To), (.int .u32 b.Sum)]) hst rfl rfl (fun g32 w33 hst _ => ?_))
 refine s_cons (op_assign (iV 0) rfl (s_nil (then_n (cE_seq (cE_regionL hst [[(2, none)], [(5, some 0)], [(3, none)], [(7, some 2)], [(6, some 1), (8, some 3)], [(2, none)], [(10, some 5)], [(3, none)], [(12, some 7)], [(11, some 6), (13, some 8)], [(9, some 4), (14, some 9)], [(15, some 10)], [(16, some 11)]] [(rEq (.pointer (some ⟨g30, (0 + 2), none⟩))), (rEq (iV a.From)), (rEq (.pointer (some ⟨g32, (0 + 2), none⟩))), (rEq (iV b.From)), (rEq (iV (cmpI a.From b.From))), (rEq (.pointer (some ⟨g30, (0 + 3), none⟩))), (rEq (iV a.To)), (rEq (.pointer (some ⟨g32, (0 + 3), none⟩))), (rEq (iV b.To)), (rEq (iV (cmpI a.To b.To))), (rSl (intE .i64) ([(cmpI a.From b.From), (cmpI a.To b.To)])), (rEq (iV (orI ([(cmpI a.From b.From), (cmpI a.To b.To)])))), (rEq (iV (orI ([(cmpI a.From b.From), (cmpI a.To b.To)]))))] (by kernel_rfl) rfl (by kernel_rfl) ⟨sEq, sEq, sEq, sEq, sEq, sEq, sEq, sEq, sEq, sEq, sSl, sEq, sEq, trivial⟩ ⟨?_, ?_, ?_, ?_, ?_, ?_, ?_, ?_, ?_, ?_, ?_, ?_, ?_, trivial⟩ ?_)))))
 ·rintro ρ39 w40 hj41 ⟨f2, _⟩
  have hst := hj41.2
  exact go_plain (op_fieldAddr (s := 0) Try.underlying96 rfl rfl Try.sizeOf2 (f2.trans rfl) (kS hj41 rfl))
 ·rintro ρ42 w43 hj44 ⟨f5, _⟩
  have hst := hj44.2
  exact go_plain (op_load1 (u := (iV a.From)) Try.isAgg2 f5 ((hst.cell 1 rfl).drop 2) (kS hj44 rfl))
 ·rintro ρ45 w46 hj47 ⟨f3, _⟩
  have hst := hj47.2
  exact go_plain (op_fieldAddr (s := 0) Try.underlying96 rfl rfl Try.sizeOf2 (f3.trans rfl) (kS hj47 rfl))
 ·rintro ρ48 w49 hj50 ⟨f7, _⟩
  have hst := hj50.2
  exact go_plain (op_load1 (u := (iV b.From)) Try.isAgg2 f7 ((hst.cell 0 rfl).drop 2) (kS hj50 rfl))
 ·rintro ρ51 w52 hj53 ⟨f6, f8, _⟩
  have hst := hj53.2
  refine go_plain (op_call Try.call67 (evs_cons (v := (iV a.From)) f6 (evs_cons (v := (iV b.From)) f8 evs_nil)) (c_Compare_int64 (w0 := w52) (x := a.From) (y := b.From)) ?_)
  rintro _ w54 ⟨rfl, hcall⟩
  refine ⟨_, rfl, ?_⟩
  exact kD hj53 hcall rfl
 ·rintro ρ55 w56 hj57 ⟨f2, _⟩
  have hst := hj57.2
  exact go_plain (op_fieldAddr (s := 0) Try.underlying96 rfl rfl Try.sizeOf2 (f2.trans rfl) (kS hj57 rfl))
 ·rintro ρ58 w59 hj60 ⟨f10, _⟩
  have hst := hj60.2
  exact go_plain (op_load1 (u := (iV a.To)) Try.isAgg2 f10 ((hst.cell 1 rfl).drop 3) (kS hj60 rfl))
 ·rintro ρ61 w62 hj63 ⟨f3, _⟩
  have hst := hj63.2
  exact go_plain (op_fieldAddr (s := 0) Try.underlying96 rfl rfl Try.sizeOf2 (f3.trans rfl) (kS hj63 rfl))
 ·rintro ρ64 w65 hj66 ⟨f12, _⟩
  have hst := hj66.2
  exact go_plain (op_load1 (u := (iV b.To)) Try.isAgg2 f12 ((hst.cell 0 rfl).drop 3) (kS hj66 rfl))
 ·rintro ρ67 w68 hj69 ⟨f11, f13, _⟩
  have hst := hj69.2
  refine go_plain (op_call Try.call67 (evs_cons (v := (iV a.To)) f11 (evs_cons (v := (iV b.To)) f13 evs_nil)) (c_Compare_int64 (w0 := w68) (x := a.To) (y := b.To)) ?_)
  rintro _ w70 ⟨rfl, hcall⟩
  refine ⟨_, rfl, ?_⟩
  exact kD hj69 hcall rfl
 ·rintro ρ71 w72 hj73 ⟨f9, f14, _⟩
  have hst := hj73.2
  have hst := St.start w72
  refine go_plain (op_buildSlice (E := (intE .i64)) [(cmpI a.From b.From), (cmpI a.To b.To)] hst Try.underlying42 Try.sizeOf3 Try.zeroValue3 (evp_cons (v := (iV (cmpI a.From b.From))) f9 (evp_cons (v := (iV (cmpI a.To b.To))) f14 evp_nil)) (parts_cons rfl (parts_cons rfl parts_nil)) rfl (by decide) (fun v74 w75 hst => ?_))
  exact kD hj73 hst (hst.sl 0 rfl)
 ·rintro ρ76 w77 hj78 ⟨f15, _⟩
  have hst := hj78.2
  have hs81 : Sl w77 (intE .i64) _ ([(cmpI a.From b.From), (cmpI a.To b.To)]) := f15
  refine go_plain (op_call Try.call63 (evs_cons (v := _) rfl evs_nil) (c_Or (w0 := w77) (v_l := _) (l := [(cmpI a.From b.From), (cmpI a.To b.To)]) (h_l := hs81)) ?_)
  rintro _ w82 ⟨rfl, hcall⟩
  refine ⟨_, rfl, ?_⟩
  exact kD hj78 hcall rfl
 ·rintro ρ83 w84 hj85 ⟨f16, _⟩
  have hst := hj85.2
  exact go_plain (op_assign (iV (orI ([(cmpI a.From b.From), (cmpI a.To b.To)]))) f16 (kS hj85 rfl))
 intro ρ86 w87 hbw87 hst hRw87 hkw87
 have uw87_4 : ρ86 4 = (iV (orI ([(cmpI a.From b.From), (cmpI a.To b.To)]))) := hRw87 12 4 rfl
 refine then_n (cE_ret (post_r _ (res1 (v := (iV (orI ([(cmpI a.From b.From), (cmpI a.To b.To)])))) uw87_4) ?_))
 exact ⟨(retv1 (congrArg iV (show (orI ([(cmpI a.From b.From), (cmpI a.To b.To)])) = (cmpF a b) from by rfl))), hst.bare⟩

set_option maxRecDepth 8000 in
theorem c_span {w0 w : World} {L : List Item} (y : Info) (g_x : Nat) (x0 : Int) (x1 : Int) (x2 : Int) (x3 : Int) (x4 : Int) (hst : St w0 w (.blk g_x 96 #[(iV x0), (iV x1), (iV x2), (iV x3), (.int .u32 x4)] :: L)) :
  Calls Try.prog 62 #[(.agg #[(iV y.Id), (iV y.Tier), (iV y.From), (iV y.To), (.int .u32 y.Sum)]), (.pointer (some ⟨g_x, 0, none⟩))] w fun e w' => e = .returned (.bool (decide (y.From = x2 ∧ y.To = x3))) ∧ St w0 w' (.blk g_x 96 #[(iV x0), (iV x1), (iV x2), (iV x3), (.int .u32 x4)] :: L) := by
 refine calls_E (n := 16) (ts := [3]) Try.func62 rfl rfl rfl (by simp) (cE_seq (cE_region rfl (s_cons (op_box (v := (.agg #[(iV y.Id), (iV y.Tier), (iV y.From), (iV y.To), (.int .u32 y.Sum)])) (cs := #[(iV y.Id), (iV y.Tier), (iV y.From), (iV y.To), (.int .u32 y.Sum)]) hst rfl rfl (fun g88 w89 hst _ => ?_)))))
 refine s_cons (op_assign (.bool false) rfl (s_nil (then_n (cE_seq (cE_region rfl (s_cons (op_fieldAddr (s := 0) Try.underlying96 rfl rfl Try.sizeOf2 rfl (s_cons (op_load1 (u := (iV y.From)) Try.isAgg2 rfl ((hst.cell 0 rfl).drop 2) (s_cons (op_fieldAddr (s := 0) Try.underlying96 rfl rfl Try.sizeOf2 rfl (s_cons (op_load1 (u := (iV x2)) Try.isAgg2 rfl ((hst.cell 1 rfl).drop 2) (s_cons (op_eql (k := .i64) (a := y.From) (b := x2) rfl rfl ?_)))))))))))))))
 refine s_cons (op_move (.bool (decide (y.From = x2))) rfl (s_lz 9 rfl (gA_t rfl) (Rlz (decide (y.From = x2)) (.pointer (some ⟨g88, (0 + 3), none⟩)) w89) ?_ (fun hc90 => rlz_f hc90) ?_))
 ·intro hc90
  refine op_fieldAddr (s := 0) Try.underlying96 rfl rfl Try.sizeOf2 rfl ?_
  exact rlz_t hc90
 rintro _ _ ⟨rfl, rfl⟩
 refine s_lz 9 rfl (gA_t rfl) (Rlz (decide (y.From = x2)) (iV y.To) w89) ?_ (fun hc91 => rlz_f hc91) ?_
 ·intro hc91
  refine op_load1 (u := (iV y.To)) Try.isAgg2 (gt hc91) ((hst.cell 0 rfl).drop 3) ?_
  exact rlz_t hc91
 rintro _ _ ⟨rfl, rfl⟩
 refine s_lz 9 rfl (gA_t rfl) (Rlz (decide (y.From = x2)) (.pointer (some ⟨g_x, (0 + 3), none⟩)) w89) ?_ (fun hc92 => rlz_f hc92) ?_
 ·intro hc92
  refine op_fieldAddr (s := 0) Try.underlying96 rfl rfl Try.sizeOf2 rfl ?_
  exact rlz_t hc92
 rintro _ _ ⟨rfl, rfl⟩
 refine s_lz 9 rfl (gA_t rfl) (Rlz (decide (y.From = x2)) (iV x3) w89) ?_ (fun hc93 => rlz_f hc93) ?_
 ·intro hc93
  refine op_load1 (u := (iV x3)) Try.isAgg2 (gt hc93) ((hst.cell 1 rfl).drop 3) ?_
  exact rlz_t hc93
 rintro _ _ ⟨rfl, rfl⟩
 refine s_lz 9 rfl (gA_t rfl) (Rlz (decide (y.From = x2)) (.bool (decide (y.To = x3))) w89) ?_ (fun hc94 => rlz_f hc94) ?_
 ·intro hc94
  refine op_eql (k := .i64) (a := y.To) (b := x3) (gt hc94) (gt hc94) ?_
  exact rlz_t hc94
 rintro _ _ ⟨rfl, rfl⟩
 obtain ⟨g95, hg96⟩ : ∃ x : Bool, x = ((decide (y.From = x2)) && (decide (y.To = x3))) := ⟨_, rfl⟩
 refine s_cons (op_pick_and rfl rfl (fun hp => hp) rfl (s_cons (op_assign (.bool g95) (congrArg Value.bool hg96.symm) (s_nil (then_n (cE_ret (post_r _ (res1 (v := (.bool g95)) rfl) ?_)))))))
 exact ⟨(retv1 (congrArg Value.bool (show g95 = (decide (y.From = x2 ∧ y.To = x3)) from by (rw [hg96]; rw [Bool.eq_iff_iff]; simp only [Bool.and_eq_true, decide_eq_true_eq])))), hst.sub (.cons _ (.cons_cons _ (List.Sublist.refl _)))⟩

set_option maxRecDepth 8000 in
theorem c_indexP {w0 w : World} {L : List Item} (v_l : Value) (l : List Info) (g_x : Nat) (x0 : Int) (x1 : Int) (x2 : Int) (x3 : Int) (x4 : Int) (hst : St w0 w (rowT 96 infoE v_l l :: .blk g_x 96 #[(iV x0), (iV x1), (iV x2), (iV x3), (.int .u32 x4)] :: L)) :
  Calls Try.prog 61 #[v_l, (.func (.func 62) #[] #[(.pointer (some ⟨g_x, 0, none⟩))])] w fun e w' => e = .returned (iV (idxI (fun (y : Info) => decide (y.From = x2 ∧ y.To = x3)) l)) ∧ St w0 w' (rowT 96 infoE v_l l :: .blk g_x 96 #[(iV x0), (iV x1), (iV x2), (iV x3), (.int .u32 x4)] :: L) := by
 refine calls_E (n := 19) (ts := [4]) Try.func61 rfl rfl rfl (by simp) (cE_seq (cE_region rfl (s_cons (op_assign (iV 0) rfl (s_nil (then_n (cE_seq (cE_seq (cE_region rfl (s_cons (op_move v_l rfl (s_cons (op_len (E := infoE) (xs := l) Try.underlying92 rfl (hst.sl 0 rfl) (s_cons (op_move (iV 0) rfl (s_nil (then_n (cE_block (cE_loop (fun (m : Nat) (ρ : Env) (w : World) => ∃ (i : Nat), m = l.length - i ∧ ρ 0 = v_l ∧ ρ 1 = (.func (.func 62) #[] #[(.pointer (some ⟨g_x, 0, none⟩))]) ∧ ρ 7 = (iV (l.length : Int)) ∧ ρ 8 = (iV (i : Int)) ∧ St w0 w (rowT 96 infoE v_l l :: .blk g_x 96 #[(iV x0), (iV x1), (iV x2), (iV x3), (.int .u32 x4)] :: L) ∧ (i ≤ l.length) ∧ (∀ (j : Nat) (h : j < l.length), j < i → (fun (y : Info) => decide (y.From = x2 ∧ y.To = x3)) (l[j]'h) = false)) id _ ⟨0, rfl, rfl, rfl, rfl, (congrArg iV (show 0 = _ from by omega)), hst, (by omega), (by exact idx_none (p := fun (y : Info) => decide (y.From = x2 ∧ y.To = x3)))⟩ ?_)))))))))))))))))))
 rintro m98 ρ99 w100 ⟨i, hm98, q97_0, q97_1, q97_7, q97_8, hst, hi, hN⟩
 have hlen := (hst.sl 0 rfl).len
 refine cE_seq (cE_region rfl (s_cons (op_lss (k := .i64) (a := (i : Int)) (b := (l.length : Int)) q97_8 q97_7 (s_nil (then_n (cE_seq ?_))))))
 rcases Bool.eq_false_or_eq_true (decide ((i : Int) < (l.length : Int))) with b101 | b101
 ·have c102 := of_decide_eq_true b101
  refine cE_cond true (congrArg Value.bool b101) (fun _ => ?_) (fun h => by cases h)
  refine cE_skip (then_n (cE_seq (cE_block (cE_seq (cE_region rfl (s_cons (op_move (iV (i : Int)) q97_8 (s_cons (op_assign (iV (i : Int)) rfl (s_nil (then_n (cE_seq (cE_region rfl (s_cons (op_move (.func (.func 62) #[] #[(.pointer (some ⟨g_x, 0, none⟩))]) q97_1 (s_cons (op_move v_l q97_0 (s_cons (op_move (iV (i : Int)) rfl (s_cons (op_indexAddrN (E := infoE) (xs := l) i Try.underlying92 Try.sizeOf96 rfl (hst.sl 0 rfl) rfl (by omega) (by omega) (fun a103 o104 p105 => ?_))))))))))))))))))))))
  refine s_cons (op_loadN (cs := [(iV ((l[i]'(by omega)).Id)), (iV ((l[i]'(by omega)).Tier)), (iV ((l[i]'(by omega)).From)), (iV ((l[i]'(by omega)).To)), (.int .u32 ((l[i]'(by omega)).Sum))]) Try.isAgg96 Try.sizeOf96 rfl (Pt.of p105 rfl) rfl ?_)
  replace hst := hst.front 1 rfl
  refine s_cons (op_callv (cs := [(.pointer (some ⟨g_x, 0, none⟩))]) Try.call62 rfl (evs_cons (v := (.agg #[(iV ((l[i]'(by omega)).Id)), (iV ((l[i]'(by omega)).Tier)), (iV ((l[i]'(by omega)).From)), (iV ((l[i]'(by omega)).To)), (.int .u32 ((l[i]'(by omega)).Sum))])) rfl evs_nil) (c_span (y := (l[i]'(by omega))) (g_x := g_x) (x0 := x0) (x1 := x1) (x2 := x2) (x3 := x3) (x4 := x4) (hst := hst)) ?_)
  rintro _ w106 ⟨rfl, hcall⟩
  refine ⟨_, rfl, ?_⟩
  have hst : St w0 w106 (.blk g_x 96 #[(iV x0), (iV x1), (iV x2), (iV x3), (.int .u32 x4)] :: rowT 96 infoE v_l l :: L) := hcall
  refine s_nil (then_n ?_)
  rcases Bool.eq_false_or_eq_true (decide ((l[i]'(by omega)).From = x2 ∧ (l[i]'(by omega)).To = x3)) with b107 | b107
  ·have c108 := of_decide_eq_true b107
   refine cE_cond true (congrArg Value.bool b107) (fun _ => ?_) (fun h => by cases h)
   refine cE_seq (cE_region rfl (s_cons (op_move (iV (i : Int)) rfl (s_cons (op_assign (iV (i : Int)) rfl (s_nil (then_n (cE_ret (block_r (then_r (then_r (block_r (then_r (post_r _ (res1 (v := (iV (i : Int))) rfl) ?_))))))))))))))
   replace hst := hst.front 1 rfl
   exact ⟨(retv1 (congrArg iV (show (i : Int) = (idxI (fun (y : Info) => decide (y.From = x2 ∧ y.To = x3)) l) from by exact (idx_at (p := fun (y : Info) => decide (y.From = x2 ∧ y.To = x3)) hN (by omega) (by assumption)).symm))), hst.sub (.cons_cons _ (.cons_cons _ (List.Sublist.refl _)))⟩
  have c109 := of_decide_eq_false b107
  refine cE_cond false (congrArg Value.bool b107) (fun h => by cases h) (fun _ => ?_)
  refine cE_skip (block_n (then_n (cE_region rfl (s_cons (op_add (k := .i64) (a := (i : Int)) (b := 1) ((i : Int) + 1) q97_8 rfl (xi64 (by omega) (by omega)) (s_cons (op_move (iV ((i : Int) + 1)) rfl (s_nil (then_n ?_)))))))))
  replace hst := hst.front 1 rfl
  exact ⟨_, ⟨(i + 1), rfl, q97_0, q97_1, q97_7, (congrArg iV (show ((i : Int) + 1) = _ from by omega)), hst, (by omega), (by exact idx_next (p := fun (y : Info) => decide (y.From = x2 ∧ y.To = x3)) hN (by omega) (by assumption))⟩, (by simp only [id]; omega)⟩
 have c110 := of_decide_eq_false b101
 refine cE_cond false (congrArg Value.bool b101) (fun h => by cases h) (fun _ => ?_)
 refine cE_exit (then_x (then_x (block_hit (then_n (cE_seq (cE_region rfl (s_cons (op_assign (iV (-1)) rfl (s_nil (then_n (cE_ret (post_r _ (res1 (v := (iV (-1))) rfl) ?_))))))))))))
 exact ⟨(retv1 (congrArg iV (show (-1) = (idxI (fun (y : Info) => decide (y.From = x2 ∧ y.To = x3)) l) from by exact (idx_end (p := fun (y : Info) => decide (y.From = x2 ∧ y.To = x3)) hN (by omega)).symm))), hst.sub (.cons_cons _ (.cons_cons _ (List.Sublist.refl _)))⟩

set_option maxRecDepth 8000 in
theorem c_len64 (w0 : World) (x : Int) (hx0 : 0 ≤ x) (hx1 : x ≤ 12) :
  Calls Try.prog 84 #[(.int .u64 x)] w0 fun e w' => ∃ (r : Int), e = .returned (iV r) ∧ St w0 w' [] := by
 refine calls_E (n := 25) (ts := [2]) Try.func84 rfl rfl rfl (by simp) ?_
 have hst := St.start w0
 refine cE_seq (cE_region rfl (s_cons (op_assign (iV 0) rfl (s_nil (then_n (cE_seq (cE_seq (cE_region rfl (s_cons (op_move (.int .u64 x) rfl (s_cons (op_geq (k := .u64) (a := x) (b := 4294967296) rfl rfl (s_nil (then_n (cE_cond false (congrArg Value.bool (show (decide (4294967296 ≤ x)) = false from (decide_eq_false (by omega)))) (fun h => by cases h) (fun _ => ?_))))))))))))))))
 refine cE_skip (then_n (cE_seq (cE_seq (cE_region rfl (s_cons (op_move (.int .u64 x) rfl (s_cons (op_geq (k := .u64) (a := x) (b := 65536) rfl rfl (s_nil (then_n (cE_cond false (congrArg Value.bool (show (decide (65536 ≤ x)) = false from (decide_eq_false (by omega)))) (fun h => by cases h) (fun _ => ?_))))))))))))
 refine cE_skip (then_n (cE_seq (cE_seq (cE_region rfl (s_cons (op_move (.int .u64 x) rfl (s_cons (op_geq (k := .u64) (a := x) (b := 256) rfl rfl (s_nil (then_n (cE_cond false (congrArg Value.bool (show (decide (256 ≤ x)) = false from (decide_eq_false (by omega)))) (fun h => by cases h) (fun _ => ?_))))))))))))
 refine cE_skip (then_n (cE_seq (cE_region rfl (s_cons (op_move (iV 0) rfl (s_cons (op_move (.int .u64 x) rfl (s_cons (op_conv (k := .u64) (a := x) x Try.underlying5 (by rw [Try.underlying112]; rfl) rfl (xu8 (by omega) (by omega)) (s_cons (op_index_strN (s := [0, 1, 2, 2, 3, 3, 3, 3, 4, 4, 4, 4, 4, 4, 4, 4, 5, 5, 5, 5, 5, 5, 5, 5, 5, 5, 5, 5, 5, 5, 5, 5, 6, 6, 6, 6, 6, 6, 6, 6, 6, 6, 6, 6, 6, 6, 6, 6, 6, 6, 6, 6, 6, 6, 6, 6, 6, 6, 6, 6, 6, 6, 6, 6, 7, 7, 7, 7, 7, 7, 7, 7, 7, 7, 7, 7, 7, 7, 7, 7, 7, 7, 7, 7, 7, 7, 7, 7, 7, 7, 7, 7, 7, 7, 7, 7, 7, 7, 7, 7, 7, 7, 7, 7, 7, 7, 7, 7, 7, 7, 7, 7, 7, 7, 7, 7, 7, 7, 7, 7, 7, 7, 7, 7, 7, 7, 7, 7, 8, 8, 8, 8, 8, 8, 8, 8, 8, 8, 8, 8, 8, 8, 8, 8, 8, 8, 8, 8, 8, 8, 8, 8, 8, 8, 8, 8, 8, 8, 8, 8, 8, 8, 8, 8, 8, 8, 8, 8, 8, 8, 8, 8, 8, 8, 8, 8, 8, 8, 8, 8, 8, 8, 8, 8, 8, 8, 8, 8, 8, 8, 8, 8, 8, 8, 8, 8, 8, 8, 8, 8, 8, 8, 8, 8, 8, 8, 8, 8, 8, 8, 8, 8, 8, 8, 8, 8, 8, 8, 8, 8, 8, 8, 8, 8, 8, 8, 8, 8, 8, 8, 8, 8, 8, 8, 8, 8, 8, 8, 8, 8, 8, 8, 8, 8, 8, 8, 8, 8, 8, 8, 8, 8, 8, 8, 8, 8]) (Int.toNat x) Try.underlying9 rfl rfl (by omega) (by (simp only [List.length_cons, List.length_nil]; omega)) ?_)))))))))))
 have hu111 := u8_lt (([0, 1, 2, 2, 3, 3, 3, 3, 4, 4, 4, 4, 4, 4, 4, 4, 5, 5, 5, 5, 5, 5, 5, 5, 5, 5, 5, 5, 5, 5, 5, 5, 6, 6, 6, 6, 6, 6, 6, 6, 6, 6, 6, 6, 6, 6, 6, 6, 6, 6, 6, 6, 6, 6, 6, 6, 6, 6, 6, 6, 6, 6, 6, 6, 7, 7, 7, 7, 7, 7, 7, 7, 7, 7, 7, 7, 7, 7, 7, 7, 7, 7, 7, 7, 7, 7, 7, 7, 7, 7, 7, 7, 7, 7, 7, 7, 7, 7, 7, 7, 7, 7, 7, 7, 7, 7, 7, 7, 7, 7, 7, 7, 7, 7, 7, 7, 7, 7, 7, 7, 7, 7, 7, 7, 7, 7, 7, 7, 8, 8, 8, 8, 8, 8, 8, 8, 8, 8, 8, 8, 8, 8, 8, 8, 8, 8, 8, 8, 8, 8, 8, 8, 8, 8, 8, 8, 8, 8, 8, 8, 8, 8, 8, 8, 8, 8, 8, 8, 8, 8, 8, 8, 8, 8, 8, 8, 8, 8, 8, 8, 8, 8, 8, 8, 8, 8, 8, 8, 8, 8, 8, 8, 8, 8, 8, 8, 8, 8, 8, 8, 8, 8, 8, 8, 8, 8, 8, 8, 8, 8, 8, 8, 8, 8, 8, 8, 8, 8, 8, 8, 8, 8, 8, 8, 8, 8, 8, 8, 8, 8, 8, 8, 8, 8, 8, 8, 8, 8, 8, 8, 8, 8, 8, 8, 8, 8, 8, 8, 8, 8, 8, 8, 8, 8, 8, 8] : List UInt8)[(Int.toNat x)]'(by (simp only [List.length_cons, List.length_nil]; omega)))
 refine s_cons (op_conv (k := .u8) (a := ((([0, 1, 2, 2, 3, 3, 3, 3, 4, 4, 4, 4, 4, 4, 4, 4, 5, 5, 5, 5, 5, 5, 5, 5, 5, 5, 5, 5, 5, 5, 5, 5, 6, 6, 6, 6, 6, 6, 6, 6, 6, 6, 6, 6, 6, 6, 6, 6, 6, 6, 6, 6, 6, 6, 6, 6, 6, 6, 6, 6, 6, 6, 6, 6, 7, 7, 7, 7, 7, 7, 7, 7, 7, 7, 7, 7, 7, 7, 7, 7, 7, 7, 7, 7, 7, 7, 7, 7, 7, 7, 7, 7, 7, 7, 7, 7, 7, 7, 7, 7, 7, 7, 7, 7, 7, 7, 7, 7, 7, 7, 7, 7, 7, 7, 7, 7, 7, 7, 7, 7, 7, 7, 7, 7, 7, 7, 7, 7, 8, 8, 8, 8, 8, 8, 8, 8, 8, 8, 8, 8, 8, 8, 8, 8, 8, 8, 8, 8, 8, 8, 8, 8, 8, 8, 8, 8, 8, 8, 8, 8, 8, 8, 8, 8, 8, 8, 8, 8, 8, 8, 8, 8, 8, 8, 8, 8, 8, 8, 8, 8, 8, 8, 8, 8, 8, 8, 8, 8, 8, 8, 8, 8, 8, 8, 8, 8, 8, 8, 8, 8, 8, 8, 8, 8, 8, 8, 8, 8, 8, 8, 8, 8, 8, 8, 8, 8, 8, 8, 8, 8, 8, 8, 8, 8, 8, 8, 8, 8, 8, 8, 8, 8, 8, 8, 8, 8, 8, 8, 8, 8, 8, 8, 8, 8, 8, 8, 8, 8, 8, 8, 8, 8, 8, 8, 8, 8] : List UInt8)[(Int.toNat x)]'(by (simp only [List.length_cons, List.length_nil]; omega))).toNat : Int)) ((([0, 1, 2, 2, 3, 3, 3, 3, 4, 4, 4, 4, 4, 4, 4, 4, 5, 5, 5, 5, 5, 5, 5, 5, 5, 5, 5, 5, 5, 5, 5, 5, 6, 6, 6, 6, 6, 6, 6, 6, 6, 6, 6, 6, 6, 6, 6, 6, 6, 6, 6, 6, 6, 6, 6, 6, 6, 6, 6, 6, 6, 6, 6, 6, 7, 7, 7, 7, 7, 7, 7, 7, 7, 7, 7, 7, 7, 7, 7, 7, 7, 7, 7, 7, 7, 7, 7, 7, 7, 7, 7, 7, 7, 7, 7, 7, 7, 7, 7, 7, 7, 7, 7, 7, 7, 7, 7, 7, 7, 7, 7, 7, 7, 7, 7, 7, 7, 7, 7, 7, 7, 7, 7, 7, 7, 7, 7, 7, 8, 8, 8, 8, 8, 8, 8, 8, 8, 8, 8, 8, 8, 8, 8, 8, 8, 8, 8, 8, 8, 8, 8, 8, 8, 8, 8, 8, 8, 8, 8, 8, 8, 8, 8, 8, 8, 8, 8, 8, 8, 8, 8, 8, 8, 8, 8, 8, 8, 8, 8, 8, 8, 8, 8, 8, 8, 8, 8, 8, 8, 8, 8, 8, 8, 8, 8, 8, 8, 8, 8, 8, 8, 8, 8, 8, 8, 8, 8, 8, 8, 8, 8, 8, 8, 8, 8, 8, 8, 8, 8, 8, 8, 8, 8, 8, 8, 8, 8, 8, 8, 8, 8, 8, 8, 8, 8, 8, 8, 8, 8, 8, 8, 8, 8, 8, 8, 8, 8, 8, 8, 8, 8, 8, 8, 8, 8, 8] : List UInt8)[(Int.toNat x)]'(by (simp only [List.length_cons, List.length_nil]; omega))).toNat : Int) Try.underlying3 (by rw [Try.underlying5]; rfl) rfl (xi64 (by omega) (by omega)) ?_)
 refine s_cons (op_add (k := .i64) (a := 0) (b := ((([0, 1, 2, 2, 3, 3, 3, 3, 4, 4, 4, 4, 4, 4, 4, 4, 5, 5, 5, 5, 5, 5, 5, 5, 5, 5, 5, 5, 5, 5, 5, 5, 6, 6, 6, 6, 6, 6, 6, 6, 6, 6, 6, 6, 6, 6, 6, 6, 6, 6, 6, 6, 6, 6, 6, 6, 6, 6, 6, 6, 6, 6, 6, 6, 7, 7, 7, 7, 7, 7, 7, 7, 7, 7, 7, 7, 7, 7, 7, 7, 7, 7, 7, 7, 7, 7, 7, 7, 7, 7, 7, 7, 7, 7, 7, 7, 7, 7, 7, 7, 7, 7, 7, 7, 7, 7, 7, 7, 7, 7, 7, 7, 7, 7, 7, 7, 7, 7, 7, 7, 7, 7, 7, 7, 7, 7, 7, 7, 8, 8, 8, 8, 8, 8, 8, 8, 8, 8, 8, 8, 8, 8, 8, 8, 8, 8, 8, 8, 8, 8, 8, 8, 8, 8, 8, 8, 8, 8, 8, 8, 8, 8, 8, 8, 8, 8, 8, 8, 8, 8, 8, 8, 8, 8, 8, 8, 8, 8, 8, 8, 8, 8, 8, 8, 8, 8, 8, 8, 8, 8, 8, 8, 8, 8, 8, 8, 8, 8, 8, 8, 8, 8, 8, 8, 8, 8, 8, 8, 8, 8, 8, 8, 8, 8, 8, 8, 8, 8, 8, 8, 8, 8, 8, 8, 8, 8, 8, 8, 8, 8, 8, 8, 8, 8, 8, 8, 8, 8, 8, 8, 8, 8, 8, 8, 8, 8, 8, 8, 8, 8, 8, 8, 8, 8, 8, 8] : List UInt8)[(Int.toNat x)]'(by (simp only [List.length_cons, List.length_nil]; omega))).toNat : Int)) (0 + ((([0, 1, 2, 2, 3, 3, 3, 3, 4, 4, 4, 4, 4, 4, 4, 4, 5, 5, 5, 5, 5, 5, 5, 5, 5, 5, 5, 5, 5, 5, 5, 5, 6, 6, 6, 6, 6, 6, 6, 6, 6, 6, 6, 6, 6, 6, 6, 6, 6, 6, 6, 6, 6, 6, 6, 6, 6, 6, 6, 6, 6, 6, 6, 6, 7, 7, 7, 7, 7, 7, 7, 7, 7, 7, 7, 7, 7, 7, 7, 7, 7, 7, 7, 7, 7, 7, 7, 7, 7, 7, 7, 7, 7, 7, 7, 7, 7, 7, 7, 7, 7, 7, 7, 7, 7, 7, 7, 7, 7, 7, 7, 7, 7, 7, 7, 7, 7, 7, 7, 7, 7, 7, 7, 7, 7, 7, 7, 7, 8, 8, 8, 8, 8, 8, 8, 8, 8, 8, 8, 8, 8, 8, 8, 8, 8, 8, 8, 8, 8, 8, 8, 8, 8, 8, 8, 8, 8, 8, 8, 8, 8, 8, 8, 8, 8, 8, 8, 8, 8, 8, 8, 8, 8, 8, 8, 8, 8, 8, 8, 8, 8, 8, 8, 8, 8, 8, 8, 8, 8, 8, 8, 8, 8, 8, 8, 8, 8, 8, 8, 8, 8, 8, 8, 8, 8, 8, 8, 8, 8, 8, 8, 8, 8, 8, 8, 8, 8, 8, 8, 8, 8, 8, 8, 8, 8, 8, 8, 8, 8, 8, 8, 8, 8, 8, 8, 8, 8, 8, 8, 8, 8, 8, 8, 8, 8, 8, 8, 8, 8, 8, 8, 8, 8, 8, 8, 8] : List UInt8)[(Int.toNat x)]'(by (simp only [List.length_cons, List.length_nil]; omega))).toNat : Int)) rfl rfl (xi64 (by omega) (by omega)) ?_)
 refine s_cons (op_assign (iV (0 + ((([0, 1, 2, 2, 3, 3, 3, 3, 4, 4, 4, 4, 4, 4, 4, 4, 5, 5, 5, 5, 5, 5, 5, 5, 5, 5, 5, 5, 5, 5, 5, 5, 6, 6, 6, 6, 6, 6, 6, 6, 6, 6, 6, 6, 6, 6, 6, 6, 6, 6, 6, 6, 6, 6, 6, 6, 6, 6, 6, 6, 6, 6, 6, 6, 7, 7, 7, 7, 7, 7, 7, 7, 7, 7, 7, 7, 7, 7, 7, 7, 7, 7, 7, 7, 7, 7, 7, 7, 7, 7, 7, 7, 7, 7, 7, 7, 7, 7, 7, 7, 7, 7, 7, 7, 7, 7, 7, 7, 7, 7, 7, 7, 7, 7, 7, 7, 7, 7, 7, 7, 7, 7, 7, 7, 7, 7, 7, 7, 8, 8, 8, 8, 8, 8, 8, 8, 8, 8, 8, 8, 8, 8, 8, 8, 8, 8, 8, 8, 8, 8, 8, 8, 8, 8, 8, 8, 8, 8, 8, 8, 8, 8, 8, 8, 8, 8, 8, 8, 8, 8, 8, 8, 8, 8, 8, 8, 8, 8, 8, 8, 8, 8, 8, 8, 8, 8, 8, 8, 8, 8, 8, 8, 8, 8, 8, 8, 8, 8, 8, 8, 8, 8, 8, 8, 8, 8, 8, 8, 8, 8, 8, 8, 8, 8, 8, 8, 8, 8, 8, 8, 8, 8, 8, 8, 8, 8, 8, 8, 8, 8, 8, 8, 8, 8, 8, 8, 8, 8, 8, 8, 8, 8, 8, 8, 8, 8, 8, 8, 8, 8, 8, 8, 8, 8, 8, 8] : List UInt8)[(Int.toNat x)]'(by (simp only [List.length_cons, List.length_nil]; omega))).toNat : Int))) rfl ?_)
 refine s_nil (then_n (cE_ret (post_r _ (res1 (v := (iV (0 + ((([0, 1, 2, 2, 3, 3, 3, 3, 4, 4, 4, 4, 4, 4, 4, 4, 5, 5, 5, 5, 5, 5, 5, 5, 5, 5, 5, 5, 5, 5, 5, 5, 6, 6, 6, 6, 6, 6, 6, 6, 6, 6, 6, 6, 6, 6, 6, 6, 6, 6, 6, 6, 6, 6, 6, 6, 6, 6, 6, 6, 6, 6, 6, 6, 7, 7, 7, 7, 7, 7, 7, 7, 7, 7, 7, 7, 7, 7, 7, 7, 7, 7, 7, 7, 7, 7, 7, 7, 7, 7, 7, 7, 7, 7, 7, 7, 7, 7, 7, 7, 7, 7, 7, 7, 7, 7, 7, 7, 7, 7, 7, 7, 7, 7, 7, 7, 7, 7, 7, 7, 7, 7, 7, 7, 7, 7, 7, 7, 8, 8, 8, 8, 8, 8, 8, 8, 8, 8, 8, 8, 8, 8, 8, 8, 8, 8, 8, 8, 8, 8, 8, 8, 8, 8, 8, 8, 8, 8, 8, 8, 8, 8, 8, 8, 8, 8, 8, 8, 8, 8, 8, 8, 8, 8, 8, 8, 8, 8, 8, 8, 8, 8, 8, 8, 8, 8, 8, 8, 8, 8, 8, 8, 8, 8, 8, 8, 8, 8, 8, 8, 8, 8, 8, 8, 8, 8, 8, 8, 8, 8, 8, 8, 8, 8, 8, 8, 8, 8, 8, 8, 8, 8, 8, 8, 8, 8, 8, 8, 8, 8, 8, 8, 8, 8, 8, 8, 8, 8, 8, 8, 8, 8, 8, 8, 8, 8, 8, 8, 8, 8, 8, 8, 8, 8, 8, 8] : List UInt8)[(Int.toNat x)]'(by (simp only [List.length_cons, List.length_nil]; omega))).toNat : Int)))) rfl) ?_)))
 exact ⟨(0 + ((([0, 1, 2, 2, 3, 3, 3, 3, 4, 4, 4, 4, 4, 4, 4, 4, 5, 5, 5, 5, 5, 5, 5, 5, 5, 5, 5, 5, 5, 5, 5, 5, 6, 6, 6, 6, 6, 6, 6, 6, 6, 6, 6, 6, 6, 6, 6, 6, 6, 6, 6, 6, 6, 6, 6, 6, 6, 6, 6, 6, 6, 6, 6, 6, 7, 7, 7, 7, 7, 7, 7, 7, 7, 7, 7, 7, 7, 7, 7, 7, 7, 7, 7, 7, 7, 7, 7, 7, 7, 7, 7, 7, 7, 7, 7, 7, 7, 7, 7, 7, 7, 7, 7, 7, 7, 7, 7, 7, 7, 7, 7, 7, 7, 7, 7, 7, 7, 7, 7, 7, 7, 7, 7, 7, 7, 7, 7, 7, 8, 8, 8, 8, 8, 8, 8, 8, 8, 8, 8, 8, 8, 8, 8, 8, 8, 8, 8, 8, 8, 8, 8, 8, 8, 8, 8, 8, 8, 8, 8, 8, 8, 8, 8, 8, 8, 8, 8, 8, 8, 8, 8, 8, 8, 8, 8, 8, 8, 8, 8, 8, 8, 8, 8, 8, 8, 8, 8, 8, 8, 8, 8, 8, 8, 8, 8, 8, 8, 8, 8, 8, 8, 8, 8, 8, 8, 8, 8, 8, 8, 8, 8, 8, 8, 8, 8, 8, 8, 8, 8, 8, 8, 8, 8, 8, 8, 8, 8, 8, 8, 8, 8, 8, 8, 8, 8, 8, 8, 8, 8, 8, 8, 8, 8, 8, 8, 8, 8, 8, 8, 8, 8, 8, 8, 8, 8, 8] : List UInt8)[(Int.toNat x)]'(by (simp only [List.length_cons, List.length_nil]; omega))).toNat : Int)), rfl, hst.bare⟩

set_option maxRecDepth 8000 in
theorem c_len (w0 : World) (x : Int) (hx0 : 0 ≤ x) (hx1 : x ≤ 12) :
  Calls Try.prog 73 #[(.int .u64 x)] w0 fun e w' => ∃ (r : Int), e = .returned (iV r) ∧ St w0 w' [] := by
 refine calls_E (n := 8) (ts := [2]) Try.func73 rfl rfl rfl (by simp) ?_
 have hst := St.start w0
 refine cE_seq (cE_region rfl (s_cons (op_assign (iV 0) rfl (s_nil (then_n (cE_seq (cE_cond false rfl (fun h => by cases h) (fun _ => ?_))))))))
 refine cE_skip (then_n (cE_seq (cE_region rfl (s_cons (op_move (.int .u64 x) rfl (s_cons (op_call Try.call84 (evs_cons (v := (.int .u64 x)) rfl evs_nil) (c_len64 (w0 := w0) (x := x) (hx0 := (by omega)) (hx1 := (by omega))) ?_)))))))
 rintro _ w113 ⟨r112, rfl, hcall⟩
 refine ⟨_, rfl, ?_⟩
 have hst := hst.call hcall
 refine s_cons (op_assign (iV r112) rfl (s_nil (then_n (cE_ret (post_r _ (res1 (v := (iV r112)) rfl) ?_)))))
 exact ⟨r112, rfl, hst.bare⟩

end Go.Proofs.Ytldfnkhccaglmaa
