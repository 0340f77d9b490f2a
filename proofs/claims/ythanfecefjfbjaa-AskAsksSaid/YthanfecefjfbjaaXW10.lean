/- comparisons -/
import Derived.Test.YthanfecefjfbjaaXT
import Derived.Test.YthanfecefjfbjaaXLA
namespace Go.Proofs.Ythanfecefjfbjaa
open Go.RowKit

set_option maxRecDepth 8000 in
theorem c_isNaN_int (w0 : World) (x : Int) :
  Calls Try.prog 58 #[(iV x)] w0 fun e w' => e = .returned (.bool false) ∧ St w0 w' [] := by
 refine calls_E (n := 6) (ts := [2]) Try.func58 rfl rfl rfl (by simp) ?_
 have hst := St.start w0
 refine cE_seq (cE_region rfl (s_cons (op_assign (.bool false) rfl (s_nil (then_n (cE_seq (cE_region rfl (s_cons (op_move (iV x) rfl (s_cons (op_move (iV x) rfl (s_cons (op_neq (k := .i64) (a := x) (b := x) rfl rfl (s_cons (op_assign (.bool (!decide (x = x))) rfl (s_nil (then_n (cE_ret (post_r _ (res1 (v := (.bool false)) (congrArg Value.bool (congrArg (! ·) (show (decide (x = x)) = true from (decide_eq_true rfl))))) ?_)))))))))))))))))))
 exact ⟨rfl, hst.bare⟩

set_option maxRecDepth 8000 in
theorem c_Compare_int (w0 : World) (x : Int) (y : Int) :
  Calls Try.prog 39 #[(iV x), (iV y)] w0 fun e w' => e = .returned (iV (cmpI x y)) ∧ St w0 w' [] := by
 refine calls_E (n := 20) (ts := [4]) Try.func39 rfl rfl rfl (by simp) ?_
 have hst := St.start w0
 refine cE_seq (cE_region rfl (s_cons (op_assign (iV 0) rfl (s_nil (then_n (cE_seq (cE_region rfl (s_cons (op_move (iV x) rfl (s_cons (op_call Try.call58 (evs_cons (v := (iV x)) rfl evs_nil) (c_isNaN_int (w0 := w0) (x := x)) ?_)))))))))))
 rintro _ w1 ⟨rfl, hcall⟩
 refine ⟨_, rfl, ?_⟩
 have hst := hst.call hcall
 refine s_cons (op_assign (.bool false) rfl (s_nil (then_n (cE_seq (cE_region rfl (s_cons (op_move (iV y) rfl (s_cons (op_call Try.call58 (evs_cons (v := (iV y)) rfl evs_nil) (c_isNaN_int (w0 := w1) (x := y)) ?_)))))))))
 rintro _ w2 ⟨rfl, hcall⟩
 refine ⟨_, rfl, ?_⟩
 have hst := hst.call hcall
 refine s_cons (op_assign (.bool false) rfl (s_nil (then_n (cE_seq (cE_seq (cE_region rfl (s_cons (op_move (.bool false) rfl (s_nil (then_n (cE_cond false rfl (fun h => by cases h) (fun _ => ?_))))))))))))
 refine cE_skip (then_n (cE_seq (cE_seq (cE_region rfl (s_cons (op_move (.bool false) rfl (s_nil (then_n (cE_cond false rfl (fun h => by cases h) (fun _ => ?_))))))))))
 refine cE_skip (then_n (cE_seq (cE_seq (cE_region rfl (s_cons (op_move (iV x) rfl (s_cons (op_move (iV y) rfl (s_cons (op_lss (k := .i64) (a := x) (b := y) rfl rfl (s_nil (then_n ?_))))))))))))
 rcases Bool.eq_false_or_eq_true (decide (x < y)) with b3 | b3
 ·have c4 := of_decide_eq_true b3
  refine cE_cond true (congrArg Value.bool b3) (fun _ => ?_) (fun h => by cases h)
  refine cE_seq (cE_region rfl (s_cons (op_assign (iV (-1)) rfl (s_nil (then_n (cE_ret (then_r (post_r _ (res1 (v := (iV (-1))) rfl) ?_))))))))
  exact ⟨(retv1 (congrArg iV (show (-1) = (cmpI x y) from by (unfold cmpI; (repeat' split) <;> omega)))), hst.bare⟩
 have c5 := of_decide_eq_false b3
 refine cE_cond false (congrArg Value.bool b3) (fun h => by cases h) (fun _ => ?_)
 refine cE_skip (then_n (cE_seq (cE_seq (cE_region rfl (s_cons (op_move (iV x) rfl (s_cons (op_move (iV y) rfl (s_cons (op_gtr (k := .i64) (a := x) (b := y) rfl rfl (s_nil (then_n ?_))))))))))))
 rcases Bool.eq_false_or_eq_true (decide (y < x)) with b6 | b6
 ·have c7 := of_decide_eq_true b6
  refine cE_cond true (congrArg Value.bool b6) (fun _ => ?_) (fun h => by cases h)
  refine cE_seq (cE_region rfl (s_cons (op_assign (iV 1) rfl (s_nil (then_n (cE_ret (then_r (post_r _ (res1 (v := (iV 1)) rfl) ?_))))))))
  exact ⟨(retv1 (congrArg iV (show 1 = (cmpI x y) from by (unfold cmpI; (repeat' split) <;> omega)))), hst.bare⟩
 have c8 := of_decide_eq_false b6
 refine cE_cond false (congrArg Value.bool b6) (fun h => by cases h) (fun _ => ?_)
 refine cE_skip (then_n (cE_seq (cE_region rfl (s_cons (op_assign (iV 0) rfl (s_nil (then_n (cE_ret (post_r _ (res1 (v := (iV 0)) rfl) ?_)))))))))
 exact ⟨(retv1 (congrArg iV (show 0 = (cmpI x y) from by (unfold cmpI; (repeat' split) <;> omega)))), hst.bare⟩

set_option maxRecDepth 8000 in
theorem c_isNaN_int64 (w0 : World) (x : Int) :
  Calls Try.prog 61 #[(iV x)] w0 fun e w' => e = .returned (.bool false) ∧ St w0 w' [] := by
 refine calls_E (n := 6) (ts := [2]) Try.func61 rfl rfl rfl (by simp) ?_
 have hst := St.start w0
 refine cE_seq (cE_region rfl (s_cons (op_assign (.bool false) rfl (s_nil (then_n (cE_seq (cE_region rfl (s_cons (op_move (iV x) rfl (s_cons (op_move (iV x) rfl (s_cons (op_neq (k := .i64) (a := x) (b := x) rfl rfl (s_cons (op_assign (.bool (!decide (x = x))) rfl (s_nil (then_n (cE_ret (post_r _ (res1 (v := (.bool false)) (congrArg Value.bool (congrArg (! ·) (show (decide (x = x)) = true from (decide_eq_true rfl))))) ?_)))))))))))))))))))
 exact ⟨rfl, hst.bare⟩

set_option maxRecDepth 8000 in
theorem c_Compare_int64 (w0 : World) (x : Int) (y : Int) :
  Calls Try.prog 42 #[(iV x), (iV y)] w0 fun e w' => e = .returned (iV (cmpI x y)) ∧ St w0 w' [] := by
 refine calls_E (n := 20) (ts := [4]) Try.func42 rfl rfl rfl (by simp) ?_
 have hst := St.start w0
 refine cE_seq (cE_region rfl (s_cons (op_assign (iV 0) rfl (s_nil (then_n (cE_seq (cE_region rfl (s_cons (op_move (iV x) rfl (s_cons (op_call Try.call61 (evs_cons (v := (iV x)) rfl evs_nil) (c_isNaN_int64 (w0 := w0) (x := x)) ?_)))))))))))
 rintro _ w9 ⟨rfl, hcall⟩
 refine ⟨_, rfl, ?_⟩
 have hst := hst.call hcall
 refine s_cons (op_assign (.bool false) rfl (s_nil (then_n (cE_seq (cE_region rfl (s_cons (op_move (iV y) rfl (s_cons (op_call Try.call61 (evs_cons (v := (iV y)) rfl evs_nil) (c_isNaN_int64 (w0 := w9) (x := y)) ?_)))))))))
 rintro _ w10 ⟨rfl, hcall⟩
 refine ⟨_, rfl, ?_⟩
 have hst := hst.call hcall
 refine s_cons (op_assign (.bool false) rfl (s_nil (then_n (cE_seq (cE_seq (cE_region rfl (s_cons (op_move (.bool false) rfl (s_nil (then_n (cE_cond false rfl (fun h => by cases h) (fun _ => ?_))))))))))))
 refine cE_skip (then_n (cE_seq (cE_seq (cE_region rfl (s_cons (op_move (.bool false) rfl (s_nil (then_n (cE_cond false rfl (fun h => by cases h) (fun _ => ?_))))))))))
 refine cE_skip (then_n (cE_seq (cE_seq (cE_region rfl (s_cons (op_move (iV x) rfl (s_cons (op_move (iV y) rfl (s_cons (op_lss (k := .i64) (a := x) (b := y) rfl rfl (s_nil (then_n ?_))))))))))))
 rcases Bool.eq_false_or_eq_true (decide (x < y)) with b11 | b11
 ·have c12 := of_decide_eq_true b11
  refine cE_cond true (congrArg Value.bool b11) (fun _ => ?_) (fun h => by cases h)
  refine cE_seq (cE_region rfl (s_cons (op_assign (iV (-1)) rfl (s_nil (then_n (cE_ret (then_r (post_r _ (res1 (v := (iV (-1))) rfl) ?_))))))))
  exact ⟨(retv1 (congrArg iV (show (-1) = (cmpI x y) from by (unfold cmpI; (repeat' split) <;> omega)))), hst.bare⟩
 have c13 := of_decide_eq_false b11
 refine cE_cond false (congrArg Value.bool b11) (fun h => by cases h) (fun _ => ?_)
 refine cE_skip (then_n (cE_seq (cE_seq (cE_region rfl (s_cons (op_move (iV x) rfl (s_cons (op_move (iV y) rfl (s_cons (op_gtr (k := .i64) (a := x) (b := y) rfl rfl (s_nil (then_n ?_))))))))))))
 rcases Bool.eq_false_or_eq_true (decide (y < x)) with b14 | b14
 ·have c15 := of_decide_eq_true b14
  refine cE_cond true (congrArg Value.bool b14) (fun _ => ?_) (fun h => by cases h)
  refine cE_seq (cE_region rfl (s_cons (op_assign (iV 1) rfl (s_nil (then_n (cE_ret (then_r (post_r _ (res1 (v := (iV 1)) rfl) ?_))))))))
  exact ⟨(retv1 (congrArg iV (show 1 = (cmpI x y) from by (unfold cmpI; (repeat' split) <;> omega)))), hst.bare⟩
 have c16 := of_decide_eq_false b14
 refine cE_cond false (congrArg Value.bool b14) (fun h => by cases h) (fun _ => ?_)
 refine cE_skip (then_n (cE_seq (cE_region rfl (s_cons (op_assign (iV 0) rfl (s_nil (then_n (cE_ret (post_r _ (res1 (v := (iV 0)) rfl) ?_)))))))))
 exact ⟨(retv1 (congrArg iV (show 0 = (cmpI x y) from by (unfold cmpI; (repeat' split) <;> omega)))), hst.bare⟩

set_option maxRecDepth 8000 in
theorem c_Or (w0 : World) (v_l : Value) (l : List Int) (h_l : Sl w0 (intE .i64) v_l l) :
  Calls Try.prog 38 #[v_l] w0 fun e w' => e = .returned (iV (orI l)) ∧ St w0 w' [] := by
 refine calls_E (n := 18) (ts := [2]) Try.func38 rfl rfl rfl (by simp) ?_
 have hst := St.start w0
 refine cE_seq (cE_region rfl (s_cons (op_assign (iV 0) rfl (s_nil (then_n (cE_seq (cE_region rfl (s_cons (op_assign (iV 0) rfl (s_nil (then_n (cE_seq (cE_seq (cE_region rfl (s_cons (op_move v_l rfl (s_cons (op_len (E := (intE .i64)) (xs := l) Try.underlying43 rfl h_l (s_cons (op_move (iV 0) rfl (s_nil (then_n (cE_block (cE_loop (fun (m : Nat) (ρ : Env) (w : World) => ∃ (i : Nat), m = l.length - i ∧ ρ 0 = v_l ∧ ρ 3 = (iV 0) ∧ ρ 6 = v_l ∧ ρ 7 = (iV (l.length : Int)) ∧ ρ 8 = (iV (i : Int)) ∧ St w0 w [] ∧ (i ≤ l.length) ∧ (orI l = orI (l.drop i))) id _ ⟨0, rfl, rfl, rfl, rfl, rfl, (congrArg iV (show 0 = _ from by omega)), hst, (by omega), (by rfl)⟩ ?_))))))))))))))))))))))))
 rintro m18 ρ19 w20 ⟨i, hm18, q17_0, q17_3, q17_6, q17_7, q17_8, hst, hi, hI⟩
 have hlen := h_l.len
 refine cE_seq (cE_region rfl (s_cons (op_lss (k := .i64) (a := (i : Int)) (b := (l.length : Int)) q17_8 q17_7 (s_nil (then_n (cE_seq ?_))))))
 rcases Bool.eq_false_or_eq_true (decide ((i : Int) < (l.length : Int))) with b21 | b21
 ·have c22 := of_decide_eq_true b21
  refine cE_cond true (congrArg Value.bool b21) (fun _ => ?_) (fun h => by cases h)
  refine cE_skip (then_n (cE_seq (cE_block (cE_seq (cE_region rfl (s_cons (op_indexAddrN (E := (intE .i64)) (xs := l) i Try.underlying43 Try.sizeOf3 q17_6 h_l q17_8 (by omega) (by omega) (fun a23 o24 p25 => ?_))))))))
  refine s_cons (op_load1 (u := (iV (l[i]'(by omega)))) Try.isAgg3 rfl (p25.below hst.below) (s_cons (op_assign (iV (l[i]'(by omega))) rfl (s_nil (then_n (cE_seq (cE_region rfl (s_cons (op_move (iV (l[i]'(by omega))) rfl (s_cons (op_move (iV 0) q17_3 (s_cons (op_neq (k := .i64) (a := (l[i]'(by omega))) (b := 0) rfl rfl (s_nil (then_n ?_)))))))))))))))
  rcases Bool.eq_false_or_eq_true (decide ((l[i]'(by omega)) = 0)) with b26 | b26
  ·have c27 := of_decide_eq_true b26
   refine cE_cond false (congrArg Value.bool (congrArg (! ·) b26)) (fun h => by cases h) (fun _ => ?_)
   refine cE_skip (block_n (then_n (cE_region rfl (s_cons (op_add (k := .i64) (a := (i : Int)) (b := 1) ((i : Int) + 1) q17_8 rfl (xi64 (by omega) (by omega)) (s_cons (op_move (iV ((i : Int) + 1)) rfl (s_nil (then_n ?_)))))))))
   exact ⟨_, ⟨(i + 1), rfl, q17_0, q17_3, q17_6, q17_7, (congrArg iV (show ((i : Int) + 1) = _ from by omega)), hst, (by omega), (by exact hI.trans (or_go (by omega) (by assumption)))⟩, (by simp only [id]; omega)⟩
  have c28 := of_decide_eq_false b26
  refine cE_cond true (congrArg Value.bool (congrArg (! ·) b26)) (fun _ => ?_) (fun h => by cases h)
  refine cE_seq (cE_region rfl (s_cons (op_move (iV (l[i]'(by omega))) rfl (s_cons (op_assign (iV (l[i]'(by omega))) rfl (s_nil (then_n (cE_ret (block_r (then_r (then_r (block_r (then_r (post_r _ (res1 (v := (iV (l[i]'(by omega)))) rfl) ?_))))))))))))))
  exact ⟨(retv1 (congrArg iV (show (l[i]'(by omega)) = (orI l) from by exact (hI.trans (or_at (by omega) (by assumption))).symm))), hst.bare⟩
 have c29 := of_decide_eq_false b21
 refine cE_cond false (congrArg Value.bool b21) (fun h => by cases h) (fun _ => ?_)
 refine cE_exit (then_x (then_x (block_hit (then_n (cE_seq (cE_region rfl (s_cons (op_move (iV 0) q17_3 (s_cons (op_assign (iV 0) rfl (s_nil (then_n (cE_ret (post_r _ (res1 (v := (iV 0)) rfl) ?_))))))))))))))
 exact ⟨(retv1 (congrArg iV (show 0 = (orI l) from by exact (hI.trans (or_end (by omega))).symm))), hst.bare⟩

set_option maxRecDepth 8000 in
theorem c_Ints (w0 : World) (v_a : Value) (a : List Int) (h_a : Sl w0 (intE .i64) v_a a) (v_b : Value) (b : List Int) (h_b : Sl w0 (intE .i64) v_b b) :
  Calls Try.prog 17 #[v_a, v_b] w0 fun e w' => e = .returned (.bool (decide (a = b))) ∧ St w0 w' [] := by
 refine calls_E (n := 26) (ts := [4]) Try.func17 rfl rfl rfl (by simp) ?_
 have hst := St.start w0
 refine cE_seq (cE_region rfl (s_cons (op_assign (.bool false) rfl (s_nil (then_n (cE_seq (cE_seq (cE_region rfl (s_cons (op_move v_a rfl (s_cons (op_len (E := (intE .i64)) (xs := a) Try.underlying43 rfl h_a (s_cons (op_move v_b rfl (s_cons (op_len (E := (intE .i64)) (xs := b) Try.underlying43 rfl h_b (s_cons (op_neq (k := .i64) (a := (a.length : Int)) (b := (b.length : Int)) rfl rfl ?_))))))))))))))))))
 refine s_nil (then_n ?_)
 rcases Bool.eq_false_or_eq_true (decide ((a.length : Int) = (b.length : Int))) with b30 | b30
 ·have c31 := of_decide_eq_true b30
  refine cE_cond false (congrArg Value.bool (congrArg (! ·) b30)) (fun h => by cases h) (fun _ => ?_)
  refine cE_skip (then_n (cE_seq (cE_seq (cE_region rfl (s_cons (op_assign (iV 0) rfl (s_nil (then_n (cE_block (cE_loop (fun (m : Nat) (ρ : Env) (w : World) => ∃ (i : Nat), m = a.length - i ∧ ρ 0 = v_a ∧ ρ 1 = v_b ∧ ρ 5 = (iV (i : Int)) ∧ St w0 w [] ∧ (i ≤ a.length) ∧ (a.take i = b.take i)) id _ ⟨0, rfl, rfl, rfl, (congrArg iV (show 0 = _ from by omega)), hst, (by omega), (by rfl)⟩ ?_))))))))))
  rintro m33 ρ34 w35 ⟨i, hm33, q32_0, q32_1, q32_5, hst, hi, he⟩
  have hlen := h_a.len
  refine cE_seq (cE_seq (cE_region rfl (s_cons (op_move (iV (i : Int)) q32_5 (s_cons (op_move v_a q32_0 (s_cons (op_len (E := (intE .i64)) (xs := a) Try.underlying43 rfl h_a (s_cons (op_lss (k := .i64) (a := (i : Int)) (b := (a.length : Int)) rfl rfl (s_nil (then_n ?_))))))))))))
  rcases Bool.eq_false_or_eq_true (decide ((i : Int) < (a.length : Int))) with b36 | b36
  ·have c37 := of_decide_eq_true b36
   refine cE_cond true (congrArg Value.bool b36) (fun _ => ?_) (fun h => by cases h)
   refine cE_skip (then_n (cE_seq (cE_block (cE_seq (cE_regionL hst [[(0, none)], [(5, none)], [(17, some 0), (18, some 1)], [(19, some 2)], [(1, none)], [(5, none)], [(21, some 4), (22, some 5)], [(23, some 6)], [(20, some 3), (24, some 7)]] [(rEq v_a), (rEq (iV (i : Int))), (rPt [(iV (a[i]'(by omega)))]), (rEq (iV (a[i]'(by omega)))), (rEq v_b), (rEq (iV (i : Int))), (rPt [(iV (b[i]'(by omega)))]), (rEq (iV (b[i]'(by omega)))), (rEq (.bool (!decide ((a[i]'(by omega)) = (b[i]'(by omega))))))] (by kernel_rfl) rfl (by kernel_rfl) ⟨sEq, sEq, sPt, sEq, sEq, sEq, sPt, sEq, sEq, trivial⟩ ⟨?_, ?_, ?_, ?_, ?_, ?_, ?_, ?_, ?_, trivial⟩ ?_)))))
   ·rintro ρ44 w45 hj46 ⟨f0, _⟩
    have hst := hj46.2
    exact go_plain (op_move v_a (f0.trans q32_0) (kS hj46 rfl))
   ·rintro ρ47 w48 hj49 ⟨f5, _⟩
    have hst := hj49.2
    exact go_plain (op_move (iV (i : Int)) (f5.trans q32_5) (kS hj49 rfl))
   ·rintro ρ50 w51 hj52 ⟨f17, f18, _⟩
    have hst := hj52.2
    refine go_plain (op_indexAddrN (E := (intE .i64)) (xs := a) i Try.underlying43 Try.sizeOf3 f17 h_a f18 (by omega) (by omega) (fun a53 o54 p55 => ?_))
    exact kS hj52 ⟨_, _, rfl, (p55.below hst.below)⟩
   ·rintro ρ56 w57 hj58 ⟨f19, _⟩
    have hst := hj58.2
    obtain ⟨a59, o60, e61, p62⟩ := f19
    exact go_plain (op_load1 (u := (iV (a[i]'(by omega)))) Try.isAgg3 e61 p62 (kS hj58 rfl))
   ·rintro ρ63 w64 hj65 ⟨f1, _⟩
    have hst := hj65.2
    exact go_plain (op_move v_b (f1.trans q32_1) (kS hj65 rfl))
   ·rintro ρ66 w67 hj68 ⟨f5, _⟩
    have hst := hj68.2
    exact go_plain (op_move (iV (i : Int)) (f5.trans q32_5) (kS hj68 rfl))
   ·rintro ρ69 w70 hj71 ⟨f21, f22, _⟩
    have hst := hj71.2
    refine go_plain (op_indexAddrN (E := (intE .i64)) (xs := b) i Try.underlying43 Try.sizeOf3 f21 h_b f22 (by omega) (by omega) (fun a72 o73 p74 => ?_))
    exact kS hj71 ⟨_, _, rfl, (p74.below hst.below)⟩
   ·rintro ρ75 w76 hj77 ⟨f23, _⟩
    have hst := hj77.2
    obtain ⟨a78, o79, e80, p81⟩ := f23
    exact go_plain (op_load1 (u := (iV (b[i]'(by omega)))) Try.isAgg3 e80 p81 (kS hj77 rfl))
   ·rintro ρ82 w83 hj84 ⟨f20, f24, _⟩
    have hst := hj84.2
    exact go_plain (op_neq (k := .i64) (a := (a[i]'(by omega))) (b := (b[i]'(by omega))) f20 f24 (kS hj84 rfl))
   intro ρ85 w86 hbw86 hst hRw86 hkw86
   have uw86_0 := (hkw86 0 rfl).trans q32_0
   have uw86_1 := (hkw86 1 rfl).trans q32_1
   have uw86_5 := (hkw86 5 rfl).trans q32_5
   have uw86_25 : ρ85 25 = (.bool (!decide ((a[i]'(by omega)) = (b[i]'(by omega))))) := hRw86 8 25 rfl
   refine then_n ?_
   rcases Bool.eq_false_or_eq_true (decide ((a[i]'(by omega)) = (b[i]'(by omega)))) with b87 | b87
   ·have c88 := of_decide_eq_true b87
    refine cE_cond false (uw86_25.trans (congrArg Value.bool (congrArg (! ·) b87))) (fun h => by cases h) (fun _ => ?_)
    refine cE_skip (block_n (then_n (cE_region rfl (s_cons (op_move (iV (i : Int)) uw86_5 (s_cons (op_add (k := .i64) (a := (i : Int)) (b := 1) ((i : Int) + 1) rfl rfl (xi64 (by omega) (by omega)) (s_cons (op_assign (iV ((i : Int) + 1)) rfl (s_nil (then_n ?_)))))))))))
    exact ⟨_, ⟨(i + 1), rfl, uw86_0, uw86_1, (congrArg iV (show ((i : Int) + 1) = _ from by omega)), hst, (by omega), (by exact same_step he (by omega) (by omega) (by assumption))⟩, (by simp only [id]; omega)⟩
   have c89 := of_decide_eq_false b87
   refine cE_cond true (uw86_25.trans (congrArg Value.bool (congrArg (! ·) b87))) (fun _ => ?_) (fun h => by cases h)
   refine cE_seq (cE_region rfl (s_cons (op_assign (.bool false) rfl (s_nil (then_n (cE_ret (block_r (then_r (then_r (block_r (then_r (post_r _ (res1 (v := (.bool false)) rfl) ?_))))))))))))
   exact ⟨(retv1 (congrArg Value.bool (show false = (decide (a = b)) from by exact same_no (i := i) (by omega) (by omega) (by assumption)))), hst.bare⟩
  have c90 := of_decide_eq_false b36
  refine cE_cond false (congrArg Value.bool b36) (fun h => by cases h) (fun _ => ?_)
  refine cE_exit (then_x (then_x (block_hit (then_n (cE_seq (cE_region rfl (s_cons (op_assign (.bool true) rfl (s_nil (then_n (cE_ret (post_r _ (res1 (v := (.bool true)) rfl) ?_))))))))))))
  exact ⟨(retv1 (congrArg Value.bool (show true = (decide (a = b)) from by exact same_end (i := i) (by omega) (by omega) he))), hst.bare⟩
 have c91 := of_decide_eq_false b30
 refine cE_cond true (congrArg Value.bool (congrArg (! ·) b30)) (fun _ => ?_) (fun h => by cases h)
 refine cE_seq (cE_region rfl (s_cons (op_assign (.bool false) rfl (s_nil (then_n (cE_ret (then_r (post_r _ (res1 (v := (.bool false)) rfl) ?_))))))))
 exact ⟨(retv1 (congrArg Value.bool (show false = (decide (a = b)) from by exact same_len (by assumption)))), hst.bare⟩

set_option maxRecDepth 8000 in
theorem c_cmpF (w0 : World) (a : Info) (b : Info) :
  Calls Try.prog 41 #[(.agg #[(iV a.Id), (iV a.Tier), (iV a.From), (iV a.To), (.int .u32 a.Sum)]), (.agg #[(iV b.Id), (iV b.Tier), (iV b.From), (iV b.To), (.int .u32 b.Sum)])] w0 fun e w' => e = .returned (iV (cmpF a b)) ∧ St w0 w' [] := by
 refine calls_E (n := 17) (ts := [4]) Try.func41 rfl rfl rfl (by simp) ?_
 have hst := St.start w0
 refine cE_seq (cE_region rfl (s_cons (op_box (v := (.agg #[(iV a.Id), (iV a.Tier), (iV a.From), (iV a.To), (.int .u32 a.Sum)])) (cs := #[(iV a.Id), (iV a.Tier), (iV a.From), (iV a.To), (.int .u32 a.Sum)]) hst rfl rfl (fun g92 w93 hst _ => ?_))))
 refine s_cons (op_box (v := (.agg #[(iV b.Id), (iV b.Tier), (iV b.From), (iV b.To), (.int .u32 b.Sum)])) (cs := #[(iV b.Id), (iV b.Tier), (iV b.From), (iV b.To), (.int .u32 b.Sum)]) hst rfl rfl (fun g94 w95 hst _ => ?_))
 refine s_cons (op_assign (iV 0) rfl (s_nil (then_n (cE_seq (cE_regionL hst [[(2, none)], [(5, some 0)], [(3, none)], [(7, some 2)], [(6, some 1), (8, some 3)], [(2, none)], [(10, some 5)], [(3, none)], [(12, some 7)], [(11, some 6), (13, some 8)], [(9, some 4), (14, some 9)], [(15, some 10)], [(16, some 11)]] [(rEq (.pointer (some ⟨g92, (0 + 2), none⟩))), (rEq (iV a.From)), (rEq (.pointer (some ⟨g94, (0 + 2), none⟩))), (rEq (iV b.From)), (rEq (iV (cmpI a.From b.From))), (rEq (.pointer (some ⟨g92, (0 + 3), none⟩))), (rEq (iV a.To)), (rEq (.pointer (some ⟨g94, (0 + 3), none⟩))), (rEq (iV b.To)), (rEq (iV (cmpI a.To b.To))), (rSl (intE .i64) ([(cmpI a.From b.From), (cmpI a.To b.To)])), (rEq (iV (orI ([(cmpI a.From b.From), (cmpI a.To b.To)])))), (rEq (iV (orI ([(cmpI a.From b.From), (cmpI a.To b.To)]))))] (by kernel_rfl) rfl (by kernel_rfl) ⟨sEq, sEq, sEq, sEq, sEq, sEq, sEq, sEq, sEq, sEq, sSl, sEq, sEq, trivial⟩ ⟨?_, ?_, ?_, ?_, ?_, ?_, ?_, ?_, ?_, ?_, ?_, ?_, ?_, trivial⟩ ?_)))))
 ·rintro ρ101 w102 hj103 ⟨f2, _⟩
  have hst := hj103.2
  exact go_plain (op_fieldAddr (s := 0) Try.underlying65 rfl rfl Try.sizeOf2 (f2.trans rfl) (kS hj103 rfl))
 ·rintro ρ104 w105 hj106 ⟨f5, _⟩
  have hst := hj106.2
  exact go_plain (op_load1 (u := (iV a.From)) Try.isAgg2 f5 ((hst.cell 1 rfl).drop 2) (kS hj106 rfl))
 ·rintro ρ107 w108 hj109 ⟨f3, _⟩
  have hst := hj109.2
  exact go_plain (op_fieldAddr (s := 0) Try.underlying65 rfl rfl Try.sizeOf2 (f3.trans rfl) (kS hj109 rfl))
 ·rintro ρ110 w111 hj112 ⟨f7, _⟩
  have hst := hj112.2
  exact go_plain (op_load1 (u := (iV b.From)) Try.isAgg2 f7 ((hst.cell 0 rfl).drop 2) (kS hj112 rfl))
 ·rintro ρ113 w114 hj115 ⟨f6, f8, _⟩
  have hst := hj115.2
  refine go_plain (op_call Try.call42 (evs_cons (v := (iV a.From)) f6 (evs_cons (v := (iV b.From)) f8 evs_nil)) (c_Compare_int64 (w0 := w114) (x := a.From) (y := b.From)) ?_)
  rintro _ w116 ⟨rfl, hcall⟩
  refine ⟨_, rfl, ?_⟩
  exact kD hj115 hcall rfl
 ·rintro ρ117 w118 hj119 ⟨f2, _⟩
  have hst := hj119.2
  exact go_plain (op_fieldAddr (s := 0) Try.underlying65 rfl rfl Try.sizeOf2 (f2.trans rfl) (kS hj119 rfl))
 ·rintro ρ120 w121 hj122 ⟨f10, _⟩
  have hst := hj122.2
  exact go_plain (op_load1 (u := (iV a.To)) Try.isAgg2 f10 ((hst.cell 1 rfl).drop 3) (kS hj122 rfl))
 ·rintro ρ123 w124 hj125 ⟨f3, _⟩
  have hst := hj125.2
  exact go_plain (op_fieldAddr (s := 0) Try.underlying65 rfl rfl Try.sizeOf2 (f3.trans rfl) (kS hj125 rfl))
 ·rintro ρ126 w127 hj128 ⟨f12, _⟩
  have hst := hj128.2
  exact go_plain (op_load1 (u := (iV b.To)) Try.isAgg2 f12 ((hst.cell 0 rfl).drop 3) (kS hj128 rfl))
 ·rintro ρ129 w130 hj131 ⟨f11, f13, _⟩
  have hst := hj131.2
  refine go_plain (op_call Try.call42 (evs_cons (v := (iV a.To)) f11 (evs_cons (v := (iV b.To)) f13 evs_nil)) (c_Compare_int64 (w0 := w130) (x := a.To) (y := b.To)) ?_)
  rintro _ w132 ⟨rfl, hcall⟩
  refine ⟨_, rfl, ?_⟩
  exact kD hj131 hcall rfl
 ·rintro ρ133 w134 hj135 ⟨f9, f14, _⟩
  have hst := hj135.2
  have hst := St.start w134
  refine go_plain (op_buildSlice (E := (intE .i64)) [(cmpI a.From b.From), (cmpI a.To b.To)] hst Try.underlying43 Try.sizeOf3 Try.zeroValue3 (evp_cons (v := (iV (cmpI a.From b.From))) f9 (evp_cons (v := (iV (cmpI a.To b.To))) f14 evp_nil)) (parts_cons rfl (parts_cons rfl parts_nil)) rfl (by decide) (fun v136 w137 hst => ?_))
  exact kD hj135 hst (hst.sl 0 rfl)
 ·rintro ρ138 w139 hj140 ⟨f15, _⟩
  have hst := hj140.2
  have hs143 : Sl w139 (intE .i64) _ ([(cmpI a.From b.From), (cmpI a.To b.To)]) := f15
  refine go_plain (op_call Try.call38 (evs_cons (v := _) rfl evs_nil) (c_Or (w0 := w139) (v_l := _) (l := [(cmpI a.From b.From), (cmpI a.To b.To)]) (h_l := hs143)) ?_)
  rintro _ w144 ⟨rfl, hcall⟩
  refine ⟨_, rfl, ?_⟩
  exact kD hj140 hcall rfl
 ·rintro ρ145 w146 hj147 ⟨f16, _⟩
  have hst := hj147.2
  exact go_plain (op_assign (iV (orI ([(cmpI a.From b.From), (cmpI a.To b.To)]))) f16 (kS hj147 rfl))
 intro ρ148 w149 hbw149 hst hRw149 hkw149
 have uw149_4 : ρ148 4 = (iV (orI ([(cmpI a.From b.From), (cmpI a.To b.To)]))) := hRw149 12 4 rfl
 refine then_n (cE_ret (post_r _ (res1 (v := (iV (orI ([(cmpI a.From b.From), (cmpI a.To b.To)])))) uw149_4) ?_))
 exact ⟨(retv1 (congrArg iV (show (orI ([(cmpI a.From b.From), (cmpI a.To b.To)])) = (cmpF a b) from by rfl))), hst.bare⟩

set_option maxRecDepth 8000 in
theorem c_span {w0 w : World} {L : List Item} (y : Info) (g_x : Nat) (x0 : Int) (x1 : Int) (x2 : Int) (x3 : Int) (x4 : Int) (hst : St w0 w (.blk g_x 65 #[(iV x0), (iV x1), (iV x2), (iV x3), (.int .u32 x4)] :: L)) :
  Calls Try.prog 37 #[(.agg #[(iV y.Id), (iV y.Tier), (iV y.From), (iV y.To), (.int .u32 y.Sum)]), (.pointer (some ⟨g_x, 0, none⟩))] w fun e w' => e = .returned (.bool (decide (y.From = x2 ∧ y.To = x3))) ∧ St w0 w' (.blk g_x 65 #[(iV x0), (iV x1), (iV x2), (iV x3), (.int .u32 x4)] :: L) := by
 refine calls_E (n := 16) (ts := [3]) Try.func37 rfl rfl rfl (by simp) (cE_seq (cE_region rfl (s_cons (op_box (v := (.agg #[(iV y.Id), (iV y.Tier), (iV y.From), (iV y.To), (.int .u32 y.Sum)])) (cs := #[(iV y.Id), (iV y.Tier), (iV y.From), (iV y.To), (.int .u32 y.Sum)]) hst rfl rfl (fun g150 w151 hst _ => ?_)))))
 refine s_cons (op_assign (.bool false) rfl (s_nil (then_n (cE_seq (cE_region rfl (s_cons (op_fieldAddr (s := 0) Try.underlying65 rfl rfl Try.sizeOf2 rfl (s_cons (op_load1 (u := (iV y.From)) Try.isAgg2 rfl ((hst.cell 0 rfl).drop 2) (s_cons (op_fieldAddr (s := 0) Try.underlying65 rfl rfl Try.sizeOf2 rfl (s_cons (op_load1 (u := (iV x2)) Try.isAgg2 rfl ((hst.cell 1 rfl).drop 2) (s_cons (op_eql (k := .i64) (a := y.From) (b := x2) rfl rfl ?_)))))))))))))))
 refine s_cons (op_move (.bool (decide (y.From = x2))) rfl (s_lz 9 rfl (gA_t rfl) (Rlz (decide (y.From = x2)) (.pointer (some ⟨g150, (0 + 3), none⟩)) w151) ?_ (fun hc152 => rlz_f hc152) ?_))
 ·intro hc152
  refine op_fieldAddr (s := 0) Try.underlying65 rfl rfl Try.sizeOf2 rfl ?_
  exact rlz_t hc152
 rintro _ _ ⟨rfl, rfl⟩
 refine s_lz 9 rfl (gA_t rfl) (Rlz (decide (y.From = x2)) (iV y.To) w151) ?_ (fun hc153 => rlz_f hc153) ?_
 ·intro hc153
  refine op_load1 (u := (iV y.To)) Try.isAgg2 (gt hc153) ((hst.cell 0 rfl).drop 3) ?_
  exact rlz_t hc153
 rintro _ _ ⟨rfl, rfl⟩
 refine s_lz 9 rfl (gA_t rfl) (Rlz (decide (y.From = x2)) (.pointer (some ⟨g_x, (0 + 3), none⟩)) w151) ?_ (fun hc154 => rlz_f hc154) ?_
 ·intro hc154
  refine op_fieldAddr (s := 0) Try.underlying65 rfl rfl Try.sizeOf2 rfl ?_
  exact rlz_t hc154
 rintro _ _ ⟨rfl, rfl⟩
 refine s_lz 9 rfl (gA_t rfl) (Rlz (decide (y.From = x2)) (iV x3) w151) ?_ (fun hc155 => rlz_f hc155) ?_
 ·intro hc155
  refine op_load1 (u := (iV x3)) Try.isAgg2 (gt hc155) ((hst.cell 1 rfl).drop 3) ?_
  exact rlz_t hc155
 rintro _ _ ⟨rfl, rfl⟩
 refine s_lz 9 rfl (gA_t rfl) (Rlz (decide (y.From = x2)) (.bool (decide (y.To = x3))) w151) ?_ (fun hc156 => rlz_f hc156) ?_
 ·intro hc156
  refine op_eql (k := .i64) (a := y.To) (b := x3) (gt hc156) (gt hc156) ?_
  exact rlz_t hc156
 rintro _ _ ⟨rfl, rfl⟩
 obtain ⟨g157, hg158⟩ : ∃ x : Bool, x = ((decide (y.From = x2)) && (decide (y.To = x3))) := ⟨_, rfl⟩
 refine s_cons (op_pick_and rfl rfl (fun hp => hp) rfl (s_cons (op_assign (.bool g157) (congrArg Value.bool hg158.symm) (s_nil (then_n (cE_ret (post_r _ (res1 (v := (.bool g157)) rfl) ?_)))))))
 exact ⟨(retv1 (congrArg Value.bool (show g157 = (decide (y.From = x2 ∧ y.To = x3)) from by (rw [hg158]; rw [Bool.eq_iff_iff]; simp only [Bool.and_eq_true, decide_eq_true_eq])))), hst.sub (.cons _ (.cons_cons _ (List.Sublist.refl _)))⟩

set_option maxRecDepth 8000 in
theorem c_indexP {w0 w : World} {L : List Item} (v_l : Value) (l : List Info) (g_x : Nat) (x0 : Int) (x1 : Int) (x2 : Int) (x3 : Int) (x4 : Int) (hst : St w0 w (rowT 65 infoE v_l l :: .blk g_x 65 #[(iV x0), (iV x1), (iV x2), (iV x3), (.int .u32 x4)] :: L)) :
  Calls Try.prog 36 #[v_l, (.func (.func 37) #[] #[(.pointer (some ⟨g_x, 0, none⟩))])] w fun e w' => e = .returned (iV (idxI (fun (y : Info) => decide (y.From = x2 ∧ y.To = x3)) l)) ∧ St w0 w' (rowT 65 infoE v_l l :: .blk g_x 65 #[(iV x0), (iV x1), (iV x2), (iV x3), (.int .u32 x4)] :: L) := by
 refine calls_E (n := 19) (ts := [4]) Try.func36 rfl rfl rfl (by simp) (cE_seq (cE_region rfl (s_cons (op_assign (iV 0) rfl (s_nil (then_n (cE_seq (cE_seq (cE_region rfl (s_cons (op_move v_l rfl (s_cons (op_len (E := infoE) (xs := l) Try.underlying26 rfl (hst.sl 0 rfl) (s_cons (op_move (iV 0) rfl (s_nil (then_n (cE_block (cE_loop (fun (m : Nat) (ρ : Env) (w : World) => ∃ (i : Nat), m = l.length - i ∧ ρ 0 = v_l ∧ ρ 1 = (.func (.func 37) #[] #[(.pointer (some ⟨g_x, 0, none⟩))]) ∧ ρ 7 = (iV (l.length : Int)) ∧ ρ 8 = (iV (i : Int)) ∧ St w0 w (rowT 65 infoE v_l l :: .blk g_x 65 #[(iV x0), (iV x1), (iV x2), (iV x3), (.int .u32 x4)] :: L) ∧ (i ≤ l.length) ∧ (∀ (j : Nat) (h : j < l.length), j < i → (fun (y : Info) => decide (y.From = x2 ∧ y.To = x3)) (l[j]'h) = false)) id _ ⟨0, rfl, rfl, rfl, rfl, (congrArg iV (show 0 = _ from by omega)), hst, (by omega), (by exact idx_none (p := fun (y : Info) => decide (y.From = x2 ∧ y.To = x3)))⟩ ?_)))))))))))))))))))
 rintro m160 ρ161 w162 ⟨i, hm160, q159_0, q159_1, q159_7, q159_8, hst, hi, hN⟩
 have hlen := (hst.sl 0 rfl).len
 refine cE_seq (cE_region rfl (s_cons (op_lss (k := .i64) (a := (i : Int)) (b := (l.length : Int)) q159_8 q159_7 (s_nil (then_n (cE_seq ?_))))))
 rcases Bool.eq_false_or_eq_true (decide ((i : Int) < (l.length : Int))) with b163 | b163
 ·have c164 := of_decide_eq_true b163
  refine cE_cond true (congrArg Value.bool b163) (fun _ => ?_) (fun h => by cases h)
  refine cE_skip (then_n (cE_seq (cE_block (cE_seq (cE_region rfl (s_cons (op_move (iV (i : Int)) q159_8 (s_cons (op_assign (iV (i : Int)) rfl (s_nil (then_n (cE_seq (cE_region rfl (s_cons (op_move (.func (.func 37) #[] #[(.pointer (some ⟨g_x, 0, none⟩))]) q159_1 (s_cons (op_move v_l q159_0 (s_cons (op_move (iV (i : Int)) rfl (s_cons (op_indexAddrN (E := infoE) (xs := l) i Try.underlying26 Try.sizeOf65 rfl (hst.sl 0 rfl) rfl (by omega) (by omega) (fun a165 o166 p167 => ?_))))))))))))))))))))))
  refine s_cons (op_loadN (cs := [(iV ((l[i]'(by omega)).Id)), (iV ((l[i]'(by omega)).Tier)), (iV ((l[i]'(by omega)).From)), (iV ((l[i]'(by omega)).To)), (.int .u32 ((l[i]'(by omega)).Sum))]) Try.isAgg65 Try.sizeOf65 rfl (Pt.of p167 rfl) rfl ?_)
  replace hst := hst.front 1 rfl
  refine s_cons (op_callv (cs := [(.pointer (some ⟨g_x, 0, none⟩))]) Try.call37 rfl (evs_cons (v := (.agg #[(iV ((l[i]'(by omega)).Id)), (iV ((l[i]'(by omega)).Tier)), (iV ((l[i]'(by omega)).From)), (iV ((l[i]'(by omega)).To)), (.int .u32 ((l[i]'(by omega)).Sum))])) rfl evs_nil) (c_span (y := (l[i]'(by omega))) (g_x := g_x) (x0 := x0) (x1 := x1) (x2 := x2) (x3 := x3) (x4 := x4) (hst := hst)) ?_)
  rintro _ w168 ⟨rfl, hcall⟩
  refine ⟨_, rfl, ?_⟩
  have hst : St w0 w168 (.blk g_x 65 #[(iV x0), (iV x1), (iV x2), (iV x3), (.int .u32 x4)] :: rowT 65 infoE v_l l :: L) := hcall
  refine s_nil (then_n ?_)
  rcases Bool.eq_false_or_eq_true (decide ((l[i]'(by omega)).From = x2 ∧ (l[i]'(by omega)).To = x3)) with b169 | b169
  ·have c170 := of_decide_eq_true b169
   refine cE_cond true (congrArg Value.bool b169) (fun _ => ?_) (fun h => by cases h)
   refine cE_seq (cE_region rfl (s_cons (op_move (iV (i : Int)) rfl (s_cons (op_assign (iV (i : Int)) rfl (s_nil (then_n (cE_ret (block_r (then_r (then_r (block_r (then_r (post_r _ (res1 (v := (iV (i : Int))) rfl) ?_))))))))))))))
   replace hst := hst.front 1 rfl
   exact ⟨(retv1 (congrArg iV (show (i : Int) = (idxI (fun (y : Info) => decide (y.From = x2 ∧ y.To = x3)) l) from by exact (idx_at (p := fun (y : Info) => decide (y.From = x2 ∧ y.To = x3)) hN (by omega) (by assumption)).symm))), hst.sub (.cons_cons _ (.cons_cons _ (List.Sublist.refl _)))⟩
  have c171 := of_decide_eq_false b169
  refine cE_cond false (congrArg Value.bool b169) (fun h => by cases h) (fun _ => ?_)
  refine cE_skip (block_n (then_n (cE_region rfl (s_cons (op_add (k := .i64) (a := (i : Int)) (b := 1) ((i : Int) + 1) q159_8 rfl (xi64 (by omega) (by omega)) (s_cons (op_move (iV ((i : Int) + 1)) rfl (s_nil (then_n ?_)))))))))
  replace hst := hst.front 1 rfl
  exact ⟨_, ⟨(i + 1), rfl, q159_0, q159_1, q159_7, (congrArg iV (show ((i : Int) + 1) = _ from by omega)), hst, (by omega), (by exact idx_next (p := fun (y : Info) => decide (y.From = x2 ∧ y.To = x3)) hN (by omega) (by assumption))⟩, (by simp only [id]; omega)⟩
 have c172 := of_decide_eq_false b163
 refine cE_cond false (congrArg Value.bool b163) (fun h => by cases h) (fun _ => ?_)
 refine cE_exit (then_x (then_x (block_hit (then_n (cE_seq (cE_region rfl (s_cons (op_assign (iV (-1)) rfl (s_nil (then_n (cE_ret (post_r _ (res1 (v := (iV (-1))) rfl) ?_))))))))))))
 exact ⟨(retv1 (congrArg iV (show (-1) = (idxI (fun (y : Info) => decide (y.From = x2 ∧ y.To = x3)) l) from by exact (idx_end (p := fun (y : Info) => decide (y.From = x2 ∧ y.To = x3)) hN (by omega)).symm))), hst.sub (.cons_cons _ (.cons_cons _ (List.Sublist.refl _)))⟩

set_option maxRecDepth 8000 in
theorem c_len64 (w0 : World) (x : Int) (hx0 : 0 ≤ x) (hx1 : x ≤ 12) :
  Calls Try.prog 76 #[(.int .u64 x)] w0 fun e w' => ∃ (r : Int), e = .returned (iV r) ∧ St w0 w' [] := by
 refine calls_E (n := 25) (ts := [2]) Try.func76 rfl rfl rfl (by simp) ?_
 have hst := St.start w0
 refine cE_seq (cE_region rfl (s_cons (op_assign (iV 0) rfl (s_nil (then_n (cE_seq (cE_seq (cE_region rfl (s_cons (op_move (.int .u64 x) rfl (s_cons (op_geq (k := .u64) (a := x) (b := 4294967296) rfl rfl (s_nil (then_n (cE_cond false (congrArg Value.bool (show (decide (4294967296 ≤ x)) = false from (decide_eq_false (by omega)))) (fun h => by cases h) (fun _ => ?_))))))))))))))))
 refine cE_skip (then_n (cE_seq (cE_seq (cE_region rfl (s_cons (op_move (.int .u64 x) rfl (s_cons (op_geq (k := .u64) (a := x) (b := 65536) rfl rfl (s_nil (then_n (cE_cond false (congrArg Value.bool (show (decide (65536 ≤ x)) = false from (decide_eq_false (by omega)))) (fun h => by cases h) (fun _ => ?_))))))))))))
 refine cE_skip (then_n (cE_seq (cE_seq (cE_region rfl (s_cons (op_move (.int .u64 x) rfl (s_cons (op_geq (k := .u64) (a := x) (b := 256) rfl rfl (s_nil (then_n (cE_cond false (congrArg Value.bool (show (decide (256 ≤ x)) = false from (decide_eq_false (by omega)))) (fun h => by cases h) (fun _ => ?_))))))))))))
 refine cE_skip (then_n (cE_seq (cE_region rfl (s_cons (op_move (iV 0) rfl (s_cons (op_move (.int .u64 x) rfl (s_cons (op_conv (k := .u64) (a := x) x Try.underlying5 (by rw [Try.underlying100]; rfl) rfl (xu8 (by omega) (by omega)) (s_cons (op_index_strN (s := [0, 1, 2, 2, 3, 3, 3, 3, 4, 4, 4, 4, 4, 4, 4, 4, 5, 5, 5, 5, 5, 5, 5, 5, 5, 5, 5, 5, 5, 5, 5, 5, 6, 6, 6, 6, 6, 6, 6, 6, 6, 6, 6, 6, 6, 6, 6, 6, 6, 6, 6, 6, 6, 6, 6, 6, 6, 6, 6, 6, 6, 6, 6, 6, 7, 7, 7, 7, 7, 7, 7, 7, 7, 7, 7, 7, 7, 7, 7, 7, 7, 7, 7, 7, 7, 7, 7, 7, 7, 7, 7, 7, 7, 7, 7, 7, 7, 7, 7, 7, 7, 7, 7, 7, 7, 7, 7, 7, 7, 7, 7, 7, 7, 7, 7, 7, 7, 7, 7, 7, 7, 7, 7, 7, 7, 7, 7, 7, 8, 8, 8, 8, 8, 8, 8, 8, 8, 8, 8, 8, 8, 8, 8, 8, 8, 8, 8, 8, 8, 8, 8, 8, 8, 8, 8, 8, 8, 8, 8, 8, 8, 8, 8, 8, 8, 8, 8, 8, 8, 8, 8, 8, 8, 8, 8, 8, 8, 8, 8, 8, 8, 8, 8, 8, 8, 8, 8, 8, 8, 8, 8, 8, 8, 8, 8, 8, 8, 8, 8, 8, 8, 8, 8, 8, 8, 8, 8, 8, 8, 8, 8, 8, 8, 8, 8, 8, 8, 8, 8, 8, 8, 8, 8, 8, 8, 8, 8, 8, 8, 8, 8, 8, 8, 8, 8, 8, 8, 8, 8, 8, 8, 8, 8, 8, 8, 8, 8, 8, 8, 8, 8, 8, 8, 8, 8, 8]) (Int.toNat x) Try.underlying9 rfl rfl (by omega) (by (simp only [List.length_cons, List.length_nil]; omega)) ?_)))))))))))
 have hu173 := u8_lt (([0, 1, 2, 2, 3, 3, 3, 3, 4, 4, 4, 4, 4, 4, 4, 4, 5, 5, 5, 5, 5, 5, 5, 5, 5, 5, 5, 5, 5, 5, 5, 5, 6, 6, 6, 6, 6, 6, 6, 6, 6, 6, 6, 6, 6, 6, 6, 6, 6, 6, 6, 6, 6, 6, 6, 6, 6, 6, 6, 6, 6, 6, 6, 6, 7, 7, 7, 7, 7, 7, 7, 7, 7, 7, 7, 7, 7, 7, 7, 7, 7, 7, 7, 7, 7, 7, 7, 7, 7, 7, 7, 7, 7, 7, 7, 7, 7, 7, 7, 7, 7, 7, 7, 7, 7, 7, 7, 7, 7, 7, 7, 7, 7, 7, 7, 7, 7, 7, 7, 7, 7, 7, 7, 7, 7, 7, 7, 7, 8, 8, 8, 8, 8, 8, 8, 8, 8, 8, 8, 8, 8, 8, 8, 8, 8, 8, 8, 8, 8, 8, 8, 8, 8, 8, 8, 8, 8, 8, 8, 8, 8, 8, 8, 8, 8, 8, 8, 8, 8, 8, 8, 8, 8, 8, 8, 8, 8, 8, 8, 8, 8, 8, 8, 8, 8, 8, 8, 8, 8, 8, 8, 8, 8, 8, 8, 8, 8, 8, 8, 8, 8, 8, 8, 8, 8, 8, 8, 8, 8, 8, 8, 8, 8, 8, 8, 8, 8, 8, 8, 8, 8, 8, 8, 8, 8, 8, 8, 8, 8, 8, 8, 8, 8, 8, 8, 8, 8, 8, 8, 8, 8, 8, 8, 8, 8, 8, 8, 8, 8, 8, 8, 8, 8, 8, 8, 8] : List UInt8)[(Int.toNat x)]'(by (simp only [List.length_cons, List.length_nil]; omega)))
 refine s_cons (op_conv (k := .u8) (a := ((([0, 1, 2, 2, 3, 3, 3, 3, 4, 4, 4, 4, 4, 4, 4, 4, 5, 5, 5, 5, 5, 5, 5, 5, 5, 5, 5, 5, 5, 5, 5, 5, 6, 6, 6, 6, 6, 6, 6, 6, 6, 6, 6, 6, 6, 6, 6, 6, 6, 6, 6, 6, 6, 6, 6, 6, 6, 6, 6, 6, 6, 6, 6, 6, 7, 7, 7, 7, 7, 7, 7, 7, 7, 7, 7, 7, 7, 7, 7, 7, 7, 7, 7, 7, 7, 7, 7, 7, 7, 7, 7, 7, 7, 7, 7, 7, 7, 7, 7, 7, 7, 7, 7, 7, 7, 7, 7, 7, 7, 7, 7, 7, 7, 7, 7, 7, 7, 7, 7, 7, 7, 7, 7, 7, 7, 7, 7, 7, 8, 8, 8, 8, 8, 8, 8, 8, 8, 8, 8, 8, 8, 8, 8, 8, 8, 8, 8, 8, 8, 8, 8, 8, 8, 8, 8, 8, 8, 8, 8, 8, 8, 8, 8, 8, 8, 8, 8, 8, 8, 8, 8, 8, 8, 8, 8, 8, 8, 8, 8, 8, 8, 8, 8, 8, 8, 8, 8, 8, 8, 8, 8, 8, 8, 8, 8, 8, 8, 8, 8, 8, 8, 8, 8, 8, 8, 8, 8, 8, 8, 8, 8, 8, 8, 8, 8, 8, 8, 8, 8, 8, 8, 8, 8, 8, 8, 8, 8, 8, 8, 8, 8, 8, 8, 8, 8, 8, 8, 8, 8, 8, 8, 8, 8, 8, 8, 8, 8, 8, 8, 8, 8, 8, 8, 8, 8, 8] : List UInt8)[(Int.toNat x)]'(by (simp only [List.length_cons, List.length_nil]; omega))).toNat : Int)) ((([0, 1, 2, 2, 3, 3, 3, 3, 4, 4, 4, 4, 4, 4, 4, 4, 5, 5, 5, 5, 5, 5, 5, 5, 5, 5, 5, 5, 5, 5, 5, 5, 6, 6, 6, 6, 6, 6, 6, 6, 6, 6, 6, 6, 6, 6, 6, 6, 6, 6, 6, 6, 6, 6, 6, 6, 6, 6, 6, 6, 6, 6, 6, 6, 7, 7, 7, 7, 7, 7, 7, 7, 7, 7, 7, 7, 7, 7, 7, 7, 7, 7, 7, 7, 7, 7, 7, 7, 7, 7, 7, 7, 7, 7, 7, 7, 7, 7, 7, 7, 7, 7, 7, 7, 7, 7, 7, 7, 7, 7, 7, 7, 7, 7, 7, 7, 7, 7, 7, 7, 7, 7, 7, 7, 7, 7, 7, 7, 8, 8, 8, 8, 8, 8, 8, 8, 8, 8, 8, 8, 8, 8, 8, 8, 8, 8, 8, 8, 8, 8, 8, 8, 8, 8, 8, 8, 8, 8, 8, 8, 8, 8, 8, 8, 8, 8, 8, 8, 8, 8, 8, 8, 8, 8, 8, 8, 8, 8, 8, 8, 8, 8, 8, 8, 8, 8, 8, 8, 8, 8, 8, 8, 8, 8, 8, 8, 8, 8, 8, 8, 8, 8, 8, 8, 8, 8, 8, 8, 8, 8, 8, 8, 8, 8, 8, 8, 8, 8, 8, 8, 8, 8, 8, 8, 8, 8, 8, 8, 8, 8, 8, 8, 8, 8, 8, 8, 8, 8, 8, 8, 8, 8, 8, 8, 8, 8, 8, 8, 8, 8, 8, 8, 8, 8, 8, 8] : List UInt8)[(Int.toNat x)]'(by (simp only [List.length_cons, List.length_nil]; omega))).toNat : Int) Try.underlying3 (by rw [Try.underlying5]; rfl) rfl (xi64 (by omega) (by omega)) ?_)
 refine s_cons (op_add (k := .i64) (a := 0) (b := ((([0, 1, 2, 2, 3, 3, 3, 3, 4, 4, 4, 4, 4, 4, 4, 4, 5, 5, 5, 5, 5, 5, 5, 5, 5, 5, 5, 5, 5, 5, 5, 5, 6, 6, 6, 6, 6, 6, 6, 6, 6, 6, 6, 6, 6, 6, 6, 6, 6, 6, 6, 6, 6, 6, 6, 6, 6, 6, 6, 6, 6, 6, 6, 6, 7, 7, 7, 7, 7, 7, 7, 7, 7, 7, 7, 7, 7, 7, 7, 7, 7, 7, 7, 7, 7, 7, 7, 7, 7, 7, 7, 7, 7, 7, 7, 7, 7, 7, 7, 7, 7, 7, 7, 7, 7, 7, 7, 7, 7, 7, 7, 7, 7, 7, 7, 7, 7, 7, 7, 7, 7, 7, 7, 7, 7, 7, 7, 7, 8, 8, 8, 8, 8, 8, 8, 8, 8, 8, 8, 8, 8, 8, 8, 8, 8, 8, 8, 8, 8, 8, 8, 8, 8, 8, 8, 8, 8, 8, 8, 8, 8, 8, 8, 8, 8, 8, 8, 8, 8, 8, 8, 8, 8, 8, 8, 8, 8, 8, 8, 8, 8, 8, 8, 8, 8, 8, 8, 8, 8, 8, 8, 8, 8, 8, 8, 8, 8, 8, 8, 8, 8, 8, 8, 8, 8, 8, 8, 8, 8, 8, 8, 8, 8, 8, 8, 8, 8, 8, 8, 8, 8, 8, 8, 8, 8, 8, 8, 8, 8, 8, 8, 8, 8, 8, 8, 8, 8, 8, 8, 8, 8, 8, 8, 8, 8, 8, 8, 8, 8, 8, 8, 8, 8, 8, 8, 8] : List UInt8)[(Int.toNat x)]'(by (simp only [List.length_cons, List.length_nil]; omega))).toNat : Int)) (0 + ((([0, 1, 2, 2, 3, 3, 3, 3, 4, 4, 4, 4, 4, 4, 4, 4, 5, 5, 5, 5, 5, 5, 5, 5, 5, 5, 5, 5, 5, 5, 5, 5, 6, 6, 6, 6, 6, 6, 6, 6, 6, 6, 6, 6, 6, 6, 6, 6, 6, 6, 6, 6, 6, 6, 6, 6, 6, 6, 6, 6, 6, 6, 6, 6, 7, 7, 7, 7, 7, 7, 7, 7, 7, 7, 7, 7, 7, 7, 7, 7, 7, 7, 7, 7, 7, 7, 7, 7, 7, 7, 7, 7, 7, 7, 7, 7, 7, 7, 7, 7, 7, 7, 7, 7, 7, 7, 7, 7, 7, 7, 7, 7, 7, 7, 7, 7, 7, 7, 7, 7, 7, 7, 7, 7, 7, 7, 7, 7, 8, 8, 8, 8, 8, 8, 8, 8, 8, 8, 8, 8, 8, 8, 8, 8, 8, 8, 8, 8, 8, 8, 8, 8, 8, 8, 8, 8, 8, 8, 8, 8, 8, 8, 8, 8, 8, 8, 8, 8, 8, 8, 8, 8, 8, 8, 8, 8, 8, 8, 8, 8, 8, 8, 8, 8, 8, 8, 8, 8, 8, 8, 8, 8, 8, 8, 8, 8, 8, 8, 8, 8, 8, 8, 8, 8, 8, 8, 8, 8, 8, 8, 8, 8, 8, 8, 8, 8, 8, 8, 8, 8, 8, 8, 8, 8, 8, 8, 8, 8, 8, 8, 8, 8, 8, 8, 8, 8, 8, 8, 8, 8, 8, 8, 8, 8, 8, 8, 8, 8, 8, 8, 8, 8, 8, 8, 8, 8] : List UInt8)[(Int.toNat x)]'(by (simp only [List.length_cons, List.length_nil]; omega))).toNat : Int)) rfl rfl (xi64 (by omega) (by omega)) ?_)
 refine s_cons (op_assign (iV (0 + ((([0, 1, 2, 2, 3, 3, 3, 3, 4, 4, 4, 4, 4, 4, 4, 4, 5, 5, 5, 5, 5, 5, 5, 5, 5, 5, 5, 5, 5, 5, 5, 5, 6, 6, 6, 6, 6, 6, 6, 6, 6, 6, 6, 6, 6, 6, 6, 6, 6, 6, 6, 6, 6, 6, 6, 6, 6, 6, 6, 6, 6, 6, 6, 6, 7, 7, 7, 7, 7, 7, 7, 7, 7, 7, 7, 7, 7, 7, 7, 7, 7, 7, 7, 7, 7, 7, 7, 7, 7, 7, 7, 7, 7, 7, 7, 7, 7, 7, 7, 7, 7, 7, 7, 7, 7, 7, 7, 7, 7, 7, 7, 7, 7, 7, 7, 7, 7, 7, 7, 7, 7, 7, 7, 7, 7, 7, 7, 7, 8, 8, 8, 8, 8, 8, 8, 8, 8, 8, 8, 8, 8, 8, 8, 8, 8, 8, 8, 8, 8, 8, 8, 8, 8, 8, 8, 8, 8, 8, 8, 8, 8, 8, 8, 8, 8, 8, 8, 8, 8, 8, 8, 8, 8, 8, 8, 8, 8, 8, 8, 8, 8, 8, 8, 8, 8, 8, 8, 8, 8, 8, 8, 8, 8, 8, 8, 8, 8, 8, 8, 8, 8, 8, 8, 8, 8, 8, 8, 8, 8, 8, 8, 8, 8, 8, 8, 8, 8, 8, 8, 8, 8, 8, 8, 8, 8, 8, 8, 8, 8, 8, 8, 8, 8, 8, 8, 8, 8, 8, 8, 8, 8, 8, 8, 8, 8, 8, 8, 8, 8, 8, 8, 8, 8, 8, 8, 8] : List UInt8)[(Int.toNat x)]'(by (simp only [List.length_cons, List.length_nil]; omega))).toNat : Int))) rfl ?_)
 refine s_nil (then_n (cE_ret (post_r _ (res1 (v := (iV (0 + ((([0, 1, 2, 2, 3, 3, 3, 3, 4, 4, 4, 4, 4, 4, 4, 4, 5, 5, 5, 5, 5, 5, 5, 5, 5, 5, 5, 5, 5, 5, 5, 5, 6, 6, 6, 6, 6, 6, 6, 6, 6, 6, 6, 6, 6, 6, 6, 6, 6, 6, 6, 6, 6, 6, 6, 6, 6, 6, 6, 6, 6, 6, 6, 6, 7, 7, 7, 7, 7, 7, 7, 7, 7, 7, 7, 7, 7, 7, 7, 7, 7, 7, 7, 7, 7, 7, 7, 7, 7, 7, 7, 7, 7, 7, 7, 7, 7, 7, 7, 7, 7, 7, 7, 7, 7, 7, 7, 7, 7, 7, 7, 7, 7, 7, 7, 7, 7, 7, 7, 7, 7, 7, 7, 7, 7, 7, 7, 7, 8, 8, 8, 8, 8, 8, 8, 8, 8, 8, 8, 8, 8, 8, 8, 8, 8, 8, 8, 8, 8, 8, 8, 8, 8, 8, 8, 8, 8, 8, 8, 8, 8, 8, 8, 8, 8, 8, 8, 8, 8, 8, 8, 8, 8, 8, 8, 8, 8, 8, 8, 8, 8, 8, 8, 8, 8, 8, 8, 8, 8, 8, 8, 8, 8, 8, 8, 8, 8, 8, 8, 8, 8, 8, 8, 8, 8, 8, 8, 8, 8, 8, 8, 8, 8, 8, 8, 8, 8, 8, 8, 8, 8, 8, 8, 8, 8, 8, 8, 8, 8, 8, 8, 8, 8, 8, 8, 8, 8, 8, 8, 8, 8, 8, 8, 8, 8, 8, 8, 8, 8, 8, 8, 8, 8, 8, 8, 8] : List UInt8)[(Int.toNat x)]'(by (simp only [List.length_cons, List.length_nil]; omega))).toNat : Int)))) rfl) ?_)))
 exact ⟨(0 + ((([0, 1, 2, 2, 3, 3, 3, 3, 4, 4, 4, 4, 4, 4, 4, 4, 5, 5, 5, 5, 5, 5, 5, 5, 5, 5, 5, 5, 5, 5, 5, 5, 6, 6, 6, 6, 6, 6, 6, 6, 6, 6, 6, 6, 6, 6, 6, 6, 6, 6, 6, 6, 6, 6, 6, 6, 6, 6, 6, 6, 6, 6, 6, 6, 7, 7, 7, 7, 7, 7, 7, 7, 7, 7, 7, 7, 7, 7, 7, 7, 7, 7, 7, 7, 7, 7, 7, 7, 7, 7, 7, 7, 7, 7, 7, 7, 7, 7, 7, 7, 7, 7, 7, 7, 7, 7, 7, 7, 7, 7, 7, 7, 7, 7, 7, 7, 7, 7, 7, 7, 7, 7, 7, 7, 7, 7, 7, 7, 8, 8, 8, 8, 8, 8, 8, 8, 8, 8, 8, 8, 8, 8, 8, 8, 8, 8, 8, 8, 8, 8, 8, 8, 8, 8, 8, 8, 8, 8, 8, 8, 8, 8, 8, 8, 8, 8, 8, 8, 8, 8, 8, 8, 8, 8, 8, 8, 8, 8, 8, 8, 8, 8, 8, 8, 8, 8, 8, 8, 8, 8, 8, 8, 8, 8, 8, 8, 8, 8, 8, 8, 8, 8, 8, 8, 8, 8, 8, 8, 8, 8, 8, 8, 8, 8, 8, 8, 8, 8, 8, 8, 8, 8, 8, 8, 8, 8, 8, 8, 8, 8, 8, 8, 8, 8, 8, 8, 8, 8, 8, 8, 8, 8, 8, 8, 8, 8, 8, 8, 8, 8, 8, 8, 8, 8, 8, 8] : List UInt8)[(Int.toNat x)]'(by (simp only [List.length_cons, List.length_nil]; omega))).toNat : Int)), rfl, hst.bare⟩

set_option maxRecDepth 8000 in
theorem c_len (w0 : World) (x : Int) (hx0 : 0 ≤ x) (hx1 : x ≤ 12) :
  Calls Try.prog 60 #[(.int .u64 x)] w0 fun e w' => ∃ (r : Int), e = .returned (iV r) ∧ St w0 w' [] := by
 refine calls_E (n := 8) (ts := [2]) Try.func60 rfl rfl rfl (by simp) ?_
 have hst := St.start w0
 refine cE_seq (cE_region rfl (s_cons (op_assign (iV 0) rfl (s_nil (then_n (cE_seq (cE_cond false rfl (fun h => by cases h) (fun _ => ?_))))))))
 refine cE_skip (then_n (cE_seq (cE_region rfl (s_cons (op_move (.int .u64 x) rfl (s_cons (op_call Try.call76 (evs_cons (v := (.int .u64 x)) rfl evs_nil) (c_len64 (w0 := w0) (x := x) (hx0 := (by omega)) (hx1 := (by omega))) ?_)))))))
 rintro _ w175 ⟨r174, rfl, hcall⟩
 refine ⟨_, rfl, ?_⟩
 have hst := hst.call hcall
 refine s_cons (op_assign (iV r174) rfl (s_nil (then_n (cE_ret (post_r _ (res1 (v := (iV r174)) rfl) ?_)))))
 exact ⟨r174, rfl, hst.bare⟩

end Go.Proofs.Ythanfecefjfbjaa
