/- api.Sample], api.Agg], segment.Same, twinkeepref5.SameSeg -/
import Derived.Test.YtgibfidebdgffaaDoorXLB
import Derived.Test.YtgibfidebdgffaaDoorXW37
namespace Go.Proofs.YtgibfidebdgffaaDoor
open Go.RowKit

set_option maxRecDepth 8000 in
theorem c_eqS (w0 : World) (v_a : Value) (a : List Sample) (h_a : Sl w0 sampE v_a a) (v_b : Value) (b : List Sample) (h_b : Sl w0 sampE v_b b) :
  Calls Tryd.prog 32 #[v_a, v_b] w0 fun e w' => e = .returned (.bool (decide (a = b))) ∧ St w0 w' [] := by
 refine calls_E (n := 26) (ts := [4]) Tryd.func32 rfl rfl rfl (by simp) ?_
 have hst := St.start w0
 refine cE_seq (cE_region rfl (s_cons (op_assign (.bool false) rfl (s_nil (then_n (cE_seq (cE_seq (cE_region rfl (s_cons (op_move v_a rfl (s_cons (op_len (E := sampE) (xs := a) Tryd.underlying23 rfl h_a (s_cons (op_move v_b rfl (s_cons (op_len (E := sampE) (xs := b) Tryd.underlying23 rfl h_b (s_cons (op_neq (k := .i64) (a := (a.length : Int)) (b := (b.length : Int)) rfl rfl (s_nil ?_)))))))))))))))))))
 refine then_n ?_
 rcases Bool.eq_false_or_eq_true (decide ((a.length : Int) = (b.length : Int))) with b1 | b1
 ·have c2 : (a.length : Int) = (b.length : Int) := of_decide_eq_true b1
  refine cE_cond false (congrArg Value.bool (congrArg (! ·) b1)) (fun h => by cases h) (fun _ => ?_)
  refine cE_skip (then_n (cE_seq (cE_seq (cE_region rfl (s_cons (op_move v_a rfl (s_cons (op_len (E := sampE) (xs := a) Tryd.underlying23 rfl h_a (s_cons (op_move (iV 0) rfl (s_nil (then_n (cE_block (cE_loop (fun (m : Nat) (ρ : Env) (w : World) => ∃ (i : Nat), m = a.length - i ∧ ρ 0 = v_a ∧ ρ 1 = v_b ∧ ρ 12 = (iV (a.length : Int)) ∧ ρ 13 = (iV (i : Int)) ∧ St w0 w [] ∧ (i ≤ a.length) ∧ (a.take i = b.take i)) id _ ⟨0, rfl, rfl, rfl, rfl, (congrArg iV (show 0 = _ from by omega)), hst, (by omega), (by first | rfl | exact same_step he (by omega) (by omega) (by assumption))⟩ ?_))))))))))))))
  rintro m4 ρ5 w6 ⟨i, hm4, q3_0, q3_1, q3_12, q3_13, hst, hi, he⟩
  have hlen := h_a.len
  refine cE_seq (cE_region rfl (s_cons (op_lss (k := .i64) (a := (i : Int)) (b := (a.length : Int)) q3_13 q3_12 (s_nil (then_n (cE_seq ?_))))))
  rcases Bool.eq_false_or_eq_true (decide ((i : Int) < (a.length : Int))) with b7 | b7
  ·have c8 : (i : Int) < (a.length : Int) := of_decide_eq_true b7
   refine cE_cond true (congrArg Value.bool b7) (fun _ => ?_) (fun h => by cases h)
   refine cE_skip (then_n (cE_seq (cE_block (cE_seq (cE_region rfl (s_cons (op_move (iV (i : Int)) q3_13 (s_cons (op_assign (iV (i : Int)) rfl (s_nil (then_n (cE_seq (cE_regionL hst [[(0, none)], [(5, none)], [(16, some 0), (17, some 1)], [(18, some 2)], [(1, none)], [(5, none)], [(20, some 4), (21, some 5)], [(22, some 6)], [(19, some 3), (23, some 7)]] [(rEq v_a), (rEq (iV (i : Int))), (rPt [(iV ((a[i]'(by omega)).T)), (iV ((a[i]'(by omega)).V))]), (rEq (.agg #[(iV ((a[i]'(by omega)).T)), (iV ((a[i]'(by omega)).V))])), (rEq v_b), (rEq (iV (i : Int))), (rPt [(iV ((b[i]'(by omega)).T)), (iV ((b[i]'(by omega)).V))]), (rEq (.agg #[(iV ((b[i]'(by omega)).T)), (iV ((b[i]'(by omega)).V))])), (rEq (.bool (!decide ((a[i]'(by omega)) = (b[i]'(by omega))))))] (by kernel_rfl) rfl (by kernel_rfl) ⟨sEq, sEq, sPt, sEq, sEq, sEq, sPt, sEq, sEq, trivial⟩ ⟨?_, ?_, ?_, ?_, ?_, ?_, ?_, ?_, ?_, trivial⟩ ?_)))))))))))))
   ·rintro ρ15 w16 hj17 ⟨f0, _⟩
    have hst := hj17.2
    exact go_plain (op_move v_a (f0.trans q3_0) (kS hj17 rfl))
   ·rintro ρ18 w19 hj20 ⟨f5, _⟩
    have hst := hj20.2
    exact go_plain (op_move (iV (i : Int)) (f5.trans rfl) (kS hj20 rfl))
   ·rintro ρ21 w22 hj23 ⟨f16, f17, _⟩
    have hst := hj23.2
    refine go_plain (op_indexAddrN (E := sampE) (xs := a) i Tryd.underlying23 Tryd.sizeOf28 f16 h_a f17 (by omega) (by omega) (fun a24 o25 p26 => ?_))
    exact kS hj23 ⟨_, _, rfl, (p26.below hst.below)⟩
   ·rintro ρ27 w28 hj29 ⟨f18, _⟩
    have hst := hj29.2
    obtain ⟨a30, o31, e32, p33⟩ := f18
    exact go_plain (op_loadN (cs := [(iV ((a[i]'(by omega)).T)), (iV ((a[i]'(by omega)).V))]) Tryd.isAgg28 Tryd.sizeOf28 e32 (Pt.of p33 rfl) rfl (kS hj29 rfl))
   ·rintro ρ34 w35 hj36 ⟨f1, _⟩
    have hst := hj36.2
    exact go_plain (op_move v_b (f1.trans q3_1) (kS hj36 rfl))
   ·rintro ρ37 w38 hj39 ⟨f5, _⟩
    have hst := hj39.2
    exact go_plain (op_move (iV (i : Int)) (f5.trans rfl) (kS hj39 rfl))
   ·rintro ρ40 w41 hj42 ⟨f20, f21, _⟩
    have hst := hj42.2
    refine go_plain (op_indexAddrN (E := sampE) (xs := b) i Tryd.underlying23 Tryd.sizeOf28 f20 h_b f21 (by omega) (by omega) (fun a43 o44 p45 => ?_))
    exact kS hj42 ⟨_, _, rfl, (p45.below hst.below)⟩
   ·rintro ρ46 w47 hj48 ⟨f22, _⟩
    have hst := hj48.2
    obtain ⟨a49, o50, e51, p52⟩ := f22
    exact go_plain (op_loadN (cs := [(iV ((b[i]'(by omega)).T)), (iV ((b[i]'(by omega)).V))]) Tryd.isAgg28 Tryd.sizeOf28 e51 (Pt.of p52 rfl) rfl (kS hj48 rfl))
   ·rintro ρ53 w54 hj55 ⟨f19, f23, _⟩
    have hst := hj55.2
    exact go_plain (op_neqG Tryd.eqGuardType28 (Tryd.eqSample (a[i]'(by omega)) (b[i]'(by omega)) _) f19 f23 (kS hj55 rfl))
   intro ρ56 w57 hbw57 hst hRw57 hkw57
   have uw57_0 : ρ56 0 = v_a := (hkw57 0 rfl).trans q3_0
   have uw57_1 : ρ56 1 = v_b := (hkw57 1 rfl).trans q3_1
   have uw57_12 : ρ56 12 = (iV (a.length : Int)) := (hkw57 12 rfl).trans q3_12
   have uw57_13 : ρ56 13 = (iV (i : Int)) := (hkw57 13 rfl).trans q3_13
   have uw57_14 : ρ56 14 = (.bool (decide ((i : Int) < (a.length : Int)))) := (hkw57 14 rfl).trans rfl
   have uw57_15 : ρ56 15 = (iV (i : Int)) := (hkw57 15 rfl).trans rfl
   have uw57_24 : ρ56 24 = (.bool (!decide ((a[i]'(by omega)) = (b[i]'(by omega))))) := hRw57 8 24 rfl
   refine then_n ?_
   rcases Bool.eq_false_or_eq_true (decide ((a[i]'(by omega)) = (b[i]'(by omega)))) with b58 | b58
   ·have c59 : (a[i]'(by omega)) = (b[i]'(by omega)) := of_decide_eq_true b58
    refine cE_cond false (uw57_24.trans (congrArg Value.bool (congrArg (! ·) b58))) (fun h => by cases h) (fun _ => ?_)
    refine cE_skip (block_n (then_n (cE_region rfl (s_cons (op_add (k := .i64) (a := (i : Int)) (b := 1) ((i : Int) + 1) uw57_13 rfl (xi64 (by omega) (by omega)) (s_cons (op_move (iV ((i : Int) + 1)) rfl (s_nil (then_n ?_)))))))))
    exact ⟨_, ⟨(i + 1), rfl, uw57_0, uw57_1, uw57_12, (congrArg iV (show ((i : Int) + 1) = _ from by omega)), hst, (by omega), (by first | rfl | exact same_step he (by omega) (by omega) (by assumption))⟩, (by simp only [id]; omega)⟩
   have c60 : ¬ ((a[i]'(by omega)) = (b[i]'(by omega))) := of_decide_eq_false b58
   refine cE_cond true (uw57_24.trans (congrArg Value.bool (congrArg (! ·) b58))) (fun _ => ?_) (fun h => by cases h)
   refine cE_seq (cE_region rfl (s_cons (op_assign (.bool false) rfl (s_nil (then_n (cE_ret (block_r (then_r (then_r (block_r (then_r (post_r _ (res1 (v := (.bool false)) rfl) ?_))))))))))))
   exact ⟨(retv1 (congrArg Value.bool (show false = (decide (a = b)) from by first | exact same_len (by assumption) | exact same_no (i := i) (by omega) (by omega) (by assumption) | exact same_end (i := i) (by omega) (by omega) he))), hst.bare⟩
  have c61 : ¬ ((i : Int) < (a.length : Int)) := of_decide_eq_false b7
  refine cE_cond false (congrArg Value.bool b7) (fun h => by cases h) (fun _ => ?_)
  refine cE_exit (then_x (then_x (block_hit (then_n (cE_seq (cE_region rfl (s_cons (op_assign (.bool true) rfl (s_nil (then_n (cE_ret (post_r _ (res1 (v := (.bool true)) rfl) ?_))))))))))))
  exact ⟨(retv1 (congrArg Value.bool (show true = (decide (a = b)) from by first | exact same_len (by assumption) | exact same_no (i := i) (by omega) (by omega) (by assumption) | exact same_end (i := i) (by omega) (by omega) he))), hst.bare⟩
 have c62 : ¬ ((a.length : Int) = (b.length : Int)) := of_decide_eq_false b1
 refine cE_cond true (congrArg Value.bool (congrArg (! ·) b1)) (fun _ => ?_) (fun h => by cases h)
 refine cE_seq (cE_region rfl (s_cons (op_assign (.bool false) rfl (s_nil (then_n (cE_ret (then_r (post_r _ (res1 (v := (.bool false)) rfl) ?_))))))))
 exact ⟨(retv1 (congrArg Value.bool (show false = (decide (a = b)) from by first | exact same_len (by assumption) | exact same_no (i := i) (by omega) (by omega) (by assumption) | exact same_end (i := i) (by omega) (by omega) he))), hst.bare⟩

set_option maxRecDepth 8000 in
theorem c_eqA (w0 : World) (v_a : Value) (a : List Agg) (h_a : Sl w0 aggE v_a a) (v_b : Value) (b : List Agg) (h_b : Sl w0 aggE v_b b) :
  Calls Tryd.prog 33 #[v_a, v_b] w0 fun e w' => e = .returned (.bool (decide (a = b))) ∧ St w0 w' [] := by
 refine calls_E (n := 26) (ts := [4]) Tryd.func33 rfl rfl rfl (by simp) ?_
 have hst := St.start w0
 refine cE_seq (cE_region rfl (s_cons (op_assign (.bool false) rfl (s_nil (then_n (cE_seq (cE_seq (cE_region rfl (s_cons (op_move v_a rfl (s_cons (op_len (E := aggE) (xs := a) Tryd.underlying24 rfl h_a (s_cons (op_move v_b rfl (s_cons (op_len (E := aggE) (xs := b) Tryd.underlying24 rfl h_b (s_cons (op_neq (k := .i64) (a := (a.length : Int)) (b := (b.length : Int)) rfl rfl (s_nil ?_)))))))))))))))))))
 refine then_n ?_
 rcases Bool.eq_false_or_eq_true (decide ((a.length : Int) = (b.length : Int))) with b63 | b63
 ·have c64 : (a.length : Int) = (b.length : Int) := of_decide_eq_true b63
  refine cE_cond false (congrArg Value.bool (congrArg (! ·) b63)) (fun h => by cases h) (fun _ => ?_)
  refine cE_skip (then_n (cE_seq (cE_seq (cE_region rfl (s_cons (op_move v_a rfl (s_cons (op_len (E := aggE) (xs := a) Tryd.underlying24 rfl h_a (s_cons (op_move (iV 0) rfl (s_nil (then_n (cE_block (cE_loop (fun (m : Nat) (ρ : Env) (w : World) => ∃ (i : Nat), m = a.length - i ∧ ρ 0 = v_a ∧ ρ 1 = v_b ∧ ρ 12 = (iV (a.length : Int)) ∧ ρ 13 = (iV (i : Int)) ∧ St w0 w [] ∧ (i ≤ a.length) ∧ (a.take i = b.take i)) id _ ⟨0, rfl, rfl, rfl, rfl, (congrArg iV (show 0 = _ from by omega)), hst, (by omega), (by first | rfl | exact same_step he (by omega) (by omega) (by assumption))⟩ ?_))))))))))))))
  rintro m66 ρ67 w68 ⟨i, hm66, q65_0, q65_1, q65_12, q65_13, hst, hi, he⟩
  have hlen := h_a.len
  refine cE_seq (cE_region rfl (s_cons (op_lss (k := .i64) (a := (i : Int)) (b := (a.length : Int)) q65_13 q65_12 (s_nil (then_n (cE_seq ?_))))))
  rcases Bool.eq_false_or_eq_true (decide ((i : Int) < (a.length : Int))) with b69 | b69
  ·have c70 : (i : Int) < (a.length : Int) := of_decide_eq_true b69
   refine cE_cond true (congrArg Value.bool b69) (fun _ => ?_) (fun h => by cases h)
   refine cE_skip (then_n (cE_seq (cE_block (cE_seq (cE_region rfl (s_cons (op_move (iV (i : Int)) q65_13 (s_cons (op_assign (iV (i : Int)) rfl (s_nil (then_n (cE_seq (cE_regionL hst [[(0, none)], [(5, none)], [(16, some 0), (17, some 1)], [(18, some 2)], [(1, none)], [(5, none)], [(20, some 4), (21, some 5)], [(22, some 6)], [(19, some 3), (23, some 7)]] [(rEq v_a), (rEq (iV (i : Int))), (rPt (aggC (a[i]'(by omega)))), (rEq (.agg (aggA (a[i]'(by omega))))), (rEq v_b), (rEq (iV (i : Int))), (rPt (aggC (b[i]'(by omega)))), (rEq (.agg (aggA (b[i]'(by omega))))), (rEq (.bool (!decide ((a[i]'(by omega)) = (b[i]'(by omega))))))] (by kernel_rfl) rfl (by kernel_rfl) ⟨sEq, sEq, sPt, sEq, sEq, sEq, sPt, sEq, sEq, trivial⟩ ⟨?_, ?_, ?_, ?_, ?_, ?_, ?_, ?_, ?_, trivial⟩ ?_)))))))))))))
   ·rintro ρ77 w78 hj79 ⟨f0, _⟩
    have hst := hj79.2
    exact go_plain (op_move v_a (f0.trans q65_0) (kS hj79 rfl))
   ·rintro ρ80 w81 hj82 ⟨f5, _⟩
    have hst := hj82.2
    exact go_plain (op_move (iV (i : Int)) (f5.trans rfl) (kS hj82 rfl))
   ·rintro ρ83 w84 hj85 ⟨f16, f17, _⟩
    have hst := hj85.2
    refine go_plain (op_indexAddrN (E := aggE) (xs := a) i Tryd.underlying24 Tryd.sizeOf45 f16 h_a f17 (by omega) (by omega) (fun a86 o87 p88 => ?_))
    exact kS hj85 ⟨_, _, rfl, (p88.below hst.below)⟩
   ·rintro ρ89 w90 hj91 ⟨f18, _⟩
    have hst := hj91.2
    obtain ⟨a92, o93, e94, p95⟩ := f18
    exact go_plain (op_loadN (cs := (aggC (a[i]'(by omega)))) Tryd.isAgg45 Tryd.sizeOf45 e94 (Pt.of p95 rfl) rfl (kS hj91 rfl))
   ·rintro ρ96 w97 hj98 ⟨f1, _⟩
    have hst := hj98.2
    exact go_plain (op_move v_b (f1.trans q65_1) (kS hj98 rfl))
   ·rintro ρ99 w100 hj101 ⟨f5, _⟩
    have hst := hj101.2
    exact go_plain (op_move (iV (i : Int)) (f5.trans rfl) (kS hj101 rfl))
   ·rintro ρ102 w103 hj104 ⟨f20, f21, _⟩
    have hst := hj104.2
    refine go_plain (op_indexAddrN (E := aggE) (xs := b) i Tryd.underlying24 Tryd.sizeOf45 f20 h_b f21 (by omega) (by omega) (fun a105 o106 p107 => ?_))
    exact kS hj104 ⟨_, _, rfl, (p107.below hst.below)⟩
   ·rintro ρ108 w109 hj110 ⟨f22, _⟩
    have hst := hj110.2
    obtain ⟨a111, o112, e113, p114⟩ := f22
    exact go_plain (op_loadN (cs := (aggC (b[i]'(by omega)))) Tryd.isAgg45 Tryd.sizeOf45 e113 (Pt.of p114 rfl) rfl (kS hj110 rfl))
   ·rintro ρ115 w116 hj117 ⟨f19, f23, _⟩
    have hst := hj117.2
    exact go_plain (op_neqG Tryd.eqGuardType45 (Tryd.eqAgg (a[i]'(by omega)) (b[i]'(by omega)) _) f19 f23 (kS hj117 rfl))
   intro ρ118 w119 hbw119 hst hRw119 hkw119
   have uw119_0 : ρ118 0 = v_a := (hkw119 0 rfl).trans q65_0
   have uw119_1 : ρ118 1 = v_b := (hkw119 1 rfl).trans q65_1
   have uw119_12 : ρ118 12 = (iV (a.length : Int)) := (hkw119 12 rfl).trans q65_12
   have uw119_13 : ρ118 13 = (iV (i : Int)) := (hkw119 13 rfl).trans q65_13
   have uw119_14 : ρ118 14 = (.bool (decide ((i : Int) < (a.length : Int)))) := (hkw119 14 rfl).trans rfl
   have uw119_15 : ρ118 15 = (iV (i : Int)) := (hkw119 15 rfl).trans rfl
   have uw119_24 : ρ118 24 = (.bool (!decide ((a[i]'(by omega)) = (b[i]'(by omega))))) := hRw119 8 24 rfl
   refine then_n ?_
   rcases Bool.eq_false_or_eq_true (decide ((a[i]'(by omega)) = (b[i]'(by omega)))) with b120 | b120
   ·have c121 : (a[i]'(by omega)) = (b[i]'(by omega)) := of_decide_eq_true b120
    refine cE_cond false (uw119_24.trans (congrArg Value.bool (congrArg (! ·) b120))) (fun h => by cases h) (fun _ => ?_)
    refine cE_skip (block_n (then_n (cE_region rfl (s_cons (op_add (k := .i64) (a := (i : Int)) (b := 1) ((i : Int) + 1) uw119_13 rfl (xi64 (by omega) (by omega)) (s_cons (op_move (iV ((i : Int) + 1)) rfl (s_nil (then_n ?_)))))))))
    exact ⟨_, ⟨(i + 1), rfl, uw119_0, uw119_1, uw119_12, (congrArg iV (show ((i : Int) + 1) = _ from by omega)), hst, (by omega), (by first | rfl | exact same_step he (by omega) (by omega) (by assumption))⟩, (by simp only [id]; omega)⟩
   have c122 : ¬ ((a[i]'(by omega)) = (b[i]'(by omega))) := of_decide_eq_false b120
   refine cE_cond true (uw119_24.trans (congrArg Value.bool (congrArg (! ·) b120))) (fun _ => ?_) (fun h => by cases h)
   refine cE_seq (cE_region rfl (s_cons (op_assign (.bool false) rfl (s_nil (then_n (cE_ret (block_r (then_r (then_r (block_r (then_r (post_r _ (res1 (v := (.bool false)) rfl) ?_))))))))))))
   exact ⟨(retv1 (congrArg Value.bool (show false = (decide (a = b)) from by first | exact same_len (by assumption) | exact same_no (i := i) (by omega) (by omega) (by assumption) | exact same_end (i := i) (by omega) (by omega) he))), hst.bare⟩
  have c123 : ¬ ((i : Int) < (a.length : Int)) := of_decide_eq_false b69
  refine cE_cond false (congrArg Value.bool b69) (fun h => by cases h) (fun _ => ?_)
  refine cE_exit (then_x (then_x (block_hit (then_n (cE_seq (cE_region rfl (s_cons (op_assign (.bool true) rfl (s_nil (then_n (cE_ret (post_r _ (res1 (v := (.bool true)) rfl) ?_))))))))))))
  exact ⟨(retv1 (congrArg Value.bool (show true = (decide (a = b)) from by first | exact same_len (by assumption) | exact same_no (i := i) (by omega) (by omega) (by assumption) | exact same_end (i := i) (by omega) (by omega) he))), hst.bare⟩
 have c124 : ¬ ((a.length : Int) = (b.length : Int)) := of_decide_eq_false b63
 refine cE_cond true (congrArg Value.bool (congrArg (! ·) b63)) (fun _ => ?_) (fun h => by cases h)
 refine cE_seq (cE_region rfl (s_cons (op_assign (.bool false) rfl (s_nil (then_n (cE_ret (then_r (post_r _ (res1 (v := (.bool false)) rfl) ?_))))))))
 exact ⟨(retv1 (congrArg Value.bool (show false = (decide (a = b)) from by first | exact same_len (by assumption) | exact same_no (i := i) (by omega) (by omega) (by assumption) | exact same_end (i := i) (by omega) (by omega) he))), hst.bare⟩

set_option maxRecDepth 8000 in
theorem c_Same (w0 : World) (s : Seg) (h_s : SegIn w0 s) (u : Seg) (h_u : SegIn w0 u) :
  Calls Tryd.prog 13 #[(.agg #[(iV s.d.Id), (iV s.d.Tier), (iV s.d.From), (iV s.d.To), s.sv.1, s.av.1]), (.agg #[(iV u.d.Id), (iV u.d.Tier), (iV u.d.From), (iV u.d.To), u.sv.1, u.av.1])] w0 fun e w' => e = .returned (.bool (decide (s.d = u.d))) ∧ St w0 w' [] := by
 refine calls_E (n := 45) (ts := [4]) Tryd.func13 rfl rfl rfl (by simp) ?_
 have hst := St.start w0
 refine cE_seq (cE_region rfl (s_cons (op_box (v := (.agg #[(iV s.d.Id), (iV s.d.Tier), (iV s.d.From), (iV s.d.To), s.sv.1, s.av.1])) (cs := #[(iV s.d.Id), (iV s.d.Tier), (iV s.d.From), (iV s.d.To), s.sv.1, s.av.1]) hst rfl rfl (fun g125 w126 hst _ => ?_))))
 replace hst : St w0 w126 [.blk g125 26 #[(iV s.d.Id), (iV s.d.Tier), (iV s.d.From), (iV s.d.To), s.sv.1, s.av.1]] := hst
 refine s_cons (op_box (v := (.agg #[(iV u.d.Id), (iV u.d.Tier), (iV u.d.From), (iV u.d.To), u.sv.1, u.av.1])) (cs := #[(iV u.d.Id), (iV u.d.Tier), (iV u.d.From), (iV u.d.To), u.sv.1, u.av.1]) hst rfl rfl (fun g127 w128 hst _ => ?_))
 replace hst : St w0 w128 [.blk g127 26 #[(iV u.d.Id), (iV u.d.Tier), (iV u.d.From), (iV u.d.To), u.sv.1, u.av.1], .blk g125 26 #[(iV s.d.Id), (iV s.d.Tier), (iV s.d.From), (iV s.d.To), s.sv.1, s.av.1]] := hst
 refine s_cons (op_assign (.bool false) rfl (s_nil (then_n (cE_seq (cE_region rfl (s_cons (op_fieldAddr (s := 0) Tryd.underlying26 rfl rfl Tryd.sizeOf3 rfl (s_cons (op_load1 (u := (iV s.d.Id)) Tryd.isAgg3 rfl (hst.cell 1 rfl) (s_cons (op_fieldAddr (s := 0) Tryd.underlying26 rfl rfl Tryd.sizeOf3 rfl (s_cons (op_load1 (u := (iV u.d.Id)) Tryd.isAgg3 rfl (hst.cell 0 rfl) (s_cons (op_eql (k := .i64) (a := s.d.Id) (b := u.d.Id) rfl rfl ?_)))))))))))))))
 refine s_cons (op_move (.bool (decide (s.d.Id = u.d.Id))) rfl (s_lz 10 rfl (gA_t rfl) (Rlz (decide (s.d.Id = u.d.Id)) (.pointer (some ⟨g125, (0 + 1), none⟩)) w128) ?_ (fun hc129 => rlz_f hc129) ?_))
 ·intro hc129
  refine op_fieldAddr (s := 0) Tryd.underlying26 rfl rfl Tryd.sizeOf3 rfl ?_
  exact rlz_t hc129
 rintro _ _ ⟨rfl, rfl⟩
 refine s_lz 10 rfl (gA_t rfl) (Rlz (decide (s.d.Id = u.d.Id)) (iV s.d.Tier) w128) ?_ (fun hc130 => rlz_f hc130) ?_
 ·intro hc130
  refine op_load1 (u := (iV s.d.Tier)) Tryd.isAgg3 (gt hc130) ((hst.cell 1 rfl).drop 1) ?_
  exact rlz_t hc130
 rintro _ _ ⟨rfl, rfl⟩
 refine s_lz 10 rfl (gA_t rfl) (Rlz (decide (s.d.Id = u.d.Id)) (.pointer (some ⟨g127, (0 + 1), none⟩)) w128) ?_ (fun hc131 => rlz_f hc131) ?_
 ·intro hc131
  refine op_fieldAddr (s := 0) Tryd.underlying26 rfl rfl Tryd.sizeOf3 rfl ?_
  exact rlz_t hc131
 rintro _ _ ⟨rfl, rfl⟩
 refine s_lz 10 rfl (gA_t rfl) (Rlz (decide (s.d.Id = u.d.Id)) (iV u.d.Tier) w128) ?_ (fun hc132 => rlz_f hc132) ?_
 ·intro hc132
  refine op_load1 (u := (iV u.d.Tier)) Tryd.isAgg3 (gt hc132) ((hst.cell 0 rfl).drop 1) ?_
  exact rlz_t hc132
 rintro _ _ ⟨rfl, rfl⟩
 refine s_lz 10 rfl (gA_t rfl) (Rlz (decide (s.d.Id = u.d.Id)) (.bool (decide (s.d.Tier = u.d.Tier))) w128) ?_ (fun hc133 => rlz_f hc133) ?_
 ·intro hc133
  refine op_eql (k := .i64) (a := s.d.Tier) (b := u.d.Tier) (gt hc133) (gt hc133) ?_
  exact rlz_t hc133
 rintro _ _ ⟨rfl, rfl⟩
 obtain ⟨g134, hg135⟩ : ∃ x : Bool, x = ((decide (s.d.Id = u.d.Id)) && (decide (s.d.Tier = u.d.Tier))) := ⟨_, rfl⟩
 refine s_cons (op_pick_and rfl rfl (fun hp => hp) rfl (s_cons (op_move (.bool g134) (congrArg Value.bool hg135.symm) (s_lz 17 rfl (gA_t rfl) (Rlz g134 (.pointer (some ⟨g125, (0 + 2), none⟩)) w128) ?_ (fun hc136 => rlz_f hc136) ?_))))
 ·intro hc136
  refine op_fieldAddr (s := 0) Tryd.underlying26 rfl rfl Tryd.sizeOf2 rfl ?_
  exact rlz_t hc136
 rintro _ _ ⟨rfl, rfl⟩
 refine s_lz 17 rfl (gA_t rfl) (Rlz g134 (iV s.d.From) w128) ?_ (fun hc137 => rlz_f hc137) ?_
 ·intro hc137
  refine op_load1 (u := (iV s.d.From)) Tryd.isAgg2 (gt hc137) ((hst.cell 1 rfl).drop 2) ?_
  exact rlz_t hc137
 rintro _ _ ⟨rfl, rfl⟩
 refine s_lz 17 rfl (gA_t rfl) (Rlz g134 (.pointer (some ⟨g127, (0 + 2), none⟩)) w128) ?_ (fun hc138 => rlz_f hc138) ?_
 ·intro hc138
  refine op_fieldAddr (s := 0) Tryd.underlying26 rfl rfl Tryd.sizeOf2 rfl ?_
  exact rlz_t hc138
 rintro _ _ ⟨rfl, rfl⟩
 refine s_lz 17 rfl (gA_t rfl) (Rlz g134 (iV u.d.From) w128) ?_ (fun hc139 => rlz_f hc139) ?_
 ·intro hc139
  refine op_load1 (u := (iV u.d.From)) Tryd.isAgg2 (gt hc139) ((hst.cell 0 rfl).drop 2) ?_
  exact rlz_t hc139
 rintro _ _ ⟨rfl, rfl⟩
 refine s_lz 17 rfl (gA_t rfl) (Rlz g134 (.bool (decide (s.d.From = u.d.From))) w128) ?_ (fun hc140 => rlz_f hc140) ?_
 ·intro hc140
  refine op_eql (k := .i64) (a := s.d.From) (b := u.d.From) (gt hc140) (gt hc140) ?_
  exact rlz_t hc140
 rintro _ _ ⟨rfl, rfl⟩
 obtain ⟨g141, hg142⟩ : ∃ x : Bool, x = (g134 && (decide (s.d.From = u.d.From))) := ⟨_, rfl⟩
 refine s_cons (op_pick_and rfl rfl (fun hp => hp) rfl (s_cons (op_move (.bool g141) (congrArg Value.bool hg142.symm) (s_lz 24 rfl (gA_t rfl) (Rlz g141 (.pointer (some ⟨g125, (0 + 3), none⟩)) w128) ?_ (fun hc143 => rlz_f hc143) ?_))))
 ·intro hc143
  refine op_fieldAddr (s := 0) Tryd.underlying26 rfl rfl Tryd.sizeOf2 rfl ?_
  exact rlz_t hc143
 rintro _ _ ⟨rfl, rfl⟩
 refine s_lz 24 rfl (gA_t rfl) (Rlz g141 (iV s.d.To) w128) ?_ (fun hc144 => rlz_f hc144) ?_
 ·intro hc144
  refine op_load1 (u := (iV s.d.To)) Tryd.isAgg2 (gt hc144) ((hst.cell 1 rfl).drop 3) ?_
  exact rlz_t hc144
 rintro _ _ ⟨rfl, rfl⟩
 refine s_lz 24 rfl (gA_t rfl) (Rlz g141 (.pointer (some ⟨g127, (0 + 3), none⟩)) w128) ?_ (fun hc145 => rlz_f hc145) ?_
 ·intro hc145
  refine op_fieldAddr (s := 0) Tryd.underlying26 rfl rfl Tryd.sizeOf2 rfl ?_
  exact rlz_t hc145
 rintro _ _ ⟨rfl, rfl⟩
 refine s_lz 24 rfl (gA_t rfl) (Rlz g141 (iV u.d.To) w128) ?_ (fun hc146 => rlz_f hc146) ?_
 ·intro hc146
  refine op_load1 (u := (iV u.d.To)) Tryd.isAgg2 (gt hc146) ((hst.cell 0 rfl).drop 3) ?_
  exact rlz_t hc146
 rintro _ _ ⟨rfl, rfl⟩
 refine s_lz 24 rfl (gA_t rfl) (Rlz g141 (.bool (decide (s.d.To = u.d.To))) w128) ?_ (fun hc147 => rlz_f hc147) ?_
 ·intro hc147
  refine op_eql (k := .i64) (a := s.d.To) (b := u.d.To) (gt hc147) (gt hc147) ?_
  exact rlz_t hc147
 rintro _ _ ⟨rfl, rfl⟩
 obtain ⟨g148, hg149⟩ : ∃ x : Bool, x = (g141 && (decide (s.d.To = u.d.To))) := ⟨_, rfl⟩
 refine s_cons (op_pick_and rfl rfl (fun hp => hp) rfl (s_cons (op_move (.bool g148) (congrArg Value.bool hg149.symm) (s_lz 31 rfl (gA_t rfl) (Rlz g148 (.pointer (some ⟨g125, (0 + 4), none⟩)) w128) ?_ (fun hc150 => rlz_f hc150) ?_))))
 ·intro hc150
  refine op_fieldAddr (s := 0) Tryd.underlying26 rfl rfl Tryd.sizeOf23 rfl ?_
  exact rlz_t hc150
 rintro _ _ ⟨rfl, rfl⟩
 refine s_lz 31 rfl (gA_t rfl) (Rlz g148 s.sv.1 w128) ?_ (fun hc151 => rlz_f hc151) ?_
 ·intro hc151
  refine op_load1 (u := s.sv.1) Tryd.isAgg23 (gt hc151) ((hst.cell 1 rfl).drop 4) ?_
  exact rlz_t hc151
 rintro _ _ ⟨rfl, rfl⟩
 refine s_lz 31 rfl (gA_t rfl) (Rlz g148 (.pointer (some ⟨g127, (0 + 4), none⟩)) w128) ?_ (fun hc152 => rlz_f hc152) ?_
 ·intro hc152
  refine op_fieldAddr (s := 0) Tryd.underlying26 rfl rfl Tryd.sizeOf23 rfl ?_
  exact rlz_t hc152
 rintro _ _ ⟨rfl, rfl⟩
 refine s_lz 31 rfl (gA_t rfl) (Rlz g148 u.sv.1 w128) ?_ (fun hc153 => rlz_f hc153) ?_
 ·intro hc153
  refine op_load1 (u := u.sv.1) Tryd.isAgg23 (gt hc153) ((hst.cell 0 rfl).drop 4) ?_
  exact rlz_t hc153
 rintro _ _ ⟨rfl, rfl⟩
 refine s_lz 31 rfl (gA_t rfl) (RlzW g148 (.bool (decide (s.d.Samples = u.d.Samples))) w0 [.blk g127 26 #[(iV u.d.Id), (iV u.d.Tier), (iV u.d.From), (iV u.d.To), u.sv.1, u.av.1], .blk g125 26 #[(iV s.d.Id), (iV s.d.Tier), (iV s.d.From), (iV s.d.To), s.sv.1, s.av.1]]) ?_ (fun hc154 => ⟨(gf hc154).symm, hst⟩) ?_
 ·intro hc154
  have c155 : s.d.Id = u.d.Id := of_decide_eq_true (and_l (hg135.symm.trans (and_l (hg142.symm.trans (and_l (hg149.symm.trans hc154))))))
  have c156 : s.d.Tier = u.d.Tier := of_decide_eq_true (and_r (hg135.symm.trans (and_l (hg142.symm.trans (and_l (hg149.symm.trans hc154))))))
  have c157 : s.d.From = u.d.From := of_decide_eq_true (and_r (hg142.symm.trans (and_l (hg149.symm.trans hc154))))
  have c158 : s.d.To = u.d.To := of_decide_eq_true (and_r (hg149.symm.trans hc154))
  refine op_call Tryd.call32 (evs_cons (v := s.sv.1) (gt hc154) (evs_cons (v := u.sv.1) (gt hc154) evs_nil)) (c_eqS (w0 := w128) (v_a := s.sv.1) (a := s.d.Samples) (h_a := (h_s.1.below hst.below)) (v_b := u.sv.1) (b := u.d.Samples) (h_b := (h_u.1.below hst.below))) ?_
  rintro _ w159 ⟨rfl, hcall⟩
  refine ⟨_, rfl, ?_⟩
  have hst : St w0 w159 [.blk g127 26 #[(iV u.d.Id), (iV u.d.Tier), (iV u.d.From), (iV u.d.To), u.sv.1, u.av.1], .blk g125 26 #[(iV s.d.Id), (iV s.d.Tier), (iV s.d.From), (iV s.d.To), s.sv.1, s.av.1]] := hst.call hcall
  exact ⟨(gt hc154).symm, hst⟩
 rintro _ w160 ⟨rfl, hst⟩
 replace hst : St w0 w160 [.blk g127 26 #[(iV u.d.Id), (iV u.d.Tier), (iV u.d.From), (iV u.d.To), u.sv.1, u.av.1], .blk g125 26 #[(iV s.d.Id), (iV s.d.Tier), (iV s.d.From), (iV s.d.To), s.sv.1, s.av.1]] := hst
 obtain ⟨g161, hg162⟩ : ∃ x : Bool, x = (g148 && (decide (s.d.Samples = u.d.Samples))) := ⟨_, rfl⟩
 refine s_cons (op_pick_and rfl rfl (fun hp => hp) rfl (s_cons (op_move (.bool g161) (congrArg Value.bool hg162.symm) (s_lz 38 rfl (gA_t rfl) (Rlz g161 (.pointer (some ⟨g125, (0 + 5), none⟩)) w160) ?_ (fun hc163 => rlz_f hc163) ?_))))
 ·intro hc163
  refine op_fieldAddr (s := 0) Tryd.underlying26 rfl rfl Tryd.sizeOf24 rfl ?_
  exact rlz_t hc163
 rintro _ _ ⟨rfl, rfl⟩
 refine s_lz 38 rfl (gA_t rfl) (Rlz g161 s.av.1 w160) ?_ (fun hc164 => rlz_f hc164) ?_
 ·intro hc164
  refine op_load1 (u := s.av.1) Tryd.isAgg24 (gt hc164) ((hst.cell 1 rfl).drop 5) ?_
  exact rlz_t hc164
 rintro _ _ ⟨rfl, rfl⟩
 refine s_lz 38 rfl (gA_t rfl) (Rlz g161 (.pointer (some ⟨g127, (0 + 5), none⟩)) w160) ?_ (fun hc165 => rlz_f hc165) ?_
 ·intro hc165
  refine op_fieldAddr (s := 0) Tryd.underlying26 rfl rfl Tryd.sizeOf24 rfl ?_
  exact rlz_t hc165
 rintro _ _ ⟨rfl, rfl⟩
 refine s_lz 38 rfl (gA_t rfl) (Rlz g161 u.av.1 w160) ?_ (fun hc166 => rlz_f hc166) ?_
 ·intro hc166
  refine op_load1 (u := u.av.1) Tryd.isAgg24 (gt hc166) ((hst.cell 0 rfl).drop 5) ?_
  exact rlz_t hc166
 rintro _ _ ⟨rfl, rfl⟩
 refine s_lz 38 rfl (gA_t rfl) (RlzW g161 (.bool (decide (s.d.Aggs = u.d.Aggs))) w0 [.blk g127 26 #[(iV u.d.Id), (iV u.d.Tier), (iV u.d.From), (iV u.d.To), u.sv.1, u.av.1], .blk g125 26 #[(iV s.d.Id), (iV s.d.Tier), (iV s.d.From), (iV s.d.To), s.sv.1, s.av.1]]) ?_ (fun hc167 => ⟨(gf hc167).symm, hst⟩) ?_
 ·intro hc167
  have c168 : s.d.Id = u.d.Id := of_decide_eq_true (and_l (hg135.symm.trans (and_l (hg142.symm.trans (and_l (hg149.symm.trans (and_l (hg162.symm.trans hc167))))))))
  have c169 : s.d.Tier = u.d.Tier := of_decide_eq_true (and_r (hg135.symm.trans (and_l (hg142.symm.trans (and_l (hg149.symm.trans (and_l (hg162.symm.trans hc167))))))))
  have c170 : s.d.From = u.d.From := of_decide_eq_true (and_r (hg142.symm.trans (and_l (hg149.symm.trans (and_l (hg162.symm.trans hc167))))))
  have c171 : s.d.To = u.d.To := of_decide_eq_true (and_r (hg149.symm.trans (and_l (hg162.symm.trans hc167))))
  have c172 : s.d.Samples = u.d.Samples := of_decide_eq_true (and_r (hg162.symm.trans hc167))
  refine op_call Tryd.call33 (evs_cons (v := s.av.1) (gt hc167) (evs_cons (v := u.av.1) (gt hc167) evs_nil)) (c_eqA (w0 := w160) (v_a := s.av.1) (a := s.d.Aggs) (h_a := (h_s.2.below hst.below)) (v_b := u.av.1) (b := u.d.Aggs) (h_b := (h_u.2.below hst.below))) ?_
  rintro _ w173 ⟨rfl, hcall⟩
  refine ⟨_, rfl, ?_⟩
  have hst : St w0 w173 [.blk g127 26 #[(iV u.d.Id), (iV u.d.Tier), (iV u.d.From), (iV u.d.To), u.sv.1, u.av.1], .blk g125 26 #[(iV s.d.Id), (iV s.d.Tier), (iV s.d.From), (iV s.d.To), s.sv.1, s.av.1]] := hst.call hcall
  exact ⟨(gt hc167).symm, hst⟩
 rintro _ w174 ⟨rfl, hst⟩
 replace hst : St w0 w174 [.blk g127 26 #[(iV u.d.Id), (iV u.d.Tier), (iV u.d.From), (iV u.d.To), u.sv.1, u.av.1], .blk g125 26 #[(iV s.d.Id), (iV s.d.Tier), (iV s.d.From), (iV s.d.To), s.sv.1, s.av.1]] := hst
 obtain ⟨g175, hg176⟩ : ∃ x : Bool, x = (g161 && (decide (s.d.Aggs = u.d.Aggs))) := ⟨_, rfl⟩
 refine s_cons (op_pick_and rfl rfl (fun hp => hp) rfl (s_cons (op_assign (.bool g175) (congrArg Value.bool hg176.symm) (s_nil (then_n (cE_ret (post_r _ (res1 (v := (.bool g175)) rfl) ?_)))))))
 exact ⟨(retv1 (congrArg Value.bool (show g175 = (decide (s.d = u.d)) from by (rw [hg176, hg162, hg149, hg142, hg135]; exact segD_dec _ _)))), hst.bare⟩

set_option maxRecDepth 8000 in
theorem c_rSame (w0 : World) (s : Seg) (h_s : SegIn w0 s) (u : Seg) (h_u : SegIn w0 u) :
  Calls Tryd.prog 21 #[(.agg #[(iV s.d.Id), (iV s.d.Tier), (iV s.d.From), (iV s.d.To), s.sv.1, s.av.1]), (.agg #[(iV u.d.Id), (iV u.d.Tier), (iV u.d.From), (iV u.d.To), u.sv.1, u.av.1])] w0 fun e w' => e = .returned (.bool (decide (s.d = u.d))) ∧ St w0 w' [] := by
 refine calls_E (n := 45) (ts := [4]) Tryd.func21 rfl rfl rfl (by simp) ?_
 have hst := St.start w0
 refine cE_seq (cE_region rfl (s_cons (op_box (v := (.agg #[(iV s.d.Id), (iV s.d.Tier), (iV s.d.From), (iV s.d.To), s.sv.1, s.av.1])) (cs := #[(iV s.d.Id), (iV s.d.Tier), (iV s.d.From), (iV s.d.To), s.sv.1, s.av.1]) hst rfl rfl (fun g177 w178 hst _ => ?_))))
 replace hst : St w0 w178 [.blk g177 26 #[(iV s.d.Id), (iV s.d.Tier), (iV s.d.From), (iV s.d.To), s.sv.1, s.av.1]] := hst
 refine s_cons (op_box (v := (.agg #[(iV u.d.Id), (iV u.d.Tier), (iV u.d.From), (iV u.d.To), u.sv.1, u.av.1])) (cs := #[(iV u.d.Id), (iV u.d.Tier), (iV u.d.From), (iV u.d.To), u.sv.1, u.av.1]) hst rfl rfl (fun g179 w180 hst _ => ?_))
 replace hst : St w0 w180 [.blk g179 26 #[(iV u.d.Id), (iV u.d.Tier), (iV u.d.From), (iV u.d.To), u.sv.1, u.av.1], .blk g177 26 #[(iV s.d.Id), (iV s.d.Tier), (iV s.d.From), (iV s.d.To), s.sv.1, s.av.1]] := hst
 refine s_cons (op_assign (.bool false) rfl (s_nil (then_n (cE_seq (cE_region rfl (s_cons (op_fieldAddr (s := 0) Tryd.underlying26 rfl rfl Tryd.sizeOf3 rfl (s_cons (op_load1 (u := (iV s.d.Id)) Tryd.isAgg3 rfl (hst.cell 1 rfl) (s_cons (op_fieldAddr (s := 0) Tryd.underlying26 rfl rfl Tryd.sizeOf3 rfl (s_cons (op_load1 (u := (iV u.d.Id)) Tryd.isAgg3 rfl (hst.cell 0 rfl) (s_cons (op_eql (k := .i64) (a := s.d.Id) (b := u.d.Id) rfl rfl ?_)))))))))))))))
 refine s_cons (op_move (.bool (decide (s.d.Id = u.d.Id))) rfl (s_lz 10 rfl (gA_t rfl) (Rlz (decide (s.d.Id = u.d.Id)) (.pointer (some ⟨g177, (0 + 1), none⟩)) w180) ?_ (fun hc181 => rlz_f hc181) ?_))
 ·intro hc181
  refine op_fieldAddr (s := 0) Tryd.underlying26 rfl rfl Tryd.sizeOf3 rfl ?_
  exact rlz_t hc181
 rintro _ _ ⟨rfl, rfl⟩
 refine s_lz 10 rfl (gA_t rfl) (Rlz (decide (s.d.Id = u.d.Id)) (iV s.d.Tier) w180) ?_ (fun hc182 => rlz_f hc182) ?_
 ·intro hc182
  refine op_load1 (u := (iV s.d.Tier)) Tryd.isAgg3 (gt hc182) ((hst.cell 1 rfl).drop 1) ?_
  exact rlz_t hc182
 rintro _ _ ⟨rfl, rfl⟩
 refine s_lz 10 rfl (gA_t rfl) (Rlz (decide (s.d.Id = u.d.Id)) (.pointer (some ⟨g179, (0 + 1), none⟩)) w180) ?_ (fun hc183 => rlz_f hc183) ?_
 ·intro hc183
  refine op_fieldAddr (s := 0) Tryd.underlying26 rfl rfl Tryd.sizeOf3 rfl ?_
  exact rlz_t hc183
 rintro _ _ ⟨rfl, rfl⟩
 refine s_lz 10 rfl (gA_t rfl) (Rlz (decide (s.d.Id = u.d.Id)) (iV u.d.Tier) w180) ?_ (fun hc184 => rlz_f hc184) ?_
 ·intro hc184
  refine op_load1 (u := (iV u.d.Tier)) Tryd.isAgg3 (gt hc184) ((hst.cell 0 rfl).drop 1) ?_
  exact rlz_t hc184
 rintro _ _ ⟨rfl, rfl⟩
 refine s_lz 10 rfl (gA_t rfl) (Rlz (decide (s.d.Id = u.d.Id)) (.bool (decide (s.d.Tier = u.d.Tier))) w180) ?_ (fun hc185 => rlz_f hc185) ?_
 ·intro hc185
  refine op_eql (k := .i64) (a := s.d.Tier) (b := u.d.Tier) (gt hc185) (gt hc185) ?_
  exact rlz_t hc185
 rintro _ _ ⟨rfl, rfl⟩
 obtain ⟨g186, hg187⟩ : ∃ x : Bool, x = ((decide (s.d.Id = u.d.Id)) && (decide (s.d.Tier = u.d.Tier))) := ⟨_, rfl⟩
 refine s_cons (op_pick_and rfl rfl (fun hp => hp) rfl (s_cons (op_move (.bool g186) (congrArg Value.bool hg187.symm) (s_lz 17 rfl (gA_t rfl) (Rlz g186 (.pointer (some ⟨g177, (0 + 2), none⟩)) w180) ?_ (fun hc188 => rlz_f hc188) ?_))))
 ·intro hc188
  refine op_fieldAddr (s := 0) Tryd.underlying26 rfl rfl Tryd.sizeOf2 rfl ?_
  exact rlz_t hc188
 rintro _ _ ⟨rfl, rfl⟩
 refine s_lz 17 rfl (gA_t rfl) (Rlz g186 (iV s.d.From) w180) ?_ (fun hc189 => rlz_f hc189) ?_
 ·intro hc189
  refine op_load1 (u := (iV s.d.From)) Tryd.isAgg2 (gt hc189) ((hst.cell 1 rfl).drop 2) ?_
  exact rlz_t hc189
 rintro _ _ ⟨rfl, rfl⟩
 refine s_lz 17 rfl (gA_t rfl) (Rlz g186 (.pointer (some ⟨g179, (0 + 2), none⟩)) w180) ?_ (fun hc190 => rlz_f hc190) ?_
 ·intro hc190
  refine op_fieldAddr (s := 0) Tryd.underlying26 rfl rfl Tryd.sizeOf2 rfl ?_
  exact rlz_t hc190
 rintro _ _ ⟨rfl, rfl⟩
 refine s_lz 17 rfl (gA_t rfl) (Rlz g186 (iV u.d.From) w180) ?_ (fun hc191 => rlz_f hc191) ?_
 ·intro hc191
  refine op_load1 (u := (iV u.d.From)) Tryd.isAgg2 (gt hc191) ((hst.cell 0 rfl).drop 2) ?_
  exact rlz_t hc191
 rintro _ _ ⟨rfl, rfl⟩
 refine s_lz 17 rfl (gA_t rfl) (Rlz g186 (.bool (decide (s.d.From = u.d.From))) w180) ?_ (fun hc192 => rlz_f hc192) ?_
 ·intro hc192
  refine op_eql (k := .i64) (a := s.d.From) (b := u.d.From) (gt hc192) (gt hc192) ?_
  exact rlz_t hc192
 rintro _ _ ⟨rfl, rfl⟩
 obtain ⟨g193, hg194⟩ : ∃ x : Bool, x = (g186 && (decide (s.d.From = u.d.From))) := ⟨_, rfl⟩
 refine s_cons (op_pick_and rfl rfl (fun hp => hp) rfl (s_cons (op_move (.bool g193) (congrArg Value.bool hg194.symm) (s_lz 24 rfl (gA_t rfl) (Rlz g193 (.pointer (some ⟨g177, (0 + 3), none⟩)) w180) ?_ (fun hc195 => rlz_f hc195) ?_))))
 ·intro hc195
  refine op_fieldAddr (s := 0) Tryd.underlying26 rfl rfl Tryd.sizeOf2 rfl ?_
  exact rlz_t hc195
 rintro _ _ ⟨rfl, rfl⟩
 refine s_lz 24 rfl (gA_t rfl) (Rlz g193 (iV s.d.To) w180) ?_ (fun hc196 => rlz_f hc196) ?_
 ·intro hc196
  refine op_load1 (u := (iV s.d.To)) Tryd.isAgg2 (gt hc196) ((hst.cell 1 rfl).drop 3) ?_
  exact rlz_t hc196
 rintro _ _ ⟨rfl, rfl⟩
 refine s_lz 24 rfl (gA_t rfl) (Rlz g193 (.pointer (some ⟨g179, (0 + 3), none⟩)) w180) ?_ (fun hc197 => rlz_f hc197) ?_
 ·intro hc197
  refine op_fieldAddr (s := 0) Tryd.underlying26 rfl rfl Tryd.sizeOf2 rfl ?_
  exact rlz_t hc197
 rintro _ _ ⟨rfl, rfl⟩
 refine s_lz 24 rfl (gA_t rfl) (Rlz g193 (iV u.d.To) w180) ?_ (fun hc198 => rlz_f hc198) ?_
 ·intro hc198
  refine op_load1 (u := (iV u.d.To)) Tryd.isAgg2 (gt hc198) ((hst.cell 0 rfl).drop 3) ?_
  exact rlz_t hc198
 rintro _ _ ⟨rfl, rfl⟩
 refine s_lz 24 rfl (gA_t rfl) (Rlz g193 (.bool (decide (s.d.To = u.d.To))) w180) ?_ (fun hc199 => rlz_f hc199) ?_
 ·intro hc199
  refine op_eql (k := .i64) (a := s.d.To) (b := u.d.To) (gt hc199) (gt hc199) ?_
  exact rlz_t hc199
 rintro _ _ ⟨rfl, rfl⟩
 obtain ⟨g200, hg201⟩ : ∃ x : Bool, x = (g193 && (decide (s.d.To = u.d.To))) := ⟨_, rfl⟩
 refine s_cons (op_pick_and rfl rfl (fun hp => hp) rfl (s_cons (op_move (.bool g200) (congrArg Value.bool hg201.symm) (s_lz 31 rfl (gA_t rfl) (Rlz g200 (.pointer (some ⟨g177, (0 + 4), none⟩)) w180) ?_ (fun hc202 => rlz_f hc202) ?_))))
 ·intro hc202
  refine op_fieldAddr (s := 0) Tryd.underlying26 rfl rfl Tryd.sizeOf23 rfl ?_
  exact rlz_t hc202
 rintro _ _ ⟨rfl, rfl⟩
 refine s_lz 31 rfl (gA_t rfl) (Rlz g200 s.sv.1 w180) ?_ (fun hc203 => rlz_f hc203) ?_
 ·intro hc203
  refine op_load1 (u := s.sv.1) Tryd.isAgg23 (gt hc203) ((hst.cell 1 rfl).drop 4) ?_
  exact rlz_t hc203
 rintro _ _ ⟨rfl, rfl⟩
 refine s_lz 31 rfl (gA_t rfl) (Rlz g200 (.pointer (some ⟨g179, (0 + 4), none⟩)) w180) ?_ (fun hc204 => rlz_f hc204) ?_
 ·intro hc204
  refine op_fieldAddr (s := 0) Tryd.underlying26 rfl rfl Tryd.sizeOf23 rfl ?_
  exact rlz_t hc204
 rintro _ _ ⟨rfl, rfl⟩
 refine s_lz 31 rfl (gA_t rfl) (Rlz g200 u.sv.1 w180) ?_ (fun hc205 => rlz_f hc205) ?_
 ·intro hc205
  refine op_load1 (u := u.sv.1) Tryd.isAgg23 (gt hc205) ((hst.cell 0 rfl).drop 4) ?_
  exact rlz_t hc205
 rintro _ _ ⟨rfl, rfl⟩
 refine s_lz 31 rfl (gA_t rfl) (RlzW g200 (.bool (decide (s.d.Samples = u.d.Samples))) w0 [.blk g179 26 #[(iV u.d.Id), (iV u.d.Tier), (iV u.d.From), (iV u.d.To), u.sv.1, u.av.1], .blk g177 26 #[(iV s.d.Id), (iV s.d.Tier), (iV s.d.From), (iV s.d.To), s.sv.1, s.av.1]]) ?_ (fun hc206 => ⟨(gf hc206).symm, hst⟩) ?_
 ·intro hc206
  have c207 : s.d.Id = u.d.Id := of_decide_eq_true (and_l (hg187.symm.trans (and_l (hg194.symm.trans (and_l (hg201.symm.trans hc206))))))
  have c208 : s.d.Tier = u.d.Tier := of_decide_eq_true (and_r (hg187.symm.trans (and_l (hg194.symm.trans (and_l (hg201.symm.trans hc206))))))
  have c209 : s.d.From = u.d.From := of_decide_eq_true (and_r (hg194.symm.trans (and_l (hg201.symm.trans hc206))))
  have c210 : s.d.To = u.d.To := of_decide_eq_true (and_r (hg201.symm.trans hc206))
  refine op_call Tryd.call41 (evs_cons (v := s.sv.1) (gt hc206) (evs_cons (v := u.sv.1) (gt hc206) evs_nil)) (c_SameSamples (w0 := w180) (v_a := s.sv.1) (a := s.d.Samples) (h_a := (h_s.1.below hst.below)) (v_b := u.sv.1) (b := u.d.Samples) (h_b := (h_u.1.below hst.below))) ?_
  rintro _ w211 ⟨rfl, hcall⟩
  refine ⟨_, rfl, ?_⟩
  have hst : St w0 w211 [.blk g179 26 #[(iV u.d.Id), (iV u.d.Tier), (iV u.d.From), (iV u.d.To), u.sv.1, u.av.1], .blk g177 26 #[(iV s.d.Id), (iV s.d.Tier), (iV s.d.From), (iV s.d.To), s.sv.1, s.av.1]] := hst.call hcall
  exact ⟨(gt hc206).symm, hst⟩
 rintro _ w212 ⟨rfl, hst⟩
 replace hst : St w0 w212 [.blk g179 26 #[(iV u.d.Id), (iV u.d.Tier), (iV u.d.From), (iV u.d.To), u.sv.1, u.av.1], .blk g177 26 #[(iV s.d.Id), (iV s.d.Tier), (iV s.d.From), (iV s.d.To), s.sv.1, s.av.1]] := hst
 obtain ⟨g213, hg214⟩ : ∃ x : Bool, x = (g200 && (decide (s.d.Samples = u.d.Samples))) := ⟨_, rfl⟩
 refine s_cons (op_pick_and rfl rfl (fun hp => hp) rfl (s_cons (op_move (.bool g213) (congrArg Value.bool hg214.symm) (s_lz 38 rfl (gA_t rfl) (Rlz g213 (.pointer (some ⟨g177, (0 + 5), none⟩)) w212) ?_ (fun hc215 => rlz_f hc215) ?_))))
 ·intro hc215
  refine op_fieldAddr (s := 0) Tryd.underlying26 rfl rfl Tryd.sizeOf24 rfl ?_
  exact rlz_t hc215
 rintro _ _ ⟨rfl, rfl⟩
 refine s_lz 38 rfl (gA_t rfl) (Rlz g213 s.av.1 w212) ?_ (fun hc216 => rlz_f hc216) ?_
 ·intro hc216
  refine op_load1 (u := s.av.1) Tryd.isAgg24 (gt hc216) ((hst.cell 1 rfl).drop 5) ?_
  exact rlz_t hc216
 rintro _ _ ⟨rfl, rfl⟩
 refine s_lz 38 rfl (gA_t rfl) (Rlz g213 (.pointer (some ⟨g179, (0 + 5), none⟩)) w212) ?_ (fun hc217 => rlz_f hc217) ?_
 ·intro hc217
  refine op_fieldAddr (s := 0) Tryd.underlying26 rfl rfl Tryd.sizeOf24 rfl ?_
  exact rlz_t hc217
 rintro _ _ ⟨rfl, rfl⟩
 refine s_lz 38 rfl (gA_t rfl) (Rlz g213 u.av.1 w212) ?_ (fun hc218 => rlz_f hc218) ?_
 ·intro hc218
  refine op_load1 (u := u.av.1) Tryd.isAgg24 (gt hc218) ((hst.cell 0 rfl).drop 5) ?_
  exact rlz_t hc218
 rintro _ _ ⟨rfl, rfl⟩
 refine s_lz 38 rfl (gA_t rfl) (RlzW g213 (.bool (decide (s.d.Aggs = u.d.Aggs))) w0 [.blk g179 26 #[(iV u.d.Id), (iV u.d.Tier), (iV u.d.From), (iV u.d.To), u.sv.1, u.av.1], .blk g177 26 #[(iV s.d.Id), (iV s.d.Tier), (iV s.d.From), (iV s.d.To), s.sv.1, s.av.1]]) ?_ (fun hc219 => ⟨(gf hc219).symm, hst⟩) ?_
 ·intro hc219
  have c220 : s.d.Id = u.d.Id := of_decide_eq_true (and_l (hg187.symm.trans (and_l (hg194.symm.trans (and_l (hg201.symm.trans (and_l (hg214.symm.trans hc219))))))))
  have c221 : s.d.Tier = u.d.Tier := of_decide_eq_true (and_r (hg187.symm.trans (and_l (hg194.symm.trans (and_l (hg201.symm.trans (and_l (hg214.symm.trans hc219))))))))
  have c222 : s.d.From = u.d.From := of_decide_eq_true (and_r (hg194.symm.trans (and_l (hg201.symm.trans (and_l (hg214.symm.trans hc219))))))
  have c223 : s.d.To = u.d.To := of_decide_eq_true (and_r (hg201.symm.trans (and_l (hg214.symm.trans hc219))))
  have c224 : s.d.Samples = u.d.Samples := of_decide_eq_true (and_r (hg214.symm.trans hc219))
  refine op_call Tryd.call42 (evs_cons (v := s.av.1) (gt hc219) (evs_cons (v := u.av.1) (gt hc219) evs_nil)) (c_SameAggs (w0 := w212) (v_a := s.av.1) (a := s.d.Aggs) (h_a := (h_s.2.below hst.below)) (v_b := u.av.1) (b := u.d.Aggs) (h_b := (h_u.2.below hst.below))) ?_
  rintro _ w225 ⟨rfl, hcall⟩
  refine ⟨_, rfl, ?_⟩
  have hst : St w0 w225 [.blk g179 26 #[(iV u.d.Id), (iV u.d.Tier), (iV u.d.From), (iV u.d.To), u.sv.1, u.av.1], .blk g177 26 #[(iV s.d.Id), (iV s.d.Tier), (iV s.d.From), (iV s.d.To), s.sv.1, s.av.1]] := hst.call hcall
  exact ⟨(gt hc219).symm, hst⟩
 rintro _ w226 ⟨rfl, hst⟩
 replace hst : St w0 w226 [.blk g179 26 #[(iV u.d.Id), (iV u.d.Tier), (iV u.d.From), (iV u.d.To), u.sv.1, u.av.1], .blk g177 26 #[(iV s.d.Id), (iV s.d.Tier), (iV s.d.From), (iV s.d.To), s.sv.1, s.av.1]] := hst
 obtain ⟨g227, hg228⟩ : ∃ x : Bool, x = (g213 && (decide (s.d.Aggs = u.d.Aggs))) := ⟨_, rfl⟩
 refine s_cons (op_pick_and rfl rfl (fun hp => hp) rfl (s_cons (op_assign (.bool g227) (congrArg Value.bool hg228.symm) (s_nil (then_n (cE_ret (post_r _ (res1 (v := (.bool g227)) rfl) ?_)))))))
 exact ⟨(retv1 (congrArg Value.bool (show g227 = (decide (s.d = u.d)) from by (rw [hg228, hg214, hg201, hg194, hg187]; exact segD_dec _ _)))), hst.bare⟩

end Go.Proofs.YtgibfidebdgffaaDoor
