/- twinkeepref5.SameSamples, twinkeepref5.SameAggs -/
import Derived.Test.YtgibfidebdgffaaDoorXLB
import Derived.Test.YtgibfidebdgffaaDoorXT
import Derived.Test.YtgibfidebdgffaaDoorRows
namespace Go.Proofs.YtgibfidebdgffaaDoor
open Go.RowKit

set_option maxRecDepth 8000 in
theorem c_SameSamples (w0 : World) (v_a : Value) (a : List Sample) (h_a : Sl w0 sampE v_a a) (v_b : Value) (b : List Sample) (h_b : Sl w0 sampE v_b b) :
  Calls Tryd.prog 41 #[v_a, v_b] w0 fun e w' => e = .returned (.bool (decide (a = b))) ∧ St w0 w' [] := by
 refine calls_E (n := 26) (ts := [4]) Tryd.func41 rfl rfl rfl (by simp) ?_
 have hst := St.start w0
 refine cE_seq (cE_region rfl (s_cons (op_assign (.bool false) rfl (s_nil (then_n (cE_seq (cE_seq (cE_region rfl (s_cons (op_move v_a rfl (s_cons (op_len (E := sampE) (xs := a) Tryd.underlying23 rfl h_a (s_cons (op_move v_b rfl (s_cons (op_len (E := sampE) (xs := b) Tryd.underlying23 rfl h_b (s_cons (op_neq (k := .i64) (a := (a.length : Int)) (b := (b.length : Int)) rfl rfl (s_nil ?_)))))))))))))))))))
 refine then_n ?_
 rcases Bool.eq_false_or_eq_true (decide ((a.length : Int) = (b.length : Int))) with b1 | b1
 ·have c2 : (a.length : Int) = (b.length : Int) := of_decide_eq_true b1
  refine cE_cond false (congrArg Value.bool (congrArg (! ·) b1)) (fun h => by cases h) (fun _ => ?_)
  refine cE_skip (then_n (cE_seq (cE_seq (cE_region rfl (s_cons (op_assign (iV 0) rfl (s_nil (then_n (cE_block (cE_loop (fun (m : Nat) (ρ : Env) (w : World) => ∃ (i : Nat), m = a.length - i ∧ ρ 0 = v_a ∧ ρ 1 = v_b ∧ ρ 5 = (iV (i : Int)) ∧ St w0 w [] ∧ (i ≤ a.length) ∧ (a.take i = b.take i)) id _ ⟨0, rfl, rfl, rfl, (congrArg iV (show 0 = _ from by omega)), hst, (by omega), (by first | rfl | exact same_step he (by omega) (by omega) (by assumption))⟩ ?_))))))))))
  rintro m4 ρ5 w6 ⟨i, hm4, q3_0, q3_1, q3_5, hst, hi, he⟩
  have hlen := h_a.len
  refine cE_seq (cE_seq (cE_region rfl (s_cons (op_move (iV (i : Int)) q3_5 (s_cons (op_move v_a q3_0 (s_cons (op_len (E := sampE) (xs := a) Tryd.underlying23 rfl h_a (s_cons (op_lss (k := .i64) (a := (i : Int)) (b := (a.length : Int)) rfl rfl (s_nil (then_n ?_))))))))))))
  rcases Bool.eq_false_or_eq_true (decide ((i : Int) < (a.length : Int))) with b7 | b7
  ·have c8 : (i : Int) < (a.length : Int) := of_decide_eq_true b7
   refine cE_cond true (congrArg Value.bool b7) (fun _ => ?_) (fun h => by cases h)
   refine cE_skip (then_n (cE_seq (cE_block (cE_seq (cE_regionL hst [[(0, none)], [(5, none)], [(17, some 0), (18, some 1)], [(19, some 2)], [(1, none)], [(5, none)], [(21, some 4), (22, some 5)], [(23, some 6)], [(20, some 3), (24, some 7)]] [(rEq v_a), (rEq (iV (i : Int))), (rPt [(iV ((a[i]'(by omega)).T)), (iV ((a[i]'(by omega)).V))]), (rEq (.agg #[(iV ((a[i]'(by omega)).T)), (iV ((a[i]'(by omega)).V))])), (rEq v_b), (rEq (iV (i : Int))), (rPt [(iV ((b[i]'(by omega)).T)), (iV ((b[i]'(by omega)).V))]), (rEq (.agg #[(iV ((b[i]'(by omega)).T)), (iV ((b[i]'(by omega)).V))])), (rEq (.bool (!decide ((a[i]'(by omega)) = (b[i]'(by omega))))))] (by kernel_rfl) rfl (by kernel_rfl) ⟨sEq, sEq, sPt, sEq, sEq, sEq, sPt, sEq, sEq, trivial⟩ ⟨?_, ?_, ?_, ?_, ?_, ?_, ?_, ?_, ?_, trivial⟩ ?_)))))
   ·rintro ρ15 w16 hj17 ⟨f0, _⟩
    have hst := hj17.2
    exact go_plain (op_move v_a (f0.trans q3_0) (kS hj17 rfl))
   ·rintro ρ18 w19 hj20 ⟨f5, _⟩
    have hst := hj20.2
    exact go_plain (op_move (iV (i : Int)) (f5.trans q3_5) (kS hj20 rfl))
   ·rintro ρ21 w22 hj23 ⟨f17, f18, _⟩
    have hst := hj23.2
    refine go_plain (op_indexAddrN (E := sampE) (xs := a) i Tryd.underlying23 Tryd.sizeOf28 f17 h_a f18 (by omega) (by omega) (fun a24 o25 p26 => ?_))
    exact kS hj23 ⟨_, _, rfl, (p26.below hst.below)⟩
   ·rintro ρ27 w28 hj29 ⟨f19, _⟩
    have hst := hj29.2
    obtain ⟨a30, o31, e32, p33⟩ := f19
    exact go_plain (op_loadN (cs := [(iV ((a[i]'(by omega)).T)), (iV ((a[i]'(by omega)).V))]) Tryd.isAgg28 Tryd.sizeOf28 e32 (Pt.of p33 rfl) rfl (kS hj29 rfl))
   ·rintro ρ34 w35 hj36 ⟨f1, _⟩
    have hst := hj36.2
    exact go_plain (op_move v_b (f1.trans q3_1) (kS hj36 rfl))
   ·rintro ρ37 w38 hj39 ⟨f5, _⟩
    have hst := hj39.2
    exact go_plain (op_move (iV (i : Int)) (f5.trans q3_5) (kS hj39 rfl))
   ·rintro ρ40 w41 hj42 ⟨f21, f22, _⟩
    have hst := hj42.2
    refine go_plain (op_indexAddrN (E := sampE) (xs := b) i Tryd.underlying23 Tryd.sizeOf28 f21 h_b f22 (by omega) (by omega) (fun a43 o44 p45 => ?_))
    exact kS hj42 ⟨_, _, rfl, (p45.below hst.below)⟩
   ·rintro ρ46 w47 hj48 ⟨f23, _⟩
    have hst := hj48.2
    obtain ⟨a49, o50, e51, p52⟩ := f23
    exact go_plain (op_loadN (cs := [(iV ((b[i]'(by omega)).T)), (iV ((b[i]'(by omega)).V))]) Tryd.isAgg28 Tryd.sizeOf28 e51 (Pt.of p52 rfl) rfl (kS hj48 rfl))
   ·rintro ρ53 w54 hj55 ⟨f20, f24, _⟩
    have hst := hj55.2
    exact go_plain (op_neqG Tryd.eqGuardType28 (Tryd.eqSample (a[i]'(by omega)) (b[i]'(by omega)) _) f20 f24 (kS hj55 rfl))
   intro ρ56 w57 hbw57 hst hRw57 hkw57
   have uw57_0 : ρ56 0 = v_a := (hkw57 0 rfl).trans q3_0
   have uw57_1 : ρ56 1 = v_b := (hkw57 1 rfl).trans q3_1
   have uw57_5 : ρ56 5 = (iV (i : Int)) := (hkw57 5 rfl).trans q3_5
   have uw57_11 : ρ56 11 = (iV (i : Int)) := (hkw57 11 rfl).trans rfl
   have uw57_12 : ρ56 12 = v_a := (hkw57 12 rfl).trans rfl
   have uw57_13 : ρ56 13 = (iV (a.length : Int)) := (hkw57 13 rfl).trans rfl
   have uw57_14 : ρ56 14 = (.bool (decide ((i : Int) < (a.length : Int)))) := (hkw57 14 rfl).trans rfl
   have uw57_25 : ρ56 25 = (.bool (!decide ((a[i]'(by omega)) = (b[i]'(by omega))))) := hRw57 8 25 rfl
   refine then_n ?_
   rcases Bool.eq_false_or_eq_true (decide ((a[i]'(by omega)) = (b[i]'(by omega)))) with b58 | b58
   ·have c59 : (a[i]'(by omega)) = (b[i]'(by omega)) := of_decide_eq_true b58
    refine cE_cond false (uw57_25.trans (congrArg Value.bool (congrArg (! ·) b58))) (fun h => by cases h) (fun _ => ?_)
    refine cE_skip (block_n (then_n (cE_region rfl (s_cons (op_move (iV (i : Int)) uw57_5 (s_cons (op_add (k := .i64) (a := (i : Int)) (b := 1) ((i : Int) + 1) rfl rfl (xi64 (by omega) (by omega)) (s_cons (op_assign (iV ((i : Int) + 1)) rfl (s_nil (then_n ?_)))))))))))
    exact ⟨_, ⟨(i + 1), rfl, uw57_0, uw57_1, (congrArg iV (show ((i : Int) + 1) = _ from by omega)), hst, (by omega), (by first | rfl | exact same_step he (by omega) (by omega) (by assumption))⟩, (by simp only [id]; omega)⟩
   have c60 : ¬ ((a[i]'(by omega)) = (b[i]'(by omega))) := of_decide_eq_false b58
   refine cE_cond true (uw57_25.trans (congrArg Value.bool (congrArg (! ·) b58))) (fun _ => ?_) (fun h => by cases h)
   refine cE_seq (cE_region rfl (s_cons (op_assign (.bool false) rfl (s_nil (then_n (cE_ret (block_r (then_r (then_r (block_r (then_r (post_r _ (res1 (v := (.bool false)) rfl) ?_))))))))))))
   exact ⟨(retv1 (congrArg Value.bool (show false = (decide (a = b)) from by first | exact same_len (by assumption) | exact same_no (i := i) (by omega) (by omega) (by assumption) | exact same_end (i := i) (by omega) (by omega) he))), hst.bare⟩
  have c61 : ¬ ((i : Int) < (a.length : Int)) := of_decide_eq_false b7
  refine cE_cond false (congrArg Value.bool b7) (fun h => by cases h) (fun _ => ?_)
  refine cE_exit (then_x (then_x (block_hit (then_n (cE_seq (cE_region rfl (s_cons (op_assign (.bool true) rfl (s_nil (then_n (cE_ret (post_r _ (res1 (v := (.bool true)) rfl) ?_))))))))))))
  exact ⟨(retv1 (congrArg Value.bool (show true = (decide (a = b)) from by first | exact same_len (by assumption) | exact same_no (i := i) (by omega) (by omega) (by assumption) | exact same_end (i := i) (by omega) (by omega) he))), hst.bare⟩
 have c62 : ¬ ((a.length : Int) = (b.length : Int)) := of_decide_eq_false b1
 refine cE_cond true (congrArg Value.bool (congrArg (! ·) b1)) (fun _ => ?_) (fun h => by cases h)
 refine cE_seq (cE_region rfl (s_cons (op_assign (.bool false) rfl (s_nil (then_n (cE_ret (then_r (post_r _ (res1 (v := (.bool false)) rfl) ?_))))))))
 exact ⟨(retv1 (congrArg Value.bool (show false = (decide (a = b)) from by first | exact same_len (by assumption) | exact same_no (i := i) (by omega) (by omega) (by assumption) | exact same_end (i := i) (by omega) (by omega) he))), hst.bare⟩

set_option maxRecDepth 8000 in
theorem c_SameAggs (w0 : World) (v_a : Value) (a : List Agg) (h_a : Sl w0 aggE v_a a) (v_b : Value) (b : List Agg) (h_b : Sl w0 aggE v_b b) :
  Calls Tryd.prog 42 #[v_a, v_b] w0 fun e w' => e = .returned (.bool (decide (a = b))) ∧ St w0 w' [] := by
 refine calls_E (n := 26) (ts := [4]) Tryd.func42 rfl rfl rfl (by simp) ?_
 have hst := St.start w0
 refine cE_seq (cE_region rfl (s_cons (op_assign (.bool false) rfl (s_nil (then_n (cE_seq (cE_seq (cE_region rfl (s_cons (op_move v_a rfl (s_cons (op_len (E := aggE) (xs := a) Tryd.underlying24 rfl h_a (s_cons (op_move v_b rfl (s_cons (op_len (E := aggE) (xs := b) Tryd.underlying24 rfl h_b (s_cons (op_neq (k := .i64) (a := (a.length : Int)) (b := (b.length : Int)) rfl rfl (s_nil ?_)))))))))))))))))))
 refine then_n ?_
 rcases Bool.eq_false_or_eq_true (decide ((a.length : Int) = (b.length : Int))) with b63 | b63
 ·have c64 : (a.length : Int) = (b.length : Int) := of_decide_eq_true b63
  refine cE_cond false (congrArg Value.bool (congrArg (! ·) b63)) (fun h => by cases h) (fun _ => ?_)
  refine cE_skip (then_n (cE_seq (cE_seq (cE_region rfl (s_cons (op_assign (iV 0) rfl (s_nil (then_n (cE_block (cE_loop (fun (m : Nat) (ρ : Env) (w : World) => ∃ (i : Nat), m = a.length - i ∧ ρ 0 = v_a ∧ ρ 1 = v_b ∧ ρ 5 = (iV (i : Int)) ∧ St w0 w [] ∧ (i ≤ a.length) ∧ (a.take i = b.take i)) id _ ⟨0, rfl, rfl, rfl, (congrArg iV (show 0 = _ from by omega)), hst, (by omega), (by first | rfl | exact same_step he (by omega) (by omega) (by assumption))⟩ ?_))))))))))
  rintro m66 ρ67 w68 ⟨i, hm66, q65_0, q65_1, q65_5, hst, hi, he⟩
  have hlen := h_a.len
  refine cE_seq (cE_seq (cE_region rfl (s_cons (op_move (iV (i : Int)) q65_5 (s_cons (op_move v_a q65_0 (s_cons (op_len (E := aggE) (xs := a) Tryd.underlying24 rfl h_a (s_cons (op_lss (k := .i64) (a := (i : Int)) (b := (a.length : Int)) rfl rfl (s_nil (then_n ?_))))))))))))
  rcases Bool.eq_false_or_eq_true (decide ((i : Int) < (a.length : Int))) with b69 | b69
  ·have c70 : (i : Int) < (a.length : Int) := of_decide_eq_true b69
   refine cE_cond true (congrArg Value.bool b69) (fun _ => ?_) (fun h => by cases h)
   refine cE_skip (then_n (cE_seq (cE_block (cE_seq (cE_regionL hst [[(0, none)], [(5, none)], [(17, some 0), (18, some 1)], [(19, some 2)], [(1, none)], [(5, none)], [(21, some 4), (22, some 5)], [(23, some 6)], [(20, some 3), (24, some 7)]] [(rEq v_a), (rEq (iV (i : Int))), (rPt (aggC (a[i]'(by omega)))), (rEq (.agg (aggA (a[i]'(by omega))))), (rEq v_b), (rEq (iV (i : Int))), (rPt (aggC (b[i]'(by omega)))), (rEq (.agg (aggA (b[i]'(by omega))))), (rEq (.bool (!decide ((a[i]'(by omega)) = (b[i]'(by omega))))))] (by kernel_rfl) rfl (by kernel_rfl) ⟨sEq, sEq, sPt, sEq, sEq, sEq, sPt, sEq, sEq, trivial⟩ ⟨?_, ?_, ?_, ?_, ?_, ?_, ?_, ?_, ?_, trivial⟩ ?_)))))
   ·rintro ρ77 w78 hj79 ⟨f0, _⟩
    have hst := hj79.2
    exact go_plain (op_move v_a (f0.trans q65_0) (kS hj79 rfl))
   ·rintro ρ80 w81 hj82 ⟨f5, _⟩
    have hst := hj82.2
    exact go_plain (op_move (iV (i : Int)) (f5.trans q65_5) (kS hj82 rfl))
   ·rintro ρ83 w84 hj85 ⟨f17, f18, _⟩
    have hst := hj85.2
    refine go_plain (op_indexAddrN (E := aggE) (xs := a) i Tryd.underlying24 Tryd.sizeOf45 f17 h_a f18 (by omega) (by omega) (fun a86 o87 p88 => ?_))
    exact kS hj85 ⟨_, _, rfl, (p88.below hst.below)⟩
   ·rintro ρ89 w90 hj91 ⟨f19, _⟩
    have hst := hj91.2
    obtain ⟨a92, o93, e94, p95⟩ := f19
    exact go_plain (op_loadN (cs := (aggC (a[i]'(by omega)))) Tryd.isAgg45 Tryd.sizeOf45 e94 (Pt.of p95 rfl) rfl (kS hj91 rfl))
   ·rintro ρ96 w97 hj98 ⟨f1, _⟩
    have hst := hj98.2
    exact go_plain (op_move v_b (f1.trans q65_1) (kS hj98 rfl))
   ·rintro ρ99 w100 hj101 ⟨f5, _⟩
    have hst := hj101.2
    exact go_plain (op_move (iV (i : Int)) (f5.trans q65_5) (kS hj101 rfl))
   ·rintro ρ102 w103 hj104 ⟨f21, f22, _⟩
    have hst := hj104.2
    refine go_plain (op_indexAddrN (E := aggE) (xs := b) i Tryd.underlying24 Tryd.sizeOf45 f21 h_b f22 (by omega) (by omega) (fun a105 o106 p107 => ?_))
    exact kS hj104 ⟨_, _, rfl, (p107.below hst.below)⟩
   ·rintro ρ108 w109 hj110 ⟨f23, _⟩
    have hst := hj110.2
    obtain ⟨a111, o112, e113, p114⟩ := f23
    exact go_plain (op_loadN (cs := (aggC (b[i]'(by omega)))) Tryd.isAgg45 Tryd.sizeOf45 e113 (Pt.of p114 rfl) rfl (kS hj110 rfl))
   ·rintro ρ115 w116 hj117 ⟨f20, f24, _⟩
    have hst := hj117.2
    exact go_plain (op_neqG Tryd.eqGuardType45 (Tryd.eqAgg (a[i]'(by omega)) (b[i]'(by omega)) _) f20 f24 (kS hj117 rfl))
   intro ρ118 w119 hbw119 hst hRw119 hkw119
   have uw119_0 : ρ118 0 = v_a := (hkw119 0 rfl).trans q65_0
   have uw119_1 : ρ118 1 = v_b := (hkw119 1 rfl).trans q65_1
   have uw119_5 : ρ118 5 = (iV (i : Int)) := (hkw119 5 rfl).trans q65_5
   have uw119_11 : ρ118 11 = (iV (i : Int)) := (hkw119 11 rfl).trans rfl
   have uw119_12 : ρ118 12 = v_a := (hkw119 12 rfl).trans rfl
   have uw119_13 : ρ118 13 = (iV (a.length : Int)) := (hkw119 13 rfl).trans rfl
   have uw119_14 : ρ118 14 = (.bool (decide ((i : Int) < (a.length : Int)))) := (hkw119 14 rfl).trans rfl
   have uw119_25 : ρ118 25 = (.bool (!decide ((a[i]'(by omega)) = (b[i]'(by omega))))) := hRw119 8 25 rfl
   refine then_n ?_
   rcases Bool.eq_false_or_eq_true (decide ((a[i]'(by omega)) = (b[i]'(by omega)))) with b120 | b120
   ·have c121 : (a[i]'(by omega)) = (b[i]'(by omega)) := of_decide_eq_true b120
    refine cE_cond false (uw119_25.trans (congrArg Value.bool (congrArg (! ·) b120))) (fun h => by cases h) (fun _ => ?_)
    refine cE_skip (block_n (then_n (cE_region rfl (s_cons (op_move (iV (i : Int)) uw119_5 (s_cons (op_add (k := .i64) (a := (i : Int)) (b := 1) ((i : Int) + 1) rfl rfl (xi64 (by omega) (by omega)) (s_cons (op_assign (iV ((i : Int) + 1)) rfl (s_nil (then_n ?_)))))))))))
    exact ⟨_, ⟨(i + 1), rfl, uw119_0, uw119_1, (congrArg iV (show ((i : Int) + 1) = _ from by omega)), hst, (by omega), (by first | rfl | exact same_step he (by omega) (by omega) (by assumption))⟩, (by simp only [id]; omega)⟩
   have c122 : ¬ ((a[i]'(by omega)) = (b[i]'(by omega))) := of_decide_eq_false b120
   refine cE_cond true (uw119_25.trans (congrArg Value.bool (congrArg (! ·) b120))) (fun _ => ?_) (fun h => by cases h)
   refine cE_seq (cE_region rfl (s_cons (op_assign (.bool false) rfl (s_nil (then_n (cE_ret (block_r (then_r (then_r (block_r (then_r (post_r _ (res1 (v := (.bool false)) rfl) ?_))))))))))))
   exact ⟨(retv1 (congrArg Value.bool (show false = (decide (a = b)) from by first | exact same_len (by assumption) | exact same_no (i := i) (by omega) (by omega) (by assumption) | exact same_end (i := i) (by omega) (by omega) he))), hst.bare⟩
  have c123 : ¬ ((i : Int) < (a.length : Int)) := of_decide_eq_false b69
  refine cE_cond false (congrArg Value.bool b69) (fun h => by cases h) (fun _ => ?_)
  refine cE_exit (then_x (then_x (block_hit (then_n (cE_seq (cE_region rfl (s_cons (op_assign (.bool true) rfl (s_nil (then_n (cE_ret (post_r _ (res1 (v := (.bool true)) rfl) ?_))))))))))))
  exact ⟨(retv1 (congrArg Value.bool (show true = (decide (a = b)) from by first | exact same_len (by assumption) | exact same_no (i := i) (by omega) (by omega) (by assumption) | exact same_end (i := i) (by omega) (by omega) he))), hst.bare⟩
 have c124 : ¬ ((a.length : Int) = (b.length : Int)) := of_decide_eq_false b63
 refine cE_cond true (congrArg Value.bool (congrArg (! ·) b63)) (fun _ => ?_) (fun h => by cases h)
 refine cE_seq (cE_region rfl (s_cons (op_assign (.bool false) rfl (s_nil (then_n (cE_ret (then_r (post_r _ (res1 (v := (.bool false)) rfl) ?_))))))))
 exact ⟨(retv1 (congrArg Value.bool (show false = (decide (a = b)) from by first | exact same_len (by assumption) | exact same_no (i := i) (by omega) (by omega) (by assumption) | exact same_end (i := i) (by omega) (by omega) he))), hst.bare⟩

end Go.Proofs.YtgibfidebdgffaaDoor
