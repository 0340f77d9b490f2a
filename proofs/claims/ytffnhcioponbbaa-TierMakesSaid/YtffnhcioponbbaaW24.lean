/- the reference: twinkeepref1.Aligned -/
import Derived.Test.YtffnhcioponbbaaTR
import Derived.Test.YtffnhcioponbbaaT
import Derived.Test.YtffnhcioponbbaaW20
import Derived.Test.YtffnhcioponbbaaW21
import Derived.Test.YtffnhcioponbbaaW22
import Derived.Test.YtffnhcioponbbaaW23
namespace Go.Proofs.Ytffnhcioponbbaa
open Go.RowKit

theorem c_rAligned (w0 : World) (v_l : Value) (l : List Agg) (h_l : Sl w0 aggE v_l l) (k : Int) (hl : ∀ a ∈ l, a.ok) (k0 : -9223372036854775808 ≤ k) (k1 : k ≤ 9223372036854775807) :
    Calls Try.prog 33 #[v_l, (.int .i64 k)] w0 fun e w' => e = .returned (.bool (alignedA l k)) ∧ St w0 w' [] := by
  refine calls_E (n := 57) (ts := [4]) Try.func33 rfl rfl rfl (by simp) ?_
  have hst := St.start w0
  refine cE_seq ?_
  refine cE_region rfl ?_
  refine s_cons (op_assign (.bool false) rfl ?_)
  refine s_nil ?_
  refine then_n ?_
  refine cE_seq ?_
  refine cE_seq ?_
  refine cE_region rfl ?_
  refine s_cons (op_move (.int .i64 k) rfl ?_)
  refine s_cons (op_lss (k := .i64) (a := k) (b := 1) rfl rfl ?_)
  refine s_cons (op_move (.bool (decide (k < 1))) rfl ?_)
  rcases Bool.eq_false_or_eq_true (decide (k < 1)) with b1 | b1
  · have c2 : k < 1 := of_decide_eq_true b1
    refine s_no 8 rfl (congrArg Value.bool b1) ?_
    refine s_no 8 rfl (congrArg Value.bool b1) ?_
    refine s_cons (op_pick_t (.bool true) (congrArg Value.bool b1) rfl ?_)
    refine s_nil ?_
    refine then_n ?_
    refine cE_cond true rfl (fun _ => ?_) (fun h => by cases h)
    refine cE_seq ?_
    refine cE_region rfl ?_
    refine s_cons (op_assign (.bool false) rfl ?_)
    refine s_nil ?_
    refine then_n ?_
    refine cE_ret ?_
    refine then_r ?_
    refine post_r _ (res1 (v := (.bool false)) rfl) ?_
    exact ⟨(retv1 (congrArg Value.bool (show false = (alignedA l k) from by first | (unfold alignedA; rw [coarse_no (by omega)]; rfl) | exact (hI.trans (ra_no (by omega) (Or.inl (by assumption)))).symm | exact (hI.trans (ra_no (by omega) (Or.inr (Or.inl (by assumption))))).symm | exact (hI.trans (ra_no (by omega) (Or.inr (Or.inr (by rw [lastF_pred (by omega) (by omega)]; assumption))))).symm | exact (hI.trans (aligns_end (by omega))).symm))), hst.bare⟩
  · have c3 : ¬ (k < 1) := of_decide_eq_false b1
    refine s_yes 8 rfl (congrArg Value.bool b1) (op_move (.int .i64 k) rfl ?_)
    refine s_yes 8 rfl (congrArg Value.bool b1) (op_gtr (k := .i64) (a := k) (b := 3) rfl rfl ?_)
    refine s_cons (op_pick_f (.bool (decide (3 < k))) (congrArg Value.bool b1) rfl ?_)
    refine s_nil ?_
    refine then_n ?_
    rcases Bool.eq_false_or_eq_true (decide (3 < k)) with b4 | b4
    · have c5 : 3 < k := of_decide_eq_true b4
      refine cE_cond true (congrArg Value.bool b4) (fun _ => ?_) (fun h => by cases h)
      refine cE_seq ?_
      refine cE_region rfl ?_
      refine s_cons (op_assign (.bool false) rfl ?_)
      refine s_nil ?_
      refine then_n ?_
      refine cE_ret ?_
      refine then_r ?_
      refine post_r _ (res1 (v := (.bool false)) rfl) ?_
      exact ⟨(retv1 (congrArg Value.bool (show false = (alignedA l k) from by first | (unfold alignedA; rw [coarse_no (by omega)]; rfl) | exact (hI.trans (ra_no (by omega) (Or.inl (by assumption)))).symm | exact (hI.trans (ra_no (by omega) (Or.inr (Or.inl (by assumption))))).symm | exact (hI.trans (ra_no (by omega) (Or.inr (Or.inr (by rw [lastF_pred (by omega) (by omega)]; assumption))))).symm | exact (hI.trans (aligns_end (by omega))).symm))), hst.bare⟩
    · have c6 : ¬ (3 < k) := of_decide_eq_false b4
      refine cE_cond false (congrArg Value.bool b4) (fun h => by cases h) (fun _ => ?_)
      refine cE_skip ?_
      refine then_n ?_
      refine cE_seq ?_
      refine cE_seq ?_
      refine cE_region rfl ?_
      refine s_cons (op_assign (.int .i64 0) rfl ?_)
      refine s_nil ?_
      refine then_n ?_
      refine cE_block ?_
      refine cE_loop (fun (m : Nat) (ρ : Env) (w : World) => ∃ (i : Nat), m = l.length - i ∧ ρ 0 = v_l ∧ ρ 1 = (.int .i64 k) ∧ ρ 6 = (.int .i64 k) ∧ ρ 7 = (.bool (decide (k < 1))) ∧ ρ 8 = (.bool (decide (k < 1))) ∧ ρ 9 = (.int .i64 k) ∧ ρ 10 = (.bool (decide (3 < k))) ∧ ρ 11 = (.bool (decide (3 < k))) ∧ ρ 5 = (.int .i64 (i : Int)) ∧ St w0 w [] ∧ i ≤ l.length ∧ alignedA l k = alignsFrom k (lastF l i) (l.drop i)) id _ ⟨0, rfl, rfl, rfl, rfl, rfl, rfl, rfl, rfl, rfl, (congrArg (Value.int .i64) (show 0 = _ from by omega)), hst, (by omega), (by first | (unfold alignedA; rw [coarse_yes (by omega) (by omega)]; rfl) | exact hI.trans (ra_go (by omega) (by assumption) (by assumption) (by first | (left; omega) | (right; rw [lastF_pred (by omega) (by omega)]; assumption))))⟩ ?_
      rintro m8 ρ9 w10 ⟨i, hm8, q7_0, q7_1, q7_6, q7_7, q7_8, q7_9, q7_10, q7_11, q7_5, hst, hi, hI⟩
      have hlen := h_l.len
      have hco := coarse_yes (k := k) (by omega) (by omega)
      refine cE_seq ?_
      refine cE_seq ?_
      refine cE_region rfl ?_
      refine s_cons (op_move (.int .i64 (i : Int)) q7_5 ?_)
      refine s_cons (op_move v_l q7_0 ?_)
      refine s_cons (op_len (E := aggE) (xs := l) Try.underlying41 rfl h_l ?_)
      refine s_cons (op_lss (k := .i64) (a := (i : Int)) (b := (l.length : Int)) rfl rfl ?_)
      refine s_nil ?_
      refine then_n ?_
      rcases Bool.eq_false_or_eq_true (decide ((i : Int) < (l.length : Int))) with b11 | b11
      · have c12 : (i : Int) < (l.length : Int) := of_decide_eq_true b11
        refine cE_cond true (congrArg Value.bool b11) (fun _ => ?_) (fun h => by cases h)
        refine cE_skip ?_
        refine then_n ?_
        refine cE_seq ?_
        refine cE_block ?_
        refine cE_seq ?_
        rcases Bool.eq_false_or_eq_true (mayA (l[i]'(by omega))) with b17 | b17
        · rcases Bool.eq_false_or_eq_true (decide ((floorA ((l[i]'(by omega)).From) k) = ((l[i]'(by omega)).From))) with b29 | b29
          · have c30 : (floorA ((l[i]'(by omega)).From) k) = ((l[i]'(by omega)).From) := of_decide_eq_true b29
            rcases Bool.eq_false_or_eq_true (decide (0 < (i : Int))) with b42 | b42
            · have c43 : 0 < (i : Int) := of_decide_eq_true b42
              refine cE_regionL hst [[(0, none)], [(5, none)], [(18, some 0), (19, some 1)], [(20, some 2)], [(21, some 3)], [(22, some 4)], [(23, some 5)], [(0, none), (24, some 6)], [(5, none), (24, some 6)], [(25, some 7), (26, some 8), (24, some 6)], [(27, some 9), (24, some 6)], [(28, some 10), (24, some 6)], [(1, none), (24, some 6)], [(29, some 11), (30, some 12), (24, some 6)], [(0, none), (24, some 6)], [(5, none), (24, some 6)], [(32, some 14), (33, some 15), (24, some 6)], [(34, some 16), (24, some 6)], [(35, some 17), (24, some 6)], [(31, some 13), (36, some 18), (24, some 6)], [(24, some 6), (37, some 19)], [(38, some 20)], [(5, none), (39, some 21)], [(40, some 22), (39, some 21)], [(41, some 23), (39, some 21)], [(0, none), (42, some 24)], [(5, none), (42, some 24)], [(43, some 25), (44, some 26), (42, some 24)], [(45, some 27), (42, some 24)], [(46, some 28), (42, some 24)], [(0, none), (42, some 24)], [(5, none), (42, some 24)], [(49, some 31), (42, some 24)], [(48, some 30), (50, some 32), (42, some 24)], [(51, some 33), (42, some 24)], [(52, some 34), (42, some 24)], [(47, some 29), (53, some 35), (42, some 24)], [(42, some 24), (54, some 36), (39, some 21)], [(39, some 21), (55, some 37)]] [(rEq v_l), (rEq (.int .i64 (i : Int))), (rPt [(.int .i64 ((l[i]'(by omega)).From)), (.int .i64 ((l[i]'(by omega)).Count)), (.int .i64 ((l[i]'(by omega)).Sum)), (.int .i64 ((l[i]'(by omega)).Min)), (.int .i64 ((l[i]'(by omega)).Max)), (.int .i64 ((l[i]'(by omega)).First)), (.int .i64 ((l[i]'(by omega)).Last))]), (rEq (.agg #[(.int .i64 ((l[i]'(by omega)).From)), (.int .i64 ((l[i]'(by omega)).Count)), (.int .i64 ((l[i]'(by omega)).Sum)), (.int .i64 ((l[i]'(by omega)).Min)), (.int .i64 ((l[i]'(by omega)).Max)), (.int .i64 ((l[i]'(by omega)).First)), (.int .i64 ((l[i]'(by omega)).Last))])), (rEq (.bool (mayA (l[i]'(by omega))))), (rEq (.bool (!(mayA (l[i]'(by omega)))))), (rEq (.bool (!(mayA (l[i]'(by omega)))))), (rEq v_l), (rEq (.int .i64 (i : Int))), (rPt [(.int .i64 ((l[i]'(by omega)).From)), (.int .i64 ((l[i]'(by omega)).Count)), (.int .i64 ((l[i]'(by omega)).Sum)), (.int .i64 ((l[i]'(by omega)).Min)), (.int .i64 ((l[i]'(by omega)).Max)), (.int .i64 ((l[i]'(by omega)).First)), (.int .i64 ((l[i]'(by omega)).Last))]), (rPt [(.int .i64 ((l[i]'(by omega)).From)), (.int .i64 ((l[i]'(by omega)).Count)), (.int .i64 ((l[i]'(by omega)).Sum)), (.int .i64 ((l[i]'(by omega)).Min)), (.int .i64 ((l[i]'(by omega)).Max)), (.int .i64 ((l[i]'(by omega)).First)), (.int .i64 ((l[i]'(by omega)).Last))]), (rEq (.int .i64 ((l[i]'(by omega)).From))), (rEq (.int .i64 k)), (rEq (.int .i64 (floorA ((l[i]'(by omega)).From) k))), (rEq v_l), (rEq (.int .i64 (i : Int))), (rPt [(.int .i64 ((l[i]'(by omega)).From)), (.int .i64 ((l[i]'(by omega)).Count)), (.int .i64 ((l[i]'(by omega)).Sum)), (.int .i64 ((l[i]'(by omega)).Min)), (.int .i64 ((l[i]'(by omega)).Max)), (.int .i64 ((l[i]'(by omega)).First)), (.int .i64 ((l[i]'(by omega)).Last))]), (rPt [(.int .i64 ((l[i]'(by omega)).From)), (.int .i64 ((l[i]'(by omega)).Count)), (.int .i64 ((l[i]'(by omega)).Sum)), (.int .i64 ((l[i]'(by omega)).Min)), (.int .i64 ((l[i]'(by omega)).Max)), (.int .i64 ((l[i]'(by omega)).First)), (.int .i64 ((l[i]'(by omega)).Last))]), (rEq (.int .i64 ((l[i]'(by omega)).From))), (rEq (.bool (!decide ((floorA ((l[i]'(by omega)).From) k) = ((l[i]'(by omega)).From))))), (rEq (.bool (!decide ((floorA ((l[i]'(by omega)).From) k) = ((l[i]'(by omega)).From))))), (rEq (.bool (!decide ((floorA ((l[i]'(by omega)).From) k) = ((l[i]'(by omega)).From))))), (rEq (.int .i64 (i : Int))), (rEq (.bool (decide (0 < (i : Int))))), (rEq (.bool (decide (0 < (i : Int))))), (rEq v_l), (rEq (.int .i64 (i : Int))), (rPt [(.int .i64 ((l[i]'(by omega)).From)), (.int .i64 ((l[i]'(by omega)).Count)), (.int .i64 ((l[i]'(by omega)).Sum)), (.int .i64 ((l[i]'(by omega)).Min)), (.int .i64 ((l[i]'(by omega)).Max)), (.int .i64 ((l[i]'(by omega)).First)), (.int .i64 ((l[i]'(by omega)).Last))]), (rPt [(.int .i64 ((l[i]'(by omega)).From)), (.int .i64 ((l[i]'(by omega)).Count)), (.int .i64 ((l[i]'(by omega)).Sum)), (.int .i64 ((l[i]'(by omega)).Min)), (.int .i64 ((l[i]'(by omega)).Max)), (.int .i64 ((l[i]'(by omega)).First)), (.int .i64 ((l[i]'(by omega)).Last))]), (rEq (.int .i64 ((l[i]'(by omega)).From))), (rEq v_l), (rEq (.int .i64 (i : Int))), (rEq (.int .i64 ((i : Int) - 1))), (rPt [(.int .i64 ((l[(i - 1)]'(by omega)).From)), (.int .i64 ((l[(i - 1)]'(by omega)).Count)), (.int .i64 ((l[(i - 1)]'(by omega)).Sum)), (.int .i64 ((l[(i - 1)]'(by omega)).Min)), (.int .i64 ((l[(i - 1)]'(by omega)).Max)), (.int .i64 ((l[(i - 1)]'(by omega)).First)), (.int .i64 ((l[(i - 1)]'(by omega)).Last))]), (rPt [(.int .i64 ((l[(i - 1)]'(by omega)).From)), (.int .i64 ((l[(i - 1)]'(by omega)).Count)), (.int .i64 ((l[(i - 1)]'(by omega)).Sum)), (.int .i64 ((l[(i - 1)]'(by omega)).Min)), (.int .i64 ((l[(i - 1)]'(by omega)).Max)), (.int .i64 ((l[(i - 1)]'(by omega)).First)), (.int .i64 ((l[(i - 1)]'(by omega)).Last))]), (rEq (.int .i64 ((l[(i - 1)]'(by omega)).From))), (rEq (.bool (decide (((l[i]'(by omega)).From) ≤ ((l[(i - 1)]'(by omega)).From))))), (rEq (.bool (decide (((l[i]'(by omega)).From) ≤ ((l[(i - 1)]'(by omega)).From))))), (rEq (.bool (decide (((l[i]'(by omega)).From) ≤ ((l[(i - 1)]'(by omega)).From)))))] (by kernel_rfl) rfl (by kernel_rfl) ⟨sEq, sEq, sPt, sEq, sEq, sEq, sEq, sEq, sEq, sPt, sPt, sEq, sEq, sEq, sEq, sEq, sPt, sPt, sEq, sEq, sEq, sEq, sEq, sEq, sEq, sEq, sEq, sPt, sPt, sEq, sEq, sEq, sEq, sPt, sPt, sEq, sEq, sEq, sEq, trivial⟩ ⟨?_, ?_, ?_, ?_, ?_, ?_, ?_, ?_, ?_, ?_, ?_, ?_, ?_, ?_, ?_, ?_, ?_, ?_, ?_, ?_, ?_, ?_, ?_, ?_, ?_, ?_, ?_, ?_, ?_, ?_, ?_, ?_, ?_, ?_, ?_, ?_, ?_, ?_, ?_, trivial⟩ ?_
              · rintro ρ61 w62 hj63 ⟨f0, _⟩
                have hst := hj63.2
                exact go_plain (op_move v_l (f0.trans q7_0) (kS hj63 rfl))
              · rintro ρ64 w65 hj66 ⟨f5, _⟩
                have hst := hj66.2
                exact go_plain (op_move (.int .i64 (i : Int)) (f5.trans q7_5) (kS hj66 rfl))
              · rintro ρ67 w68 hj69 ⟨f18, f19, _⟩
                have hst := hj69.2
                refine go_plain (op_indexAddrN (E := aggE) (xs := l) i Try.underlying41 Try.sizeOf26 f18 h_l f19 (by omega) (by omega) (fun a70 o71 p72 => ?_))
                exact kS hj69 ⟨_, _, rfl, (p72.below hst.below)⟩
              · rintro ρ73 w74 hj75 ⟨f20, _⟩
                have hst := hj75.2
                obtain ⟨a76, o77, e78, p79⟩ := f20
                exact go_plain (op_loadN (cs := [(.int .i64 ((l[i]'(by omega)).From)), (.int .i64 ((l[i]'(by omega)).Count)), (.int .i64 ((l[i]'(by omega)).Sum)), (.int .i64 ((l[i]'(by omega)).Min)), (.int .i64 ((l[i]'(by omega)).Max)), (.int .i64 ((l[i]'(by omega)).First)), (.int .i64 ((l[i]'(by omega)).Last))]) Try.isAgg26 Try.sizeOf26 e78 (Pt.of p79 rfl) rfl (kS hj75 rfl))
              · rintro ρ80 w81 hj82 ⟨f21, _⟩
                have hst := hj82.2
                refine go_plain (op_call Try.call38 (evs_cons (v := (.agg #[(.int .i64 ((l[i]'(by omega)).From)), (.int .i64 ((l[i]'(by omega)).Count)), (.int .i64 ((l[i]'(by omega)).Sum)), (.int .i64 ((l[i]'(by omega)).Min)), (.int .i64 ((l[i]'(by omega)).Max)), (.int .i64 ((l[i]'(by omega)).First)), (.int .i64 ((l[i]'(by omega)).Last))])) f21 evs_nil) (c_rMay (w0 := w81) (a := (l[i]'(by omega)))) ?_)
                rintro _ w83 ⟨rfl, hcall⟩
                refine ⟨_, rfl, ?_⟩
                exact kD hj82 hcall rfl
              · rintro ρ84 w85 hj86 ⟨f22, _⟩
                have hst := hj86.2
                exact go_plain (op_not (b := mayA (l[i]'(by omega))) f22 (kS hj86 rfl))
              · rintro ρ87 w88 hj89 ⟨f23, _⟩
                have hst := hj89.2
                exact go_plain (op_move (.bool (!(mayA (l[i]'(by omega))))) f23 (kS hj89 rfl))
              · rintro ρ90 w91 hj92 ⟨f0, f24, _⟩
                have hst := hj92.2
                exact go_yes 24 rfl (f24.trans (congrArg Value.bool (congrArg (! ·) b17))) (op_move v_l (f0.trans q7_0) (kS hj92 rfl))
              · rintro ρ93 w94 hj95 ⟨f5, f24, _⟩
                have hst := hj95.2
                exact go_yes 24 rfl (f24.trans (congrArg Value.bool (congrArg (! ·) b17))) (op_move (.int .i64 (i : Int)) (f5.trans q7_5) (kS hj95 rfl))
              · rintro ρ96 w97 hj98 ⟨f25, f26, f24, _⟩
                have hst := hj98.2
                refine go_yes 24 rfl (f24.trans (congrArg Value.bool (congrArg (! ·) b17))) (op_indexAddrN (E := aggE) (xs := l) i Try.underlying41 Try.sizeOf26 f25 h_l f26 (by omega) (by omega) (fun a99 o100 p101 => ?_))
                exact kS hj98 ⟨_, _, rfl, (p101.below hst.below)⟩
              · rintro ρ102 w103 hj104 ⟨f27, f24, _⟩
                have hst := hj104.2
                obtain ⟨a105, o106, e107, p108⟩ := f27
                exact go_yes 24 rfl (f24.trans (congrArg Value.bool (congrArg (! ·) b17))) (op_fieldAddr (s := 0) Try.underlying26 rfl rfl Try.sizeOf2 e107 (kS hj104 ⟨_, _, rfl, p108⟩))
              · rintro ρ109 w110 hj111 ⟨f28, f24, _⟩
                have hst := hj111.2
                obtain ⟨a112, o113, e114, p115⟩ := f28
                exact go_yes 24 rfl (f24.trans (congrArg Value.bool (congrArg (! ·) b17))) (op_load1 (u := (.int .i64 ((l[i]'(by omega)).From))) Try.isAgg2 e114 p115 (kS hj111 rfl))
              · rintro ρ116 w117 hj118 ⟨f1, f24, _⟩
                have hst := hj118.2
                exact go_yes 24 rfl (f24.trans (congrArg Value.bool (congrArg (! ·) b17))) (op_move (.int .i64 k) (f1.trans q7_1) (kS hj118 rfl))
              · rintro ρ119 w120 hj121 ⟨f29, f30, f24, _⟩
                have hst := hj121.2
                refine go_yes 24 rfl (f24.trans (congrArg Value.bool (congrArg (! ·) b17))) (op_call Try.call31 (evs_cons (v := (.int .i64 ((l[i]'(by omega)).From))) f29 (evs_cons (v := (.int .i64 k)) f30 evs_nil)) (c_rFloor (w0 := w120) (t := (l[i]'(by omega)).From) (k := k) (t0 := (hl _ (List.getElem_mem _)).1.1) (k0 := (by omega)) (t1 := (hl _ (List.getElem_mem _)).1.2) (k1 := (by omega))) ?_)
                rintro _ w122 ⟨rfl, hcall⟩
                refine ⟨_, rfl, ?_⟩
                exact kD hj121 hcall rfl
              · rintro ρ123 w124 hj125 ⟨f0, f24, _⟩
                have hst := hj125.2
                exact go_yes 24 rfl (f24.trans (congrArg Value.bool (congrArg (! ·) b17))) (op_move v_l (f0.trans q7_0) (kS hj125 rfl))
              · rintro ρ126 w127 hj128 ⟨f5, f24, _⟩
                have hst := hj128.2
                exact go_yes 24 rfl (f24.trans (congrArg Value.bool (congrArg (! ·) b17))) (op_move (.int .i64 (i : Int)) (f5.trans q7_5) (kS hj128 rfl))
              · rintro ρ129 w130 hj131 ⟨f32, f33, f24, _⟩
                have hst := hj131.2
                refine go_yes 24 rfl (f24.trans (congrArg Value.bool (congrArg (! ·) b17))) (op_indexAddrN (E := aggE) (xs := l) i Try.underlying41 Try.sizeOf26 f32 h_l f33 (by omega) (by omega) (fun a132 o133 p134 => ?_))
                exact kS hj131 ⟨_, _, rfl, (p134.below hst.below)⟩
              · rintro ρ135 w136 hj137 ⟨f34, f24, _⟩
                have hst := hj137.2
                obtain ⟨a138, o139, e140, p141⟩ := f34
                exact go_yes 24 rfl (f24.trans (congrArg Value.bool (congrArg (! ·) b17))) (op_fieldAddr (s := 0) Try.underlying26 rfl rfl Try.sizeOf2 e140 (kS hj137 ⟨_, _, rfl, p141⟩))
              · rintro ρ142 w143 hj144 ⟨f35, f24, _⟩
                have hst := hj144.2
                obtain ⟨a145, o146, e147, p148⟩ := f35
                exact go_yes 24 rfl (f24.trans (congrArg Value.bool (congrArg (! ·) b17))) (op_load1 (u := (.int .i64 ((l[i]'(by omega)).From))) Try.isAgg2 e147 p148 (kS hj144 rfl))
              · rintro ρ149 w150 hj151 ⟨f31, f36, f24, _⟩
                have hst := hj151.2
                exact go_yes 24 rfl (f24.trans (congrArg Value.bool (congrArg (! ·) b17))) (op_neq (k := .i64) (a := (floorA ((l[i]'(by omega)).From) k)) (b := (l[i]'(by omega)).From) f31 f36 (kS hj151 rfl))
              · rintro ρ152 w153 hj154 ⟨f24, f37, _⟩
                have hst := hj154.2
                exact go_plain (op_pick_f (.bool (!decide ((floorA ((l[i]'(by omega)).From) k) = ((l[i]'(by omega)).From)))) (f24.trans (congrArg Value.bool (congrArg (! ·) b17))) f37 (kS hj154 rfl))
              · rintro ρ155 w156 hj157 ⟨f38, _⟩
                have hst := hj157.2
                exact go_plain (op_move (.bool (!decide ((floorA ((l[i]'(by omega)).From) k) = ((l[i]'(by omega)).From)))) f38 (kS hj157 rfl))
              · rintro ρ158 w159 hj160 ⟨f5, f39, _⟩
                have hst := hj160.2
                exact go_yes 39 rfl (f39.trans (congrArg Value.bool (congrArg (! ·) b29))) (op_move (.int .i64 (i : Int)) (f5.trans q7_5) (kS hj160 rfl))
              · rintro ρ161 w162 hj163 ⟨f40, f39, _⟩
                have hst := hj163.2
                exact go_yes 39 rfl (f39.trans (congrArg Value.bool (congrArg (! ·) b29))) (op_gtr (k := .i64) (a := (i : Int)) (b := 0) f40 rfl (kS hj163 rfl))
              · rintro ρ164 w165 hj166 ⟨f41, f39, _⟩
                have hst := hj166.2
                exact go_yes 39 rfl (f39.trans (congrArg Value.bool (congrArg (! ·) b29))) (op_move (.bool (decide (0 < (i : Int)))) f41 (kS hj166 rfl))
              · rintro ρ167 w168 hj169 ⟨f0, f42, _⟩
                have hst := hj169.2
                exact go_yes 42 rfl (f42.trans (congrArg Value.bool b42)) (op_move v_l (f0.trans q7_0) (kS hj169 rfl))
              · rintro ρ170 w171 hj172 ⟨f5, f42, _⟩
                have hst := hj172.2
                exact go_yes 42 rfl (f42.trans (congrArg Value.bool b42)) (op_move (.int .i64 (i : Int)) (f5.trans q7_5) (kS hj172 rfl))
              · rintro ρ173 w174 hj175 ⟨f43, f44, f42, _⟩
                have hst := hj175.2
                refine go_yes 42 rfl (f42.trans (congrArg Value.bool b42)) (op_indexAddrN (E := aggE) (xs := l) i Try.underlying41 Try.sizeOf26 f43 h_l f44 (by omega) (by omega) (fun a176 o177 p178 => ?_))
                exact kS hj175 ⟨_, _, rfl, (p178.below hst.below)⟩
              · rintro ρ179 w180 hj181 ⟨f45, f42, _⟩
                have hst := hj181.2
                obtain ⟨a182, o183, e184, p185⟩ := f45
                exact go_yes 42 rfl (f42.trans (congrArg Value.bool b42)) (op_fieldAddr (s := 0) Try.underlying26 rfl rfl Try.sizeOf2 e184 (kS hj181 ⟨_, _, rfl, p185⟩))
              · rintro ρ186 w187 hj188 ⟨f46, f42, _⟩
                have hst := hj188.2
                obtain ⟨a189, o190, e191, p192⟩ := f46
                exact go_yes 42 rfl (f42.trans (congrArg Value.bool b42)) (op_load1 (u := (.int .i64 ((l[i]'(by omega)).From))) Try.isAgg2 e191 p192 (kS hj188 rfl))
              · rintro ρ193 w194 hj195 ⟨f0, f42, _⟩
                have hst := hj195.2
                exact go_yes 42 rfl (f42.trans (congrArg Value.bool b42)) (op_move v_l (f0.trans q7_0) (kS hj195 rfl))
              · rintro ρ196 w197 hj198 ⟨f5, f42, _⟩
                have hst := hj198.2
                exact go_yes 42 rfl (f42.trans (congrArg Value.bool b42)) (op_move (.int .i64 (i : Int)) (f5.trans q7_5) (kS hj198 rfl))
              · rintro ρ199 w200 hj201 ⟨f49, f42, _⟩
                have hst := hj201.2
                exact go_yes 42 rfl (f42.trans (congrArg Value.bool b42)) (op_sub (k := .i64) (a := (i : Int)) (b := 1) ((i : Int) - 1) f49 rfl (xi64 (by omega) (by omega)) (kS hj201 rfl))
              · rintro ρ202 w203 hj204 ⟨f48, f50, f42, _⟩
                have hst := hj204.2
                refine go_yes 42 rfl (f42.trans (congrArg Value.bool b42)) (op_indexAddrN (E := aggE) (xs := l) (i - 1) Try.underlying41 Try.sizeOf26 f48 h_l f50 (by omega) (by omega) (fun a205 o206 p207 => ?_))
                exact kS hj204 ⟨_, _, rfl, (p207.below hst.below)⟩
              · rintro ρ208 w209 hj210 ⟨f51, f42, _⟩
                have hst := hj210.2
                obtain ⟨a211, o212, e213, p214⟩ := f51
                exact go_yes 42 rfl (f42.trans (congrArg Value.bool b42)) (op_fieldAddr (s := 0) Try.underlying26 rfl rfl Try.sizeOf2 e213 (kS hj210 ⟨_, _, rfl, p214⟩))
              · rintro ρ215 w216 hj217 ⟨f52, f42, _⟩
                have hst := hj217.2
                obtain ⟨a218, o219, e220, p221⟩ := f52
                exact go_yes 42 rfl (f42.trans (congrArg Value.bool b42)) (op_load1 (u := (.int .i64 ((l[(i - 1)]'(by omega)).From))) Try.isAgg2 e220 p221 (kS hj217 rfl))
              · rintro ρ222 w223 hj224 ⟨f47, f53, f42, _⟩
                have hst := hj224.2
                exact go_yes 42 rfl (f42.trans (congrArg Value.bool b42)) (op_leq (k := .i64) (a := (l[i]'(by omega)).From) (b := (l[(i - 1)]'(by omega)).From) f47 f53 (kS hj224 rfl))
              · rintro ρ225 w226 hj227 ⟨f42, f54, f39, _⟩
                have hst := hj227.2
                exact go_yes 39 rfl (f39.trans (congrArg Value.bool (congrArg (! ·) b29))) (op_pick_t (.bool (decide (((l[i]'(by omega)).From) ≤ ((l[(i - 1)]'(by omega)).From)))) (f42.trans (congrArg Value.bool b42)) f54 (kS hj227 rfl))
              · rintro ρ228 w229 hj230 ⟨f39, f55, _⟩
                have hst := hj230.2
                exact go_plain (op_pick_f (.bool (decide (((l[i]'(by omega)).From) ≤ ((l[(i - 1)]'(by omega)).From)))) (f39.trans (congrArg Value.bool (congrArg (! ·) b29))) f55 (kS hj230 rfl))
              · intro ρ231 w232 hbw232 hst hRw232 hkw232
                have uw232_0 : ρ231 0 = v_l := (hkw232 0 rfl).trans q7_0
                have uw232_1 : ρ231 1 = (.int .i64 k) := (hkw232 1 rfl).trans q7_1
                have uw232_6 : ρ231 6 = (.int .i64 k) := (hkw232 6 rfl).trans q7_6
                have uw232_7 : ρ231 7 = (.bool (decide (k < 1))) := (hkw232 7 rfl).trans q7_7
                have uw232_8 : ρ231 8 = (.bool (decide (k < 1))) := (hkw232 8 rfl).trans q7_8
                have uw232_9 : ρ231 9 = (.int .i64 k) := (hkw232 9 rfl).trans q7_9
                have uw232_10 : ρ231 10 = (.bool (decide (3 < k))) := (hkw232 10 rfl).trans q7_10
                have uw232_11 : ρ231 11 = (.bool (decide (3 < k))) := (hkw232 11 rfl).trans q7_11
                have uw232_5 : ρ231 5 = (.int .i64 (i : Int)) := (hkw232 5 rfl).trans q7_5
                have uw232_12 : ρ231 12 = (.int .i64 (i : Int)) := (hkw232 12 rfl).trans rfl
                have uw232_13 : ρ231 13 = v_l := (hkw232 13 rfl).trans rfl
                have uw232_14 : ρ231 14 = (.int .i64 (l.length : Int)) := (hkw232 14 rfl).trans rfl
                have uw232_15 : ρ231 15 = (.bool (decide ((i : Int) < (l.length : Int)))) := (hkw232 15 rfl).trans rfl
                have uw232_56 : ρ231 56 = (.bool (decide (((l[i]'(by omega)).From) ≤ ((l[(i - 1)]'(by omega)).From)))) := hRw232 38 56 rfl
                refine then_n ?_
                rcases Bool.eq_false_or_eq_true (decide (((l[i]'(by omega)).From) ≤ ((l[(i - 1)]'(by omega)).From))) with b233 | b233
                · have c234 : ((l[i]'(by omega)).From) ≤ ((l[(i - 1)]'(by omega)).From) := of_decide_eq_true b233
                  refine cE_cond true (uw232_56.trans (congrArg Value.bool b233)) (fun _ => ?_) (fun h => by cases h)
                  refine cE_seq ?_
                  refine cE_region rfl ?_
                  refine s_cons (op_assign (.bool false) rfl ?_)
                  refine s_nil ?_
                  refine then_n ?_
                  refine cE_ret ?_
                  refine block_r (then_r (then_r (block_r (then_r ?_))))
                  refine post_r _ (res1 (v := (.bool false)) rfl) ?_
                  exact ⟨(retv1 (congrArg Value.bool (show false = (alignedA l k) from by first | (unfold alignedA; rw [coarse_no (by omega)]; rfl) | exact (hI.trans (ra_no (by omega) (Or.inl (by assumption)))).symm | exact (hI.trans (ra_no (by omega) (Or.inr (Or.inl (by assumption))))).symm | exact (hI.trans (ra_no (by omega) (Or.inr (Or.inr (by rw [lastF_pred (by omega) (by omega)]; assumption))))).symm | exact (hI.trans (aligns_end (by omega))).symm))), hst.bare⟩
                · have c235 : ¬ (((l[i]'(by omega)).From) ≤ ((l[(i - 1)]'(by omega)).From)) := of_decide_eq_false b233
                  refine cE_cond false (uw232_56.trans (congrArg Value.bool b233)) (fun h => by cases h) (fun _ => ?_)
                  refine cE_skip ?_
                  refine block_n (then_n ?_)
                  refine cE_region rfl ?_
                  refine s_cons (op_move (.int .i64 (i : Int)) uw232_5 ?_)
                  refine s_cons (op_add (k := .i64) (a := (i : Int)) (b := 1) ((i : Int) + 1) rfl rfl (xi64 (by omega) (by omega)) ?_)
                  refine s_cons (op_assign (.int .i64 ((i : Int) + 1)) rfl ?_)
                  refine s_nil ?_
                  refine then_n ?_
                  exact ⟨_, ⟨(i + 1), rfl, uw232_0, uw232_1, uw232_6, uw232_7, uw232_8, uw232_9, uw232_10, uw232_11, (congrArg (Value.int .i64) (show ((i : Int) + 1) = _ from by omega)), hst, (by omega), (by first | (unfold alignedA; rw [coarse_yes (by omega) (by omega)]; rfl) | exact hI.trans (ra_go (by omega) (by assumption) (by assumption) (by first | (left; omega) | (right; rw [lastF_pred (by omega) (by omega)]; assumption))))⟩, (by simp only [id]; omega)⟩
            · have c236 : ¬ (0 < (i : Int)) := of_decide_eq_false b42
              refine cE_regionL hst [[(0, none)], [(5, none)], [(18, some 0), (19, some 1)], [(20, some 2)], [(21, some 3)], [(22, some 4)], [(23, some 5)], [(0, none), (24, some 6)], [(5, none), (24, some 6)], [(25, some 7), (26, some 8), (24, some 6)], [(27, some 9), (24, some 6)], [(28, some 10), (24, some 6)], [(1, none), (24, some 6)], [(29, some 11), (30, some 12), (24, some 6)], [(0, none), (24, some 6)], [(5, none), (24, some 6)], [(32, some 14), (33, some 15), (24, some 6)], [(34, some 16), (24, some 6)], [(35, some 17), (24, some 6)], [(31, some 13), (36, some 18), (24, some 6)], [(24, some 6), (37, some 19)], [(38, some 20)], [(5, none), (39, some 21)], [(40, some 22), (39, some 21)], [(41, some 23), (39, some 21)], [(0, none), (42, some 24)], [(5, none), (42, some 24)], [(43, some 25), (44, some 26), (42, some 24)], [(45, some 27), (42, some 24)], [(46, some 28), (42, some 24)], [(0, none), (42, some 24)], [(5, none), (42, some 24)], [(49, some 31), (42, some 24)], [(48, some 30), (50, some 32), (42, some 24)], [(51, some 33), (42, some 24)], [(52, some 34), (42, some 24)], [(47, some 29), (53, some 35), (42, some 24)], [(42, some 24), (54, some 36), (39, some 21)], [(39, some 21), (55, some 37)]] [(rEq v_l), (rEq (.int .i64 (i : Int))), (rPt [(.int .i64 ((l[i]'(by omega)).From)), (.int .i64 ((l[i]'(by omega)).Count)), (.int .i64 ((l[i]'(by omega)).Sum)), (.int .i64 ((l[i]'(by omega)).Min)), (.int .i64 ((l[i]'(by omega)).Max)), (.int .i64 ((l[i]'(by omega)).First)), (.int .i64 ((l[i]'(by omega)).Last))]), (rEq (.agg #[(.int .i64 ((l[i]'(by omega)).From)), (.int .i64 ((l[i]'(by omega)).Count)), (.int .i64 ((l[i]'(by omega)).Sum)), (.int .i64 ((l[i]'(by omega)).Min)), (.int .i64 ((l[i]'(by omega)).Max)), (.int .i64 ((l[i]'(by omega)).First)), (.int .i64 ((l[i]'(by omega)).Last))])), (rEq (.bool (mayA (l[i]'(by omega))))), (rEq (.bool (!(mayA (l[i]'(by omega)))))), (rEq (.bool (!(mayA (l[i]'(by omega)))))), (rEq v_l), (rEq (.int .i64 (i : Int))), (rPt [(.int .i64 ((l[i]'(by omega)).From)), (.int .i64 ((l[i]'(by omega)).Count)), (.int .i64 ((l[i]'(by omega)).Sum)), (.int .i64 ((l[i]'(by omega)).Min)), (.int .i64 ((l[i]'(by omega)).Max)), (.int .i64 ((l[i]'(by omega)).First)), (.int .i64 ((l[i]'(by omega)).Last))]), (rPt [(.int .i64 ((l[i]'(by omega)).From)), (.int .i64 ((l[i]'(by omega)).Count)), (.int .i64 ((l[i]'(by omega)).Sum)), (.int .i64 ((l[i]'(by omega)).Min)), (.int .i64 ((l[i]'(by omega)).Max)), (.int .i64 ((l[i]'(by omega)).First)), (.int .i64 ((l[i]'(by omega)).Last))]), (rEq (.int .i64 ((l[i]'(by omega)).From))), (rEq (.int .i64 k)), (rEq (.int .i64 (floorA ((l[i]'(by omega)).From) k))), (rEq v_l), (rEq (.int .i64 (i : Int))), (rPt [(.int .i64 ((l[i]'(by omega)).From)), (.int .i64 ((l[i]'(by omega)).Count)), (.int .i64 ((l[i]'(by omega)).Sum)), (.int .i64 ((l[i]'(by omega)).Min)), (.int .i64 ((l[i]'(by omega)).Max)), (.int .i64 ((l[i]'(by omega)).First)), (.int .i64 ((l[i]'(by omega)).Last))]), (rPt [(.int .i64 ((l[i]'(by omega)).From)), (.int .i64 ((l[i]'(by omega)).Count)), (.int .i64 ((l[i]'(by omega)).Sum)), (.int .i64 ((l[i]'(by omega)).Min)), (.int .i64 ((l[i]'(by omega)).Max)), (.int .i64 ((l[i]'(by omega)).First)), (.int .i64 ((l[i]'(by omega)).Last))]), (rEq (.int .i64 ((l[i]'(by omega)).From))), (rEq (.bool (!decide ((floorA ((l[i]'(by omega)).From) k) = ((l[i]'(by omega)).From))))), (rEq (.bool (!decide ((floorA ((l[i]'(by omega)).From) k) = ((l[i]'(by omega)).From))))), (rEq (.bool (!decide ((floorA ((l[i]'(by omega)).From) k) = ((l[i]'(by omega)).From))))), (rEq (.int .i64 (i : Int))), (rEq (.bool (decide (0 < (i : Int))))), (rEq (.bool (decide (0 < (i : Int))))), (rEq undef), (rEq undef), (rEq undef), (rEq undef), (rEq undef), (rEq undef), (rEq undef), (rEq undef), (rEq undef), (rEq undef), (rEq undef), (rEq undef), (rEq (.bool false)), (rEq (.bool false))] (by kernel_rfl) rfl (by kernel_rfl) ⟨sEq, sEq, sPt, sEq, sEq, sEq, sEq, sEq, sEq, sPt, sPt, sEq, sEq, sEq, sEq, sEq, sPt, sPt, sEq, sEq, sEq, sEq, sEq, sEq, sEq, sEq, sEq, sEq, sEq, sEq, sEq, sEq, sEq, sEq, sEq, sEq, sEq, sEq, sEq, trivial⟩ ⟨?_, ?_, ?_, ?_, ?_, ?_, ?_, ?_, ?_, ?_, ?_, ?_, ?_, ?_, ?_, ?_, ?_, ?_, ?_, ?_, ?_, ?_, ?_, ?_, ?_, ?_, ?_, ?_, ?_, ?_, ?_, ?_, ?_, ?_, ?_, ?_, ?_, ?_, ?_, trivial⟩ ?_
              · rintro ρ248 w249 hj250 ⟨f0, _⟩
                have hst := hj250.2
                exact go_plain (op_move v_l (f0.trans q7_0) (kS hj250 rfl))
              · rintro ρ251 w252 hj253 ⟨f5, _⟩
                have hst := hj253.2
                exact go_plain (op_move (.int .i64 (i : Int)) (f5.trans q7_5) (kS hj253 rfl))
              · rintro ρ254 w255 hj256 ⟨f18, f19, _⟩
                have hst := hj256.2
                refine go_plain (op_indexAddrN (E := aggE) (xs := l) i Try.underlying41 Try.sizeOf26 f18 h_l f19 (by omega) (by omega) (fun a257 o258 p259 => ?_))
                exact kS hj256 ⟨_, _, rfl, (p259.below hst.below)⟩
              · rintro ρ260 w261 hj262 ⟨f20, _⟩
                have hst := hj262.2
                obtain ⟨a263, o264, e265, p266⟩ := f20
                exact go_plain (op_loadN (cs := [(.int .i64 ((l[i]'(by omega)).From)), (.int .i64 ((l[i]'(by omega)).Count)), (.int .i64 ((l[i]'(by omega)).Sum)), (.int .i64 ((l[i]'(by omega)).Min)), (.int .i64 ((l[i]'(by omega)).Max)), (.int .i64 ((l[i]'(by omega)).First)), (.int .i64 ((l[i]'(by omega)).Last))]) Try.isAgg26 Try.sizeOf26 e265 (Pt.of p266 rfl) rfl (kS hj262 rfl))
              · rintro ρ267 w268 hj269 ⟨f21, _⟩
                have hst := hj269.2
                refine go_plain (op_call Try.call38 (evs_cons (v := (.agg #[(.int .i64 ((l[i]'(by omega)).From)), (.int .i64 ((l[i]'(by omega)).Count)), (.int .i64 ((l[i]'(by omega)).Sum)), (.int .i64 ((l[i]'(by omega)).Min)), (.int .i64 ((l[i]'(by omega)).Max)), (.int .i64 ((l[i]'(by omega)).First)), (.int .i64 ((l[i]'(by omega)).Last))])) f21 evs_nil) (c_rMay (w0 := w268) (a := (l[i]'(by omega)))) ?_)
                rintro _ w270 ⟨rfl, hcall⟩
                refine ⟨_, rfl, ?_⟩
                exact kD hj269 hcall rfl
              · rintro ρ271 w272 hj273 ⟨f22, _⟩
                have hst := hj273.2
                exact go_plain (op_not (b := mayA (l[i]'(by omega))) f22 (kS hj273 rfl))
              · rintro ρ274 w275 hj276 ⟨f23, _⟩
                have hst := hj276.2
                exact go_plain (op_move (.bool (!(mayA (l[i]'(by omega))))) f23 (kS hj276 rfl))
              · rintro ρ277 w278 hj279 ⟨f0, f24, _⟩
                have hst := hj279.2
                exact go_yes 24 rfl (f24.trans (congrArg Value.bool (congrArg (! ·) b17))) (op_move v_l (f0.trans q7_0) (kS hj279 rfl))
              · rintro ρ280 w281 hj282 ⟨f5, f24, _⟩
                have hst := hj282.2
                exact go_yes 24 rfl (f24.trans (congrArg Value.bool (congrArg (! ·) b17))) (op_move (.int .i64 (i : Int)) (f5.trans q7_5) (kS hj282 rfl))
              · rintro ρ283 w284 hj285 ⟨f25, f26, f24, _⟩
                have hst := hj285.2
                refine go_yes 24 rfl (f24.trans (congrArg Value.bool (congrArg (! ·) b17))) (op_indexAddrN (E := aggE) (xs := l) i Try.underlying41 Try.sizeOf26 f25 h_l f26 (by omega) (by omega) (fun a286 o287 p288 => ?_))
                exact kS hj285 ⟨_, _, rfl, (p288.below hst.below)⟩
              · rintro ρ289 w290 hj291 ⟨f27, f24, _⟩
                have hst := hj291.2
                obtain ⟨a292, o293, e294, p295⟩ := f27
                exact go_yes 24 rfl (f24.trans (congrArg Value.bool (congrArg (! ·) b17))) (op_fieldAddr (s := 0) Try.underlying26 rfl rfl Try.sizeOf2 e294 (kS hj291 ⟨_, _, rfl, p295⟩))
              · rintro ρ296 w297 hj298 ⟨f28, f24, _⟩
                have hst := hj298.2
                obtain ⟨a299, o300, e301, p302⟩ := f28
                exact go_yes 24 rfl (f24.trans (congrArg Value.bool (congrArg (! ·) b17))) (op_load1 (u := (.int .i64 ((l[i]'(by omega)).From))) Try.isAgg2 e301 p302 (kS hj298 rfl))
              · rintro ρ303 w304 hj305 ⟨f1, f24, _⟩
                have hst := hj305.2
                exact go_yes 24 rfl (f24.trans (congrArg Value.bool (congrArg (! ·) b17))) (op_move (.int .i64 k) (f1.trans q7_1) (kS hj305 rfl))
              · rintro ρ306 w307 hj308 ⟨f29, f30, f24, _⟩
                have hst := hj308.2
                refine go_yes 24 rfl (f24.trans (congrArg Value.bool (congrArg (! ·) b17))) (op_call Try.call31 (evs_cons (v := (.int .i64 ((l[i]'(by omega)).From))) f29 (evs_cons (v := (.int .i64 k)) f30 evs_nil)) (c_rFloor (w0 := w307) (t := (l[i]'(by omega)).From) (k := k) (t0 := (hl _ (List.getElem_mem _)).1.1) (k0 := (by omega)) (t1 := (hl _ (List.getElem_mem _)).1.2) (k1 := (by omega))) ?_)
                rintro _ w309 ⟨rfl, hcall⟩
                refine ⟨_, rfl, ?_⟩
                exact kD hj308 hcall rfl
              · rintro ρ310 w311 hj312 ⟨f0, f24, _⟩
                have hst := hj312.2
                exact go_yes 24 rfl (f24.trans (congrArg Value.bool (congrArg (! ·) b17))) (op_move v_l (f0.trans q7_0) (kS hj312 rfl))
              · rintro ρ313 w314 hj315 ⟨f5, f24, _⟩
                have hst := hj315.2
                exact go_yes 24 rfl (f24.trans (congrArg Value.bool (congrArg (! ·) b17))) (op_move (.int .i64 (i : Int)) (f5.trans q7_5) (kS hj315 rfl))
              · rintro ρ316 w317 hj318 ⟨f32, f33, f24, _⟩
                have hst := hj318.2
                refine go_yes 24 rfl (f24.trans (congrArg Value.bool (congrArg (! ·) b17))) (op_indexAddrN (E := aggE) (xs := l) i Try.underlying41 Try.sizeOf26 f32 h_l f33 (by omega) (by omega) (fun a319 o320 p321 => ?_))
                exact kS hj318 ⟨_, _, rfl, (p321.below hst.below)⟩
              · rintro ρ322 w323 hj324 ⟨f34, f24, _⟩
                have hst := hj324.2
                obtain ⟨a325, o326, e327, p328⟩ := f34
                exact go_yes 24 rfl (f24.trans (congrArg Value.bool (congrArg (! ·) b17))) (op_fieldAddr (s := 0) Try.underlying26 rfl rfl Try.sizeOf2 e327 (kS hj324 ⟨_, _, rfl, p328⟩))
              · rintro ρ329 w330 hj331 ⟨f35, f24, _⟩
                have hst := hj331.2
                obtain ⟨a332, o333, e334, p335⟩ := f35
                exact go_yes 24 rfl (f24.trans (congrArg Value.bool (congrArg (! ·) b17))) (op_load1 (u := (.int .i64 ((l[i]'(by omega)).From))) Try.isAgg2 e334 p335 (kS hj331 rfl))
              · rintro ρ336 w337 hj338 ⟨f31, f36, f24, _⟩
                have hst := hj338.2
                exact go_yes 24 rfl (f24.trans (congrArg Value.bool (congrArg (! ·) b17))) (op_neq (k := .i64) (a := (floorA ((l[i]'(by omega)).From) k)) (b := (l[i]'(by omega)).From) f31 f36 (kS hj338 rfl))
              · rintro ρ339 w340 hj341 ⟨f24, f37, _⟩
                have hst := hj341.2
                exact go_plain (op_pick_f (.bool (!decide ((floorA ((l[i]'(by omega)).From) k) = ((l[i]'(by omega)).From)))) (f24.trans (congrArg Value.bool (congrArg (! ·) b17))) f37 (kS hj341 rfl))
              · rintro ρ342 w343 hj344 ⟨f38, _⟩
                have hst := hj344.2
                exact go_plain (op_move (.bool (!decide ((floorA ((l[i]'(by omega)).From) k) = ((l[i]'(by omega)).From)))) f38 (kS hj344 rfl))
              · rintro ρ345 w346 hj347 ⟨f5, f39, _⟩
                have hst := hj347.2
                exact go_yes 39 rfl (f39.trans (congrArg Value.bool (congrArg (! ·) b29))) (op_move (.int .i64 (i : Int)) (f5.trans q7_5) (kS hj347 rfl))
              · rintro ρ348 w349 hj350 ⟨f40, f39, _⟩
                have hst := hj350.2
                exact go_yes 39 rfl (f39.trans (congrArg Value.bool (congrArg (! ·) b29))) (op_gtr (k := .i64) (a := (i : Int)) (b := 0) f40 rfl (kS hj350 rfl))
              · rintro ρ351 w352 hj353 ⟨f41, f39, _⟩
                have hst := hj353.2
                exact go_yes 39 rfl (f39.trans (congrArg Value.bool (congrArg (! ·) b29))) (op_move (.bool (decide (0 < (i : Int)))) f41 (kS hj353 rfl))
              · rintro ρ354 w355 hj356 ⟨f0, f42, _⟩
                have hst := hj356.2
                exact go_no 42 rfl (f42.trans (congrArg Value.bool b42)) (kS hj356 rfl)
              · rintro ρ357 w358 hj359 ⟨f5, f42, _⟩
                have hst := hj359.2
                exact go_no 42 rfl (f42.trans (congrArg Value.bool b42)) (kS hj359 rfl)
              · rintro ρ360 w361 hj362 ⟨f43, f44, f42, _⟩
                have hst := hj362.2
                exact go_no 42 rfl (f42.trans (congrArg Value.bool b42)) (kS hj362 rfl)
              · rintro ρ363 w364 hj365 ⟨f45, f42, _⟩
                have hst := hj365.2
                exact go_no 42 rfl (f42.trans (congrArg Value.bool b42)) (kS hj365 rfl)
              · rintro ρ366 w367 hj368 ⟨f46, f42, _⟩
                have hst := hj368.2
                exact go_no 42 rfl (f42.trans (congrArg Value.bool b42)) (kS hj368 rfl)
              · rintro ρ369 w370 hj371 ⟨f0, f42, _⟩
                have hst := hj371.2
                exact go_no 42 rfl (f42.trans (congrArg Value.bool b42)) (kS hj371 rfl)
              · rintro ρ372 w373 hj374 ⟨f5, f42, _⟩
                have hst := hj374.2
                exact go_no 42 rfl (f42.trans (congrArg Value.bool b42)) (kS hj374 rfl)
              · rintro ρ375 w376 hj377 ⟨f49, f42, _⟩
                have hst := hj377.2
                exact go_no 42 rfl (f42.trans (congrArg Value.bool b42)) (kS hj377 rfl)
              · rintro ρ378 w379 hj380 ⟨f48, f50, f42, _⟩
                have hst := hj380.2
                exact go_no 42 rfl (f42.trans (congrArg Value.bool b42)) (kS hj380 rfl)
              · rintro ρ381 w382 hj383 ⟨f51, f42, _⟩
                have hst := hj383.2
                exact go_no 42 rfl (f42.trans (congrArg Value.bool b42)) (kS hj383 rfl)
              · rintro ρ384 w385 hj386 ⟨f52, f42, _⟩
                have hst := hj386.2
                exact go_no 42 rfl (f42.trans (congrArg Value.bool b42)) (kS hj386 rfl)
              · rintro ρ387 w388 hj389 ⟨f47, f53, f42, _⟩
                have hst := hj389.2
                exact go_no 42 rfl (f42.trans (congrArg Value.bool b42)) (kS hj389 rfl)
              · rintro ρ390 w391 hj392 ⟨f42, f54, f39, _⟩
                have hst := hj392.2
                exact go_yes 39 rfl (f39.trans (congrArg Value.bool (congrArg (! ·) b29))) (op_pick_f (.bool false) (f42.trans (congrArg Value.bool b42)) rfl (kS hj392 rfl))
              · rintro ρ393 w394 hj395 ⟨f39, f55, _⟩
                have hst := hj395.2
                exact go_plain (op_pick_f (.bool false) (f39.trans (congrArg Value.bool (congrArg (! ·) b29))) f55 (kS hj395 rfl))
              · intro ρ396 w397 hbw397 hst hRw397 hkw397
                have uw397_0 : ρ396 0 = v_l := (hkw397 0 rfl).trans q7_0
                have uw397_1 : ρ396 1 = (.int .i64 k) := (hkw397 1 rfl).trans q7_1
                have uw397_6 : ρ396 6 = (.int .i64 k) := (hkw397 6 rfl).trans q7_6
                have uw397_7 : ρ396 7 = (.bool (decide (k < 1))) := (hkw397 7 rfl).trans q7_7
                have uw397_8 : ρ396 8 = (.bool (decide (k < 1))) := (hkw397 8 rfl).trans q7_8
                have uw397_9 : ρ396 9 = (.int .i64 k) := (hkw397 9 rfl).trans q7_9
                have uw397_10 : ρ396 10 = (.bool (decide (3 < k))) := (hkw397 10 rfl).trans q7_10
                have uw397_11 : ρ396 11 = (.bool (decide (3 < k))) := (hkw397 11 rfl).trans q7_11
                have uw397_5 : ρ396 5 = (.int .i64 (i : Int)) := (hkw397 5 rfl).trans q7_5
                have uw397_12 : ρ396 12 = (.int .i64 (i : Int)) := (hkw397 12 rfl).trans rfl
                have uw397_13 : ρ396 13 = v_l := (hkw397 13 rfl).trans rfl
                have uw397_14 : ρ396 14 = (.int .i64 (l.length : Int)) := (hkw397 14 rfl).trans rfl
                have uw397_15 : ρ396 15 = (.bool (decide ((i : Int) < (l.length : Int)))) := (hkw397 15 rfl).trans rfl
                have uw397_56 : ρ396 56 = (.bool false) := hRw397 38 56 rfl
                refine then_n ?_
                refine cE_cond false uw397_56 (fun h => by cases h) (fun _ => ?_)
                refine cE_skip ?_
                refine block_n (then_n ?_)
                refine cE_region rfl ?_
                refine s_cons (op_move (.int .i64 (i : Int)) uw397_5 ?_)
                refine s_cons (op_add (k := .i64) (a := (i : Int)) (b := 1) ((i : Int) + 1) rfl rfl (xi64 (by omega) (by omega)) ?_)
                refine s_cons (op_assign (.int .i64 ((i : Int) + 1)) rfl ?_)
                refine s_nil ?_
                refine then_n ?_
                exact ⟨_, ⟨(i + 1), rfl, uw397_0, uw397_1, uw397_6, uw397_7, uw397_8, uw397_9, uw397_10, uw397_11, (congrArg (Value.int .i64) (show ((i : Int) + 1) = _ from by omega)), hst, (by omega), (by first | (unfold alignedA; rw [coarse_yes (by omega) (by omega)]; rfl) | exact hI.trans (ra_go (by omega) (by assumption) (by assumption) (by first | (left; omega) | (right; rw [lastF_pred (by omega) (by omega)]; assumption))))⟩, (by simp only [id]; omega)⟩
          · have c398 : ¬ ((floorA ((l[i]'(by omega)).From) k) = ((l[i]'(by omega)).From)) := of_decide_eq_false b29
            refine cE_regionL hst [[(0, none)], [(5, none)], [(18, some 0), (19, some 1)], [(20, some 2)], [(21, some 3)], [(22, some 4)], [(23, some 5)], [(0, none), (24, some 6)], [(5, none), (24, some 6)], [(25, some 7), (26, some 8), (24, some 6)], [(27, some 9), (24, some 6)], [(28, some 10), (24, some 6)], [(1, none), (24, some 6)], [(29, some 11), (30, some 12), (24, some 6)], [(0, none), (24, some 6)], [(5, none), (24, some 6)], [(32, some 14), (33, some 15), (24, some 6)], [(34, some 16), (24, some 6)], [(35, some 17), (24, some 6)], [(31, some 13), (36, some 18), (24, some 6)], [(24, some 6), (37, some 19)], [(38, some 20)], [(5, none), (39, some 21)], [(40, some 22), (39, some 21)], [(41, some 23), (39, some 21)], [(0, none), (42, some 24)], [(5, none), (42, some 24)], [(43, some 25), (44, some 26), (42, some 24)], [(45, some 27), (42, some 24)], [(46, some 28), (42, some 24)], [(0, none), (42, some 24)], [(5, none), (42, some 24)], [(49, some 31), (42, some 24)], [(48, some 30), (50, some 32), (42, some 24)], [(51, some 33), (42, some 24)], [(52, some 34), (42, some 24)], [(47, some 29), (53, some 35), (42, some 24)], [(42, some 24), (54, some 36), (39, some 21)], [(39, some 21), (55, some 37)]] [(rEq v_l), (rEq (.int .i64 (i : Int))), (rPt [(.int .i64 ((l[i]'(by omega)).From)), (.int .i64 ((l[i]'(by omega)).Count)), (.int .i64 ((l[i]'(by omega)).Sum)), (.int .i64 ((l[i]'(by omega)).Min)), (.int .i64 ((l[i]'(by omega)).Max)), (.int .i64 ((l[i]'(by omega)).First)), (.int .i64 ((l[i]'(by omega)).Last))]), (rEq (.agg #[(.int .i64 ((l[i]'(by omega)).From)), (.int .i64 ((l[i]'(by omega)).Count)), (.int .i64 ((l[i]'(by omega)).Sum)), (.int .i64 ((l[i]'(by omega)).Min)), (.int .i64 ((l[i]'(by omega)).Max)), (.int .i64 ((l[i]'(by omega)).First)), (.int .i64 ((l[i]'(by omega)).Last))])), (rEq (.bool (mayA (l[i]'(by omega))))), (rEq (.bool (!(mayA (l[i]'(by omega)))))), (rEq (.bool (!(mayA (l[i]'(by omega)))))), (rEq v_l), (rEq (.int .i64 (i : Int))), (rPt [(.int .i64 ((l[i]'(by omega)).From)), (.int .i64 ((l[i]'(by omega)).Count)), (.int .i64 ((l[i]'(by omega)).Sum)), (.int .i64 ((l[i]'(by omega)).Min)), (.int .i64 ((l[i]'(by omega)).Max)), (.int .i64 ((l[i]'(by omega)).First)), (.int .i64 ((l[i]'(by omega)).Last))]), (rPt [(.int .i64 ((l[i]'(by omega)).From)), (.int .i64 ((l[i]'(by omega)).Count)), (.int .i64 ((l[i]'(by omega)).Sum)), (.int .i64 ((l[i]'(by omega)).Min)), (.int .i64 ((l[i]'(by omega)).Max)), (.int .i64 ((l[i]'(by omega)).First)), (.int .i64 ((l[i]'(by omega)).Last))]), (rEq (.int .i64 ((l[i]'(by omega)).From))), (rEq (.int .i64 k)), (rEq (.int .i64 (floorA ((l[i]'(by omega)).From) k))), (rEq v_l), (rEq (.int .i64 (i : Int))), (rPt [(.int .i64 ((l[i]'(by omega)).From)), (.int .i64 ((l[i]'(by omega)).Count)), (.int .i64 ((l[i]'(by omega)).Sum)), (.int .i64 ((l[i]'(by omega)).Min)), (.int .i64 ((l[i]'(by omega)).Max)), (.int .i64 ((l[i]'(by omega)).First)), (.int .i64 ((l[i]'(by omega)).Last))]), (rPt [(.int .i64 ((l[i]'(by omega)).From)), (.int .i64 ((l[i]'(by omega)).Count)), (.int .i64 ((l[i]'(by omega)).Sum)), (.int .i64 ((l[i]'(by omega)).Min)), (.int .i64 ((l[i]'(by omega)).Max)), (.int .i64 ((l[i]'(by omega)).First)), (.int .i64 ((l[i]'(by omega)).Last))]), (rEq (.int .i64 ((l[i]'(by omega)).From))), (rEq (.bool (!decide ((floorA ((l[i]'(by omega)).From) k) = ((l[i]'(by omega)).From))))), (rEq (.bool (!decide ((floorA ((l[i]'(by omega)).From) k) = ((l[i]'(by omega)).From))))), (rEq (.bool (!decide ((floorA ((l[i]'(by omega)).From) k) = ((l[i]'(by omega)).From))))), (rEq undef), (rEq undef), (rEq undef), (rEq undef), (rEq undef), (rEq undef), (rEq undef), (rEq undef), (rEq undef), (rEq undef), (rEq undef), (rEq undef), (rEq undef), (rEq undef), (rEq undef), (rEq undef), (rEq (.bool true))] (by kernel_rfl) rfl (by kernel_rfl) ⟨sEq, sEq, sPt, sEq, sEq, sEq, sEq, sEq, sEq, sPt, sPt, sEq, sEq, sEq, sEq, sEq, sPt, sPt, sEq, sEq, sEq, sEq, sEq, sEq, sEq, sEq, sEq, sEq, sEq, sEq, sEq, sEq, sEq, sEq, sEq, sEq, sEq, sEq, sEq, trivial⟩ ⟨?_, ?_, ?_, ?_, ?_, ?_, ?_, ?_, ?_, ?_, ?_, ?_, ?_, ?_, ?_, ?_, ?_, ?_, ?_, ?_, ?_, ?_, ?_, ?_, ?_, ?_, ?_, ?_, ?_, ?_, ?_, ?_, ?_, ?_, ?_, ?_, ?_, ?_, ?_, trivial⟩ ?_
            · rintro ρ410 w411 hj412 ⟨f0, _⟩
              have hst := hj412.2
              exact go_plain (op_move v_l (f0.trans q7_0) (kS hj412 rfl))
            · rintro ρ413 w414 hj415 ⟨f5, _⟩
              have hst := hj415.2
              exact go_plain (op_move (.int .i64 (i : Int)) (f5.trans q7_5) (kS hj415 rfl))
            · rintro ρ416 w417 hj418 ⟨f18, f19, _⟩
              have hst := hj418.2
              refine go_plain (op_indexAddrN (E := aggE) (xs := l) i Try.underlying41 Try.sizeOf26 f18 h_l f19 (by omega) (by omega) (fun a419 o420 p421 => ?_))
              exact kS hj418 ⟨_, _, rfl, (p421.below hst.below)⟩
            · rintro ρ422 w423 hj424 ⟨f20, _⟩
              have hst := hj424.2
              obtain ⟨a425, o426, e427, p428⟩ := f20
              exact go_plain (op_loadN (cs := [(.int .i64 ((l[i]'(by omega)).From)), (.int .i64 ((l[i]'(by omega)).Count)), (.int .i64 ((l[i]'(by omega)).Sum)), (.int .i64 ((l[i]'(by omega)).Min)), (.int .i64 ((l[i]'(by omega)).Max)), (.int .i64 ((l[i]'(by omega)).First)), (.int .i64 ((l[i]'(by omega)).Last))]) Try.isAgg26 Try.sizeOf26 e427 (Pt.of p428 rfl) rfl (kS hj424 rfl))
            · rintro ρ429 w430 hj431 ⟨f21, _⟩
              have hst := hj431.2
              refine go_plain (op_call Try.call38 (evs_cons (v := (.agg #[(.int .i64 ((l[i]'(by omega)).From)), (.int .i64 ((l[i]'(by omega)).Count)), (.int .i64 ((l[i]'(by omega)).Sum)), (.int .i64 ((l[i]'(by omega)).Min)), (.int .i64 ((l[i]'(by omega)).Max)), (.int .i64 ((l[i]'(by omega)).First)), (.int .i64 ((l[i]'(by omega)).Last))])) f21 evs_nil) (c_rMay (w0 := w430) (a := (l[i]'(by omega)))) ?_)
              rintro _ w432 ⟨rfl, hcall⟩
              refine ⟨_, rfl, ?_⟩
              exact kD hj431 hcall rfl
            · rintro ρ433 w434 hj435 ⟨f22, _⟩
              have hst := hj435.2
              exact go_plain (op_not (b := mayA (l[i]'(by omega))) f22 (kS hj435 rfl))
            · rintro ρ436 w437 hj438 ⟨f23, _⟩
              have hst := hj438.2
              exact go_plain (op_move (.bool (!(mayA (l[i]'(by omega))))) f23 (kS hj438 rfl))
            · rintro ρ439 w440 hj441 ⟨f0, f24, _⟩
              have hst := hj441.2
              exact go_yes 24 rfl (f24.trans (congrArg Value.bool (congrArg (! ·) b17))) (op_move v_l (f0.trans q7_0) (kS hj441 rfl))
            · rintro ρ442 w443 hj444 ⟨f5, f24, _⟩
              have hst := hj444.2
              exact go_yes 24 rfl (f24.trans (congrArg Value.bool (congrArg (! ·) b17))) (op_move (.int .i64 (i : Int)) (f5.trans q7_5) (kS hj444 rfl))
            · rintro ρ445 w446 hj447 ⟨f25, f26, f24, _⟩
              have hst := hj447.2
              refine go_yes 24 rfl (f24.trans (congrArg Value.bool (congrArg (! ·) b17))) (op_indexAddrN (E := aggE) (xs := l) i Try.underlying41 Try.sizeOf26 f25 h_l f26 (by omega) (by omega) (fun a448 o449 p450 => ?_))
              exact kS hj447 ⟨_, _, rfl, (p450.below hst.below)⟩
            · rintro ρ451 w452 hj453 ⟨f27, f24, _⟩
              have hst := hj453.2
              obtain ⟨a454, o455, e456, p457⟩ := f27
              exact go_yes 24 rfl (f24.trans (congrArg Value.bool (congrArg (! ·) b17))) (op_fieldAddr (s := 0) Try.underlying26 rfl rfl Try.sizeOf2 e456 (kS hj453 ⟨_, _, rfl, p457⟩))
            · rintro ρ458 w459 hj460 ⟨f28, f24, _⟩
              have hst := hj460.2
              obtain ⟨a461, o462, e463, p464⟩ := f28
              exact go_yes 24 rfl (f24.trans (congrArg Value.bool (congrArg (! ·) b17))) (op_load1 (u := (.int .i64 ((l[i]'(by omega)).From))) Try.isAgg2 e463 p464 (kS hj460 rfl))
            · rintro ρ465 w466 hj467 ⟨f1, f24, _⟩
              have hst := hj467.2
              exact go_yes 24 rfl (f24.trans (congrArg Value.bool (congrArg (! ·) b17))) (op_move (.int .i64 k) (f1.trans q7_1) (kS hj467 rfl))
            · rintro ρ468 w469 hj470 ⟨f29, f30, f24, _⟩
              have hst := hj470.2
              refine go_yes 24 rfl (f24.trans (congrArg Value.bool (congrArg (! ·) b17))) (op_call Try.call31 (evs_cons (v := (.int .i64 ((l[i]'(by omega)).From))) f29 (evs_cons (v := (.int .i64 k)) f30 evs_nil)) (c_rFloor (w0 := w469) (t := (l[i]'(by omega)).From) (k := k) (t0 := (hl _ (List.getElem_mem _)).1.1) (k0 := (by omega)) (t1 := (hl _ (List.getElem_mem _)).1.2) (k1 := (by omega))) ?_)
              rintro _ w471 ⟨rfl, hcall⟩
              refine ⟨_, rfl, ?_⟩
              exact kD hj470 hcall rfl
            · rintro ρ472 w473 hj474 ⟨f0, f24, _⟩
              have hst := hj474.2
              exact go_yes 24 rfl (f24.trans (congrArg Value.bool (congrArg (! ·) b17))) (op_move v_l (f0.trans q7_0) (kS hj474 rfl))
            · rintro ρ475 w476 hj477 ⟨f5, f24, _⟩
              have hst := hj477.2
              exact go_yes 24 rfl (f24.trans (congrArg Value.bool (congrArg (! ·) b17))) (op_move (.int .i64 (i : Int)) (f5.trans q7_5) (kS hj477 rfl))
            · rintro ρ478 w479 hj480 ⟨f32, f33, f24, _⟩
              have hst := hj480.2
              refine go_yes 24 rfl (f24.trans (congrArg Value.bool (congrArg (! ·) b17))) (op_indexAddrN (E := aggE) (xs := l) i Try.underlying41 Try.sizeOf26 f32 h_l f33 (by omega) (by omega) (fun a481 o482 p483 => ?_))
              exact kS hj480 ⟨_, _, rfl, (p483.below hst.below)⟩
            · rintro ρ484 w485 hj486 ⟨f34, f24, _⟩
              have hst := hj486.2
              obtain ⟨a487, o488, e489, p490⟩ := f34
              exact go_yes 24 rfl (f24.trans (congrArg Value.bool (congrArg (! ·) b17))) (op_fieldAddr (s := 0) Try.underlying26 rfl rfl Try.sizeOf2 e489 (kS hj486 ⟨_, _, rfl, p490⟩))
            · rintro ρ491 w492 hj493 ⟨f35, f24, _⟩
              have hst := hj493.2
              obtain ⟨a494, o495, e496, p497⟩ := f35
              exact go_yes 24 rfl (f24.trans (congrArg Value.bool (congrArg (! ·) b17))) (op_load1 (u := (.int .i64 ((l[i]'(by omega)).From))) Try.isAgg2 e496 p497 (kS hj493 rfl))
            · rintro ρ498 w499 hj500 ⟨f31, f36, f24, _⟩
              have hst := hj500.2
              exact go_yes 24 rfl (f24.trans (congrArg Value.bool (congrArg (! ·) b17))) (op_neq (k := .i64) (a := (floorA ((l[i]'(by omega)).From) k)) (b := (l[i]'(by omega)).From) f31 f36 (kS hj500 rfl))
            · rintro ρ501 w502 hj503 ⟨f24, f37, _⟩
              have hst := hj503.2
              exact go_plain (op_pick_f (.bool (!decide ((floorA ((l[i]'(by omega)).From) k) = ((l[i]'(by omega)).From)))) (f24.trans (congrArg Value.bool (congrArg (! ·) b17))) f37 (kS hj503 rfl))
            · rintro ρ504 w505 hj506 ⟨f38, _⟩
              have hst := hj506.2
              exact go_plain (op_move (.bool (!decide ((floorA ((l[i]'(by omega)).From) k) = ((l[i]'(by omega)).From)))) f38 (kS hj506 rfl))
            · rintro ρ507 w508 hj509 ⟨f5, f39, _⟩
              have hst := hj509.2
              exact go_no 39 rfl (f39.trans (congrArg Value.bool (congrArg (! ·) b29))) (kS hj509 rfl)
            · rintro ρ510 w511 hj512 ⟨f40, f39, _⟩
              have hst := hj512.2
              exact go_no 39 rfl (f39.trans (congrArg Value.bool (congrArg (! ·) b29))) (kS hj512 rfl)
            · rintro ρ513 w514 hj515 ⟨f41, f39, _⟩
              have hst := hj515.2
              exact go_no 39 rfl (f39.trans (congrArg Value.bool (congrArg (! ·) b29))) (kS hj515 rfl)
            · rintro ρ516 w517 hj518 ⟨f0, f42, _⟩
              have hst := hj518.2
              exact go_un 42 rfl f42 (kS hj518 rfl)
            · rintro ρ519 w520 hj521 ⟨f5, f42, _⟩
              have hst := hj521.2
              exact go_un 42 rfl f42 (kS hj521 rfl)
            · rintro ρ522 w523 hj524 ⟨f43, f44, f42, _⟩
              have hst := hj524.2
              exact go_un 42 rfl f42 (kS hj524 rfl)
            · rintro ρ525 w526 hj527 ⟨f45, f42, _⟩
              have hst := hj527.2
              exact go_un 42 rfl f42 (kS hj527 rfl)
            · rintro ρ528 w529 hj530 ⟨f46, f42, _⟩
              have hst := hj530.2
              exact go_un 42 rfl f42 (kS hj530 rfl)
            · rintro ρ531 w532 hj533 ⟨f0, f42, _⟩
              have hst := hj533.2
              exact go_un 42 rfl f42 (kS hj533 rfl)
            · rintro ρ534 w535 hj536 ⟨f5, f42, _⟩
              have hst := hj536.2
              exact go_un 42 rfl f42 (kS hj536 rfl)
            · rintro ρ537 w538 hj539 ⟨f49, f42, _⟩
              have hst := hj539.2
              exact go_un 42 rfl f42 (kS hj539 rfl)
            · rintro ρ540 w541 hj542 ⟨f48, f50, f42, _⟩
              have hst := hj542.2
              exact go_un 42 rfl f42 (kS hj542 rfl)
            · rintro ρ543 w544 hj545 ⟨f51, f42, _⟩
              have hst := hj545.2
              exact go_un 42 rfl f42 (kS hj545 rfl)
            · rintro ρ546 w547 hj548 ⟨f52, f42, _⟩
              have hst := hj548.2
              exact go_un 42 rfl f42 (kS hj548 rfl)
            · rintro ρ549 w550 hj551 ⟨f47, f53, f42, _⟩
              have hst := hj551.2
              exact go_un 42 rfl f42 (kS hj551 rfl)
            · rintro ρ552 w553 hj554 ⟨f42, f54, f39, _⟩
              have hst := hj554.2
              exact go_no 39 rfl (f39.trans (congrArg Value.bool (congrArg (! ·) b29))) (kS hj554 rfl)
            · rintro ρ555 w556 hj557 ⟨f39, f55, _⟩
              have hst := hj557.2
              exact go_plain (op_pick_t (.bool true) (f39.trans (congrArg Value.bool (congrArg (! ·) b29))) rfl (kS hj557 rfl))
            · intro ρ558 w559 hbw559 hst hRw559 hkw559
              have uw559_0 : ρ558 0 = v_l := (hkw559 0 rfl).trans q7_0
              have uw559_1 : ρ558 1 = (.int .i64 k) := (hkw559 1 rfl).trans q7_1
              have uw559_6 : ρ558 6 = (.int .i64 k) := (hkw559 6 rfl).trans q7_6
              have uw559_7 : ρ558 7 = (.bool (decide (k < 1))) := (hkw559 7 rfl).trans q7_7
              have uw559_8 : ρ558 8 = (.bool (decide (k < 1))) := (hkw559 8 rfl).trans q7_8
              have uw559_9 : ρ558 9 = (.int .i64 k) := (hkw559 9 rfl).trans q7_9
              have uw559_10 : ρ558 10 = (.bool (decide (3 < k))) := (hkw559 10 rfl).trans q7_10
              have uw559_11 : ρ558 11 = (.bool (decide (3 < k))) := (hkw559 11 rfl).trans q7_11
              have uw559_5 : ρ558 5 = (.int .i64 (i : Int)) := (hkw559 5 rfl).trans q7_5
              have uw559_12 : ρ558 12 = (.int .i64 (i : Int)) := (hkw559 12 rfl).trans rfl
              have uw559_13 : ρ558 13 = v_l := (hkw559 13 rfl).trans rfl
              have uw559_14 : ρ558 14 = (.int .i64 (l.length : Int)) := (hkw559 14 rfl).trans rfl
              have uw559_15 : ρ558 15 = (.bool (decide ((i : Int) < (l.length : Int)))) := (hkw559 15 rfl).trans rfl
              have uw559_56 : ρ558 56 = (.bool true) := hRw559 38 56 rfl
              refine then_n ?_
              refine cE_cond true uw559_56 (fun _ => ?_) (fun h => by cases h)
              refine cE_seq ?_
              refine cE_region rfl ?_
              refine s_cons (op_assign (.bool false) rfl ?_)
              refine s_nil ?_
              refine then_n ?_
              refine cE_ret ?_
              refine block_r (then_r (then_r (block_r (then_r ?_))))
              refine post_r _ (res1 (v := (.bool false)) rfl) ?_
              exact ⟨(retv1 (congrArg Value.bool (show false = (alignedA l k) from by first | (unfold alignedA; rw [coarse_no (by omega)]; rfl) | exact (hI.trans (ra_no (by omega) (Or.inl (by assumption)))).symm | exact (hI.trans (ra_no (by omega) (Or.inr (Or.inl (by assumption))))).symm | exact (hI.trans (ra_no (by omega) (Or.inr (Or.inr (by rw [lastF_pred (by omega) (by omega)]; assumption))))).symm | exact (hI.trans (aligns_end (by omega))).symm))), hst.bare⟩
        · refine cE_regionL hst [[(0, none)], [(5, none)], [(18, some 0), (19, some 1)], [(20, some 2)], [(21, some 3)], [(22, some 4)], [(23, some 5)], [(0, none), (24, some 6)], [(5, none), (24, some 6)], [(25, some 7), (26, some 8), (24, some 6)], [(27, some 9), (24, some 6)], [(28, some 10), (24, some 6)], [(1, none), (24, some 6)], [(29, some 11), (30, some 12), (24, some 6)], [(0, none), (24, some 6)], [(5, none), (24, some 6)], [(32, some 14), (33, some 15), (24, some 6)], [(34, some 16), (24, some 6)], [(35, some 17), (24, some 6)], [(31, some 13), (36, some 18), (24, some 6)], [(24, some 6), (37, some 19)], [(38, some 20)], [(5, none), (39, some 21)], [(40, some 22), (39, some 21)], [(41, some 23), (39, some 21)], [(0, none), (42, some 24)], [(5, none), (42, some 24)], [(43, some 25), (44, some 26), (42, some 24)], [(45, some 27), (42, some 24)], [(46, some 28), (42, some 24)], [(0, none), (42, some 24)], [(5, none), (42, some 24)], [(49, some 31), (42, some 24)], [(48, some 30), (50, some 32), (42, some 24)], [(51, some 33), (42, some 24)], [(52, some 34), (42, some 24)], [(47, some 29), (53, some 35), (42, some 24)], [(42, some 24), (54, some 36), (39, some 21)], [(39, some 21), (55, some 37)]] [(rEq v_l), (rEq (.int .i64 (i : Int))), (rPt [(.int .i64 ((l[i]'(by omega)).From)), (.int .i64 ((l[i]'(by omega)).Count)), (.int .i64 ((l[i]'(by omega)).Sum)), (.int .i64 ((l[i]'(by omega)).Min)), (.int .i64 ((l[i]'(by omega)).Max)), (.int .i64 ((l[i]'(by omega)).First)), (.int .i64 ((l[i]'(by omega)).Last))]), (rEq (.agg #[(.int .i64 ((l[i]'(by omega)).From)), (.int .i64 ((l[i]'(by omega)).Count)), (.int .i64 ((l[i]'(by omega)).Sum)), (.int .i64 ((l[i]'(by omega)).Min)), (.int .i64 ((l[i]'(by omega)).Max)), (.int .i64 ((l[i]'(by omega)).First)), (.int .i64 ((l[i]'(by omega)).Last))])), (rEq (.bool (mayA (l[i]'(by omega))))), (rEq (.bool (!(mayA (l[i]'(by omega)))))), (rEq (.bool (!(mayA (l[i]'(by omega)))))), (rEq undef), (rEq undef), (rEq undef), (rEq undef), (rEq undef), (rEq undef), (rEq undef), (rEq undef), (rEq undef), (rEq undef), (rEq undef), (rEq undef), (rEq undef), (rEq (.bool true)), (rEq (.bool true)), (rEq undef), (rEq undef), (rEq undef), (rEq undef), (rEq undef), (rEq undef), (rEq undef), (rEq undef), (rEq undef), (rEq undef), (rEq undef), (rEq undef), (rEq undef), (rEq undef), (rEq undef), (rEq undef), (rEq (.bool true))] (by kernel_rfl) rfl (by kernel_rfl) ⟨sEq, sEq, sPt, sEq, sEq, sEq, sEq, sEq, sEq, sEq, sEq, sEq, sEq, sEq, sEq, sEq, sEq, sEq, sEq, sEq, sEq, sEq, sEq, sEq, sEq, sEq, sEq, sEq, sEq, sEq, sEq, sEq, sEq, sEq, sEq, sEq, sEq, sEq, sEq, trivial⟩ ⟨?_, ?_, ?_, ?_, ?_, ?_, ?_, ?_, ?_, ?_, ?_, ?_, ?_, ?_, ?_, ?_, ?_, ?_, ?_, ?_, ?_, ?_, ?_, ?_, ?_, ?_, ?_, ?_, ?_, ?_, ?_, ?_, ?_, ?_, ?_, ?_, ?_, ?_, ?_, trivial⟩ ?_
          · rintro ρ564 w565 hj566 ⟨f0, _⟩
            have hst := hj566.2
            exact go_plain (op_move v_l (f0.trans q7_0) (kS hj566 rfl))
          · rintro ρ567 w568 hj569 ⟨f5, _⟩
            have hst := hj569.2
            exact go_plain (op_move (.int .i64 (i : Int)) (f5.trans q7_5) (kS hj569 rfl))
          · rintro ρ570 w571 hj572 ⟨f18, f19, _⟩
            have hst := hj572.2
            refine go_plain (op_indexAddrN (E := aggE) (xs := l) i Try.underlying41 Try.sizeOf26 f18 h_l f19 (by omega) (by omega) (fun a573 o574 p575 => ?_))
            exact kS hj572 ⟨_, _, rfl, (p575.below hst.below)⟩
          · rintro ρ576 w577 hj578 ⟨f20, _⟩
            have hst := hj578.2
            obtain ⟨a579, o580, e581, p582⟩ := f20
            exact go_plain (op_loadN (cs := [(.int .i64 ((l[i]'(by omega)).From)), (.int .i64 ((l[i]'(by omega)).Count)), (.int .i64 ((l[i]'(by omega)).Sum)), (.int .i64 ((l[i]'(by omega)).Min)), (.int .i64 ((l[i]'(by omega)).Max)), (.int .i64 ((l[i]'(by omega)).First)), (.int .i64 ((l[i]'(by omega)).Last))]) Try.isAgg26 Try.sizeOf26 e581 (Pt.of p582 rfl) rfl (kS hj578 rfl))
          · rintro ρ583 w584 hj585 ⟨f21, _⟩
            have hst := hj585.2
            refine go_plain (op_call Try.call38 (evs_cons (v := (.agg #[(.int .i64 ((l[i]'(by omega)).From)), (.int .i64 ((l[i]'(by omega)).Count)), (.int .i64 ((l[i]'(by omega)).Sum)), (.int .i64 ((l[i]'(by omega)).Min)), (.int .i64 ((l[i]'(by omega)).Max)), (.int .i64 ((l[i]'(by omega)).First)), (.int .i64 ((l[i]'(by omega)).Last))])) f21 evs_nil) (c_rMay (w0 := w584) (a := (l[i]'(by omega)))) ?_)
            rintro _ w586 ⟨rfl, hcall⟩
            refine ⟨_, rfl, ?_⟩
            exact kD hj585 hcall rfl
          · rintro ρ587 w588 hj589 ⟨f22, _⟩
            have hst := hj589.2
            exact go_plain (op_not (b := mayA (l[i]'(by omega))) f22 (kS hj589 rfl))
          · rintro ρ590 w591 hj592 ⟨f23, _⟩
            have hst := hj592.2
            exact go_plain (op_move (.bool (!(mayA (l[i]'(by omega))))) f23 (kS hj592 rfl))
          · rintro ρ593 w594 hj595 ⟨f0, f24, _⟩
            have hst := hj595.2
            exact go_no 24 rfl (f24.trans (congrArg Value.bool (congrArg (! ·) b17))) (kS hj595 rfl)
          · rintro ρ596 w597 hj598 ⟨f5, f24, _⟩
            have hst := hj598.2
            exact go_no 24 rfl (f24.trans (congrArg Value.bool (congrArg (! ·) b17))) (kS hj598 rfl)
          · rintro ρ599 w600 hj601 ⟨f25, f26, f24, _⟩
            have hst := hj601.2
            exact go_no 24 rfl (f24.trans (congrArg Value.bool (congrArg (! ·) b17))) (kS hj601 rfl)
          · rintro ρ602 w603 hj604 ⟨f27, f24, _⟩
            have hst := hj604.2
            exact go_no 24 rfl (f24.trans (congrArg Value.bool (congrArg (! ·) b17))) (kS hj604 rfl)
          · rintro ρ605 w606 hj607 ⟨f28, f24, _⟩
            have hst := hj607.2
            exact go_no 24 rfl (f24.trans (congrArg Value.bool (congrArg (! ·) b17))) (kS hj607 rfl)
          · rintro ρ608 w609 hj610 ⟨f1, f24, _⟩
            have hst := hj610.2
            exact go_no 24 rfl (f24.trans (congrArg Value.bool (congrArg (! ·) b17))) (kS hj610 rfl)
          · rintro ρ611 w612 hj613 ⟨f29, f30, f24, _⟩
            have hst := hj613.2
            exact go_no 24 rfl (f24.trans (congrArg Value.bool (congrArg (! ·) b17))) (kS hj613 rfl)
          · rintro ρ614 w615 hj616 ⟨f0, f24, _⟩
            have hst := hj616.2
            exact go_no 24 rfl (f24.trans (congrArg Value.bool (congrArg (! ·) b17))) (kS hj616 rfl)
          · rintro ρ617 w618 hj619 ⟨f5, f24, _⟩
            have hst := hj619.2
            exact go_no 24 rfl (f24.trans (congrArg Value.bool (congrArg (! ·) b17))) (kS hj619 rfl)
          · rintro ρ620 w621 hj622 ⟨f32, f33, f24, _⟩
            have hst := hj622.2
            exact go_no 24 rfl (f24.trans (congrArg Value.bool (congrArg (! ·) b17))) (kS hj622 rfl)
          · rintro ρ623 w624 hj625 ⟨f34, f24, _⟩
            have hst := hj625.2
            exact go_no 24 rfl (f24.trans (congrArg Value.bool (congrArg (! ·) b17))) (kS hj625 rfl)
          · rintro ρ626 w627 hj628 ⟨f35, f24, _⟩
            have hst := hj628.2
            exact go_no 24 rfl (f24.trans (congrArg Value.bool (congrArg (! ·) b17))) (kS hj628 rfl)
          · rintro ρ629 w630 hj631 ⟨f31, f36, f24, _⟩
            have hst := hj631.2
            exact go_no 24 rfl (f24.trans (congrArg Value.bool (congrArg (! ·) b17))) (kS hj631 rfl)
          · rintro ρ632 w633 hj634 ⟨f24, f37, _⟩
            have hst := hj634.2
            exact go_plain (op_pick_t (.bool true) (f24.trans (congrArg Value.bool (congrArg (! ·) b17))) rfl (kS hj634 rfl))
          · rintro ρ635 w636 hj637 ⟨f38, _⟩
            have hst := hj637.2
            exact go_plain (op_move (.bool true) f38 (kS hj637 rfl))
          · rintro ρ638 w639 hj640 ⟨f5, f39, _⟩
            have hst := hj640.2
            exact go_no 39 rfl f39 (kS hj640 rfl)
          · rintro ρ641 w642 hj643 ⟨f40, f39, _⟩
            have hst := hj643.2
            exact go_no 39 rfl f39 (kS hj643 rfl)
          · rintro ρ644 w645 hj646 ⟨f41, f39, _⟩
            have hst := hj646.2
            exact go_no 39 rfl f39 (kS hj646 rfl)
          · rintro ρ647 w648 hj649 ⟨f0, f42, _⟩
            have hst := hj649.2
            exact go_un 42 rfl f42 (kS hj649 rfl)
          · rintro ρ650 w651 hj652 ⟨f5, f42, _⟩
            have hst := hj652.2
            exact go_un 42 rfl f42 (kS hj652 rfl)
          · rintro ρ653 w654 hj655 ⟨f43, f44, f42, _⟩
            have hst := hj655.2
            exact go_un 42 rfl f42 (kS hj655 rfl)
          · rintro ρ656 w657 hj658 ⟨f45, f42, _⟩
            have hst := hj658.2
            exact go_un 42 rfl f42 (kS hj658 rfl)
          · rintro ρ659 w660 hj661 ⟨f46, f42, _⟩
            have hst := hj661.2
            exact go_un 42 rfl f42 (kS hj661 rfl)
          · rintro ρ662 w663 hj664 ⟨f0, f42, _⟩
            have hst := hj664.2
            exact go_un 42 rfl f42 (kS hj664 rfl)
          · rintro ρ665 w666 hj667 ⟨f5, f42, _⟩
            have hst := hj667.2
            exact go_un 42 rfl f42 (kS hj667 rfl)
          · rintro ρ668 w669 hj670 ⟨f49, f42, _⟩
            have hst := hj670.2
            exact go_un 42 rfl f42 (kS hj670 rfl)
          · rintro ρ671 w672 hj673 ⟨f48, f50, f42, _⟩
            have hst := hj673.2
            exact go_un 42 rfl f42 (kS hj673 rfl)
          · rintro ρ674 w675 hj676 ⟨f51, f42, _⟩
            have hst := hj676.2
            exact go_un 42 rfl f42 (kS hj676 rfl)
          · rintro ρ677 w678 hj679 ⟨f52, f42, _⟩
            have hst := hj679.2
            exact go_un 42 rfl f42 (kS hj679 rfl)
          · rintro ρ680 w681 hj682 ⟨f47, f53, f42, _⟩
            have hst := hj682.2
            exact go_un 42 rfl f42 (kS hj682 rfl)
          · rintro ρ683 w684 hj685 ⟨f42, f54, f39, _⟩
            have hst := hj685.2
            exact go_no 39 rfl f39 (kS hj685 rfl)
          · rintro ρ686 w687 hj688 ⟨f39, f55, _⟩
            have hst := hj688.2
            exact go_plain (op_pick_t (.bool true) f39 rfl (kS hj688 rfl))
          · intro ρ689 w690 hbw690 hst hRw690 hkw690
            have uw690_0 : ρ689 0 = v_l := (hkw690 0 rfl).trans q7_0
            have uw690_1 : ρ689 1 = (.int .i64 k) := (hkw690 1 rfl).trans q7_1
            have uw690_6 : ρ689 6 = (.int .i64 k) := (hkw690 6 rfl).trans q7_6
            have uw690_7 : ρ689 7 = (.bool (decide (k < 1))) := (hkw690 7 rfl).trans q7_7
            have uw690_8 : ρ689 8 = (.bool (decide (k < 1))) := (hkw690 8 rfl).trans q7_8
            have uw690_9 : ρ689 9 = (.int .i64 k) := (hkw690 9 rfl).trans q7_9
            have uw690_10 : ρ689 10 = (.bool (decide (3 < k))) := (hkw690 10 rfl).trans q7_10
            have uw690_11 : ρ689 11 = (.bool (decide (3 < k))) := (hkw690 11 rfl).trans q7_11
            have uw690_5 : ρ689 5 = (.int .i64 (i : Int)) := (hkw690 5 rfl).trans q7_5
            have uw690_12 : ρ689 12 = (.int .i64 (i : Int)) := (hkw690 12 rfl).trans rfl
            have uw690_13 : ρ689 13 = v_l := (hkw690 13 rfl).trans rfl
            have uw690_14 : ρ689 14 = (.int .i64 (l.length : Int)) := (hkw690 14 rfl).trans rfl
            have uw690_15 : ρ689 15 = (.bool (decide ((i : Int) < (l.length : Int)))) := (hkw690 15 rfl).trans rfl
            have uw690_56 : ρ689 56 = (.bool true) := hRw690 38 56 rfl
            refine then_n ?_
            refine cE_cond true uw690_56 (fun _ => ?_) (fun h => by cases h)
            refine cE_seq ?_
            refine cE_region rfl ?_
            refine s_cons (op_assign (.bool false) rfl ?_)
            refine s_nil ?_
            refine then_n ?_
            refine cE_ret ?_
            refine block_r (then_r (then_r (block_r (then_r ?_))))
            refine post_r _ (res1 (v := (.bool false)) rfl) ?_
            exact ⟨(retv1 (congrArg Value.bool (show false = (alignedA l k) from by first | (unfold alignedA; rw [coarse_no (by omega)]; rfl) | exact (hI.trans (ra_no (by omega) (Or.inl (by assumption)))).symm | exact (hI.trans (ra_no (by omega) (Or.inr (Or.inl (by assumption))))).symm | exact (hI.trans (ra_no (by omega) (Or.inr (Or.inr (by rw [lastF_pred (by omega) (by omega)]; assumption))))).symm | exact (hI.trans (aligns_end (by omega))).symm))), hst.bare⟩
      · have c691 : ¬ ((i : Int) < (l.length : Int)) := of_decide_eq_false b11
        refine cE_cond false (congrArg Value.bool b11) (fun h => by cases h) (fun _ => ?_)
        refine cE_exit ?_
        refine then_x (then_x (block_hit (then_n ?_)))
        refine cE_seq ?_
        refine cE_region rfl ?_
        refine s_cons (op_assign (.bool true) rfl ?_)
        refine s_nil ?_
        refine then_n ?_
        refine cE_ret ?_
        refine post_r _ (res1 (v := (.bool true)) rfl) ?_
        exact ⟨(retv1 (congrArg Value.bool (show true = (alignedA l k) from by first | (unfold alignedA; rw [coarse_no (by omega)]; rfl) | exact (hI.trans (ra_no (by omega) (Or.inl (by assumption)))).symm | exact (hI.trans (ra_no (by omega) (Or.inr (Or.inl (by assumption))))).symm | exact (hI.trans (ra_no (by omega) (Or.inr (Or.inr (by rw [lastF_pred (by omega) (by omega)]; assumption))))).symm | exact (hI.trans (aligns_end (by omega))).symm))), hst.bare⟩

end Go.Proofs.Ytffnhcioponbbaa
