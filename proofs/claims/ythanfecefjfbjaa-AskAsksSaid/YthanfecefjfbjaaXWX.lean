/- How the library's sort compares two notes: the answer, and the world behind it told exactly. -/
import Derived.Test.YthanfecefjfbjaaXLA
import Derived.Test.YthanfecefjfbjaaXW10
namespace Go.Proofs.Ythanfecefjfbjaa
open Go.RowKit

set_option maxRecDepth 8000
theorem x_isNaN_int64 (w0 : World) (x : Int) :
  Calls Try.prog 61 #[(iV x)] w0 fun e w' => e = .returned (.bool false) ∧ w' = w0 := by
 refine calls_E (n := 6) (ts := [2]) Try.func61 rfl rfl rfl (by simp) ?_
 have hst := St.start w0
 refine cE_seq (cE_region rfl (s_cons (op_assign (.bool false) rfl (s_nil (then_n (cE_seq (cE_region rfl (s_cons (op_move (iV x) rfl (s_cons (op_move (iV x) rfl (s_cons (op_neq (k := .i64) (a := x) (b := x) rfl rfl (s_cons (op_assign (.bool (!decide (x = x))) rfl (s_nil (then_n (cE_ret (post_r _ (res1 (v := (.bool false)) (congrArg Value.bool (congrArg (! ·) (show (decide (x = x)) = true from (decide_eq_true rfl))))) ?_)))))))))))))))))))
 exact ⟨rfl, rfl⟩

theorem x_Compare_int64 (w0 : World) (x : Int) (y : Int) :
  Calls Try.prog 42 #[(iV x), (iV y)] w0 fun e w' => e = .returned (iV (cmpI x y)) ∧ w' = w0 := by
 refine calls_E (n := 20) (ts := [4]) Try.func42 rfl rfl rfl (by simp) ?_
 have hst := St.start w0
 refine cE_seq (cE_region rfl (s_cons (op_assign (iV 0) rfl (s_nil (then_n (cE_seq (cE_region rfl (s_cons (op_move (iV x) rfl (s_cons (op_call Try.call61 (evs_cons (v := (iV x)) rfl evs_nil) (x_isNaN_int64 (w0 := w0) (x := x)) ?_)))))))))))
 rintro _ w1 ⟨rfl, hw⟩
 subst w1
 refine ⟨_, rfl, ?_⟩
 refine s_cons (op_assign (.bool false) rfl (s_nil (then_n (cE_seq (cE_region rfl (s_cons (op_move (iV y) rfl (s_cons (op_call Try.call61 (evs_cons (v := (iV y)) rfl evs_nil) (x_isNaN_int64 (w0 := w0) (x := y)) ?_)))))))))
 rintro _ w1 ⟨rfl, hw⟩
 subst w1
 refine ⟨_, rfl, ?_⟩
 refine s_cons (op_assign (.bool false) rfl (s_nil (then_n (cE_seq (cE_seq (cE_region rfl (s_cons (op_move (.bool false) rfl (s_nil (then_n (cE_cond false rfl (fun h => by cases h) (fun _ => ?_))))))))))))
 refine cE_skip (then_n (cE_seq (cE_seq (cE_region rfl (s_cons (op_move (.bool false) rfl (s_nil (then_n (cE_cond false rfl (fun h => by cases h) (fun _ => ?_))))))))))
 refine cE_skip (then_n (cE_seq (cE_seq (cE_region rfl (s_cons (op_move (iV x) rfl (s_cons (op_move (iV y) rfl (s_cons (op_lss (k := .i64) (a := x) (b := y) rfl rfl (s_nil (then_n ?_))))))))))))
 rcases Bool.eq_false_or_eq_true (decide (x < y)) with b11 | b11
 ·have c12 : x < y := of_decide_eq_true b11
  refine cE_cond true (congrArg Value.bool b11) (fun _ => ?_) (fun h => by cases h)
  refine cE_seq (cE_region rfl (s_cons (op_assign (iV (-1)) rfl (s_nil (then_n (cE_ret (then_r (post_r _ (res1 (v := (iV (-1))) rfl) ?_))))))))
  exact ⟨(retv1 (congrArg iV (show (-1) = (cmpI x y) from by (unfold cmpI; (repeat' split) <;> omega)))), rfl⟩
 have c13 : ¬ (x < y) := of_decide_eq_false b11
 refine cE_cond false (congrArg Value.bool b11) (fun h => by cases h) (fun _ => ?_)
 refine cE_skip (then_n (cE_seq (cE_seq (cE_region rfl (s_cons (op_move (iV x) rfl (s_cons (op_move (iV y) rfl (s_cons (op_gtr (k := .i64) (a := x) (b := y) rfl rfl (s_nil (then_n ?_))))))))))))
 rcases Bool.eq_false_or_eq_true (decide (y < x)) with b14 | b14
 ·have c15 : y < x := of_decide_eq_true b14
  refine cE_cond true (congrArg Value.bool b14) (fun _ => ?_) (fun h => by cases h)
  refine cE_seq (cE_region rfl (s_cons (op_assign (iV 1) rfl (s_nil (then_n (cE_ret (then_r (post_r _ (res1 (v := (iV 1)) rfl) ?_))))))))
  exact ⟨(retv1 (congrArg iV (show 1 = (cmpI x y) from by (unfold cmpI; (repeat' split) <;> omega)))), rfl⟩
 have c16 : ¬ (y < x) := of_decide_eq_false b14
 refine cE_cond false (congrArg Value.bool b14) (fun h => by cases h) (fun _ => ?_)
 refine cE_skip (then_n (cE_seq (cE_region rfl (s_cons (op_assign (iV 0) rfl (s_nil (then_n (cE_ret (post_r _ (res1 (v := (iV 0)) rfl) ?_)))))))))
 exact ⟨(retv1 (congrArg iV (show 0 = (cmpI x y) from by (unfold cmpI; (repeat' split) <;> omega)))), rfl⟩

theorem x_Or (w0 : World) (v_l : Value) (l : List Int) (h_l : Sl w0 (intE .i64) v_l l) :
  Calls Try.prog 38 #[v_l] w0 fun e w' => e = .returned (iV (orI l)) ∧ w' = w0 := by
 refine calls_E (n := 18) (ts := [2]) Try.func38 rfl rfl rfl (by simp) ?_
 have hst := St.start w0
 refine cE_seq (cE_region rfl (s_cons (op_assign (iV 0) rfl (s_nil (then_n (cE_seq (cE_region rfl (s_cons (op_assign (iV 0) rfl (s_nil (then_n (cE_seq (cE_seq (cE_region rfl (s_cons (op_move v_l rfl (s_cons (op_len (E := (intE .i64)) (xs := l) Try.underlying43 rfl h_l (s_cons (op_move (iV 0) rfl (s_nil (then_n (cE_block (cE_loop (fun (m : Nat) (ρ : Env) (w : World) => ∃ (i : Nat), m = l.length - i ∧ ρ 0 = v_l ∧ ρ 3 = (iV 0) ∧ ρ 6 = v_l ∧ ρ 7 = (iV (l.length : Int)) ∧ ρ 8 = (iV (i : Int)) ∧ w = w0 ∧ (i ≤ l.length) ∧ (orI l = orI (l.drop i))) id _ ⟨0, rfl, rfl, rfl, rfl, rfl, (congrArg iV (show 0 = _ from by omega)), rfl, (by omega), (by first | rfl | exact hI.trans (or_go (by omega) (by assumption)))⟩ ?_))))))))))))))))))))))))
 rintro m18 ρ19 w20 ⟨i, hm18, q17_0, q17_3, q17_6, q17_7, q17_8, hw, hi, hI⟩
 subst w20
 have hst := St.start w0
 have hlen := h_l.len
 refine cE_seq (cE_region rfl (s_cons (op_lss (k := .i64) (a := (i : Int)) (b := (l.length : Int)) q17_8 q17_7 (s_nil (then_n (cE_seq ?_))))))
 rcases Bool.eq_false_or_eq_true (decide ((i : Int) < (l.length : Int))) with b21 | b21
 ·have c22 : (i : Int) < (l.length : Int) := of_decide_eq_true b21
  refine cE_cond true (congrArg Value.bool b21) (fun _ => ?_) (fun h => by cases h)
  refine cE_skip (then_n (cE_seq (cE_block (cE_seq (cE_region rfl (s_cons (op_indexAddrN (E := (intE .i64)) (xs := l) i Try.underlying43 Try.sizeOf3 q17_6 h_l q17_8 (by omega) (by omega) (fun a23 o24 p25 => ?_))))))))
  refine s_cons (op_load1 (u := (iV (l[i]'(by omega)))) Try.isAgg3 rfl (p25.below hst.below) (s_cons (op_assign (iV (l[i]'(by omega))) rfl (s_nil (then_n (cE_seq (cE_region rfl (s_cons (op_move (iV (l[i]'(by omega))) rfl (s_cons (op_move (iV 0) q17_3 (s_cons (op_neq (k := .i64) (a := (l[i]'(by omega))) (b := 0) rfl rfl (s_nil (then_n ?_)))))))))))))))
  rcases Bool.eq_false_or_eq_true (decide ((l[i]'(by omega)) = 0)) with b26 | b26
  ·have c27 : (l[i]'(by omega)) = 0 := of_decide_eq_true b26
   refine cE_cond false (congrArg Value.bool (congrArg (! ·) b26)) (fun h => by cases h) (fun _ => ?_)
   refine cE_skip (block_n (then_n (cE_region rfl (s_cons (op_add (k := .i64) (a := (i : Int)) (b := 1) ((i : Int) + 1) q17_8 rfl (xi64 (by omega) (by omega)) (s_cons (op_move (iV ((i : Int) + 1)) rfl (s_nil (then_n ?_)))))))))
   exact ⟨_, ⟨(i + 1), rfl, q17_0, q17_3, q17_6, q17_7, (congrArg iV (show ((i : Int) + 1) = _ from by omega)), rfl, (by omega), (by first | rfl | exact hI.trans (or_go (by omega) (by assumption)))⟩, (by simp only [id]; omega)⟩
  have c28 : ¬ ((l[i]'(by omega)) = 0) := of_decide_eq_false b26
  refine cE_cond true (congrArg Value.bool (congrArg (! ·) b26)) (fun _ => ?_) (fun h => by cases h)
  refine cE_seq (cE_region rfl (s_cons (op_move (iV (l[i]'(by omega))) rfl (s_cons (op_assign (iV (l[i]'(by omega))) rfl (s_nil (then_n (cE_ret (block_r (then_r (then_r (block_r (then_r (post_r _ (res1 (v := (iV (l[i]'(by omega)))) rfl) ?_))))))))))))))
  exact ⟨(retv1 (congrArg iV (show (l[i]'(by omega)) = (orI l) from by first | exact (hI.trans (or_at (by omega) (by assumption))).symm | exact (hI.trans (or_end (by omega))).symm))), rfl⟩
 have c29 : ¬ ((i : Int) < (l.length : Int)) := of_decide_eq_false b21
 refine cE_cond false (congrArg Value.bool b21) (fun h => by cases h) (fun _ => ?_)
 refine cE_exit (then_x (then_x (block_hit (then_n (cE_seq (cE_region rfl (s_cons (op_move (iV 0) q17_3 (s_cons (op_assign (iV 0) rfl (s_nil (then_n (cE_ret (post_r _ (res1 (v := (iV 0)) rfl) ?_))))))))))))))
 exact ⟨(retv1 (congrArg iV (show 0 = (orI l) from by first | exact (hI.trans (or_at (by omega) (by assumption))).symm | exact (hI.trans (or_end (by omega))).symm))), rfl⟩

theorem x_cmpF (w0 : World) (a : Info) (b : Info) :
  Calls Try.prog 41 #[(.agg #[(iV a.Id), (iV a.Tier), (iV a.From), (iV a.To), (.int .u32 a.Sum)]), (.agg #[(iV b.Id), (iV b.Tier), (iV b.From), (iV b.To), (.int .u32 b.Sum)])] w0 fun e w' => e = .returned (iV (cmpF a b)) ∧ Gr w0 w' := by
 refine calls_E (n := 17) (ts := [4]) Try.func41 rfl rfl rfl (by simp) ?_
 have hst := St.start w0
 refine cE_seq (cE_region rfl (s_cons (op_boxX (v := (.agg #[(iV a.Id), (iV a.Tier), (iV a.From), (iV a.To), (.int .u32 a.Sum)])) (cs := #[(iV a.Id), (iV a.Tier), (iV a.From), (iV a.To), (.int .u32 a.Sum)]) hst rfl rfl (fun g92 w93 hst hg1 => ?_))))
 replace hst : St w0 w93 [.blk g92 65 #[(iV a.Id), (iV a.Tier), (iV a.From), (iV a.To), (.int .u32 a.Sum)]] := hst
 refine s_cons (op_boxX (v := (.agg #[(iV b.Id), (iV b.Tier), (iV b.From), (iV b.To), (.int .u32 b.Sum)])) (cs := #[(iV b.Id), (iV b.Tier), (iV b.From), (iV b.To), (.int .u32 b.Sum)]) hst rfl rfl (fun g94 w95 hst hg2 => ?_))
 replace hst : St w0 w95 [.blk g94 65 #[(iV b.Id), (iV b.Tier), (iV b.From), (iV b.To), (.int .u32 b.Sum)], .blk g92 65 #[(iV a.Id), (iV a.Tier), (iV a.From), (iV a.To), (.int .u32 a.Sum)]] := hst
 refine s_cons (op_assign (iV 0) rfl (s_nil (then_n (cE_seq (cE_regionX hst (hg1.trans hg2) [[(2, none)], [(5, some 0)], [(3, none)], [(7, some 2)], [(6, some 1), (8, some 3)], [(2, none)], [(10, some 5)], [(3, none)], [(12, some 7)], [(11, some 6), (13, some 8)], [(9, some 4), (14, some 9)], [(15, some 10)], [(16, some 11)]] [(rEq (.pointer (some ⟨g92, (0 + 2), none⟩))), (rEq (iV a.From)), (rEq (.pointer (some ⟨g94, (0 + 2), none⟩))), (rEq (iV b.From)), (rEq (iV (cmpI a.From b.From))), (rEq (.pointer (some ⟨g92, (0 + 3), none⟩))), (rEq (iV a.To)), (rEq (.pointer (some ⟨g94, (0 + 3), none⟩))), (rEq (iV b.To)), (rEq (iV (cmpI a.To b.To))), (rSl (intE .i64) ([(cmpI a.From b.From), (cmpI a.To b.To)])), (rEq (iV (orI ([(cmpI a.From b.From), (cmpI a.To b.To)])))), (rEq (iV (orI ([(cmpI a.From b.From), (cmpI a.To b.To)]))))] (by kernel_rfl) rfl (by kernel_rfl) ⟨sEq, sEq, sEq, sEq, sEq, sEq, sEq, sEq, sEq, sEq, sSl, sEq, sEq, trivial⟩ ⟨?_, ?_, ?_, ?_, ?_, ?_, ?_, ?_, ?_, ?_, ?_, ?_, ?_, trivial⟩ ?_)))))
 ·rintro ρ101 w102 hj103 ⟨f2, _⟩
  have hst := hj103.1.2
  exact go_plain (op_fieldAddr (s := 0) Try.underlying65 rfl rfl Try.sizeOf2 (f2.trans rfl) (kSX hj103 rfl))
 ·rintro ρ104 w105 hj106 ⟨f5, _⟩
  have hst := hj106.1.2
  exact go_plain (op_load1 (u := (iV a.From)) Try.isAgg2 f5 ((hst.cell 1 rfl).drop 2) (kSX hj106 rfl))
 ·rintro ρ107 w108 hj109 ⟨f3, _⟩
  have hst := hj109.1.2
  exact go_plain (op_fieldAddr (s := 0) Try.underlying65 rfl rfl Try.sizeOf2 (f3.trans rfl) (kSX hj109 rfl))
 ·rintro ρ110 w111 hj112 ⟨f7, _⟩
  have hst := hj112.1.2
  exact go_plain (op_load1 (u := (iV b.From)) Try.isAgg2 f7 ((hst.cell 0 rfl).drop 2) (kSX hj112 rfl))
 ·rintro ρ113 w114 hj115 ⟨f6, f8, _⟩
  have hst := hj115.1.2
  refine go_plain (op_call Try.call42 (evs_cons (v := (iV a.From)) f6 (evs_cons (v := (iV b.From)) f8 evs_nil)) (x_Compare_int64 (w0 := w114) (x := a.From) (y := b.From)) ?_)
  rintro _ w116 ⟨rfl, hw⟩
  subst w116
  refine ⟨_, rfl, ?_⟩
  exact kSX hj115 rfl
 ·rintro ρ117 w118 hj119 ⟨f2, _⟩
  have hst := hj119.1.2
  exact go_plain (op_fieldAddr (s := 0) Try.underlying65 rfl rfl Try.sizeOf2 (f2.trans rfl) (kSX hj119 rfl))
 ·rintro ρ120 w121 hj122 ⟨f10, _⟩
  have hst := hj122.1.2
  exact go_plain (op_load1 (u := (iV a.To)) Try.isAgg2 f10 ((hst.cell 1 rfl).drop 3) (kSX hj122 rfl))
 ·rintro ρ123 w124 hj125 ⟨f3, _⟩
  have hst := hj125.1.2
  exact go_plain (op_fieldAddr (s := 0) Try.underlying65 rfl rfl Try.sizeOf2 (f3.trans rfl) (kSX hj125 rfl))
 ·rintro ρ126 w127 hj128 ⟨f12, _⟩
  have hst := hj128.1.2
  exact go_plain (op_load1 (u := (iV b.To)) Try.isAgg2 f12 ((hst.cell 0 rfl).drop 3) (kSX hj128 rfl))
 ·rintro ρ129 w130 hj131 ⟨f11, f13, _⟩
  have hst := hj131.1.2
  refine go_plain (op_call Try.call42 (evs_cons (v := (iV a.To)) f11 (evs_cons (v := (iV b.To)) f13 evs_nil)) (x_Compare_int64 (w0 := w130) (x := a.To) (y := b.To)) ?_)
  rintro _ w132 ⟨rfl, hw⟩
  subst w132
  refine ⟨_, rfl, ?_⟩
  exact kSX hj131 rfl
 ·rintro ρ133 w134 hj135 ⟨f9, f14, _⟩
  have hst := hj135.1.2
  have hst := St.start w134
  refine go_plain (op_buildSliceX (E := (intE .i64)) [(cmpI a.From b.From), (cmpI a.To b.To)] hst Try.underlying43 Try.sizeOf3 Try.zeroValue3 (evp_cons (v := (iV (cmpI a.From b.From))) f9 (evp_cons (v := (iV (cmpI a.To b.To))) f14 evp_nil)) (parts_cons rfl (parts_cons rfl parts_nil)) rfl (by decide) (fun v136 w137 hst hgb => ?_))
  exact kDX hj135 hst hgb (hst.sl 0 rfl)
 ·rintro ρ138 w139 hj140 ⟨f15, _⟩
  have hst := hj140.1.2
  have hs143 : Sl w139 (intE .i64) _ ([(cmpI a.From b.From), (cmpI a.To b.To)]) := f15
  refine go_plain (op_call Try.call38 (evs_cons (v := _) rfl evs_nil) (x_Or (w0 := w139) (v_l := _) (l := [(cmpI a.From b.From), (cmpI a.To b.To)]) (h_l := hs143)) ?_)
  rintro _ w144 ⟨rfl, hw⟩
  subst w144
  refine ⟨_, rfl, ?_⟩
  exact kSX hj140 rfl
 ·rintro ρ145 w146 hj147 ⟨f16, _⟩
  have hst := hj147.1.2
  exact go_plain (op_assign (iV (orI ([(cmpI a.From b.From), (cmpI a.To b.To)]))) f16 (kSX hj147 rfl))
 intro ρ148 w149 hgw hst hRw149 hkw149
 have uw149_0 : ρ148 0 = (.agg #[(iV a.Id), (iV a.Tier), (iV a.From), (iV a.To), (.int .u32 a.Sum)]) := (hkw149 0 rfl).trans rfl
 have uw149_1 : ρ148 1 = (.agg #[(iV b.Id), (iV b.Tier), (iV b.From), (iV b.To), (.int .u32 b.Sum)]) := (hkw149 1 rfl).trans rfl
 have uw149_4 : ρ148 4 = (iV (orI ([(cmpI a.From b.From), (cmpI a.To b.To)]))) := hRw149 12 4 rfl
 refine then_n (cE_ret (post_r _ (res1 (v := (iV (orI ([(cmpI a.From b.From), (cmpI a.To b.To)])))) uw149_4) ?_))
 exact ⟨(retv1 (congrArg iV (show (orI ([(cmpI a.From b.From), (cmpI a.To b.To)])) = (cmpF a b) from by rfl))), hgw⟩

end Go.Proofs.Ythanfecefjfbjaa
