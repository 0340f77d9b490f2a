/- judge.Content -/
import Derived.Test.YtldfnkhccaglmaaXW61
import Derived.Test.YtldfnkhccaglmaaXLA
import Derived.Test.YtldfnkhccaglmaaXW5
namespace Go.Proofs.Ytldfnkhccaglmaa
open Go.RowKit

set_option maxRecDepth 8000 in
set_option maxHeartbeats 8000000 in
theorem c_Content (w0 : World) (v_l : Value) (l : List Told) (h_l : Sl w0 toldE v_l l) (v_h : Value) (h : List Sample) (h_h : Sl w0 sampE v_h h) (hho : ∀ s ∈ h, s.ok) :
  Calls Try.prog 11 #[v_l, v_h] w0 fun e w' => e = .returned (iV (contentC l h)) ∧ St w0 w' [] := by
 refine calls_E (n := 42) (ts := [4]) Try.func11 rfl rfl rfl (by simp) ?_
 have hst := St.start w0
 refine cE_seq (cE_region rfl (s_cons (op_assign (iV 0) rfl (s_nil (then_n (cE_seq (cE_seq (cE_region rfl (s_cons (op_move v_h rfl (s_cons (op_call Try.call20 (evs_cons (v := v_h) rfl evs_nil) (c_Rising (w0 := w0) (v_l := v_h) (l := h) (h_l := (h_h.below hst.below))) ?_))))))))))))
 rintro _ w1 ⟨rfl, hcall⟩
 refine ⟨_, rfl, ?_⟩
 have hst := hst.call hcall
 refine s_cons (op_not (b := risingA h) rfl (s_nil (then_n ?_)))
 rcases Bool.eq_false_or_eq_true (risingA h) with b2 | b2
 ·refine cE_cond false (congrArg Value.bool (congrArg (! ·) b2)) (fun h => by cases h) (fun _ => ?_)
  refine cE_skip (then_n (cE_seq (cE_region rfl (s_cons (op_makeMap encS hst (fun g3 w4 hst => ?_))))))
  refine s_cons (op_makeMap encS hst (fun g5 w6 hst => ?_))
  refine s_cons (op_alloc (cs := #[(.map none)]) hst Try.zeroValue62 rfl (fun g7 w8 hst _ => ?_))
  refine s_cons (op_assign (.map (some g3)) rfl (s_cons0 (op_store1 hst 0 rfl Try.sizeOf62 rfl rfl rfl (show 0 < 1 from by decide) (fun w9 hst => ?_))))
  refine s_nil (then_n (cE_seq (cE_seq (cE_region rfl (s_cons (op_move v_l rfl (s_cons (op_len (E := toldE) (xs := l) Try.underlying22 rfl h_l (s_cons (op_move (iV 0) rfl (s_nil (then_n (cE_block ?_)))))))))))))
  replace hst := hst.front 1 rfl
  replace hst := hst.front 1 rfl
  replace hst := hst.front 2 rfl
  refine cE_loop (fun (m : Nat) (ρ : Env) (w : World) => ∃ (M : List (Sample × Nat)) (cl : Nat) (i : Nat), m = l.length - i ∧ ρ 0 = v_l ∧ ρ 1 = v_h ∧ ρ 4 = (iV 0) ∧ ρ 6 = (.pointer (some ⟨g7, 0, none⟩)) ∧ ρ 5 = (.map (some g3)) ∧ ρ 16 = v_l ∧ ρ 17 = (iV (l.length : Int)) ∧ ρ 18 = (iV (i : Int)) ∧ St w0 w [mapT encS g3 M cl, .blk g7 62 #[(.map (some g5))], mapT encS g5 ([]) 0] ∧ (i ≤ l.length) ∧ (∀ s, hasM M s = saidB (l.take i) s)) id _ ⟨[], 0, 0, rfl, rfl, rfl, rfl, rfl, rfl, rfl, rfl, (congrArg iV (show 0 = _ from by omega)), hst, (by omega), (by exact fun s => rfl)⟩ ?_
  rintro m11 ρ12 w13 ⟨M, cl, i, hm11, q10_0, q10_1, q10_4, q10_6, q10_5, q10_16, q10_17, q10_18, hst, hi, hM⟩
  have hlen := h_l.len
  refine cE_seq (cE_region rfl (s_cons (op_lss (k := .i64) (a := (i : Int)) (b := (l.length : Int)) q10_18 q10_17 (s_nil (then_n (cE_seq ?_))))))
  rcases Bool.eq_false_or_eq_true (decide ((i : Int) < (l.length : Int))) with b14 | b14
  ·have c15 := of_decide_eq_true b14
   refine cE_cond true (congrArg Value.bool b14) (fun _ => ?_) (fun h => by cases h)
   refine cE_skip (then_n (cE_seq (cE_block (cE_seq (cE_region rfl (s_cons (op_indexAddrD (E := toldE) (xs := l) i Try.underlying22 Try.sizeOf54 q10_16 h_l q10_18 (by omega) (by omega) (fun a16 o17 p18 => ?_))))))))
   refine s_cons (op_loadN (cs := [(iV (((gd l i).S).T)), (iV (((gd l i).S).V)), (iV ((gd l i).Site)), (iV ((gd l i).View)), (.bool ((gd l i).Safe))]) Try.isAgg54 Try.sizeOf54 rfl (Pt.of (p18.below hst.below) rfl) rfl (s_cons (op_alloc (cs := #[(iV 0), (iV 0), (iV 0), (iV 0), (.bool false)]) hst Try.zeroValue54 rfl (fun g19 w20 hst _ => ?_))))
   refine s_cons0 (op_storeAll hst 0 rfl Try.sizeOf54 rfl rfl rfl rfl (by simp [Value.oneCell']) (fun w21 hst => ?_))
   refine s_nil (then_n (cE_region rfl (s_cons (op_move (.map (some g3)) q10_5 (s_cons (op_fieldAddr (s := 1) Try.underlying54 rfl rfl Try.sizeOf51 rfl (s_cons (op_loadN (cs := [(iV (((gd l i).S).T)), (iV (((gd l i).S).V))]) Try.isAgg51 Try.sizeOf51 rfl (Pt.of (hst.cell 0 rfl) rfl) rfl (s_cons0 (op_mapSet (y := ((gd l i).S)) Try.keys51 Try.underlying62 hst 1 rfl rfl rfl rfl (fun M22 cl23 w24 hst hM25 => ?_)))))))))))
   refine s_nil (block_n (then_n (cE_region rfl (s_cons (op_add (k := .i64) (a := (i : Int)) (b := 1) ((i : Int) + 1) q10_18 rfl (xi64 (by omega) (by omega)) (s_cons (op_move (iV ((i : Int) + 1)) rfl (s_nil (then_n ?_)))))))))
   exact ⟨_, ⟨M22, cl23, (i + 1), rfl, q10_0, q10_1, q10_4, q10_6, q10_5, q10_16, q10_17, (congrArg iV (show ((i : Int) + 1) = _ from by omega)), (hst.sub (.cons _ (.cons_cons _ (.cons_cons _ (.cons_cons _ .slnil))))), (by omega), (by exact said_add (by omega) hM (by assumption))⟩, (by simp only [id]; omega)⟩
  have c26 := of_decide_eq_false b14
  refine cE_cond false (congrArg Value.bool b14) (fun h => by cases h) (fun _ => ?_)
  refine cE_exit (then_x (then_x (block_hit (then_n (cE_seq (cE_seq ?_))))))
  have hMA : ∀ s, hasM M s = saidB l s := fun s => by rw [hM s, List.take_of_length_le (by omega)]
  refine cE_region rfl (s_cons (op_move v_h q10_1 (s_cons (op_len (E := sampE) (xs := h) Try.underlying23 rfl h_h (s_cons (op_move (iV 0) rfl (s_nil (then_n (cE_block ?_)))))))))
  replace hst := hst.front 1 rfl
  replace hst := hst.front 2 rfl
  refine cE_loop (fun (m : Nat) (ρ : Env) (w : World) => ∃ (M2 : List (Sample × Nat)) (c2 : Nat) (j : Nat), m = h.length - j ∧ ρ 0 = v_l ∧ ρ 1 = v_h ∧ ρ 6 = (.pointer (some ⟨g7, 0, none⟩)) ∧ ρ 5 = (.map (some g3)) ∧ ρ 16 = v_l ∧ ρ 17 = (iV (l.length : Int)) ∧ ρ 18 = (iV (i : Int)) ∧ ρ 26 = v_h ∧ ρ 27 = (iV (h.length : Int)) ∧ ρ 28 = (iV (j : Int)) ∧ St w0 w [mapT encS g5 M2 c2, .blk g7 62 #[(.map (some g5))], mapT encS g3 M cl] ∧ (j ≤ h.length) ∧ (∀ s, hasM M2 s = decide (s ∈ h.take j)) ∧ ((h.take j).any (fun s => !saidB l s) = false)) id _ ⟨[], 0, 0, rfl, q10_0, q10_1, q10_6, q10_5, q10_16, q10_17, q10_18, rfl, rfl, (congrArg iV (show 0 = _ from by omega)), hst, (by omega), (by exact fun s => rfl), (by rfl)⟩ ?_
  rintro m28 ρ29 w30 ⟨M2, c2, j, hm28, q27_0, q27_1, q27_6, q27_5, q27_16, q27_17, q27_18, q27_26, q27_27, q27_28, hst, hj, hH, hN⟩
  have hlen2 := h_h.len
  refine cE_seq (cE_region rfl (s_cons (op_lss (k := .i64) (a := (j : Int)) (b := (h.length : Int)) q27_28 q27_27 (s_nil (then_n (cE_seq ?_))))))
  rcases Bool.eq_false_or_eq_true (decide ((j : Int) < (h.length : Int))) with b31 | b31
  ·have c32 := of_decide_eq_true b31
   refine cE_cond true (congrArg Value.bool b31) (fun _ => ?_) (fun h => by cases h)
   refine cE_skip (then_n (cE_seq (cE_block (cE_seq (cE_region rfl (s_cons (op_indexAddrD (E := sampE) (xs := h) j Try.underlying23 Try.sizeOf51 q27_26 h_h q27_28 (by omega) (by omega) (fun a33 o34 p35 => ?_))))))))
   refine s_cons (op_loadN (cs := [(iV ((gd h j).T)), (iV ((gd h j).V))]) Try.isAgg51 Try.sizeOf51 rfl (Pt.of (p35.below hst.below) rfl) rfl (s_cons (op_alloc (cs := #[(iV 0), (iV 0)]) hst Try.zeroValue51 rfl (fun g36 w37 hst _ => ?_))))
   refine s_cons0 (op_storeAll hst 0 rfl Try.sizeOf51 rfl rfl rfl rfl (by simp [Value.oneCell']) (fun w38 hst => ?_))
   refine s_nil (then_n (cE_seq (cE_region rfl (s_cons (op_load1 (u := (.map (some g5))) Try.isAgg62 q27_6 (hst.cell 2 rfl) (s_cons (op_loadN (cs := [(iV ((gd h j).T)), (iV ((gd h j).V))]) Try.isAgg51 Try.sizeOf51 rfl (Pt.of (hst.cell 0 rfl) rfl) rfl (s_cons0 (op_mapSet (y := (gd h j)) Try.keys51 Try.underlying62 hst 1 rfl rfl rfl rfl (fun M39 cl40 w41 hst hM42 => ?_))))))))))
   refine s_nil (then_n (cE_seq (cE_region rfl (s_cons (op_move (.map (some g3)) q27_5 (s_cons (op_loadN (cs := [(iV ((gd h j).T)), (iV ((gd h j).V))]) Try.isAgg51 Try.sizeOf51 rfl (Pt.of (hst.cell 0 rfl) rfl) rfl (s_cons (op_lookupM (y := (gd h j)) Try.keys51 Try.underlying62 Try.zeroValue4 (hst.at 3 rfl).2 rfl rfl (s_cons (op_not (b := (hasM M (gd h j))) rfl (s_nil (then_n ?_)))))))))))))
   rcases Bool.eq_false_or_eq_true (hasM M (gd h j)) with b43 | b43
   ·refine cE_cond false (congrArg Value.bool (congrArg (! ·) b43)) (fun h => by cases h) (fun _ => ?_)
    refine cE_skip (block_n (then_n (cE_region rfl (s_cons (op_add (k := .i64) (a := (j : Int)) (b := 1) ((j : Int) + 1) q27_28 rfl (xi64 (by omega) (by omega)) (s_cons (op_move (iV ((j : Int) + 1)) rfl (s_nil (then_n ?_)))))))))
    exact ⟨_, ⟨M39, cl40, (j + 1), rfl, q27_0, q27_1, q27_6, q27_5, q27_16, q27_17, q27_18, q27_26, q27_27, (congrArg iV (show ((j : Int) + 1) = _ from by omega)), (hst.sub (.cons _ (.cons_cons _ (.cons_cons _ (.cons_cons _ .slnil))))), (by omega), (by exact there_add (by omega) hH (by assumption)), (by exact none_add (by omega) hN hMA (by assumption))⟩, (by simp only [id]; omega)⟩
   refine cE_cond true (congrArg Value.bool (congrArg (! ·) b43)) (fun _ => ?_) (fun h => by cases h)
   refine cE_seq (cE_region rfl (s_cons (op_assign (iV 2) rfl (s_nil (then_n (cE_ret (block_r (then_r (then_r (block_r (then_r (post_r _ (res1 (v := (iV 2)) rfl) ?_))))))))))))
   exact ⟨(retv1 (congrArg iV (show 2 = (contentC l h) from by exact (content_2 (j := j) (by assumption) (by assumption) hMA (by omega)).symm))), hst.bare⟩
  have c44 := of_decide_eq_false b31
  refine cE_cond false (congrArg Value.bool b31) (fun h => by cases h) (fun _ => ?_)
  refine cE_exit (then_x (then_x (block_hit (then_n (cE_seq (cE_seq ?_))))))
  have hHA : ∀ s, hasM M2 s = decide (s ∈ h) := fun s => by rw [hH s, List.take_of_length_le (by omega)]
  have hNA : h.any (fun s => !saidB l s) = false := by rw [List.take_of_length_le (by omega)] at hN; exact hN
  refine cE_region rfl (s_cons (op_move v_l q27_0 (s_cons (op_makeFunc (evs_cons (v := (.pointer (some ⟨g7, 0, none⟩))) q27_6 evs_nil) ?_))))
  replace hst := hst.front 1 rfl
  refine s_cons (op_call Try.call21 (evs_cons (v := v_l) rfl (evs_cons (v := (.func (.func 22) #[] #[(.pointer (some ⟨g7, 0, none⟩))])) rfl evs_nil)) (c_containsN (v_l := v_l) (l := l) (h_l := h_l) (g_x := g7) (g_x0 := g5) (x0 := M2) (c_x0 := c2) (hst := hst)) ?_)
  rintro _ w45 ⟨rfl, hcall⟩
  refine ⟨_, rfl, ?_⟩
  have hst : St w0 w45 [.blk g7 62 #[(.map (some g5))], mapT encS g5 M2 c2, mapT encS g3 M cl] := hcall
  refine s_nil (then_n ?_)
  rcases Bool.eq_false_or_eq_true (l.any (fun (y : Told) => (y.Safe && !(hasM M2 y.S)))) with b46 | b46
  ·refine cE_cond true (congrArg Value.bool b46) (fun _ => ?_) (fun h => by cases h)
   refine cE_seq (cE_region rfl (s_cons (op_assign (iV 3) rfl (s_nil (then_n (cE_ret (then_r (post_r _ (res1 (v := (iV 3)) rfl) ?_))))))))
   exact ⟨(retv1 (congrArg iV (show 3 = (contentC l h) from by exact (content_3 (by assumption) hNA hHA (by assumption)).symm))), hst.bare⟩
  refine cE_cond false (congrArg Value.bool b46) (fun h => by cases h) (fun _ => ?_)
  refine cE_skip (then_n (cE_seq (cE_region rfl (s_cons (op_assign (iV 0) rfl (s_nil (then_n (cE_ret (post_r _ (res1 (v := (iV 0)) rfl) ?_)))))))))
  exact ⟨(retv1 (congrArg iV (show 0 = (contentC l h) from by exact (content_0 (by assumption) hNA hHA (by assumption)).symm))), hst.bare⟩
 refine cE_cond true (congrArg Value.bool (congrArg (! ·) b2)) (fun _ => ?_) (fun h => by cases h)
 refine cE_seq (cE_region rfl (s_cons (op_assign (iV 1) rfl (s_nil (then_n (cE_ret (then_r (post_r _ (res1 (v := (iV 1)) rfl) ?_))))))))
 exact ⟨(retv1 (congrArg iV (show 1 = (contentC l h) from by exact (content_1 (by assumption)).symm))), hst.bare⟩

end Go.Proofs.Ytldfnkhccaglmaa
