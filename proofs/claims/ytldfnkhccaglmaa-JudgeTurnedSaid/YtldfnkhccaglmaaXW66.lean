/- judge.Answer$2, ask.Win], ask.Win] -/
import Derived.Test.YtldfnkhccaglmaaXLB
import Derived.Test.YtldfnkhccaglmaaXLA
import Derived.Test.YtldfnkhccaglmaaXTM
import Derived.Test.YtldfnkhccaglmaaXT
namespace Go.Proofs.Ytldfnkhccaglmaa
open Go.RowKit

set_option maxRecDepth 8000 in
theorem c_covers {w0 w : World} {L : List Item} (y : Win) (g_x : Nat) (x0 : Int) (x1 : Int) (hst : St w0 w (.blk g_x 51 #[(iV x0), (iV x1)] :: L)) :
  Calls Try.prog 28 #[(.agg #[(iV y.Tier), (iV y.Lo), (iV y.Hi), (iV y.Agg.From), (iV y.Agg.Count), (iV y.Agg.Sum), (iV y.Agg.Min), (iV y.Agg.Max), (iV y.Agg.First), (iV y.Agg.Last)]), (.pointer (some ⟨g_x, 0, none⟩))] w fun e w' => e = .returned (.bool (decide (y.Lo ≤ x0 ∧ x0 < y.Hi))) ∧ St w0 w' (.blk g_x 51 #[(iV x0), (iV x1)] :: L) := by
 refine calls_E (n := 16) (ts := [3]) Try.func28 rfl rfl rfl (by simp) (cE_seq (cE_region rfl (s_cons (op_box (v := (.agg #[(iV y.Tier), (iV y.Lo), (iV y.Hi), (iV y.Agg.From), (iV y.Agg.Count), (iV y.Agg.Sum), (iV y.Agg.Min), (iV y.Agg.Max), (iV y.Agg.First), (iV y.Agg.Last)])) (cs := #[(iV y.Tier), (iV y.Lo), (iV y.Hi), (iV y.Agg.From), (iV y.Agg.Count), (iV y.Agg.Sum), (iV y.Agg.Min), (iV y.Agg.Max), (iV y.Agg.First), (iV y.Agg.Last)]) hst rfl rfl (fun g1 w2 hst _ => ?_)))))
 refine s_cons (op_assign (.bool false) rfl (s_nil (then_n (cE_seq (cE_region rfl (s_cons (op_fieldAddr (s := 0) Try.underlying51 rfl rfl Try.sizeOf2 rfl (s_cons (op_load1 (u := (iV x0)) Try.isAgg2 rfl (hst.cell 1 rfl) (s_cons (op_fieldAddr (s := 0) Try.underlying33 rfl rfl Try.sizeOf2 rfl (s_cons (op_load1 (u := (iV y.Lo)) Try.isAgg2 rfl ((hst.cell 0 rfl).drop 1) (s_cons (op_geq (k := .i64) (a := x0) (b := y.Lo) rfl rfl ?_)))))))))))))))
 refine s_cons (op_move (.bool (decide (y.Lo ≤ x0))) rfl (s_lz 9 rfl (gA_t rfl) (Rlz (decide (y.Lo ≤ x0)) (.pointer (some ⟨g_x, (0 + 0), none⟩)) w2) ?_ (fun hc3 => rlz_f hc3) ?_))
 ·intro hc3
  refine op_fieldAddr (s := 0) Try.underlying51 rfl rfl Try.sizeOf2 rfl ?_
  exact rlz_t hc3
 rintro _ _ ⟨rfl, rfl⟩
 refine s_lz 9 rfl (gA_t rfl) (Rlz (decide (y.Lo ≤ x0)) (iV x0) w2) ?_ (fun hc4 => rlz_f hc4) ?_
 ·intro hc4
  refine op_load1 (u := (iV x0)) Try.isAgg2 (gt hc4) (hst.cell 1 rfl) ?_
  exact rlz_t hc4
 rintro _ _ ⟨rfl, rfl⟩
 refine s_lz 9 rfl (gA_t rfl) (Rlz (decide (y.Lo ≤ x0)) (.pointer (some ⟨g1, (0 + 2), none⟩)) w2) ?_ (fun hc5 => rlz_f hc5) ?_
 ·intro hc5
  refine op_fieldAddr (s := 0) Try.underlying33 rfl rfl Try.sizeOf2 rfl ?_
  exact rlz_t hc5
 rintro _ _ ⟨rfl, rfl⟩
 refine s_lz 9 rfl (gA_t rfl) (Rlz (decide (y.Lo ≤ x0)) (iV y.Hi) w2) ?_ (fun hc6 => rlz_f hc6) ?_
 ·intro hc6
  refine op_load1 (u := (iV y.Hi)) Try.isAgg2 (gt hc6) ((hst.cell 0 rfl).drop 2) ?_
  exact rlz_t hc6
 rintro _ _ ⟨rfl, rfl⟩
 refine s_lz 9 rfl (gA_t rfl) (Rlz (decide (y.Lo ≤ x0)) (.bool (decide (x0 < y.Hi))) w2) ?_ (fun hc7 => rlz_f hc7) ?_
 ·intro hc7
  refine op_lss (k := .i64) (a := x0) (b := y.Hi) (gt hc7) (gt hc7) ?_
  exact rlz_t hc7
 rintro _ _ ⟨rfl, rfl⟩
 obtain ⟨g8, hg9⟩ : ∃ x : Bool, x = ((decide (y.Lo ≤ x0)) && (decide (x0 < y.Hi))) := ⟨_, rfl⟩
 refine s_cons (op_pick_and rfl rfl (fun hp => hp) rfl (s_cons (op_assign (.bool g8) (congrArg Value.bool hg9.symm) (s_nil (then_n (cE_ret (post_r _ (res1 (v := (.bool g8)) rfl) ?_)))))))
 exact ⟨(retv1 (congrArg Value.bool (show g8 = (decide (y.Lo ≤ x0 ∧ x0 < y.Hi)) from by (rw [hg9]; exact (Bool.decide_and _ _).symm)))), hst.sub (.cons _ (.cons_cons _ (List.Sublist.refl _)))⟩

set_option maxRecDepth 8000 in
theorem c_indexA2 {w0 w : World} {L : List Item} (v_l : Value) (l : List Win) (h_l : Sl w0 winE v_l l) (g_x : Nat) (x0 : Int) (x1 : Int) (hst : St w0 w (.blk g_x 51 #[(iV x0), (iV x1)] :: L)) :
  Calls Try.prog 40 #[v_l, (.func (.func 28) #[] #[(.pointer (some ⟨g_x, 0, none⟩))])] w fun e w' => e = .returned (iV (idxG (fun (y : Win) => decide (y.Lo ≤ x0 ∧ x0 < y.Hi)) l)) ∧ St w0 w' (.blk g_x 51 #[(iV x0), (iV x1)] :: L) := by
 refine calls_E (n := 19) (ts := [4]) Try.func40 rfl rfl rfl (by simp) (cE_seq (cE_region rfl (s_cons (op_assign (iV 0) rfl (s_nil (then_n (cE_seq (cE_seq (cE_region rfl (s_cons (op_move v_l rfl (s_cons (op_len (E := winE) (xs := l) Try.underlying27 rfl h_l (s_cons (op_move (iV 0) rfl (s_nil (then_n (cE_block (cE_loop (fun (m : Nat) (ρ : Env) (w : World) => ∃ (i : Nat), m = l.length - i ∧ ρ 0 = v_l ∧ ρ 1 = (.func (.func 28) #[] #[(.pointer (some ⟨g_x, 0, none⟩))]) ∧ ρ 7 = (iV (l.length : Int)) ∧ ρ 8 = (iV (i : Int)) ∧ St w0 w (.blk g_x 51 #[(iV x0), (iV x1)] :: L) ∧ (i ≤ l.length) ∧ (∀ (j : Nat) (h : j < l.length), j < i → (fun (y : Win) => decide (y.Lo ≤ x0 ∧ x0 < y.Hi)) (l[j]'h) = false)) id _ ⟨0, rfl, rfl, rfl, rfl, (congrArg iV (show 0 = _ from by omega)), hst, (by omega), (by exact idxG_none (p := fun (y : Win) => decide (y.Lo ≤ x0 ∧ x0 < y.Hi)))⟩ ?_)))))))))))))))))))
 rintro m11 ρ12 w13 ⟨i, hm11, q10_0, q10_1, q10_7, q10_8, hst, hi, hN⟩
 have hlen := h_l.len
 refine cE_seq (cE_region rfl (s_cons (op_lss (k := .i64) (a := (i : Int)) (b := (l.length : Int)) q10_8 q10_7 (s_nil (then_n (cE_seq ?_))))))
 rcases Bool.eq_false_or_eq_true (decide ((i : Int) < (l.length : Int))) with b14 | b14
 ·have c15 := of_decide_eq_true b14
  refine cE_cond true (congrArg Value.bool b14) (fun _ => ?_) (fun h => by cases h)
  refine cE_skip (then_n (cE_seq (cE_block (cE_seq (cE_region rfl (s_cons (op_move (iV (i : Int)) q10_8 (s_cons (op_assign (iV (i : Int)) rfl (s_nil (then_n (cE_seq (cE_region rfl (s_cons (op_move (.func (.func 28) #[] #[(.pointer (some ⟨g_x, 0, none⟩))]) q10_1 (s_cons (op_move v_l q10_0 (s_cons (op_move (iV (i : Int)) rfl (s_cons (op_indexAddrN (E := winE) (xs := l) i Try.underlying27 Try.sizeOf33 rfl h_l rfl (by omega) (by omega) (fun a16 o17 p18 => ?_))))))))))))))))))))))
  refine s_cons (op_loadN (cs := [(iV ((l[i]'(by omega)).Tier)), (iV ((l[i]'(by omega)).Lo)), (iV ((l[i]'(by omega)).Hi)), (iV (((l[i]'(by omega)).Agg).From)), (iV (((l[i]'(by omega)).Agg).Count)), (iV (((l[i]'(by omega)).Agg).Sum)), (iV (((l[i]'(by omega)).Agg).Min)), (iV (((l[i]'(by omega)).Agg).Max)), (iV (((l[i]'(by omega)).Agg).First)), (iV (((l[i]'(by omega)).Agg).Last))]) Try.isAgg33 Try.sizeOf33 rfl (Pt.of (p18.below hst.below) rfl) rfl ?_)
  refine s_cons (op_callv (cs := [(.pointer (some ⟨g_x, 0, none⟩))]) Try.call28 rfl (evs_cons (v := (.agg #[(iV ((l[i]'(by omega)).Tier)), (iV ((l[i]'(by omega)).Lo)), (iV ((l[i]'(by omega)).Hi)), (iV (((l[i]'(by omega)).Agg).From)), (iV (((l[i]'(by omega)).Agg).Count)), (iV (((l[i]'(by omega)).Agg).Sum)), (iV (((l[i]'(by omega)).Agg).Min)), (iV (((l[i]'(by omega)).Agg).Max)), (iV (((l[i]'(by omega)).Agg).First)), (iV (((l[i]'(by omega)).Agg).Last))])) rfl evs_nil) (c_covers (y := (l[i]'(by omega))) (g_x := g_x) (x0 := x0) (x1 := x1) (hst := hst)) ?_)
  rintro _ w19 ⟨rfl, hcall⟩
  refine ⟨_, rfl, ?_⟩
  have hst : St w0 w19 (.blk g_x 51 #[(iV x0), (iV x1)] :: L) := hcall
  refine s_nil (then_n ?_)
  rcases Bool.eq_false_or_eq_true (decide ((l[i]'(by omega)).Lo ≤ x0 ∧ x0 < (l[i]'(by omega)).Hi)) with b20 | b20
  ·have c21 := of_decide_eq_true b20
   refine cE_cond true (congrArg Value.bool b20) (fun _ => ?_) (fun h => by cases h)
   refine cE_seq (cE_region rfl (s_cons (op_move (iV (i : Int)) rfl (s_cons (op_assign (iV (i : Int)) rfl (s_nil (then_n (cE_ret (block_r (then_r (then_r (block_r (then_r (post_r _ (res1 (v := (iV (i : Int))) rfl) ?_))))))))))))))
   exact ⟨(retv1 (congrArg iV (show (i : Int) = (idxG (fun (y : Win) => decide (y.Lo ≤ x0 ∧ x0 < y.Hi)) l) from by exact (idxG_at (p := fun (y : Win) => decide (y.Lo ≤ x0 ∧ x0 < y.Hi)) hN (by omega) (by assumption)).symm))), hst.sub (.cons_cons _ (List.Sublist.refl _))⟩
  have c22 := of_decide_eq_false b20
  refine cE_cond false (congrArg Value.bool b20) (fun h => by cases h) (fun _ => ?_)
  refine cE_skip (block_n (then_n (cE_region rfl (s_cons (op_add (k := .i64) (a := (i : Int)) (b := 1) ((i : Int) + 1) q10_8 rfl (xi64 (by omega) (by omega)) (s_cons (op_move (iV ((i : Int) + 1)) rfl (s_nil (then_n ?_)))))))))
  exact ⟨_, ⟨(i + 1), rfl, q10_0, q10_1, q10_7, (congrArg iV (show ((i : Int) + 1) = _ from by omega)), hst, (by omega), (by exact idxG_next (p := fun (y : Win) => decide (y.Lo ≤ x0 ∧ x0 < y.Hi)) hN (by omega) (by assumption))⟩, (by simp only [id]; omega)⟩
 have c23 := of_decide_eq_false b14
 refine cE_cond false (congrArg Value.bool b14) (fun h => by cases h) (fun _ => ?_)
 refine cE_exit (then_x (then_x (block_hit (then_n (cE_seq (cE_region rfl (s_cons (op_assign (iV (-1)) rfl (s_nil (then_n (cE_ret (post_r _ (res1 (v := (iV (-1))) rfl) ?_))))))))))))
 exact ⟨(retv1 (congrArg iV (show (-1) = (idxG (fun (y : Win) => decide (y.Lo ≤ x0 ∧ x0 < y.Hi)) l) from by exact (idxG_end (p := fun (y : Win) => decide (y.Lo ≤ x0 ∧ x0 < y.Hi)) hN (by omega)).symm))), hst.sub (.cons_cons _ (List.Sublist.refl _))⟩

set_option maxRecDepth 8000 in
theorem c_containsA2 {w0 w : World} {L : List Item} (v_l : Value) (l : List Win) (h_l : Sl w0 winE v_l l) (g_x : Nat) (x0 : Int) (x1 : Int) (hst : St w0 w (.blk g_x 51 #[(iV x0), (iV x1)] :: L)) :
  Calls Try.prog 24 #[v_l, (.func (.func 28) #[] #[(.pointer (some ⟨g_x, 0, none⟩))])] w fun e w' => e = .returned (.bool (l.any (fun (y : Win) => decide (y.Lo ≤ x0 ∧ x0 < y.Hi)))) ∧ St w0 w' (.blk g_x 51 #[(iV x0), (iV x1)] :: L) := by
 refine calls_E (n := 9) (ts := [4]) Try.func24 rfl rfl rfl (by simp) (cE_seq (cE_region rfl (s_cons (op_assign (.bool false) rfl (s_nil (then_n (cE_seq (cE_region rfl (s_cons (op_move v_l rfl (s_cons (op_move (.func (.func 28) #[] #[(.pointer (some ⟨g_x, 0, none⟩))]) rfl (s_cons (op_call Try.call40 (evs_cons (v := v_l) rfl (evs_cons (v := (.func (.func 28) #[] #[(.pointer (some ⟨g_x, 0, none⟩))])) rfl evs_nil)) (c_indexA2 (v_l := v_l) (l := l) (h_l := h_l) (g_x := g_x) (x0 := x0) (x1 := x1) (hst := hst)) ?_))))))))))))))
 rintro _ w24 ⟨rfl, hcall⟩
 refine ⟨_, rfl, ?_⟩
 have hst : St w0 w24 (.blk g_x 51 #[(iV x0), (iV x1)] :: L) := hcall
 refine s_cons (op_geq (k := .i64) (a := (idxG (fun (y : Win) => decide (y.Lo ≤ x0 ∧ x0 < y.Hi)) l)) (b := 0) rfl rfl (s_cons (op_assign (.bool (decide (0 ≤ (idxG (fun (y : Win) => decide (y.Lo ≤ x0 ∧ x0 < y.Hi)) l)))) rfl (s_nil (then_n (cE_ret (post_r _ (res1 (v := (.bool (decide (0 ≤ (idxG (fun (y : Win) => decide (y.Lo ≤ x0 ∧ x0 < y.Hi)) l))))) rfl) ?_)))))))
 exact ⟨(retv1 (congrArg Value.bool (show (decide (0 ≤ (idxG (fun (y : Win) => decide (y.Lo ≤ x0 ∧ x0 < y.Hi)) l))) = (l.any (fun (y : Win) => decide (y.Lo ≤ x0 ∧ x0 < y.Hi))) from by exact idxG_any (p := fun (y : Win) => decide (y.Lo ≤ x0 ∧ x0 < y.Hi))))), hst.sub (.cons_cons _ (List.Sublist.refl _))⟩

end Go.Proofs.Ytldfnkhccaglmaa
