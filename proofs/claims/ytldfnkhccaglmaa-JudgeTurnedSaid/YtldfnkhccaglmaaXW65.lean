/- judge.Answer$1, ask.Win], ask.Win] -/
import Derived.Test.YtldfnkhccaglmaaXW64
import Derived.Test.YtldfnkhccaglmaaXLA
namespace Go.Proofs.Ytldfnkhccaglmaa
open Go.RowKit

set_option maxRecDepth 8000 in
theorem c_notmay (w0 : World) (y : Win) (hy : y.ok) :
  Calls Try.prog 25 #[(.agg #[(iV y.Tier), (iV y.Lo), (iV y.Hi), (iV y.Agg.From), (iV y.Agg.Count), (iV y.Agg.Sum), (iV y.Agg.Min), (iV y.Agg.Max), (iV y.Agg.First), (iV y.Agg.Last)])] w0 fun e w' => e = .returned (.bool (!(mayW y))) ∧ St w0 w' [] := by
 refine calls_E (n := 6) (ts := [2]) Try.func25 rfl rfl rfl (by simp) ?_
 have hst := St.start w0
 refine cE_seq (cE_region rfl (s_cons (op_box (v := (.agg #[(iV y.Tier), (iV y.Lo), (iV y.Hi), (iV y.Agg.From), (iV y.Agg.Count), (iV y.Agg.Sum), (iV y.Agg.Min), (iV y.Agg.Max), (iV y.Agg.First), (iV y.Agg.Last)])) (cs := #[(iV y.Tier), (iV y.Lo), (iV y.Hi), (iV y.Agg.From), (iV y.Agg.Count), (iV y.Agg.Sum), (iV y.Agg.Min), (iV y.Agg.Max), (iV y.Agg.First), (iV y.Agg.Last)]) hst rfl rfl (fun g1 w2 hst _ => ?_))))
 refine s_cons (op_assign (.bool false) rfl (s_nil (then_n (cE_seq (cE_region rfl (s_cons (op_loadN (cs := [(iV y.Tier), (iV y.Lo), (iV y.Hi), (iV y.Agg.From), (iV y.Agg.Count), (iV y.Agg.Sum), (iV y.Agg.Min), (iV y.Agg.Max), (iV y.Agg.First), (iV y.Agg.Last)]) Try.isAgg33 Try.sizeOf33 rfl (Pt.of (hst.cell 0 rfl) rfl) rfl (s_cons (op_call Try.call26 (evs_cons (v := (.agg #[(iV y.Tier), (iV y.Lo), (iV y.Hi), (iV y.Agg.From), (iV y.Agg.Count), (iV y.Agg.Sum), (iV y.Agg.Min), (iV y.Agg.Max), (iV y.Agg.First), (iV y.Agg.Last)])) rfl evs_nil) (c_mayW (w0 := w2) (u := y) (hx := hy)) ?_)))))))))
 rintro _ w3 ⟨rfl, hcall⟩
 refine ⟨_, rfl, ?_⟩
 have hst := hst.call hcall
 refine s_cons (op_not (b := (mayW y)) rfl (s_cons (op_assign (.bool (!(mayW y))) rfl (s_nil (then_n (cE_ret (post_r _ (res1 (v := (.bool (!(mayW y)))) rfl) ?_)))))))
 exact ⟨rfl, hst.bare⟩

set_option maxRecDepth 8000 in
theorem c_indexA1 (w0 : World) (v_l : Value) (l : List Win) (h_l : Sl w0 winE v_l l) (hwo : ∀ w ∈ l, w.ok) :
  Calls Try.prog 40 #[v_l, (.func (.func 25) #[] #[])] w0 fun e w' => e = .returned (iV (idxG (fun (y : Win) => !(mayW y)) l)) ∧ St w0 w' [] := by
 refine calls_E (n := 19) (ts := [4]) Try.func40 rfl rfl rfl (by simp) ?_
 have hst := St.start w0
 refine cE_seq (cE_region rfl (s_cons (op_assign (iV 0) rfl (s_nil (then_n (cE_seq (cE_seq (cE_region rfl (s_cons (op_move v_l rfl (s_cons (op_len (E := winE) (xs := l) Try.underlying27 rfl h_l (s_cons (op_move (iV 0) rfl (s_nil (then_n (cE_block (cE_loop (fun (m : Nat) (ρ : Env) (w : World) => ∃ (i : Nat), m = l.length - i ∧ ρ 0 = v_l ∧ ρ 1 = (.func (.func 25) #[] #[]) ∧ ρ 7 = (iV (l.length : Int)) ∧ ρ 8 = (iV (i : Int)) ∧ St w0 w [] ∧ (i ≤ l.length) ∧ (∀ (j : Nat) (h : j < l.length), j < i → (fun (y : Win) => !(mayW y)) (l[j]'h) = false)) id _ ⟨0, rfl, rfl, rfl, rfl, (congrArg iV (show 0 = _ from by omega)), hst, (by omega), (by exact idxG_none (p := fun (y : Win) => !(mayW y)))⟩ ?_))))))))))))))))))
 rintro m5 ρ6 w7 ⟨i, hm5, q4_0, q4_1, q4_7, q4_8, hst, hi, hN⟩
 have hlen := h_l.len
 refine cE_seq (cE_region rfl (s_cons (op_lss (k := .i64) (a := (i : Int)) (b := (l.length : Int)) q4_8 q4_7 (s_nil (then_n (cE_seq ?_))))))
 rcases Bool.eq_false_or_eq_true (decide ((i : Int) < (l.length : Int))) with b8 | b8
 ·have c9 := of_decide_eq_true b8
  refine cE_cond true (congrArg Value.bool b8) (fun _ => ?_) (fun h => by cases h)
  refine cE_skip (then_n (cE_seq (cE_block (cE_seq (cE_region rfl (s_cons (op_move (iV (i : Int)) q4_8 (s_cons (op_assign (iV (i : Int)) rfl (s_nil (then_n (cE_seq (cE_region rfl (s_cons (op_move (.func (.func 25) #[] #[]) q4_1 (s_cons (op_move v_l q4_0 (s_cons (op_move (iV (i : Int)) rfl (s_cons (op_indexAddrN (E := winE) (xs := l) i Try.underlying27 Try.sizeOf33 rfl h_l rfl (by omega) (by omega) (fun a10 o11 p12 => ?_))))))))))))))))))))))
  refine s_cons (op_loadN (cs := [(iV ((l[i]'(by omega)).Tier)), (iV ((l[i]'(by omega)).Lo)), (iV ((l[i]'(by omega)).Hi)), (iV (((l[i]'(by omega)).Agg).From)), (iV (((l[i]'(by omega)).Agg).Count)), (iV (((l[i]'(by omega)).Agg).Sum)), (iV (((l[i]'(by omega)).Agg).Min)), (iV (((l[i]'(by omega)).Agg).Max)), (iV (((l[i]'(by omega)).Agg).First)), (iV (((l[i]'(by omega)).Agg).Last))]) Try.isAgg33 Try.sizeOf33 rfl (Pt.of (p12.below hst.below) rfl) rfl ?_)
  refine s_cons (op_callv (cs := []) Try.call25 rfl (evs_cons (v := (.agg #[(iV ((l[i]'(by omega)).Tier)), (iV ((l[i]'(by omega)).Lo)), (iV ((l[i]'(by omega)).Hi)), (iV (((l[i]'(by omega)).Agg).From)), (iV (((l[i]'(by omega)).Agg).Count)), (iV (((l[i]'(by omega)).Agg).Sum)), (iV (((l[i]'(by omega)).Agg).Min)), (iV (((l[i]'(by omega)).Agg).Max)), (iV (((l[i]'(by omega)).Agg).First)), (iV (((l[i]'(by omega)).Agg).Last))])) rfl evs_nil) (c_notmay (w0 := w7) (y := (l[i]'(by omega))) (hy := (hwo _ (List.getElem_mem _)))) ?_)
  rintro _ w13 ⟨rfl, hcall⟩
  refine ⟨_, rfl, ?_⟩
  have hst := hst.call hcall
  refine s_nil (then_n ?_)
  rcases Bool.eq_false_or_eq_true (mayW (l[i]'(by omega))) with b14 | b14
  ·refine cE_cond false (congrArg Value.bool (congrArg (! ·) b14)) (fun h => by cases h) (fun _ => ?_)
   refine cE_skip (block_n (then_n (cE_region rfl (s_cons (op_add (k := .i64) (a := (i : Int)) (b := 1) ((i : Int) + 1) q4_8 rfl (xi64 (by omega) (by omega)) (s_cons (op_move (iV ((i : Int) + 1)) rfl (s_nil (then_n ?_)))))))))
   exact ⟨_, ⟨(i + 1), rfl, q4_0, q4_1, q4_7, (congrArg iV (show ((i : Int) + 1) = _ from by omega)), hst, (by omega), (by exact idxG_next (p := fun (y : Win) => !(mayW y)) hN (by omega) (by exact neg_t (by assumption)))⟩, (by simp only [id]; omega)⟩
  refine cE_cond true (congrArg Value.bool (congrArg (! ·) b14)) (fun _ => ?_) (fun h => by cases h)
  refine cE_seq (cE_region rfl (s_cons (op_move (iV (i : Int)) rfl (s_cons (op_assign (iV (i : Int)) rfl (s_nil (then_n (cE_ret (block_r (then_r (then_r (block_r (then_r (post_r _ (res1 (v := (iV (i : Int))) rfl) ?_))))))))))))))
  exact ⟨(retv1 (congrArg iV (show (i : Int) = (idxG (fun (y : Win) => !(mayW y)) l) from by exact (idxG_at (p := fun (y : Win) => !(mayW y)) hN (by omega) (by exact neg_f (by assumption))).symm))), hst.bare⟩
 have c15 := of_decide_eq_false b8
 refine cE_cond false (congrArg Value.bool b8) (fun h => by cases h) (fun _ => ?_)
 refine cE_exit (then_x (then_x (block_hit (then_n (cE_seq (cE_region rfl (s_cons (op_assign (iV (-1)) rfl (s_nil (then_n (cE_ret (post_r _ (res1 (v := (iV (-1))) rfl) ?_))))))))))))
 exact ⟨(retv1 (congrArg iV (show (-1) = (idxG (fun (y : Win) => !(mayW y)) l) from by exact (idxG_end (p := fun (y : Win) => !(mayW y)) hN (by omega)).symm))), hst.bare⟩

set_option maxRecDepth 8000 in
theorem c_containsA1 (w0 : World) (v_l : Value) (l : List Win) (h_l : Sl w0 winE v_l l) (hwo : ∀ w ∈ l, w.ok) :
  Calls Try.prog 24 #[v_l, (.func (.func 25) #[] #[])] w0 fun e w' => e = .returned (.bool (l.any (fun (y : Win) => !(mayW y)))) ∧ St w0 w' [] := by
 refine calls_E (n := 9) (ts := [4]) Try.func24 rfl rfl rfl (by simp) ?_
 have hst := St.start w0
 refine cE_seq (cE_region rfl (s_cons (op_assign (.bool false) rfl (s_nil (then_n (cE_seq (cE_region rfl (s_cons (op_move v_l rfl (s_cons (op_move (.func (.func 25) #[] #[]) rfl (s_cons (op_call Try.call40 (evs_cons (v := v_l) rfl (evs_cons (v := (.func (.func 25) #[] #[])) rfl evs_nil)) (c_indexA1 (w0 := w0) (v_l := v_l) (l := l) (h_l := (h_l.below hst.below)) (hwo := hwo)) ?_)))))))))))))
 rintro _ w16 ⟨rfl, hcall⟩
 refine ⟨_, rfl, ?_⟩
 have hst := hst.call hcall
 refine s_cons (op_geq (k := .i64) (a := (idxG (fun (y : Win) => !(mayW y)) l)) (b := 0) rfl rfl (s_cons (op_assign (.bool (decide (0 ≤ (idxG (fun (y : Win) => !(mayW y)) l)))) rfl (s_nil (then_n (cE_ret (post_r _ (res1 (v := (.bool (decide (0 ≤ (idxG (fun (y : Win) => !(mayW y)) l))))) rfl) ?_)))))))
 exact ⟨(retv1 (congrArg Value.bool (show (decide (0 ≤ (idxG (fun (y : Win) => !(mayW y)) l))) = (l.any (fun (y : Win) => !(mayW y))) from by exact idxG_any (p := fun (y : Win) => !(mayW y))))), hst.bare⟩

end Go.Proofs.Ytldfnkhccaglmaa
