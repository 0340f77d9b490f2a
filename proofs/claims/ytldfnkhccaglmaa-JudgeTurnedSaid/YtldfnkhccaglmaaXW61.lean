/- judge.Content$1, api.Told], api.Told] -/
import Derived.Test.YtldfnkhccaglmaaXLB
import Derived.Test.YtldfnkhccaglmaaXLA
import Derived.Test.YtldfnkhccaglmaaXTM
import Derived.Test.YtldfnkhccaglmaaXT
namespace Go.Proofs.Ytldfnkhccaglmaa
open Go.RowKit

set_option maxRecDepth 8000 in
theorem c_needs {w0 w : World} {L : List Item} (y : Told) (g_x : Nat) (g_x0 : Nat) (x0 : List (Sample × Nat)) (c_x0 : Nat) (hst : St w0 w (.blk g_x 62 #[(.map (some g_x0))] :: mapT encS g_x0 x0 c_x0 :: L)) :
  Calls Try.prog 22 #[(.agg #[(iV y.S.T), (iV y.S.V), (iV y.Site), (iV y.View), (.bool y.Safe)]), (.pointer (some ⟨g_x, 0, none⟩))] w fun e w' => e = .returned (.bool (y.Safe && !(hasM x0 y.S))) ∧ St w0 w' (.blk g_x 62 #[(.map (some g_x0))] :: mapT encS g_x0 x0 c_x0 :: L) := by
 refine calls_E (n := 13) (ts := [3]) Try.func22 rfl rfl rfl (by simp) (cE_seq (cE_region rfl (s_cons (op_box (v := (.agg #[(iV y.S.T), (iV y.S.V), (iV y.Site), (iV y.View), (.bool y.Safe)])) (cs := #[(iV y.S.T), (iV y.S.V), (iV y.Site), (iV y.View), (.bool y.Safe)]) hst rfl rfl (fun g1 w2 hst _ => ?_)))))
 refine s_cons (op_assign (.bool false) rfl (s_nil (then_n (cE_seq (cE_region rfl (s_cons (op_fieldAddr (s := 0) Try.underlying54 rfl rfl Try.sizeOf4 rfl (s_cons (op_load1 (u := (.bool y.Safe)) Try.isAgg4 rfl ((hst.cell 0 rfl).drop 4) (s_cons (op_move (.bool y.Safe) rfl (s_lz 6 rfl (gA_t rfl) (Rlz y.Safe (.map (some g_x0)) w2) ?_ (fun hc3 => rlz_f hc3) ?_))))))))))))
 ·intro hc3
  refine op_load1 (u := (.map (some g_x0))) Try.isAgg62 rfl (hst.cell 1 rfl) ?_
  exact rlz_t hc3
 rintro _ _ ⟨rfl, rfl⟩
 refine s_lz 6 rfl (gA_t rfl) (Rlz y.Safe (.pointer (some ⟨g1, (0 + 0), none⟩)) w2) ?_ (fun hc4 => rlz_f hc4) ?_
 ·intro hc4
  refine op_fieldAddr (s := 1) Try.underlying54 rfl rfl Try.sizeOf51 rfl ?_
  exact rlz_t hc4
 rintro _ _ ⟨rfl, rfl⟩
 refine s_lz 6 rfl (gA_t rfl) (Rlz y.Safe (.agg #[(iV y.S.T), (iV y.S.V)]) w2) ?_ (fun hc5 => rlz_f hc5) ?_
 ·intro hc5
  refine op_loadN (cs := [(iV y.S.T), (iV y.S.V)]) Try.isAgg51 Try.sizeOf51 (gt hc5) (Pt.of (hst.cell 0 rfl) rfl) rfl ?_
  exact rlz_t hc5
 rintro _ _ ⟨rfl, rfl⟩
 refine s_lz 6 rfl (gA_t rfl) (Rlz y.Safe (.bool (hasM x0 y.S)) w2) ?_ (fun hc6 => rlz_f hc6) ?_
 ·intro hc6
  refine op_lookupM (y := y.S) Try.keys51 Try.underlying62 Try.zeroValue4 (hst.at 2 rfl).2 (gt hc6) (gt hc6) ?_
  exact rlz_t hc6
 rintro _ _ ⟨rfl, rfl⟩
 refine s_lz 6 rfl (gA_t rfl) (Rlz y.Safe (.bool (!(hasM x0 y.S))) w2) ?_ (fun hc7 => rlz_f hc7) ?_
 ·intro hc7
  refine op_not (b := (hasM x0 y.S)) (gt hc7) ?_
  exact rlz_t hc7
 rintro _ _ ⟨rfl, rfl⟩
 obtain ⟨g8, hg9⟩ : ∃ x : Bool, x = (y.Safe && (!(hasM x0 y.S))) := ⟨_, rfl⟩
 refine s_cons (op_pick_and rfl rfl (fun hp => hp) rfl (s_cons (op_assign (.bool g8) (congrArg Value.bool hg9.symm) (s_nil (then_n (cE_ret (post_r _ (res1 (v := (.bool g8)) rfl) ?_)))))))
 exact ⟨(retv1 (congrArg Value.bool (show g8 = (y.Safe && !(hasM x0 y.S)) from by (rw [hg9])))), hst.sub (.cons _ (.cons_cons _ (.cons_cons _ (List.Sublist.refl _))))⟩

set_option maxRecDepth 8000 in
theorem c_indexN {w0 w : World} {L : List Item} (v_l : Value) (l : List Told) (h_l : Sl w0 toldE v_l l) (g_x : Nat) (g_x0 : Nat) (x0 : List (Sample × Nat)) (c_x0 : Nat) (hst : St w0 w (.blk g_x 62 #[(.map (some g_x0))] :: mapT encS g_x0 x0 c_x0 :: L)) :
  Calls Try.prog 39 #[v_l, (.func (.func 22) #[] #[(.pointer (some ⟨g_x, 0, none⟩))])] w fun e w' => e = .returned (iV (idxG (fun (y : Told) => (y.Safe && !(hasM x0 y.S))) l)) ∧ St w0 w' (.blk g_x 62 #[(.map (some g_x0))] :: mapT encS g_x0 x0 c_x0 :: L) := by
 refine calls_E (n := 19) (ts := [4]) Try.func39 rfl rfl rfl (by simp) (cE_seq (cE_region rfl (s_cons (op_assign (iV 0) rfl (s_nil (then_n (cE_seq (cE_seq (cE_region rfl (s_cons (op_move v_l rfl (s_cons (op_len (E := toldE) (xs := l) Try.underlying22 rfl h_l (s_cons (op_move (iV 0) rfl (s_nil (then_n (cE_block (cE_loop (fun (m : Nat) (ρ : Env) (w : World) => ∃ (i : Nat), m = l.length - i ∧ ρ 0 = v_l ∧ ρ 1 = (.func (.func 22) #[] #[(.pointer (some ⟨g_x, 0, none⟩))]) ∧ ρ 7 = (iV (l.length : Int)) ∧ ρ 8 = (iV (i : Int)) ∧ St w0 w (.blk g_x 62 #[(.map (some g_x0))] :: mapT encS g_x0 x0 c_x0 :: L) ∧ (i ≤ l.length) ∧ (∀ (j : Nat) (h : j < l.length), j < i → (fun (y : Told) => (y.Safe && !(hasM x0 y.S))) (l[j]'h) = false)) id _ ⟨0, rfl, rfl, rfl, rfl, (congrArg iV (show 0 = _ from by omega)), hst, (by omega), (by exact idxG_none (p := fun (y : Told) => (y.Safe && !(hasM x0 y.S))))⟩ ?_)))))))))))))))))))
 rintro m11 ρ12 w13 ⟨i, hm11, q10_0, q10_1, q10_7, q10_8, hst, hi, hN⟩
 have hlen := h_l.len
 refine cE_seq (cE_region rfl (s_cons (op_lss (k := .i64) (a := (i : Int)) (b := (l.length : Int)) q10_8 q10_7 (s_nil (then_n (cE_seq ?_))))))
 rcases Bool.eq_false_or_eq_true (decide ((i : Int) < (l.length : Int))) with b14 | b14
 ·have c15 := of_decide_eq_true b14
  refine cE_cond true (congrArg Value.bool b14) (fun _ => ?_) (fun h => by cases h)
  refine cE_skip (then_n (cE_seq (cE_block (cE_seq (cE_region rfl (s_cons (op_move (iV (i : Int)) q10_8 (s_cons (op_assign (iV (i : Int)) rfl (s_nil (then_n (cE_seq (cE_region rfl (s_cons (op_move (.func (.func 22) #[] #[(.pointer (some ⟨g_x, 0, none⟩))]) q10_1 (s_cons (op_move v_l q10_0 (s_cons (op_move (iV (i : Int)) rfl (s_cons (op_indexAddrN (E := toldE) (xs := l) i Try.underlying22 Try.sizeOf54 rfl h_l rfl (by omega) (by omega) (fun a16 o17 p18 => ?_))))))))))))))))))))))
  refine s_cons (op_loadN (cs := [(iV (((l[i]'(by omega)).S).T)), (iV (((l[i]'(by omega)).S).V)), (iV ((l[i]'(by omega)).Site)), (iV ((l[i]'(by omega)).View)), (.bool ((l[i]'(by omega)).Safe))]) Try.isAgg54 Try.sizeOf54 rfl (Pt.of (p18.below hst.below) rfl) rfl (s_cons (op_callv (cs := [(.pointer (some ⟨g_x, 0, none⟩))]) Try.call22 rfl (evs_cons (v := (.agg #[(iV (((l[i]'(by omega)).S).T)), (iV (((l[i]'(by omega)).S).V)), (iV ((l[i]'(by omega)).Site)), (iV ((l[i]'(by omega)).View)), (.bool ((l[i]'(by omega)).Safe))])) rfl evs_nil) (c_needs (y := (l[i]'(by omega))) (g_x := g_x) (g_x0 := g_x0) (x0 := x0) (c_x0 := c_x0) (hst := hst)) ?_)))
  rintro _ w19 ⟨rfl, hcall⟩
  refine ⟨_, rfl, ?_⟩
  have hst : St w0 w19 (.blk g_x 62 #[(.map (some g_x0))] :: mapT encS g_x0 x0 c_x0 :: L) := hcall
  refine s_nil (then_n ?_)
  rcases Bool.eq_false_or_eq_true ((l[i]'(by omega)).Safe && !(hasM x0 (l[i]'(by omega)).S)) with b20 | b20
  ·refine cE_cond true (congrArg Value.bool b20) (fun _ => ?_) (fun h => by cases h)
   refine cE_seq (cE_region rfl (s_cons (op_move (iV (i : Int)) rfl (s_cons (op_assign (iV (i : Int)) rfl (s_nil (then_n (cE_ret (block_r (then_r (then_r (block_r (then_r (post_r _ (res1 (v := (iV (i : Int))) rfl) ?_))))))))))))))
   exact ⟨(retv1 (congrArg iV (show (i : Int) = (idxG (fun (y : Told) => (y.Safe && !(hasM x0 y.S))) l) from by exact (idxG_at (p := fun (y : Told) => (y.Safe && !(hasM x0 y.S))) hN (by omega) (by assumption)).symm))), hst.sub (.cons_cons _ (.cons_cons _ (List.Sublist.refl _)))⟩
  refine cE_cond false (congrArg Value.bool b20) (fun h => by cases h) (fun _ => ?_)
  refine cE_skip (block_n (then_n (cE_region rfl (s_cons (op_add (k := .i64) (a := (i : Int)) (b := 1) ((i : Int) + 1) q10_8 rfl (xi64 (by omega) (by omega)) (s_cons (op_move (iV ((i : Int) + 1)) rfl (s_nil (then_n ?_)))))))))
  exact ⟨_, ⟨(i + 1), rfl, q10_0, q10_1, q10_7, (congrArg iV (show ((i : Int) + 1) = _ from by omega)), hst, (by omega), (by exact idxG_next (p := fun (y : Told) => (y.Safe && !(hasM x0 y.S))) hN (by omega) (by assumption))⟩, (by simp only [id]; omega)⟩
 have c21 := of_decide_eq_false b14
 refine cE_cond false (congrArg Value.bool b14) (fun h => by cases h) (fun _ => ?_)
 refine cE_exit (then_x (then_x (block_hit (then_n (cE_seq (cE_region rfl (s_cons (op_assign (iV (-1)) rfl (s_nil (then_n (cE_ret (post_r _ (res1 (v := (iV (-1))) rfl) ?_))))))))))))
 exact ⟨(retv1 (congrArg iV (show (-1) = (idxG (fun (y : Told) => (y.Safe && !(hasM x0 y.S))) l) from by exact (idxG_end (p := fun (y : Told) => (y.Safe && !(hasM x0 y.S))) hN (by omega)).symm))), hst.sub (.cons_cons _ (.cons_cons _ (List.Sublist.refl _)))⟩

set_option maxRecDepth 8000 in
theorem c_containsN {w0 w : World} {L : List Item} (v_l : Value) (l : List Told) (h_l : Sl w0 toldE v_l l) (g_x : Nat) (g_x0 : Nat) (x0 : List (Sample × Nat)) (c_x0 : Nat) (hst : St w0 w (.blk g_x 62 #[(.map (some g_x0))] :: mapT encS g_x0 x0 c_x0 :: L)) :
  Calls Try.prog 21 #[v_l, (.func (.func 22) #[] #[(.pointer (some ⟨g_x, 0, none⟩))])] w fun e w' => e = .returned (.bool (l.any (fun (y : Told) => (y.Safe && !(hasM x0 y.S))))) ∧ St w0 w' (.blk g_x 62 #[(.map (some g_x0))] :: mapT encS g_x0 x0 c_x0 :: L) := by
 refine calls_E (n := 9) (ts := [4]) Try.func21 rfl rfl rfl (by simp) (cE_seq (cE_region rfl (s_cons (op_assign (.bool false) rfl (s_nil (then_n (cE_seq (cE_region rfl (s_cons (op_move v_l rfl (s_cons (op_move (.func (.func 22) #[] #[(.pointer (some ⟨g_x, 0, none⟩))]) rfl (s_cons (op_call Try.call39 (evs_cons (v := v_l) rfl (evs_cons (v := (.func (.func 22) #[] #[(.pointer (some ⟨g_x, 0, none⟩))])) rfl evs_nil)) (c_indexN (v_l := v_l) (l := l) (h_l := h_l) (g_x := g_x) (g_x0 := g_x0) (x0 := x0) (c_x0 := c_x0) (hst := hst)) ?_))))))))))))))
 rintro _ w22 ⟨rfl, hcall⟩
 refine ⟨_, rfl, ?_⟩
 have hst : St w0 w22 (.blk g_x 62 #[(.map (some g_x0))] :: mapT encS g_x0 x0 c_x0 :: L) := hcall
 refine s_cons (op_geq (k := .i64) (a := (idxG (fun (y : Told) => (y.Safe && !(hasM x0 y.S))) l)) (b := 0) rfl rfl (s_cons (op_assign (.bool (decide (0 ≤ (idxG (fun (y : Told) => (y.Safe && !(hasM x0 y.S))) l)))) rfl (s_nil (then_n (cE_ret (post_r _ (res1 (v := (.bool (decide (0 ≤ (idxG (fun (y : Told) => (y.Safe && !(hasM x0 y.S))) l))))) rfl) ?_)))))))
 exact ⟨(retv1 (congrArg Value.bool (show (decide (0 ≤ (idxG (fun (y : Told) => (y.Safe && !(hasM x0 y.S))) l))) = (l.any (fun (y : Told) => (y.Safe && !(hasM x0 y.S)))) from by exact idxG_any (p := fun (y : Told) => (y.Safe && !(hasM x0 y.S)))))), hst.sub (.cons_cons _ (.cons_cons _ (List.Sublist.refl _)))⟩

end Go.Proofs.Ytldfnkhccaglmaa
