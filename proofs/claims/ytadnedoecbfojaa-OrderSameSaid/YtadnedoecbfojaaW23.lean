/- api.Info] -/
import Derived.Test.YtadnedoecbfojaaOX
import Derived.Test.YtadnedoecbfojaaW10
namespace Go.Proofs.Ytadnedoecbfojaa
open Go.RowKit

theorem c_indexB {w0 w : World} {L : List Item} (v_l : Value) (l : List Info) (h_l : Sl w0 infoE v_l l) (g_x : Nat) (x0 : Int) (x1 : Int) (x2 : Int) (x3 : Int) (x4 : Int) (hst : St w0 w (.blk g_x 34 #[(.int .i64 x0), (.int .i64 x1), (.int .i64 x2), (.int .i64 x3), (.int .u32 x4)] :: L)) :
    Calls Try.prog 25 #[v_l, (.func (.func 22) #[] #[(.pointer (some ⟨g_x, 0, none⟩))])] w fun e w' => e = .returned (.int .i64 (idxI (fun (y : Info) => decide (y.Id = x0)) l)) ∧ St w0 w' (.blk g_x 34 #[(.int .i64 x0), (.int .i64 x1), (.int .i64 x2), (.int .i64 x3), (.int .u32 x4)] :: L) := by
  refine calls_E (n := 19) (ts := [4]) Try.func25 rfl rfl rfl (by simp) ?_
  refine cE_seq ?_
  refine cE_region rfl ?_
  refine s_cons (op_assign (.int .i64 0) rfl ?_)
  refine s_nil ?_
  refine then_n ?_
  refine cE_seq ?_
  refine cE_seq ?_
  refine cE_region rfl ?_
  refine s_cons (op_move v_l rfl ?_)
  refine s_cons (op_len (E := infoE) (xs := l) Try.underlying22 rfl h_l ?_)
  refine s_cons (op_move (.int .i64 0) rfl ?_)
  refine s_nil ?_
  refine then_n ?_
  refine cE_block ?_
  refine cE_loop (fun (m : Nat) (ρ : Env) (w : World) => ∃ (i : Nat), m = l.length - i ∧ ρ 0 = v_l ∧ ρ 1 = (.func (.func 22) #[] #[(.pointer (some ⟨g_x, 0, none⟩))]) ∧ ρ 7 = (.int .i64 (l.length : Int)) ∧ ρ 8 = (.int .i64 (i : Int)) ∧ St w0 w (.blk g_x 34 #[(.int .i64 x0), (.int .i64 x1), (.int .i64 x2), (.int .i64 x3), (.int .u32 x4)] :: L) ∧ (i ≤ l.length) ∧ (∀ (j : Nat) (h : j < l.length), j < i → (fun (y : Info) => decide (y.Id = x0)) (l[j]'h) = false)) id _ ⟨0, rfl, rfl, rfl, rfl, (congrArg (Value.int .i64) (show 0 = _ from by omega)), hst, (by omega), (by first | exact idx_none (p := fun (y : Info) => decide (y.Id = x0)) | exact idx_next (p := fun (y : Info) => decide (y.Id = x0)) hN (by omega) (by first | assumption | (show decide _ = _; assumption)))⟩ ?_
  rintro m2 ρ3 w4 ⟨i, hm2, q1_0, q1_1, q1_7, q1_8, hst, hi, hN⟩
  have hlen := h_l.len
  refine cE_seq ?_
  refine cE_region rfl ?_
  refine s_cons (op_lss (k := .i64) (a := (i : Int)) (b := (l.length : Int)) q1_8 q1_7 ?_)
  refine s_nil ?_
  refine then_n ?_
  refine cE_seq ?_
  rcases Bool.eq_false_or_eq_true (decide ((i : Int) < (l.length : Int))) with b5 | b5
  · have c6 : (i : Int) < (l.length : Int) := of_decide_eq_true b5
    refine cE_cond true (congrArg Value.bool b5) (fun _ => ?_) (fun h => by cases h)
    refine cE_skip ?_
    refine then_n ?_
    refine cE_seq ?_
    refine cE_block ?_
    refine cE_seq ?_
    refine cE_region rfl ?_
    refine s_cons (op_move (.int .i64 (i : Int)) q1_8 ?_)
    refine s_cons (op_assign (.int .i64 (i : Int)) rfl ?_)
    refine s_nil ?_
    refine then_n ?_
    refine cE_seq ?_
    refine cE_region rfl ?_
    refine s_cons (op_move (.func (.func 22) #[] #[(.pointer (some ⟨g_x, 0, none⟩))]) q1_1 ?_)
    refine s_cons (op_move v_l q1_0 ?_)
    refine s_cons (op_move (.int .i64 (i : Int)) rfl ?_)
    refine s_cons (op_indexAddrN (E := infoE) (xs := l) i Try.underlying22 Try.sizeOf34 rfl h_l rfl (by omega) (by omega) (fun a7 o8 p9 => ?_))
    refine s_cons (op_loadN (cs := [(.int .i64 ((l[i]'(by omega)).Id)), (.int .i64 ((l[i]'(by omega)).Tier)), (.int .i64 ((l[i]'(by omega)).From)), (.int .i64 ((l[i]'(by omega)).To)), (.int .u32 ((l[i]'(by omega)).Sum))]) Try.isAgg34 Try.sizeOf34 rfl (Pt.of (p9.below hst.below) rfl) rfl ?_)
    refine s_cons (op_callv (cs := [(.pointer (some ⟨g_x, 0, none⟩))]) Try.call22 rfl (evs_cons (v := (.agg #[(.int .i64 ((l[i]'(by omega)).Id)), (.int .i64 ((l[i]'(by omega)).Tier)), (.int .i64 ((l[i]'(by omega)).From)), (.int .i64 ((l[i]'(by omega)).To)), (.int .u32 ((l[i]'(by omega)).Sum))])) rfl evs_nil) (c_same1 (i := (l[i]'(by omega))) (g_x := g_x) (x0 := x0) (x1 := x1) (x2 := x2) (x3 := x3) (x4 := x4) (hst := hst)) ?_)
    rintro _ w10 ⟨rfl, hcall⟩
    refine ⟨_, rfl, ?_⟩
    have hst : St w0 w10 (.blk g_x 34 #[(.int .i64 x0), (.int .i64 x1), (.int .i64 x2), (.int .i64 x3), (.int .u32 x4)] :: L) := hcall
    refine s_nil ?_
    refine then_n ?_
    rcases Bool.eq_false_or_eq_true (decide ((l[i]'(by omega)).Id = x0)) with b11 | b11
    · have c12 : (l[i]'(by omega)).Id = x0 := of_decide_eq_true b11
      refine cE_cond true (congrArg Value.bool b11) (fun _ => ?_) (fun h => by cases h)
      refine cE_seq ?_
      refine cE_region rfl ?_
      refine s_cons (op_move (.int .i64 (i : Int)) rfl ?_)
      refine s_cons (op_assign (.int .i64 (i : Int)) rfl ?_)
      refine s_nil ?_
      refine then_n ?_
      refine cE_ret ?_
      refine block_r (then_r (then_r (block_r (then_r ?_))))
      refine post_r _ (res1 (v := (.int .i64 (i : Int))) rfl) ?_
      exact ⟨(retv1 (congrArg (Value.int .i64) (show (i : Int) = (idxI (fun (y : Info) => decide (y.Id = x0)) l) from by first | exact (idx_at (p := fun (y : Info) => decide (y.Id = x0)) hN (by omega) (by first | assumption | (show decide _ = _; assumption))).symm | exact (idx_end (p := fun (y : Info) => decide (y.Id = x0)) hN (by omega)).symm))), hst.sub (.cons_cons _ (List.Sublist.refl _))⟩
    have c13 : ¬ ((l[i]'(by omega)).Id = x0) := of_decide_eq_false b11
    refine cE_cond false (congrArg Value.bool b11) (fun h => by cases h) (fun _ => ?_)
    refine cE_skip ?_
    refine block_n (then_n ?_)
    refine cE_region rfl ?_
    refine s_cons (op_add (k := .i64) (a := (i : Int)) (b := 1) ((i : Int) + 1) q1_8 rfl (xi64 (by omega) (by omega)) ?_)
    refine s_cons (op_move (.int .i64 ((i : Int) + 1)) rfl ?_)
    refine s_nil ?_
    refine then_n ?_
    exact ⟨_, ⟨(i + 1), rfl, q1_0, q1_1, q1_7, (congrArg (Value.int .i64) (show ((i : Int) + 1) = _ from by omega)), hst, (by omega), (by first | exact idx_none (p := fun (y : Info) => decide (y.Id = x0)) | exact idx_next (p := fun (y : Info) => decide (y.Id = x0)) hN (by omega) (by first | assumption | (show decide _ = _; assumption)))⟩, (by simp only [id]; omega)⟩
  have c14 : ¬ ((i : Int) < (l.length : Int)) := of_decide_eq_false b5
  refine cE_cond false (congrArg Value.bool b5) (fun h => by cases h) (fun _ => ?_)
  refine cE_exit ?_
  refine then_x (then_x (block_hit (then_n ?_)))
  refine cE_seq ?_
  refine cE_region rfl ?_
  refine s_cons (op_assign (.int .i64 (-1)) rfl ?_)
  refine s_nil ?_
  refine then_n ?_
  refine cE_ret ?_
  refine post_r _ (res1 (v := (.int .i64 (-1))) rfl) ?_
  exact ⟨(retv1 (congrArg (Value.int .i64) (show (-1) = (idxI (fun (y : Info) => decide (y.Id = x0)) l) from by first | exact (idx_at (p := fun (y : Info) => decide (y.Id = x0)) hN (by omega) (by first | assumption | (show decide _ = _; assumption))).symm | exact (idx_end (p := fun (y : Info) => decide (y.Id = x0)) hN (by omega)).symm))), hst.sub (.cons_cons _ (List.Sublist.refl _))⟩

end Go.Proofs.Ytadnedoecbfojaa
