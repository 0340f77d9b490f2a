/- api.Info] -/
import Derived.Test.YtadnedoecbfojaaW26
namespace Go.Proofs.Ytadnedoecbfojaa
open Go.RowKit

theorem c_containsR {w0 w : World} {L : List Item} (v_l : Value) (l : List Info) (h_l : Sl w0 infoE v_l l) (g_x : Nat) (x0 : Int) (x1 : Int) (x2 : Int) (x3 : Int) (x4 : Int) (hx0 : -9223372036854775808 ≤ x1) (hx1 : x1 < 3) (hst : St w0 w (.blk g_x 34 #[(.int .i64 x0), (.int .i64 x1), (.int .i64 x2), (.int .i64 x3), (.int .u32 x4)] :: L)) :
    Calls Try.prog 17 #[v_l, (.func (.func 16) #[] #[(.pointer (some ⟨g_x, 0, none⟩))])] w fun e w' => e = .returned (.bool (l.any (fun (y : Info) => decide (y.Tier = x1 + 1 ∧ y.From = x2 ∧ y.To = x3)))) ∧ St w0 w' (.blk g_x 34 #[(.int .i64 x0), (.int .i64 x1), (.int .i64 x2), (.int .i64 x3), (.int .u32 x4)] :: L) := by
  refine calls_E (n := 9) (ts := [4]) Try.func17 rfl rfl rfl (by simp) ?_
  refine cE_seq ?_
  refine cE_region rfl ?_
  refine s_cons (op_assign (.bool false) rfl ?_)
  refine s_nil ?_
  refine then_n ?_
  refine cE_seq ?_
  refine cE_region rfl ?_
  refine s_cons (op_move v_l rfl ?_)
  refine s_cons (op_move (.func (.func 16) #[] #[(.pointer (some ⟨g_x, 0, none⟩))]) rfl ?_)
  refine s_cons (op_call Try.call25 (evs_cons (v := v_l) rfl (evs_cons (v := (.func (.func 16) #[] #[(.pointer (some ⟨g_x, 0, none⟩))])) rfl evs_nil)) (c_indexR (v_l := v_l) (l := l) (h_l := h_l) (g_x := g_x) (x0 := x0) (x1 := x1) (x2 := x2) (x3 := x3) (x4 := x4) (hx0 := (by omega)) (hx1 := (by omega)) (hst := hst)) ?_)
  rintro _ w1 ⟨rfl, hcall⟩
  refine ⟨_, rfl, ?_⟩
  have hst : St w0 w1 (.blk g_x 34 #[(.int .i64 x0), (.int .i64 x1), (.int .i64 x2), (.int .i64 x3), (.int .u32 x4)] :: L) := hcall
  refine s_cons (op_geq (k := .i64) (a := (idxI (fun (y : Info) => decide (y.Tier = x1 + 1 ∧ y.From = x2 ∧ y.To = x3)) l)) (b := 0) rfl rfl ?_)
  refine s_cons (op_assign (.bool (decide (0 ≤ (idxI (fun (y : Info) => decide (y.Tier = x1 + 1 ∧ y.From = x2 ∧ y.To = x3)) l)))) rfl ?_)
  refine s_nil ?_
  refine then_n ?_
  refine cE_ret ?_
  refine post_r _ (res1 (v := (.bool (decide (0 ≤ (idxI (fun (y : Info) => decide (y.Tier = x1 + 1 ∧ y.From = x2 ∧ y.To = x3)) l))))) rfl) ?_
  exact ⟨(retv1 (congrArg Value.bool (show (decide (0 ≤ (idxI (fun (y : Info) => decide (y.Tier = x1 + 1 ∧ y.From = x2 ∧ y.To = x3)) l))) = (l.any (fun (y : Info) => decide (y.Tier = x1 + 1 ∧ y.From = x2 ∧ y.To = x3))) from by exact idx_any (p := fun (y : Info) => decide (y.Tier = x1 + 1 ∧ y.From = x2 ∧ y.To = x3))))), hst.sub (.cons_cons _ (List.Sublist.refl _))⟩

end Go.Proofs.Ytadnedoecbfojaa
