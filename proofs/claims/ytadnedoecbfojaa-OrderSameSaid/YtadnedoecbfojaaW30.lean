/- api.Info] -/
import Derived.Test.YtadnedoecbfojaaW29
namespace Go.Proofs.Ytadnedoecbfojaa
open Go.RowKit

theorem c_sortStable {w0 w : World} {L : List Item} (v_xs : Value) (xs : List Info) (hxl : xs.length ≤ 1000000000) (hst : St w0 w (rowT 34 infoE v_xs xs :: L)) :
    Calls Try.prog 23 #[v_xs, (.func (.func 24) #[] #[])] w fun e w' => ∃ (qs : List Info), e = .returned (.tuple #[]) ∧ St w0 w' (rowT 34 infoE v_xs qs :: L) ∧ qs.Perm xs ∧ SortedI qs := by
  refine calls_E (n := 9) (ts := []) Try.func23 rfl rfl rfl (by simp) ?_
  refine cE_region rfl ?_
  refine s_cons (op_move v_xs rfl ?_)
  refine s_cons (op_move v_xs rfl ?_)
  refine s_cons (op_len (E := infoE) (xs := xs) Try.underlying22 rfl (hst.sl 0 rfl) ?_)
  refine s_cons (op_move (.func (.func 24) #[] #[]) rfl ?_)
  refine s_cons (op_call Try.call28 (evs_cons (v := v_xs) rfl (evs_cons (v := (.int .i64 (xs.length : Int))) rfl (evs_cons (v := (.func (.func 24) #[] #[])) rfl evs_nil))) (c_stable (v_xs := v_xs) (xs := xs) (n := xs.length) (hn := (by omega)) (hxl := (by omega)) (hst := hst)) ?_)
  rintro _ w4 ⟨r1, rfl, hcall, x2, x3⟩
  refine ⟨_, rfl, ?_⟩
  have hst : St w0 w4 (rowT 34 infoE v_xs r1 :: L) := hcall
  refine s_nil ?_
  refine post_n (.tuple #[]) rfl ?_
  exact ⟨r1, rfl, hst.sub (.cons_cons _ (List.Sublist.refl _)), (turned_sorted (by assumption) (by assumption) rfl).1, (turned_sorted (by assumption) (by assumption) rfl).2⟩

end Go.Proofs.Ytadnedoecbfojaa
