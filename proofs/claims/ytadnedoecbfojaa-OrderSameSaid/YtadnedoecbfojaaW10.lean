/- order.Bodies$1 -/
import Derived.Test.YtadnedoecbfojaaT
import Derived.Test.YtadnedoecbfojaaJ
import Derived.Test.YtadnedoecbfojaaK
import Derived.Test.YtadnedoecbfojaaSM
import Derived.Test.YtadnedoecbfojaaW1
import Derived.Test.YtadnedoecbfojaaW2
import Derived.Test.YtadnedoecbfojaaW3
import Derived.Test.YtadnedoecbfojaaW4
import Derived.Test.YtadnedoecbfojaaW5
import Derived.Test.YtadnedoecbfojaaW6
import Derived.Test.YtadnedoecbfojaaW7
import Derived.Test.YtadnedoecbfojaaW8
import Derived.Test.YtadnedoecbfojaaW9
namespace Go.Proofs.Ytadnedoecbfojaa
open Go.RowKit

theorem c_same1 {w0 w : World} {L : List Item} (i : Info) (g_x : Nat) (x0 : Int) (x1 : Int) (x2 : Int) (x3 : Int) (x4 : Int) (hst : St w0 w (.blk g_x 34 #[(.int .i64 x0), (.int .i64 x1), (.int .i64 x2), (.int .i64 x3), (.int .u32 x4)] :: L)) :
    Calls Try.prog 22 #[(.agg #[(.int .i64 i.Id), (.int .i64 i.Tier), (.int .i64 i.From), (.int .i64 i.To), (.int .u32 i.Sum)]), (.pointer (some ⟨g_x, 0, none⟩))] w fun e w' => e = .returned (.bool (decide (i.Id = x0))) ∧ St w0 w' (.blk g_x 34 #[(.int .i64 x0), (.int .i64 x1), (.int .i64 x2), (.int .i64 x3), (.int .u32 x4)] :: L) := by
  refine calls_E (n := 9) (ts := [3]) Try.func22 rfl rfl rfl (by simp) ?_
  refine cE_seq ?_
  refine cE_region rfl ?_
  refine s_cons (op_box (v := (.agg #[(.int .i64 i.Id), (.int .i64 i.Tier), (.int .i64 i.From), (.int .i64 i.To), (.int .u32 i.Sum)])) (cs := #[(.int .i64 i.Id), (.int .i64 i.Tier), (.int .i64 i.From), (.int .i64 i.To), (.int .u32 i.Sum)]) hst rfl rfl (fun g1 w2 hst _ => ?_))
  replace hst : St w0 w2 (.blk g1 34 #[(.int .i64 i.Id), (.int .i64 i.Tier), (.int .i64 i.From), (.int .i64 i.To), (.int .u32 i.Sum)] :: .blk g_x 34 #[(.int .i64 x0), (.int .i64 x1), (.int .i64 x2), (.int .i64 x3), (.int .u32 x4)] :: L) := hst
  refine s_cons (op_assign (.bool false) rfl ?_)
  refine s_nil ?_
  refine then_n ?_
  refine cE_seq ?_
  refine cE_region rfl ?_
  refine s_cons (op_fieldAddr (s := 0) Try.underlying34 rfl rfl Try.sizeOf3 rfl ?_)
  refine s_cons (op_load1 (u := (.int .i64 i.Id)) Try.isAgg3 rfl (hst.cell 0 rfl) ?_)
  refine s_cons (op_fieldAddr (s := 0) Try.underlying34 rfl rfl Try.sizeOf3 rfl ?_)
  refine s_cons (op_load1 (u := (.int .i64 x0)) Try.isAgg3 rfl (hst.cell 1 rfl) ?_)
  refine s_cons (op_eql (k := .i64) (a := i.Id) (b := x0) rfl rfl ?_)
  refine s_cons (op_assign (.bool (decide (i.Id = x0))) rfl ?_)
  refine s_nil ?_
  refine then_n ?_
  refine cE_ret ?_
  refine post_r _ (res1 (v := (.bool (decide (i.Id = x0)))) rfl) ?_
  exact ⟨rfl, hst.sub (.cons _ (.cons_cons _ (List.Sublist.refl _)))⟩

end Go.Proofs.Ytadnedoecbfojaa
