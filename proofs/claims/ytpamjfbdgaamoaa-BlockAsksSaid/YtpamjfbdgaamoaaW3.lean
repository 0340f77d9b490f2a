/- bytes -/
import Derived.Test.YtpamjfbdgaamoaaFB
import Derived.Test.YtpamjfbdgaamoaaJ
import Derived.Test.YtpamjfbdgaamoaaRows
namespace Go.Proofs.Ytpamjfbdgaamoaa
open Go.RowKit

theorem c_bEqual (w0 : World) (v_a : Value) (a : List UInt8) (h_a : Sl w0 u8E v_a a) (v_b : Value) (b : List UInt8) (h_b : Sl w0 u8E v_b b) :
    Calls Try.prog 30 #[v_a, v_b] w0 fun e w' => e = .returned (.bool (decide (a = b))) ∧ St w0 w' [] := by
  refine calls_E (n := 10) (ts := [4]) Try.func30 rfl rfl rfl (by simp) ?_
  have hst := St.start w0
  refine cE_seq ?_
  refine cE_region rfl ?_
  refine s_cons (op_assign (.bool false) rfl ?_)
  refine s_nil ?_
  refine then_n ?_
  refine cE_seq ?_
  refine cE_region rfl ?_
  refine s_cons (op_move v_a rfl ?_)
  refine s_cons (op_str (xs := a) Try.underlying24 Try.underlying5 Try.underlying9 rfl (h_a.below hst.below) ?_)
  refine s_cons (op_move v_b rfl ?_)
  refine s_cons (op_str (xs := b) Try.underlying24 Try.underlying5 Try.underlying9 rfl (h_b.below hst.below) ?_)
  refine s_cons (op_eqlStr (a := a) (b := b) rfl rfl ?_)
  refine s_cons (op_assign (.bool (decide (a = b))) rfl ?_)
  refine s_nil ?_
  refine then_n ?_
  refine cE_ret ?_
  refine post_r _ (res1 (v := (.bool (decide (a = b)))) rfl) ?_
  exact ⟨rfl, hst.bare⟩

end Go.Proofs.Ytpamjfbdgaamoaa
