/- bytes -/
import Derived.Test.YtgibfidebdgffaaDoorXLA
import Derived.Test.YtgibfidebdgffaaDoorXLB
import Derived.Test.YtgibfidebdgffaaDoorRows
namespace Go.Proofs.YtgibfidebdgffaaDoor
open Go.RowKit

set_option maxRecDepth 8000 in
theorem c_bEqual (w0 : World) (v_a : Value) (a : List UInt8) (h_a : Sl w0 u8E v_a a) (v_b : Value) (b : List UInt8) (h_b : Sl w0 u8E v_b b) :
  Calls Tryd.prog 31 #[v_a, v_b] w0 fun e w' => e = .returned (.bool (decide (a = b))) ∧ St w0 w' [] := by
 refine calls_E (n := 10) (ts := [4]) Tryd.func31 rfl rfl rfl (by simp) ?_
 have hst := St.start w0
 refine cE_seq (cE_region rfl (s_cons (op_assign (.bool false) rfl (s_nil (then_n (cE_seq (cE_region rfl (s_cons (op_move v_a rfl (s_cons (op_str (xs := a) Tryd.underlying29 Tryd.underlying5 Tryd.underlying9 rfl (h_a.below hst.below) (s_cons (op_move v_b rfl (s_cons (op_str (xs := b) Tryd.underlying29 Tryd.underlying5 Tryd.underlying9 rfl (h_b.below hst.below) (s_cons (op_eqlStr (a := a) (b := b) rfl rfl ?_)))))))))))))))))
 refine s_cons (op_assign (.bool (decide (a = b))) rfl (s_nil (then_n (cE_ret (post_r _ (res1 (v := (.bool (decide (a = b)))) rfl) ?_)))))
 exact ⟨rfl, hst.bare⟩

end Go.Proofs.YtgibfidebdgffaaDoor
