/- frames: twinkeepref1.Four -/
import Derived.Test.YtfljkaigfmedeaaW1
import Derived.Test.YtfljkaigfmedeaaW2
import Derived.Test.YtfljkaigfmedeaaW3
import Derived.Test.YtfljkaigfmedeaaFC
import Derived.Test.YtfljkaigfmedeaaW10
import Derived.Test.YtfljkaigfmedeaaW11
import Derived.Test.YtfljkaigfmedeaaW12
import Derived.Test.YtfljkaigfmedeaaW13
import Derived.Test.YtfljkaigfmedeaaW14
import Derived.Test.YtfljkaigfmedeaaW15
import Derived.Test.YtfljkaigfmedeaaW16
import Derived.Test.YtfljkaigfmedeaaW17
import Derived.Test.YtfljkaigfmedeaaW18
import Derived.Test.YtfljkaigfmedeaaW19
import Derived.Test.YtfljkaigfmedeaaW20
namespace Go.Proofs.Ytfljkaigfmedeaa
open Go.RowKit

theorem c_rFour (w0 : World) (s : Int) (h0 : 0 ≤ s) (h1 : s ≤ 4294967295) :
    Calls Try.prog 24 #[(.int .u32 s)] w0 fun e w' => e = .returned (.string (str (four s))) ∧ St w0 w' [] := by
  refine calls_E (n := 16) (ts := [2]) Try.func24 rfl rfl rfl (by simp) ?_
  have hst := St.start w0
  refine cE_seq ?_
  refine cE_region rfl ?_
  refine s_cons (op_assign (.string (str ([] : List UInt8))) rfl ?_)
  refine s_nil ?_
  refine then_n ?_
  refine cE_seq ?_
  refine cE_region rfl ?_
  refine s_cons (op_move (.int .u32 s) rfl ?_)
  refine s_cons (op_conv (k := .u32) (a := s) (s % 256) Try.underlying5 (by rw [Try.underlying42]; rfl) rfl (IntKind.wrap_u8 _) ?_)
  refine s_cons (op_move (.int .u32 s) rfl ?_)
  refine s_cons (op_shr (k := .u32) (k' := .u64) (a := s) (b := 8) (s / 256) rfl rfl (by omega) (by simp [IntKind.bits]; try omega) rfl ?_)
  refine s_cons (op_conv (k := .u32) (a := (s / 256)) ((s / 256) % 256) Try.underlying5 (by rw [Try.underlying42]; rfl) rfl (IntKind.wrap_u8 _) ?_)
  refine s_cons (op_move (.int .u32 s) rfl ?_)
  refine s_cons (op_shr (k := .u32) (k' := .u64) (a := s) (b := 16) (s / 65536) rfl rfl (by omega) (by simp [IntKind.bits]; try omega) rfl ?_)
  refine s_cons (op_conv (k := .u32) (a := (s / 65536)) ((s / 65536) % 256) Try.underlying5 (by rw [Try.underlying42]; rfl) rfl (IntKind.wrap_u8 _) ?_)
  refine s_cons (op_move (.int .u32 s) rfl ?_)
  refine s_cons (op_shr (k := .u32) (k' := .u64) (a := s) (b := 24) (s / 16777216) rfl rfl (by omega) (by simp [IntKind.bits]; try omega) rfl ?_)
  refine s_cons (op_conv (k := .u32) (a := (s / 16777216)) ((s / 16777216) % 256) Try.underlying5 (by rw [Try.underlying42]; rfl) rfl (IntKind.wrap_u8 _) ?_)
  refine s_cons (op_buildSlice (E := u8E) [(byt (s % 256)), (byt ((s / 256) % 256)), (byt ((s / 65536) % 256)), (byt ((s / 16777216) % 256))] hst Try.underlying23 Try.sizeOf5 Try.zeroValue5 (evp_cons (v := (.int .u8 (s % 256))) rfl (evp_cons (v := (.int .u8 ((s / 256) % 256))) rfl (evp_cons (v := (.int .u8 ((s / 65536) % 256))) rfl (evp_cons (v := (.int .u8 ((s / 16777216) % 256))) rfl evp_nil)))) (parts_cons (by rw [u8cell]; exact byt_cell (by omega) (by omega)) (parts_cons (by rw [u8cell]; exact byt_cell (by omega) (by omega)) (parts_cons (by rw [u8cell]; exact byt_cell (by omega) (by omega)) (parts_cons (by rw [u8cell]; exact byt_cell (by omega) (by omega)) parts_nil)))) rfl (by decide) (fun v1 w2 hst => ?_))
  replace hst : St w0 w2 [rowT 5 u8E v1 ([(byt (s % 256)), (byt ((s / 256) % 256)), (byt ((s / 65536) % 256)), (byt ((s / 16777216) % 256))])] := hst
  refine s_cons (op_str (xs := [(byt (s % 256)), (byt ((s / 256) % 256)), (byt ((s / 65536) % 256)), (byt ((s / 16777216) % 256))]) Try.underlying23 Try.underlying5 Try.underlying9 rfl (hst.sl 0 rfl) ?_)
  refine s_cons (op_assign (.string (str ([(byt (s % 256)), (byt ((s / 256) % 256)), (byt ((s / 65536) % 256)), (byt ((s / 16777216) % 256))]))) rfl ?_)
  refine s_nil ?_
  refine then_n ?_
  refine cE_ret ?_
  refine post_r _ (res1 (v := (.string (str ([(byt (s % 256)), (byt ((s / 256) % 256)), (byt ((s / 65536) % 256)), (byt ((s / 16777216) % 256))])))) rfl) ?_
  exact ⟨(retv1 (congrArg (fun l => Value.string (str l)) (show [(byt (s % 256)), (byt ((s / 256) % 256)), (byt ((s / 65536) % 256)), (byt ((s / 16777216) % 256))] = (four s) from by exact four_of _))), hst.bare⟩

end Go.Proofs.Ytfljkaigfmedeaa
