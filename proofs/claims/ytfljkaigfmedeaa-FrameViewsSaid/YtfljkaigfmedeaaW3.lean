/- bytes -/
import Derived.Test.YtfljkaigfmedeaaFB
import Derived.Test.YtfljkaigfmedeaaJ
import Derived.Test.YtfljkaigfmedeaaRows
namespace Go.Proofs.Ytfljkaigfmedeaa
open Go.RowKit

theorem c_bEqual (w0 : World) (v_a : Value) (a : List UInt8) (h_a : Sl w0 u8E v_a a) (v_b : Value) (b : List UInt8) (h_b : Sl w0 u8E v_b b) :
    Calls Try.prog 22 #[v_a, v_b] w0 fun e w' => e = .returned (.bool (decide (a = b))) ∧ St w0 w' [] := by
  refine calls_E (n := 10) (ts := [4]) Try.func22 rfl rfl rfl (by simp) ?_
  have hst := St.start w0
  refine cE_seq ?_
  refine cE_region rfl ?_
  refine s_cons (op_assign (.bool false) rfl ?_)
  refine s_nil ?_
  refine then_n ?_
  refine cE_seq ?_
  refine cE_region rfl ?_
  refine s_cons (op_move v_a rfl ?_)
  refine s_cons (op_str (xs := a) Try.underlying23 Try.underlying5 Try.underlying9 rfl (h_a.below hst.below) ?_)
  refine s_cons (op_move v_b rfl ?_)
  refine s_cons (op_str (xs := b) Try.underlying23 Try.underlying5 Try.underlying9 rfl (h_b.below hst.below) ?_)
  refine s_cons (op_eqlStr (a := a) (b := b) rfl rfl ?_)
  refine s_cons (op_assign (.bool (decide (a = b))) rfl ?_)
  refine s_nil ?_
  refine then_n ?_
  refine cE_ret ?_
  refine post_r _ (res1 (v := (.bool (decide (a = b)))) rfl) ?_
  exact ⟨rfl, hst.bare⟩

theorem c_bClone (w0 : World) (v_a : Value) (a : List UInt8) (h_a : Sl w0 u8E v_a a) (hl : a.length ≤ 1000000000) :
    Calls Try.prog 21 #[v_a] w0 fun e w' => ∃ (r : Value), e = .returned r ∧ St w0 w' [rowT 5 u8E r a] := by
  refine calls_E (n := 8) (ts := [2]) Try.func21 rfl rfl rfl (by simp) ?_
  have hst := St.start w0
  refine cE_seq ?_
  refine cE_region rfl ?_
  refine s_cons (op_assign (.slice none 0 0) rfl ?_)
  refine s_nil ?_
  refine then_n ?_
  refine cE_seq ?_
  refine cE_seq ?_
  refine cE_region rfl ?_
  refine s_cons (op_move v_a rfl ?_)
  refine s_cons (op_eqlNil (E := u8E) Try.underlying23 rfl h_a rfl (fun nb1 hnb1 => ?_))
  refine s_nil ?_
  refine then_n ?_
  rcases Bool.eq_false_or_eq_true nb1 with b2 | b2
  · have hnil := hnb1 b2
    refine cE_cond true (congrArg Value.bool b2) (fun _ => ?_) (fun h => by cases h)
    refine cE_seq ?_
    refine cE_region rfl ?_
    refine s_cons (op_assign (.slice none 0 0) rfl ?_)
    refine s_nil ?_
    refine then_n ?_
    refine cE_ret ?_
    refine then_r ?_
    refine post_r _ (res1 (v := (.slice none 0 0)) rfl) ?_
    replace hst : St w0 w0 [rowT 5 u8E (.slice none 0 0) ([])] := hst.nilRow 5 u8E
    have e3 : [] = a := by first | exact hnil.symm | rfl
    replace hst : St w0 w0 [rowT 5 u8E (.slice none 0 0) a] := by rw [congrArg (fun l => rowT 5 u8E (.slice none 0 0) l) e3] at hst; exact hst
    exact ⟨(.slice none 0 0), rfl, hst.sub (.cons_cons _ .slnil)⟩
  · refine cE_cond false (congrArg Value.bool b2) (fun h => by cases h) (fun _ => ?_)
    refine cE_skip ?_
    refine then_n ?_
    refine cE_seq ?_
    refine cE_region rfl ?_
    refine s_cons (op_buildSlice (E := u8E) [] hst Try.underlying23 Try.sizeOf5 Try.zeroValue5 evp_nil parts_nil rfl (by decide) (fun v4 w5 hst => ?_))
    replace hst : St w0 w5 [rowT 5 u8E v4 ([])] := hst
    refine s_cons (op_move v_a rfl ?_)
    refine s_cons (op_append (E := u8E) (xs := []) (ys := a) (z := (.int .u8 0)) (bytes := 1) hst 0 rfl Try.underlying23 (by kernel_rfl) rfl rfl rfl (h_a.below hst.below) (by first | omega | (simp; omega)) (by first | omega | (simp; omega)) (fun v6 w7 hst => ?_))
    replace hst : St w0 w7 [rowT 5 u8E v6 a] := hst
    refine s_cons (op_assign v6 rfl ?_)
    refine s_nil ?_
    refine then_n ?_
    refine cE_ret ?_
    refine post_r _ (res1 (v := v6) rfl) ?_
    exact ⟨v6, rfl, hst.sub (.cons_cons _ .slnil)⟩

end Go.Proofs.Ytfljkaigfmedeaa
