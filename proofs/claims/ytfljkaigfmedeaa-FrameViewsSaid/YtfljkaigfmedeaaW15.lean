/- frames: frame.Get$1 -/
import Derived.Test.YtfljkaigfmedeaaW1
import Derived.Test.YtfljkaigfmedeaaW2
import Derived.Test.YtfljkaigfmedeaaW3
import Derived.Test.YtfljkaigfmedeaaFC
import Derived.Test.YtfljkaigfmedeaaW10
import Derived.Test.YtfljkaigfmedeaaW11
import Derived.Test.YtfljkaigfmedeaaW12
import Derived.Test.YtfljkaigfmedeaaW13
import Derived.Test.YtfljkaigfmedeaaW14
namespace Go.Proofs.Ytfljkaigfmedeaa
open Go.RowKit

theorem c_fNext {w0 w : World} {L : List Item} (g_pb : Nat) (v_b : Value) (b : List UInt8) (h_b : Sl w0 u8E v_b b) (g_pa : Nat) (at_ : Int) (g_pd : Nat) (bad : Bool) (hl : b.length ≤ 1000000000) (hst : St w0 w (.blk g_pb 23 #[v_b] :: .blk g_pa 3 #[(.int .i64 at_)] :: .blk g_pd 4 #[(.bool bad)] :: L)) :
    Calls Try.prog 19 #[(.pointer (some ⟨g_pb, 0, none⟩)), (.pointer (some ⟨g_pa, 0, none⟩)), (.pointer (some ⟨g_pd, 0, none⟩))] w fun e w' => e = .returned (.int .i64 (min (get b at_).1 1099511627776)) ∧ St w0 w' (.blk g_pb 23 #[v_b] :: .blk g_pa 3 #[(.int .i64 ((get b at_).2.1))] :: .blk g_pd 4 #[(.bool (nbad bad b at_))] :: L) := by
  have hgn := get_nn b at_
  refine calls_E (n := 27) (ts := [3]) Try.func19 rfl rfl rfl (by simp) ?_
  refine cE_seq ?_
  refine cE_region rfl ?_
  refine s_cons (op_assign (.int .i64 0) rfl ?_)
  refine s_nil ?_
  refine then_n ?_
  refine cE_seq ?_
  refine cE_region rfl ?_
  refine s_cons (op_load1 (u := v_b) Try.isAgg23 rfl (hst.cell 0 rfl) ?_)
  refine s_cons (op_load1 (u := (.int .i64 at_)) Try.isAgg3 rfl (hst.cell 1 rfl) ?_)
  refine s_cons (op_call Try.call20 (evs_cons (v := v_b) rfl (evs_cons (v := (.int .i64 at_)) rfl evs_nil)) (c_Get (w0 := w) (v_b := v_b) (b := b) (h_b := (h_b.below hst.below)) (at_ := at_) (hl := (by omega))) ?_)
  rintro _ w1 ⟨rfl, hcall⟩
  refine ⟨_, rfl, ?_⟩
  have hst : St w0 w1 (.blk g_pb 23 #[v_b] :: .blk g_pa 3 #[(.int .i64 at_)] :: .blk g_pd 4 #[(.bool bad)] :: L) := hst.call hcall
  refine s_cons (op_move (.tuple #[(.int .u64 ((get b at_).1)), (.int .i64 ((get b at_).2.1)), (.int .i64 ((get b at_).2.2))]) rfl ?_)
  refine s_cons (op_extract (.int .u64 ((get b at_).1)) rfl rfl ?_)
  refine s_cons (op_extract (.int .i64 ((get b at_).2.1)) rfl rfl ?_)
  refine s_cons (op_extract (.int .i64 ((get b at_).2.2)) rfl rfl ?_)
  refine s_cons (op_assign (.int .u64 ((get b at_).1)) rfl ?_)
  refine s_cons (op_assign (.int .i64 ((get b at_).2.1)) rfl ?_)
  refine s_cons (op_assign (.int .i64 ((get b at_).2.2)) rfl ?_)
  refine s_nil ?_
  refine then_n ?_
  refine cE_seq ?_
  refine cE_region rfl ?_
  refine s_cons (op_load1 (u := (.bool bad)) Try.isAgg4 rfl (hst.cell 2 rfl) ?_)
  refine s_cons (op_move (.bool bad) rfl ?_)
  rcases Bool.eq_false_or_eq_true bad with b2 | b2
  · refine s_no 15 rfl (congrArg Value.bool b2) ?_
    refine s_no 15 rfl (congrArg Value.bool b2) ?_
    refine s_cons (op_pick_t (.bool true) (congrArg Value.bool b2) rfl ?_)
    refine s_cons (op_move (.bool true) rfl ?_)
    refine s_no 19 rfl rfl ?_
    refine s_no 19 rfl rfl ?_
    refine s_cons (op_pick_t (.bool true) rfl rfl ?_)
    refine s_cons0 (op_store1 hst 2 rfl Try.sizeOf4 rfl rfl rfl (show 0 < 1 from by decide) (fun w3 hst => ?_))
    replace hst : St w0 w3 (.blk g_pb 23 #[v_b] :: .blk g_pa 3 #[(.int .i64 at_)] :: .blk g_pd 4 #[(.bool true)] :: L) := hst
    refine s_nil ?_
    refine then_n ?_
    refine cE_seq ?_
    refine cE_region rfl ?_
    refine s_cons (op_move (.int .i64 ((get b at_).2.1)) rfl ?_)
    refine s_cons0 (op_store1 hst 1 rfl Try.sizeOf3 rfl rfl rfl (show 0 < 1 from by decide) (fun w4 hst => ?_))
    replace hst : St w0 w4 (.blk g_pb 23 #[v_b] :: .blk g_pa 3 #[(.int .i64 ((get b at_).2.1))] :: .blk g_pd 4 #[(.bool true)] :: L) := hst
    refine s_nil ?_
    refine then_n ?_
    refine cE_seq ?_
    refine cE_region rfl ?_
    refine s_cons (op_move (.int .u64 ((get b at_).1)) rfl ?_)
    refine s_cons (op_min2 (k := .u64) (a := (get b at_).1) (b := 1099511627776) rfl rfl ?_)
    refine s_cons (op_conv (k := .u64) (a := (min ((get b at_).1) 1099511627776)) (min ((get b at_).1) 1099511627776) Try.underlying2 (by rw [Try.underlying41]; rfl) rfl (xi64 (by omega) (by omega)) ?_)
    refine s_cons (op_assign (.int .i64 (min ((get b at_).1) 1099511627776)) rfl ?_)
    refine s_nil ?_
    refine then_n ?_
    refine cE_ret ?_
    refine post_r _ (res1 (v := (.int .i64 (min ((get b at_).1) 1099511627776))) rfl) ?_
    have e5 : ((.bool true) : Value) = (.bool (nbad bad b at_)) := (congrArg Value.bool (show true = (nbad bad b at_) from by first | rfl | (unfold nbad; simp [b2])))
    replace hst : St w0 w4 (.blk g_pb 23 #[v_b] :: .blk g_pa 3 #[(.int .i64 ((get b at_).2.1))] :: .blk g_pd 4 #[(.bool (nbad bad b at_))] :: L) := by rw [e5] at hst; exact hst
    exact ⟨(retv1 (congrArg (Value.int .i64) (show (min ((get b at_).1) 1099511627776) = (min (get b at_).1 1099511627776) from by first | rfl | (unfold nbad; simp [b2])))), hst.sub (.cons_cons _ (.cons_cons _ (.cons_cons _ (List.Sublist.refl _))))⟩
  · refine s_yes 15 rfl (congrArg Value.bool b2) (op_move (.int .i64 ((get b at_).2.2)) rfl ?_)
    refine s_yes 15 rfl (congrArg Value.bool b2) (op_neq (k := .i64) (a := (get b at_).2.2) (b := 0) rfl rfl ?_)
    refine s_cons (op_pick_f (.bool (!decide (((get b at_).2.2) = 0))) (congrArg Value.bool b2) rfl ?_)
    refine s_cons (op_move (.bool (!decide (((get b at_).2.2) = 0))) rfl ?_)
    rcases Bool.eq_false_or_eq_true (decide (((get b at_).2.2) = 0)) with b6 | b6
    · have c7 : ((get b at_).2.2) = 0 := of_decide_eq_true b6
      refine s_yes 19 rfl (congrArg Value.bool (congrArg (! ·) b6)) (op_move (.int .u64 ((get b at_).1)) rfl ?_)
      refine s_yes 19 rfl (congrArg Value.bool (congrArg (! ·) b6)) (op_gtr (k := .u64) (a := (get b at_).1) (b := 1099511627776) rfl rfl ?_)
      refine s_cons (op_pick_f (.bool (decide (1099511627776 < ((get b at_).1)))) (congrArg Value.bool (congrArg (! ·) b6)) rfl ?_)
      refine s_cons0 (op_store1 hst 2 rfl Try.sizeOf4 rfl rfl rfl (show 0 < 1 from by decide) (fun w8 hst => ?_))
      replace hst : St w0 w8 (.blk g_pb 23 #[v_b] :: .blk g_pa 3 #[(.int .i64 at_)] :: .blk g_pd 4 #[(.bool (decide (1099511627776 < ((get b at_).1))))] :: L) := hst
      refine s_nil ?_
      refine then_n ?_
      refine cE_seq ?_
      refine cE_region rfl ?_
      refine s_cons (op_move (.int .i64 ((get b at_).2.1)) rfl ?_)
      refine s_cons0 (op_store1 hst 1 rfl Try.sizeOf3 rfl rfl rfl (show 0 < 1 from by decide) (fun w9 hst => ?_))
      replace hst : St w0 w9 (.blk g_pb 23 #[v_b] :: .blk g_pa 3 #[(.int .i64 ((get b at_).2.1))] :: .blk g_pd 4 #[(.bool (decide (1099511627776 < ((get b at_).1))))] :: L) := hst
      refine s_nil ?_
      refine then_n ?_
      refine cE_seq ?_
      refine cE_region rfl ?_
      refine s_cons (op_move (.int .u64 ((get b at_).1)) rfl ?_)
      refine s_cons (op_min2 (k := .u64) (a := (get b at_).1) (b := 1099511627776) rfl rfl ?_)
      refine s_cons (op_conv (k := .u64) (a := (min ((get b at_).1) 1099511627776)) (min ((get b at_).1) 1099511627776) Try.underlying2 (by rw [Try.underlying41]; rfl) rfl (xi64 (by omega) (by omega)) ?_)
      refine s_cons (op_assign (.int .i64 (min ((get b at_).1) 1099511627776)) rfl ?_)
      refine s_nil ?_
      refine then_n ?_
      refine cE_ret ?_
      refine post_r _ (res1 (v := (.int .i64 (min ((get b at_).1) 1099511627776))) rfl) ?_
      have e10 : ((.bool (decide (1099511627776 < ((get b at_).1)))) : Value) = (.bool (nbad bad b at_)) := (congrArg Value.bool (show (decide (1099511627776 < ((get b at_).1))) = (nbad bad b at_) from by first | rfl | (unfold nbad; simp [b2, b6])))
      replace hst : St w0 w9 (.blk g_pb 23 #[v_b] :: .blk g_pa 3 #[(.int .i64 ((get b at_).2.1))] :: .blk g_pd 4 #[(.bool (nbad bad b at_))] :: L) := by rw [e10] at hst; exact hst
      exact ⟨(retv1 (congrArg (Value.int .i64) (show (min ((get b at_).1) 1099511627776) = (min (get b at_).1 1099511627776) from by first | rfl | (unfold nbad; simp [b2, b6])))), hst.sub (.cons_cons _ (.cons_cons _ (.cons_cons _ (List.Sublist.refl _))))⟩
    · have c11 : ¬ (((get b at_).2.2) = 0) := of_decide_eq_false b6
      refine s_no 19 rfl (congrArg Value.bool (congrArg (! ·) b6)) ?_
      refine s_no 19 rfl (congrArg Value.bool (congrArg (! ·) b6)) ?_
      refine s_cons (op_pick_t (.bool true) (congrArg Value.bool (congrArg (! ·) b6)) rfl ?_)
      refine s_cons0 (op_store1 hst 2 rfl Try.sizeOf4 rfl rfl rfl (show 0 < 1 from by decide) (fun w12 hst => ?_))
      replace hst : St w0 w12 (.blk g_pb 23 #[v_b] :: .blk g_pa 3 #[(.int .i64 at_)] :: .blk g_pd 4 #[(.bool true)] :: L) := hst
      refine s_nil ?_
      refine then_n ?_
      refine cE_seq ?_
      refine cE_region rfl ?_
      refine s_cons (op_move (.int .i64 ((get b at_).2.1)) rfl ?_)
      refine s_cons0 (op_store1 hst 1 rfl Try.sizeOf3 rfl rfl rfl (show 0 < 1 from by decide) (fun w13 hst => ?_))
      replace hst : St w0 w13 (.blk g_pb 23 #[v_b] :: .blk g_pa 3 #[(.int .i64 ((get b at_).2.1))] :: .blk g_pd 4 #[(.bool true)] :: L) := hst
      refine s_nil ?_
      refine then_n ?_
      refine cE_seq ?_
      refine cE_region rfl ?_
      refine s_cons (op_move (.int .u64 ((get b at_).1)) rfl ?_)
      refine s_cons (op_min2 (k := .u64) (a := (get b at_).1) (b := 1099511627776) rfl rfl ?_)
      refine s_cons (op_conv (k := .u64) (a := (min ((get b at_).1) 1099511627776)) (min ((get b at_).1) 1099511627776) Try.underlying2 (by rw [Try.underlying41]; rfl) rfl (xi64 (by omega) (by omega)) ?_)
      refine s_cons (op_assign (.int .i64 (min ((get b at_).1) 1099511627776)) rfl ?_)
      refine s_nil ?_
      refine then_n ?_
      refine cE_ret ?_
      refine post_r _ (res1 (v := (.int .i64 (min ((get b at_).1) 1099511627776))) rfl) ?_
      have e14 : ((.bool true) : Value) = (.bool (nbad bad b at_)) := (congrArg Value.bool (show true = (nbad bad b at_) from by first | rfl | (unfold nbad; simp [b2, b6])))
      replace hst : St w0 w13 (.blk g_pb 23 #[v_b] :: .blk g_pa 3 #[(.int .i64 ((get b at_).2.1))] :: .blk g_pd 4 #[(.bool (nbad bad b at_))] :: L) := by rw [e14] at hst; exact hst
      exact ⟨(retv1 (congrArg (Value.int .i64) (show (min ((get b at_).1) 1099511627776) = (min (get b at_).1 1099511627776) from by first | rfl | (unfold nbad; simp [b2, b6])))), hst.sub (.cons_cons _ (.cons_cons _ (.cons_cons _ (List.Sublist.refl _))))⟩

end Go.Proofs.Ytfljkaigfmedeaa
