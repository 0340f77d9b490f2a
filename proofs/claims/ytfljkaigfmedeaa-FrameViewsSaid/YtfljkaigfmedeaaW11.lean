/- frames: frame.Same -/
import Derived.Test.YtfljkaigfmedeaaW1
import Derived.Test.YtfljkaigfmedeaaW2
import Derived.Test.YtfljkaigfmedeaaW3
import Derived.Test.YtfljkaigfmedeaaFC
import Derived.Test.YtfljkaigfmedeaaW10
namespace Go.Proofs.Ytfljkaigfmedeaa
open Go.RowKit

theorem c_fSame (w0 : World) (f : Frame) (v_f_Body : Value) (h_f_Body : Sl w0 u8E v_f_Body f.Body) (g : Frame) (v_g_Body : Value) (h_g_Body : Sl w0 u8E v_g_Body g.Body) :
    Calls Try.prog 11 #[(.agg #[(.int .i64 f.Kind), (.int .i64 f.View), (.int .i64 f.Site), (.int .i64 f.Seq), v_f_Body]), (.agg #[(.int .i64 g.Kind), (.int .i64 g.View), (.int .i64 g.Site), (.int .i64 g.Seq), v_g_Body])] w0 fun e w' => e = .returned (.bool (decide (f = g))) ∧ St w0 w' [] := by
  refine calls_E (n := 38) (ts := [4]) Try.func11 rfl rfl rfl (by simp) ?_
  have hst := St.start w0
  refine cE_seq ?_
  refine cE_region rfl ?_
  refine s_cons (op_box (v := (.agg #[(.int .i64 f.Kind), (.int .i64 f.View), (.int .i64 f.Site), (.int .i64 f.Seq), v_f_Body])) (cs := #[(.int .i64 f.Kind), (.int .i64 f.View), (.int .i64 f.Site), (.int .i64 f.Seq), v_f_Body]) hst rfl rfl (fun g1 w2 hst _ => ?_))
  replace hst : St w0 w2 [.blk g1 25 #[(.int .i64 f.Kind), (.int .i64 f.View), (.int .i64 f.Site), (.int .i64 f.Seq), v_f_Body]] := hst
  refine s_cons (op_box (v := (.agg #[(.int .i64 g.Kind), (.int .i64 g.View), (.int .i64 g.Site), (.int .i64 g.Seq), v_g_Body])) (cs := #[(.int .i64 g.Kind), (.int .i64 g.View), (.int .i64 g.Site), (.int .i64 g.Seq), v_g_Body]) hst rfl rfl (fun g3 w4 hst _ => ?_))
  replace hst : St w0 w4 [.blk g3 25 #[(.int .i64 g.Kind), (.int .i64 g.View), (.int .i64 g.Site), (.int .i64 g.Seq), v_g_Body], .blk g1 25 #[(.int .i64 f.Kind), (.int .i64 f.View), (.int .i64 f.Site), (.int .i64 f.Seq), v_f_Body]] := hst
  refine s_cons (op_assign (.bool false) rfl ?_)
  refine s_nil ?_
  refine then_n ?_
  refine cE_seq ?_
  refine cE_region rfl ?_
  refine s_cons (op_fieldAddr (s := 0) Try.underlying25 rfl rfl Try.sizeOf3 rfl ?_)
  refine s_cons (op_load1 (u := (.int .i64 f.Kind)) Try.isAgg3 rfl (hst.cell 1 rfl) ?_)
  refine s_cons (op_fieldAddr (s := 0) Try.underlying25 rfl rfl Try.sizeOf3 rfl ?_)
  refine s_cons (op_load1 (u := (.int .i64 g.Kind)) Try.isAgg3 rfl (hst.cell 0 rfl) ?_)
  refine s_cons (op_eql (k := .i64) (a := f.Kind) (b := g.Kind) rfl rfl ?_)
  refine s_cons (op_move (.bool (decide (f.Kind = g.Kind))) rfl ?_)
  rcases Bool.eq_false_or_eq_true (decide (f.Kind = g.Kind)) with b5 | b5
  · have c6 : f.Kind = g.Kind := of_decide_eq_true b5
    refine s_yes 10 rfl (congrArg Value.bool b5) (op_fieldAddr (s := 0) Try.underlying25 rfl rfl Try.sizeOf3 rfl ?_)
    refine s_yes 10 rfl (congrArg Value.bool b5) (op_load1 (u := (.int .i64 f.View)) Try.isAgg3 rfl ((hst.cell 1 rfl).drop 1) ?_)
    refine s_yes 10 rfl (congrArg Value.bool b5) (op_fieldAddr (s := 0) Try.underlying25 rfl rfl Try.sizeOf3 rfl ?_)
    refine s_yes 10 rfl (congrArg Value.bool b5) (op_load1 (u := (.int .i64 g.View)) Try.isAgg3 rfl ((hst.cell 0 rfl).drop 1) ?_)
    refine s_yes 10 rfl (congrArg Value.bool b5) (op_eql (k := .i64) (a := f.View) (b := g.View) rfl rfl ?_)
    refine s_cons (op_pick_t (.bool (decide (f.View = g.View))) (congrArg Value.bool b5) rfl ?_)
    refine s_cons (op_move (.bool (decide (f.View = g.View))) rfl ?_)
    rcases Bool.eq_false_or_eq_true (decide (f.View = g.View)) with b7 | b7
    · have c8 : f.View = g.View := of_decide_eq_true b7
      refine s_yes 17 rfl (congrArg Value.bool b7) (op_fieldAddr (s := 0) Try.underlying25 rfl rfl Try.sizeOf3 rfl ?_)
      refine s_yes 17 rfl (congrArg Value.bool b7) (op_load1 (u := (.int .i64 f.Site)) Try.isAgg3 rfl ((hst.cell 1 rfl).drop 2) ?_)
      refine s_yes 17 rfl (congrArg Value.bool b7) (op_fieldAddr (s := 0) Try.underlying25 rfl rfl Try.sizeOf3 rfl ?_)
      refine s_yes 17 rfl (congrArg Value.bool b7) (op_load1 (u := (.int .i64 g.Site)) Try.isAgg3 rfl ((hst.cell 0 rfl).drop 2) ?_)
      refine s_yes 17 rfl (congrArg Value.bool b7) (op_eql (k := .i64) (a := f.Site) (b := g.Site) rfl rfl ?_)
      refine s_cons (op_pick_t (.bool (decide (f.Site = g.Site))) (congrArg Value.bool b7) rfl ?_)
      refine s_cons (op_move (.bool (decide (f.Site = g.Site))) rfl ?_)
      rcases Bool.eq_false_or_eq_true (decide (f.Site = g.Site)) with b9 | b9
      · have c10 : f.Site = g.Site := of_decide_eq_true b9
        refine s_yes 24 rfl (congrArg Value.bool b9) (op_fieldAddr (s := 0) Try.underlying25 rfl rfl Try.sizeOf2 rfl ?_)
        refine s_yes 24 rfl (congrArg Value.bool b9) (op_load1 (u := (.int .i64 f.Seq)) Try.isAgg2 rfl ((hst.cell 1 rfl).drop 3) ?_)
        refine s_yes 24 rfl (congrArg Value.bool b9) (op_fieldAddr (s := 0) Try.underlying25 rfl rfl Try.sizeOf2 rfl ?_)
        refine s_yes 24 rfl (congrArg Value.bool b9) (op_load1 (u := (.int .i64 g.Seq)) Try.isAgg2 rfl ((hst.cell 0 rfl).drop 3) ?_)
        refine s_yes 24 rfl (congrArg Value.bool b9) (op_eql (k := .i64) (a := f.Seq) (b := g.Seq) rfl rfl ?_)
        refine s_cons (op_pick_t (.bool (decide (f.Seq = g.Seq))) (congrArg Value.bool b9) rfl ?_)
        refine s_cons (op_move (.bool (decide (f.Seq = g.Seq))) rfl ?_)
        rcases Bool.eq_false_or_eq_true (decide (f.Seq = g.Seq)) with b11 | b11
        · have c12 : f.Seq = g.Seq := of_decide_eq_true b11
          refine s_yes 31 rfl (congrArg Value.bool b11) (op_fieldAddr (s := 0) Try.underlying25 rfl rfl Try.sizeOf23 rfl ?_)
          refine s_yes 31 rfl (congrArg Value.bool b11) (op_load1 (u := v_f_Body) Try.isAgg23 rfl ((hst.cell 1 rfl).drop 4) ?_)
          refine s_yes 31 rfl (congrArg Value.bool b11) (op_fieldAddr (s := 0) Try.underlying25 rfl rfl Try.sizeOf23 rfl ?_)
          refine s_yes 31 rfl (congrArg Value.bool b11) (op_load1 (u := v_g_Body) Try.isAgg23 rfl ((hst.cell 0 rfl).drop 4) ?_)
          refine s_yes 31 rfl (congrArg Value.bool b11) (op_call Try.call22 (evs_cons (v := v_f_Body) rfl (evs_cons (v := v_g_Body) rfl evs_nil)) (c_bEqual (w0 := w4) (v_a := v_f_Body) (a := f.Body) (h_a := (h_f_Body.below hst.below)) (v_b := v_g_Body) (b := g.Body) (h_b := (h_g_Body.below hst.below))) ?_)
          rintro _ w13 ⟨rfl, hcall⟩
          refine ⟨_, rfl, ?_⟩
          have hst : St w0 w13 [.blk g3 25 #[(.int .i64 g.Kind), (.int .i64 g.View), (.int .i64 g.Site), (.int .i64 g.Seq), v_g_Body], .blk g1 25 #[(.int .i64 f.Kind), (.int .i64 f.View), (.int .i64 f.Site), (.int .i64 f.Seq), v_f_Body]] := hst.call hcall
          refine s_cons (op_pick_t (.bool (decide (f.Body = g.Body))) (congrArg Value.bool b11) rfl ?_)
          refine s_cons (op_assign (.bool (decide (f.Body = g.Body))) rfl ?_)
          refine s_nil ?_
          refine then_n ?_
          refine cE_ret ?_
          refine post_r _ (res1 (v := (.bool (decide (f.Body = g.Body)))) rfl) ?_
          exact ⟨(retv1 (congrArg Value.bool (show (decide (f.Body = g.Body)) = (decide (f = g)) from by first | exact (decide_eq_false (fun e => by rw [frame_iff] at e; omega)).symm | exact frame_dec (by assumption) (by assumption) (by assumption) (by assumption)))), hst.bare⟩
        · have c14 : ¬ (f.Seq = g.Seq) := of_decide_eq_false b11
          refine s_no 31 rfl (congrArg Value.bool b11) ?_
          refine s_no 31 rfl (congrArg Value.bool b11) ?_
          refine s_no 31 rfl (congrArg Value.bool b11) ?_
          refine s_no 31 rfl (congrArg Value.bool b11) ?_
          refine s_no 31 rfl (congrArg Value.bool b11) ?_
          refine s_cons (op_pick_f (.bool false) (congrArg Value.bool b11) rfl ?_)
          refine s_cons (op_assign (.bool false) rfl ?_)
          refine s_nil ?_
          refine then_n ?_
          refine cE_ret ?_
          refine post_r _ (res1 (v := (.bool false)) rfl) ?_
          exact ⟨(retv1 (congrArg Value.bool (show false = (decide (f = g)) from by first | exact (decide_eq_false (fun e => by rw [frame_iff] at e; omega)).symm | exact frame_dec (by assumption) (by assumption) (by assumption) (by assumption)))), hst.bare⟩
      · have c15 : ¬ (f.Site = g.Site) := of_decide_eq_false b9
        refine s_no 24 rfl (congrArg Value.bool b9) ?_
        refine s_no 24 rfl (congrArg Value.bool b9) ?_
        refine s_no 24 rfl (congrArg Value.bool b9) ?_
        refine s_no 24 rfl (congrArg Value.bool b9) ?_
        refine s_no 24 rfl (congrArg Value.bool b9) ?_
        refine s_cons (op_pick_f (.bool false) (congrArg Value.bool b9) rfl ?_)
        refine s_cons (op_move (.bool false) rfl ?_)
        refine s_no 31 rfl rfl ?_
        refine s_no 31 rfl rfl ?_
        refine s_no 31 rfl rfl ?_
        refine s_no 31 rfl rfl ?_
        refine s_no 31 rfl rfl ?_
        refine s_cons (op_pick_f (.bool false) rfl rfl ?_)
        refine s_cons (op_assign (.bool false) rfl ?_)
        refine s_nil ?_
        refine then_n ?_
        refine cE_ret ?_
        refine post_r _ (res1 (v := (.bool false)) rfl) ?_
        exact ⟨(retv1 (congrArg Value.bool (show false = (decide (f = g)) from by first | exact (decide_eq_false (fun e => by rw [frame_iff] at e; omega)).symm | exact frame_dec (by assumption) (by assumption) (by assumption) (by assumption)))), hst.bare⟩
    · have c16 : ¬ (f.View = g.View) := of_decide_eq_false b7
      refine s_no 17 rfl (congrArg Value.bool b7) ?_
      refine s_no 17 rfl (congrArg Value.bool b7) ?_
      refine s_no 17 rfl (congrArg Value.bool b7) ?_
      refine s_no 17 rfl (congrArg Value.bool b7) ?_
      refine s_no 17 rfl (congrArg Value.bool b7) ?_
      refine s_cons (op_pick_f (.bool false) (congrArg Value.bool b7) rfl ?_)
      refine s_cons (op_move (.bool false) rfl ?_)
      refine s_no 24 rfl rfl ?_
      refine s_no 24 rfl rfl ?_
      refine s_no 24 rfl rfl ?_
      refine s_no 24 rfl rfl ?_
      refine s_no 24 rfl rfl ?_
      refine s_cons (op_pick_f (.bool false) rfl rfl ?_)
      refine s_cons (op_move (.bool false) rfl ?_)
      refine s_no 31 rfl rfl ?_
      refine s_no 31 rfl rfl ?_
      refine s_no 31 rfl rfl ?_
      refine s_no 31 rfl rfl ?_
      refine s_no 31 rfl rfl ?_
      refine s_cons (op_pick_f (.bool false) rfl rfl ?_)
      refine s_cons (op_assign (.bool false) rfl ?_)
      refine s_nil ?_
      refine then_n ?_
      refine cE_ret ?_
      refine post_r _ (res1 (v := (.bool false)) rfl) ?_
      exact ⟨(retv1 (congrArg Value.bool (show false = (decide (f = g)) from by first | exact (decide_eq_false (fun e => by rw [frame_iff] at e; omega)).symm | exact frame_dec (by assumption) (by assumption) (by assumption) (by assumption)))), hst.bare⟩
  · have c17 : ¬ (f.Kind = g.Kind) := of_decide_eq_false b5
    refine s_no 10 rfl (congrArg Value.bool b5) ?_
    refine s_no 10 rfl (congrArg Value.bool b5) ?_
    refine s_no 10 rfl (congrArg Value.bool b5) ?_
    refine s_no 10 rfl (congrArg Value.bool b5) ?_
    refine s_no 10 rfl (congrArg Value.bool b5) ?_
    refine s_cons (op_pick_f (.bool false) (congrArg Value.bool b5) rfl ?_)
    refine s_cons (op_move (.bool false) rfl ?_)
    refine s_no 17 rfl rfl ?_
    refine s_no 17 rfl rfl ?_
    refine s_no 17 rfl rfl ?_
    refine s_no 17 rfl rfl ?_
    refine s_no 17 rfl rfl ?_
    refine s_cons (op_pick_f (.bool false) rfl rfl ?_)
    refine s_cons (op_move (.bool false) rfl ?_)
    refine s_no 24 rfl rfl ?_
    refine s_no 24 rfl rfl ?_
    refine s_no 24 rfl rfl ?_
    refine s_no 24 rfl rfl ?_
    refine s_no 24 rfl rfl ?_
    refine s_cons (op_pick_f (.bool false) rfl rfl ?_)
    refine s_cons (op_move (.bool false) rfl ?_)
    refine s_no 31 rfl rfl ?_
    refine s_no 31 rfl rfl ?_
    refine s_no 31 rfl rfl ?_
    refine s_no 31 rfl rfl ?_
    refine s_no 31 rfl rfl ?_
    refine s_cons (op_pick_f (.bool false) rfl rfl ?_)
    refine s_cons (op_assign (.bool false) rfl ?_)
    refine s_nil ?_
    refine then_n ?_
    refine cE_ret ?_
    refine post_r _ (res1 (v := (.bool false)) rfl) ?_
    exact ⟨(retv1 (congrArg Value.bool (show false = (decide (f = g)) from by first | exact (decide_eq_false (fun e => by rw [frame_iff] at e; omega)).symm | exact frame_dec (by assumption) (by assumption) (by assumption) (by assumption)))), hst.bare⟩

end Go.Proofs.Ytfljkaigfmedeaa
