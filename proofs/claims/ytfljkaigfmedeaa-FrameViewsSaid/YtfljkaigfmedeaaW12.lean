/- frames: twinkeepref13.May -/
import Derived.Test.YtfljkaigfmedeaaW1
import Derived.Test.YtfljkaigfmedeaaW2
import Derived.Test.YtfljkaigfmedeaaW3
import Derived.Test.YtfljkaigfmedeaaFC
import Derived.Test.YtfljkaigfmedeaaW10
import Derived.Test.YtfljkaigfmedeaaW11
namespace Go.Proofs.Ytfljkaigfmedeaa
open Go.RowKit

theorem c_rfMay (w0 : World) (f : Frame) (v_f_Body : Value) (h_f_Body : Sl w0 u8E v_f_Body f.Body) :
    Calls Try.prog 16 #[(.agg #[(.int .i64 f.Kind), (.int .i64 f.View), (.int .i64 f.Site), (.int .i64 f.Seq), v_f_Body])] w0 fun e w' => e = .returned (.bool (mayF f)) ∧ St w0 w' [] := by
  refine calls_E (n := 77) (ts := [2]) Try.func16 rfl rfl rfl (by simp) ?_
  have hst := St.start w0
  refine cE_seq ?_
  refine cE_region rfl ?_
  refine s_cons (op_box (v := (.agg #[(.int .i64 f.Kind), (.int .i64 f.View), (.int .i64 f.Site), (.int .i64 f.Seq), v_f_Body])) (cs := #[(.int .i64 f.Kind), (.int .i64 f.View), (.int .i64 f.Site), (.int .i64 f.Seq), v_f_Body]) hst rfl rfl (fun g1 w2 hst _ => ?_))
  replace hst : St w0 w2 [.blk g1 25 #[(.int .i64 f.Kind), (.int .i64 f.View), (.int .i64 f.Site), (.int .i64 f.Seq), v_f_Body]] := hst
  refine s_cons (op_assign (.bool false) rfl ?_)
  refine s_nil ?_
  refine then_n ?_
  refine cE_seq ?_
  refine cE_seq ?_
  refine cE_region rfl ?_
  refine s_cons (op_fieldAddr (s := 0) Try.underlying25 rfl rfl Try.sizeOf3 rfl ?_)
  refine s_cons (op_load1 (u := (.int .i64 f.View)) Try.isAgg3 rfl ((hst.cell 0 rfl).drop 1) ?_)
  refine s_cons (op_lss (k := .i64) (a := f.View) (b := 0) rfl rfl ?_)
  refine s_cons (op_move (.bool (decide (f.View < 0))) rfl ?_)
  rcases Bool.eq_false_or_eq_true (decide (f.View < 0)) with b3 | b3
  · have c4 : f.View < 0 := of_decide_eq_true b3
    refine s_no 6 rfl (congrArg Value.bool b3) ?_
    refine s_no 6 rfl (congrArg Value.bool b3) ?_
    refine s_no 6 rfl (congrArg Value.bool b3) ?_
    refine s_cons (op_pick_t (.bool true) (congrArg Value.bool b3) rfl ?_)
    refine s_nil ?_
    refine then_n ?_
    refine cE_cond true rfl (fun _ => ?_) (fun h => by cases h)
    refine cE_seq ?_
    refine cE_region rfl ?_
    refine s_cons (op_assign (.bool false) rfl ?_)
    refine s_nil ?_
    refine then_n ?_
    refine cE_ret ?_
    refine then_r ?_
    refine post_r _ (res1 (v := (.bool false)) rfl) ?_
    exact ⟨(retv1 (congrArg Value.bool (show false = (mayF f) from by first | exact mayF_yes (by unfold mayFP; omega) | exact mayF_no (by unfold mayFP; omega) | (rw [Bool.eq_iff_iff, mayF_iff, decide_eq_true_eq]; unfold mayFP; omega)))), hst.bare⟩
  · have c5 : ¬ (f.View < 0) := of_decide_eq_false b3
    refine s_yes 6 rfl (congrArg Value.bool b3) (op_fieldAddr (s := 0) Try.underlying25 rfl rfl Try.sizeOf3 rfl ?_)
    refine s_yes 6 rfl (congrArg Value.bool b3) (op_load1 (u := (.int .i64 f.View)) Try.isAgg3 rfl ((hst.cell 0 rfl).drop 1) ?_)
    refine s_yes 6 rfl (congrArg Value.bool b3) (op_gtr (k := .i64) (a := f.View) (b := 1073741824) rfl rfl ?_)
    refine s_cons (op_pick_f (.bool (decide (1073741824 < f.View))) (congrArg Value.bool b3) rfl ?_)
    refine s_nil ?_
    refine then_n ?_
    rcases Bool.eq_false_or_eq_true (decide (1073741824 < f.View)) with b6 | b6
    · have c7 : 1073741824 < f.View := of_decide_eq_true b6
      refine cE_cond true (congrArg Value.bool b6) (fun _ => ?_) (fun h => by cases h)
      refine cE_seq ?_
      refine cE_region rfl ?_
      refine s_cons (op_assign (.bool false) rfl ?_)
      refine s_nil ?_
      refine then_n ?_
      refine cE_ret ?_
      refine then_r ?_
      refine post_r _ (res1 (v := (.bool false)) rfl) ?_
      exact ⟨(retv1 (congrArg Value.bool (show false = (mayF f) from by first | exact mayF_yes (by unfold mayFP; omega) | exact mayF_no (by unfold mayFP; omega) | (rw [Bool.eq_iff_iff, mayF_iff, decide_eq_true_eq]; unfold mayFP; omega)))), hst.bare⟩
    · have c8 : ¬ (1073741824 < f.View) := of_decide_eq_false b6
      refine cE_cond false (congrArg Value.bool b6) (fun h => by cases h) (fun _ => ?_)
      refine cE_skip ?_
      refine then_n ?_
      refine cE_seq ?_
      refine cE_seq ?_
      refine cE_region rfl ?_
      refine s_cons (op_fieldAddr (s := 0) Try.underlying25 rfl rfl Try.sizeOf3 rfl ?_)
      refine s_cons (op_load1 (u := (.int .i64 f.Kind)) Try.isAgg3 rfl (hst.cell 0 rfl) ?_)
      refine s_nil ?_
      refine then_n ?_
      refine cE_block ?_
      refine cE_seq ?_
      refine cE_region rfl ?_
      refine s_cons (op_eql (k := .i64) (a := f.Kind) (b := 1) rfl rfl ?_)
      refine s_cons (op_assign (.bool (decide (f.Kind = 1))) rfl ?_)
      refine s_nil ?_
      refine then_n ?_
      rcases Bool.eq_false_or_eq_true (decide (f.Kind = 1)) with b9 | b9
      · have c10 : f.Kind = 1 := of_decide_eq_true b9
        refine cE_cond true (congrArg Value.bool b9) (fun _ => ?_) (fun h => by cases h)
        refine cE_seq ?_
        refine cE_region rfl ?_
        refine s_cons (op_fieldAddr (s := 0) Try.underlying25 rfl rfl Try.sizeOf3 rfl ?_)
        refine s_cons (op_load1 (u := (.int .i64 f.Site)) Try.isAgg3 rfl ((hst.cell 0 rfl).drop 2) ?_)
        refine s_cons (op_eql (k := .i64) (a := f.Site) (b := 0) rfl rfl ?_)
        refine s_cons (op_move (.bool (decide (f.Site = 0))) rfl ?_)
        rcases Bool.eq_false_or_eq_true (decide (f.Site = 0)) with b11 | b11
        · have c12 : f.Site = 0 := of_decide_eq_true b11
          refine s_yes 18 rfl (congrArg Value.bool b11) (op_fieldAddr (s := 0) Try.underlying25 rfl rfl Try.sizeOf2 rfl ?_)
          refine s_yes 18 rfl (congrArg Value.bool b11) (op_load1 (u := (.int .i64 f.Seq)) Try.isAgg2 rfl ((hst.cell 0 rfl).drop 3) ?_)
          refine s_yes 18 rfl (congrArg Value.bool b11) (op_geq (k := .i64) (a := f.Seq) (b := 1) rfl rfl ?_)
          refine s_cons (op_pick_t (.bool (decide (1 ≤ f.Seq))) (congrArg Value.bool b11) rfl ?_)
          refine s_cons (op_move (.bool (decide (1 ≤ f.Seq))) rfl ?_)
          rcases Bool.eq_false_or_eq_true (decide (1 ≤ f.Seq)) with b13 | b13
          · have c14 : 1 ≤ f.Seq := of_decide_eq_true b13
            refine s_yes 23 rfl (congrArg Value.bool b13) (op_fieldAddr (s := 0) Try.underlying25 rfl rfl Try.sizeOf2 rfl ?_)
            refine s_yes 23 rfl (congrArg Value.bool b13) (op_load1 (u := (.int .i64 f.Seq)) Try.isAgg2 rfl ((hst.cell 0 rfl).drop 3) ?_)
            refine s_yes 23 rfl (congrArg Value.bool b13) (op_leq (k := .i64) (a := f.Seq) (b := 1099511627776) rfl rfl ?_)
            refine s_cons (op_pick_t (.bool (decide (f.Seq ≤ 1099511627776))) (congrArg Value.bool b13) rfl ?_)
            refine s_cons (op_move (.bool (decide (f.Seq ≤ 1099511627776))) rfl ?_)
            rcases Bool.eq_false_or_eq_true (decide (f.Seq ≤ 1099511627776)) with b15 | b15
            · have c16 : f.Seq ≤ 1099511627776 := of_decide_eq_true b15
              refine s_yes 28 rfl (congrArg Value.bool b15) (op_fieldAddr (s := 0) Try.underlying25 rfl rfl Try.sizeOf23 rfl ?_)
              refine s_yes 28 rfl (congrArg Value.bool b15) (op_load1 (u := v_f_Body) Try.isAgg23 rfl ((hst.cell 0 rfl).drop 4) ?_)
              refine s_yes 28 rfl (congrArg Value.bool b15) (op_len (E := u8E) (xs := f.Body) Try.underlying23 rfl h_f_Body ?_)
              refine s_yes 28 rfl (congrArg Value.bool b15) (op_leq (k := .i64) (a := (f.Body.length : Int)) (b := 4100) rfl rfl ?_)
              refine s_cons (op_pick_t (.bool (decide ((f.Body.length : Int) ≤ 4100))) (congrArg Value.bool b15) rfl ?_)
              refine s_cons (op_assign (.bool (decide ((f.Body.length : Int) ≤ 4100))) rfl ?_)
              refine s_nil ?_
              refine then_n ?_
              refine cE_ret ?_
              refine block_r (then_r ?_)
              refine post_r _ (res1 (v := (.bool (decide ((f.Body.length : Int) ≤ 4100)))) rfl) ?_
              exact ⟨(retv1 (congrArg Value.bool (show (decide ((f.Body.length : Int) ≤ 4100)) = (mayF f) from by first | exact mayF_yes (by unfold mayFP; omega) | exact mayF_no (by unfold mayFP; omega) | (rw [Bool.eq_iff_iff, mayF_iff, decide_eq_true_eq]; unfold mayFP; omega)))), hst.bare⟩
            · have c17 : ¬ (f.Seq ≤ 1099511627776) := of_decide_eq_false b15
              refine s_no 28 rfl (congrArg Value.bool b15) ?_
              refine s_no 28 rfl (congrArg Value.bool b15) ?_
              refine s_no 28 rfl (congrArg Value.bool b15) ?_
              refine s_no 28 rfl (congrArg Value.bool b15) ?_
              refine s_cons (op_pick_f (.bool false) (congrArg Value.bool b15) rfl ?_)
              refine s_cons (op_assign (.bool false) rfl ?_)
              refine s_nil ?_
              refine then_n ?_
              refine cE_ret ?_
              refine block_r (then_r ?_)
              refine post_r _ (res1 (v := (.bool false)) rfl) ?_
              exact ⟨(retv1 (congrArg Value.bool (show false = (mayF f) from by first | exact mayF_yes (by unfold mayFP; omega) | exact mayF_no (by unfold mayFP; omega) | (rw [Bool.eq_iff_iff, mayF_iff, decide_eq_true_eq]; unfold mayFP; omega)))), hst.bare⟩
          · have c18 : ¬ (1 ≤ f.Seq) := of_decide_eq_false b13
            refine s_no 23 rfl (congrArg Value.bool b13) ?_
            refine s_no 23 rfl (congrArg Value.bool b13) ?_
            refine s_no 23 rfl (congrArg Value.bool b13) ?_
            refine s_cons (op_pick_f (.bool false) (congrArg Value.bool b13) rfl ?_)
            refine s_cons (op_move (.bool false) rfl ?_)
            refine s_no 28 rfl rfl ?_
            refine s_no 28 rfl rfl ?_
            refine s_no 28 rfl rfl ?_
            refine s_no 28 rfl rfl ?_
            refine s_cons (op_pick_f (.bool false) rfl rfl ?_)
            refine s_cons (op_assign (.bool false) rfl ?_)
            refine s_nil ?_
            refine then_n ?_
            refine cE_ret ?_
            refine block_r (then_r ?_)
            refine post_r _ (res1 (v := (.bool false)) rfl) ?_
            exact ⟨(retv1 (congrArg Value.bool (show false = (mayF f) from by first | exact mayF_yes (by unfold mayFP; omega) | exact mayF_no (by unfold mayFP; omega) | (rw [Bool.eq_iff_iff, mayF_iff, decide_eq_true_eq]; unfold mayFP; omega)))), hst.bare⟩
        · have c19 : ¬ (f.Site = 0) := of_decide_eq_false b11
          refine s_no 18 rfl (congrArg Value.bool b11) ?_
          refine s_no 18 rfl (congrArg Value.bool b11) ?_
          refine s_no 18 rfl (congrArg Value.bool b11) ?_
          refine s_cons (op_pick_f (.bool false) (congrArg Value.bool b11) rfl ?_)
          refine s_cons (op_move (.bool false) rfl ?_)
          refine s_no 23 rfl rfl ?_
          refine s_no 23 rfl rfl ?_
          refine s_no 23 rfl rfl ?_
          refine s_cons (op_pick_f (.bool false) rfl rfl ?_)
          refine s_cons (op_move (.bool false) rfl ?_)
          refine s_no 28 rfl rfl ?_
          refine s_no 28 rfl rfl ?_
          refine s_no 28 rfl rfl ?_
          refine s_no 28 rfl rfl ?_
          refine s_cons (op_pick_f (.bool false) rfl rfl ?_)
          refine s_cons (op_assign (.bool false) rfl ?_)
          refine s_nil ?_
          refine then_n ?_
          refine cE_ret ?_
          refine block_r (then_r ?_)
          refine post_r _ (res1 (v := (.bool false)) rfl) ?_
          exact ⟨(retv1 (congrArg Value.bool (show false = (mayF f) from by first | exact mayF_yes (by unfold mayFP; omega) | exact mayF_no (by unfold mayFP; omega) | (rw [Bool.eq_iff_iff, mayF_iff, decide_eq_true_eq]; unfold mayFP; omega)))), hst.bare⟩
      · have c20 : ¬ (f.Kind = 1) := of_decide_eq_false b9
        refine cE_cond false (congrArg Value.bool b9) (fun h => by cases h) (fun _ => ?_)
        refine cE_seq ?_
        refine cE_region rfl ?_
        refine s_cons (op_eql (k := .i64) (a := f.Kind) (b := 2) rfl rfl ?_)
        refine s_cons (op_assign (.bool (decide (f.Kind = 2))) rfl ?_)
        refine s_nil ?_
        refine then_n ?_
        rcases Bool.eq_false_or_eq_true (decide (f.Kind = 2)) with b21 | b21
        · have c22 : f.Kind = 2 := of_decide_eq_true b21
          refine cE_cond true (congrArg Value.bool b21) (fun _ => ?_) (fun h => by cases h)
          refine cE_seq ?_
          refine cE_region rfl ?_
          refine s_cons (op_fieldAddr (s := 0) Try.underlying25 rfl rfl Try.sizeOf3 rfl ?_)
          refine s_cons (op_load1 (u := (.int .i64 f.Site)) Try.isAgg3 rfl ((hst.cell 0 rfl).drop 2) ?_)
          refine s_cons (op_eql (k := .i64) (a := f.Site) (b := 0) rfl rfl ?_)
          refine s_cons (op_move (.bool (decide (f.Site = 0))) rfl ?_)
          rcases Bool.eq_false_or_eq_true (decide (f.Site = 0)) with b23 | b23
          · have c24 : f.Site = 0 := of_decide_eq_true b23
            refine s_yes 39 rfl (congrArg Value.bool b23) (op_fieldAddr (s := 0) Try.underlying25 rfl rfl Try.sizeOf2 rfl ?_)
            refine s_yes 39 rfl (congrArg Value.bool b23) (op_load1 (u := (.int .i64 f.Seq)) Try.isAgg2 rfl ((hst.cell 0 rfl).drop 3) ?_)
            refine s_yes 39 rfl (congrArg Value.bool b23) (op_geq (k := .i64) (a := f.Seq) (b := 0) rfl rfl ?_)
            refine s_cons (op_pick_t (.bool (decide (0 ≤ f.Seq))) (congrArg Value.bool b23) rfl ?_)
            refine s_cons (op_move (.bool (decide (0 ≤ f.Seq))) rfl ?_)
            rcases Bool.eq_false_or_eq_true (decide (0 ≤ f.Seq)) with b25 | b25
            · have c26 : 0 ≤ f.Seq := of_decide_eq_true b25
              refine s_yes 44 rfl (congrArg Value.bool b25) (op_fieldAddr (s := 0) Try.underlying25 rfl rfl Try.sizeOf2 rfl ?_)
              refine s_yes 44 rfl (congrArg Value.bool b25) (op_load1 (u := (.int .i64 f.Seq)) Try.isAgg2 rfl ((hst.cell 0 rfl).drop 3) ?_)
              refine s_yes 44 rfl (congrArg Value.bool b25) (op_leq (k := .i64) (a := f.Seq) (b := 1099511627776) rfl rfl ?_)
              refine s_cons (op_pick_t (.bool (decide (f.Seq ≤ 1099511627776))) (congrArg Value.bool b25) rfl ?_)
              refine s_cons (op_move (.bool (decide (f.Seq ≤ 1099511627776))) rfl ?_)
              rcases Bool.eq_false_or_eq_true (decide (f.Seq ≤ 1099511627776)) with b27 | b27
              · have c28 : f.Seq ≤ 1099511627776 := of_decide_eq_true b27
                refine s_yes 49 rfl (congrArg Value.bool b27) (op_fieldAddr (s := 0) Try.underlying25 rfl rfl Try.sizeOf23 rfl ?_)
                refine s_yes 49 rfl (congrArg Value.bool b27) (op_load1 (u := v_f_Body) Try.isAgg23 rfl ((hst.cell 0 rfl).drop 4) ?_)
                refine s_yes 49 rfl (congrArg Value.bool b27) (op_len (E := u8E) (xs := f.Body) Try.underlying23 rfl h_f_Body ?_)
                refine s_yes 49 rfl (congrArg Value.bool b27) (op_eql (k := .i64) (a := (f.Body.length : Int)) (b := 0) rfl rfl ?_)
                refine s_cons (op_pick_t (.bool (decide ((f.Body.length : Int) = 0))) (congrArg Value.bool b27) rfl ?_)
                refine s_cons (op_assign (.bool (decide ((f.Body.length : Int) = 0))) rfl ?_)
                refine s_nil ?_
                refine then_n ?_
                refine cE_ret ?_
                refine block_r (then_r ?_)
                refine post_r _ (res1 (v := (.bool (decide ((f.Body.length : Int) = 0)))) rfl) ?_
                exact ⟨(retv1 (congrArg Value.bool (show (decide ((f.Body.length : Int) = 0)) = (mayF f) from by first | exact mayF_yes (by unfold mayFP; omega) | exact mayF_no (by unfold mayFP; omega) | (rw [Bool.eq_iff_iff, mayF_iff, decide_eq_true_eq]; unfold mayFP; omega)))), hst.bare⟩
              · have c29 : ¬ (f.Seq ≤ 1099511627776) := of_decide_eq_false b27
                refine s_no 49 rfl (congrArg Value.bool b27) ?_
                refine s_no 49 rfl (congrArg Value.bool b27) ?_
                refine s_no 49 rfl (congrArg Value.bool b27) ?_
                refine s_no 49 rfl (congrArg Value.bool b27) ?_
                refine s_cons (op_pick_f (.bool false) (congrArg Value.bool b27) rfl ?_)
                refine s_cons (op_assign (.bool false) rfl ?_)
                refine s_nil ?_
                refine then_n ?_
                refine cE_ret ?_
                refine block_r (then_r ?_)
                refine post_r _ (res1 (v := (.bool false)) rfl) ?_
                exact ⟨(retv1 (congrArg Value.bool (show false = (mayF f) from by first | exact mayF_yes (by unfold mayFP; omega) | exact mayF_no (by unfold mayFP; omega) | (rw [Bool.eq_iff_iff, mayF_iff, decide_eq_true_eq]; unfold mayFP; omega)))), hst.bare⟩
            · have c30 : ¬ (0 ≤ f.Seq) := of_decide_eq_false b25
              refine s_no 44 rfl (congrArg Value.bool b25) ?_
              refine s_no 44 rfl (congrArg Value.bool b25) ?_
              refine s_no 44 rfl (congrArg Value.bool b25) ?_
              refine s_cons (op_pick_f (.bool false) (congrArg Value.bool b25) rfl ?_)
              refine s_cons (op_move (.bool false) rfl ?_)
              refine s_no 49 rfl rfl ?_
              refine s_no 49 rfl rfl ?_
              refine s_no 49 rfl rfl ?_
              refine s_no 49 rfl rfl ?_
              refine s_cons (op_pick_f (.bool false) rfl rfl ?_)
              refine s_cons (op_assign (.bool false) rfl ?_)
              refine s_nil ?_
              refine then_n ?_
              refine cE_ret ?_
              refine block_r (then_r ?_)
              refine post_r _ (res1 (v := (.bool false)) rfl) ?_
              exact ⟨(retv1 (congrArg Value.bool (show false = (mayF f) from by first | exact mayF_yes (by unfold mayFP; omega) | exact mayF_no (by unfold mayFP; omega) | (rw [Bool.eq_iff_iff, mayF_iff, decide_eq_true_eq]; unfold mayFP; omega)))), hst.bare⟩
          · have c31 : ¬ (f.Site = 0) := of_decide_eq_false b23
            refine s_no 39 rfl (congrArg Value.bool b23) ?_
            refine s_no 39 rfl (congrArg Value.bool b23) ?_
            refine s_no 39 rfl (congrArg Value.bool b23) ?_
            refine s_cons (op_pick_f (.bool false) (congrArg Value.bool b23) rfl ?_)
            refine s_cons (op_move (.bool false) rfl ?_)
            refine s_no 44 rfl rfl ?_
            refine s_no 44 rfl rfl ?_
            refine s_no 44 rfl rfl ?_
            refine s_cons (op_pick_f (.bool false) rfl rfl ?_)
            refine s_cons (op_move (.bool false) rfl ?_)
            refine s_no 49 rfl rfl ?_
            refine s_no 49 rfl rfl ?_
            refine s_no 49 rfl rfl ?_
            refine s_no 49 rfl rfl ?_
            refine s_cons (op_pick_f (.bool false) rfl rfl ?_)
            refine s_cons (op_assign (.bool false) rfl ?_)
            refine s_nil ?_
            refine then_n ?_
            refine cE_ret ?_
            refine block_r (then_r ?_)
            refine post_r _ (res1 (v := (.bool false)) rfl) ?_
            exact ⟨(retv1 (congrArg Value.bool (show false = (mayF f) from by first | exact mayF_yes (by unfold mayFP; omega) | exact mayF_no (by unfold mayFP; omega) | (rw [Bool.eq_iff_iff, mayF_iff, decide_eq_true_eq]; unfold mayFP; omega)))), hst.bare⟩
        · have c32 : ¬ (f.Kind = 2) := of_decide_eq_false b21
          refine cE_cond false (congrArg Value.bool b21) (fun h => by cases h) (fun _ => ?_)
          refine cE_seq ?_
          refine cE_seq ?_
          refine cE_region rfl ?_
          refine s_cons (op_eql (k := .i64) (a := f.Kind) (b := 3) rfl rfl ?_)
          refine s_cons (op_assign (.bool (decide (f.Kind = 3))) rfl ?_)
          refine s_nil ?_
          refine then_n ?_
          rcases Bool.eq_false_or_eq_true (decide (f.Kind = 3)) with b33 | b33
          · have c34 : f.Kind = 3 := of_decide_eq_true b33
            refine cE_cond true (congrArg Value.bool b33) (fun _ => ?_) (fun h => by cases h)
            refine cE_skip ?_
            refine then_n ?_
            refine cE_cond true (congrArg Value.bool b33) (fun _ => ?_) (fun h => by cases h)
            refine cE_seq ?_
            refine cE_region rfl ?_
            refine s_cons (op_fieldAddr (s := 0) Try.underlying25 rfl rfl Try.sizeOf3 rfl ?_)
            refine s_cons (op_load1 (u := (.int .i64 f.Site)) Try.isAgg3 rfl ((hst.cell 0 rfl).drop 2) ?_)
            refine s_cons (op_eql (k := .i64) (a := f.Site) (b := 0) rfl rfl ?_)
            refine s_cons (op_move (.bool (decide (f.Site = 0))) rfl ?_)
            rcases Bool.eq_false_or_eq_true (decide (f.Site = 0)) with b35 | b35
            · have c36 : f.Site = 0 := of_decide_eq_true b35
              refine s_no 61 rfl (congrArg Value.bool b35) ?_
              refine s_no 61 rfl (congrArg Value.bool b35) ?_
              refine s_no 61 rfl (congrArg Value.bool b35) ?_
              refine s_cons (op_pick_t (.bool true) (congrArg Value.bool b35) rfl ?_)
              refine s_cons (op_move (.bool true) rfl ?_)
              refine s_yes 66 rfl rfl (op_fieldAddr (s := 0) Try.underlying25 rfl rfl Try.sizeOf2 rfl ?_)
              refine s_yes 66 rfl rfl (op_load1 (u := (.int .i64 f.Seq)) Try.isAgg2 rfl ((hst.cell 0 rfl).drop 3) ?_)
              refine s_yes 66 rfl rfl (op_eql (k := .i64) (a := f.Seq) (b := 0) rfl rfl ?_)
              refine s_cons (op_pick_t (.bool (decide (f.Seq = 0))) rfl rfl ?_)
              refine s_cons (op_move (.bool (decide (f.Seq = 0))) rfl ?_)
              rcases Bool.eq_false_or_eq_true (decide (f.Seq = 0)) with b37 | b37
              · have c38 : f.Seq = 0 := of_decide_eq_true b37
                refine s_yes 71 rfl (congrArg Value.bool b37) (op_fieldAddr (s := 0) Try.underlying25 rfl rfl Try.sizeOf23 rfl ?_)
                refine s_yes 71 rfl (congrArg Value.bool b37) (op_load1 (u := v_f_Body) Try.isAgg23 rfl ((hst.cell 0 rfl).drop 4) ?_)
                refine s_yes 71 rfl (congrArg Value.bool b37) (op_len (E := u8E) (xs := f.Body) Try.underlying23 rfl h_f_Body ?_)
                refine s_yes 71 rfl (congrArg Value.bool b37) (op_eql (k := .i64) (a := (f.Body.length : Int)) (b := 0) rfl rfl ?_)
                refine s_cons (op_pick_t (.bool (decide ((f.Body.length : Int) = 0))) (congrArg Value.bool b37) rfl ?_)
                refine s_cons (op_assign (.bool (decide ((f.Body.length : Int) = 0))) rfl ?_)
                refine s_nil ?_
                refine then_n ?_
                refine cE_ret ?_
                refine block_r (then_r ?_)
                refine post_r _ (res1 (v := (.bool (decide ((f.Body.length : Int) = 0)))) rfl) ?_
                exact ⟨(retv1 (congrArg Value.bool (show (decide ((f.Body.length : Int) = 0)) = (mayF f) from by first | exact mayF_yes (by unfold mayFP; omega) | exact mayF_no (by unfold mayFP; omega) | (rw [Bool.eq_iff_iff, mayF_iff, decide_eq_true_eq]; unfold mayFP; omega)))), hst.bare⟩
              · have c39 : ¬ (f.Seq = 0) := of_decide_eq_false b37
                refine s_no 71 rfl (congrArg Value.bool b37) ?_
                refine s_no 71 rfl (congrArg Value.bool b37) ?_
                refine s_no 71 rfl (congrArg Value.bool b37) ?_
                refine s_no 71 rfl (congrArg Value.bool b37) ?_
                refine s_cons (op_pick_f (.bool false) (congrArg Value.bool b37) rfl ?_)
                refine s_cons (op_assign (.bool false) rfl ?_)
                refine s_nil ?_
                refine then_n ?_
                refine cE_ret ?_
                refine block_r (then_r ?_)
                refine post_r _ (res1 (v := (.bool false)) rfl) ?_
                exact ⟨(retv1 (congrArg Value.bool (show false = (mayF f) from by first | exact mayF_yes (by unfold mayFP; omega) | exact mayF_no (by unfold mayFP; omega) | (rw [Bool.eq_iff_iff, mayF_iff, decide_eq_true_eq]; unfold mayFP; omega)))), hst.bare⟩
            · have c40 : ¬ (f.Site = 0) := of_decide_eq_false b35
              refine s_yes 61 rfl (congrArg Value.bool b35) (op_fieldAddr (s := 0) Try.underlying25 rfl rfl Try.sizeOf3 rfl ?_)
              refine s_yes 61 rfl (congrArg Value.bool b35) (op_load1 (u := (.int .i64 f.Site)) Try.isAgg3 rfl ((hst.cell 0 rfl).drop 2) ?_)
              refine s_yes 61 rfl (congrArg Value.bool b35) (op_eql (k := .i64) (a := f.Site) (b := 1) rfl rfl ?_)
              refine s_cons (op_pick_f (.bool (decide (f.Site = 1))) (congrArg Value.bool b35) rfl ?_)
              refine s_cons (op_move (.bool (decide (f.Site = 1))) rfl ?_)
              rcases Bool.eq_false_or_eq_true (decide (f.Site = 1)) with b41 | b41
              · have c42 : f.Site = 1 := of_decide_eq_true b41
                refine s_yes 66 rfl (congrArg Value.bool b41) (op_fieldAddr (s := 0) Try.underlying25 rfl rfl Try.sizeOf2 rfl ?_)
                refine s_yes 66 rfl (congrArg Value.bool b41) (op_load1 (u := (.int .i64 f.Seq)) Try.isAgg2 rfl ((hst.cell 0 rfl).drop 3) ?_)
                refine s_yes 66 rfl (congrArg Value.bool b41) (op_eql (k := .i64) (a := f.Seq) (b := 0) rfl rfl ?_)
                refine s_cons (op_pick_t (.bool (decide (f.Seq = 0))) (congrArg Value.bool b41) rfl ?_)
                refine s_cons (op_move (.bool (decide (f.Seq = 0))) rfl ?_)
                rcases Bool.eq_false_or_eq_true (decide (f.Seq = 0)) with b43 | b43
                · have c44 : f.Seq = 0 := of_decide_eq_true b43
                  refine s_yes 71 rfl (congrArg Value.bool b43) (op_fieldAddr (s := 0) Try.underlying25 rfl rfl Try.sizeOf23 rfl ?_)
                  refine s_yes 71 rfl (congrArg Value.bool b43) (op_load1 (u := v_f_Body) Try.isAgg23 rfl ((hst.cell 0 rfl).drop 4) ?_)
                  refine s_yes 71 rfl (congrArg Value.bool b43) (op_len (E := u8E) (xs := f.Body) Try.underlying23 rfl h_f_Body ?_)
                  refine s_yes 71 rfl (congrArg Value.bool b43) (op_eql (k := .i64) (a := (f.Body.length : Int)) (b := 0) rfl rfl ?_)
                  refine s_cons (op_pick_t (.bool (decide ((f.Body.length : Int) = 0))) (congrArg Value.bool b43) rfl ?_)
                  refine s_cons (op_assign (.bool (decide ((f.Body.length : Int) = 0))) rfl ?_)
                  refine s_nil ?_
                  refine then_n ?_
                  refine cE_ret ?_
                  refine block_r (then_r ?_)
                  refine post_r _ (res1 (v := (.bool (decide ((f.Body.length : Int) = 0)))) rfl) ?_
                  exact ⟨(retv1 (congrArg Value.bool (show (decide ((f.Body.length : Int) = 0)) = (mayF f) from by first | exact mayF_yes (by unfold mayFP; omega) | exact mayF_no (by unfold mayFP; omega) | (rw [Bool.eq_iff_iff, mayF_iff, decide_eq_true_eq]; unfold mayFP; omega)))), hst.bare⟩
                · have c45 : ¬ (f.Seq = 0) := of_decide_eq_false b43
                  refine s_no 71 rfl (congrArg Value.bool b43) ?_
                  refine s_no 71 rfl (congrArg Value.bool b43) ?_
                  refine s_no 71 rfl (congrArg Value.bool b43) ?_
                  refine s_no 71 rfl (congrArg Value.bool b43) ?_
                  refine s_cons (op_pick_f (.bool false) (congrArg Value.bool b43) rfl ?_)
                  refine s_cons (op_assign (.bool false) rfl ?_)
                  refine s_nil ?_
                  refine then_n ?_
                  refine cE_ret ?_
                  refine block_r (then_r ?_)
                  refine post_r _ (res1 (v := (.bool false)) rfl) ?_
                  exact ⟨(retv1 (congrArg Value.bool (show false = (mayF f) from by first | exact mayF_yes (by unfold mayFP; omega) | exact mayF_no (by unfold mayFP; omega) | (rw [Bool.eq_iff_iff, mayF_iff, decide_eq_true_eq]; unfold mayFP; omega)))), hst.bare⟩
              · have c46 : ¬ (f.Site = 1) := of_decide_eq_false b41
                refine s_no 66 rfl (congrArg Value.bool b41) ?_
                refine s_no 66 rfl (congrArg Value.bool b41) ?_
                refine s_no 66 rfl (congrArg Value.bool b41) ?_
                refine s_cons (op_pick_f (.bool false) (congrArg Value.bool b41) rfl ?_)
                refine s_cons (op_move (.bool false) rfl ?_)
                refine s_no 71 rfl rfl ?_
                refine s_no 71 rfl rfl ?_
                refine s_no 71 rfl rfl ?_
                refine s_no 71 rfl rfl ?_
                refine s_cons (op_pick_f (.bool false) rfl rfl ?_)
                refine s_cons (op_assign (.bool false) rfl ?_)
                refine s_nil ?_
                refine then_n ?_
                refine cE_ret ?_
                refine block_r (then_r ?_)
                refine post_r _ (res1 (v := (.bool false)) rfl) ?_
                exact ⟨(retv1 (congrArg Value.bool (show false = (mayF f) from by first | exact mayF_yes (by unfold mayFP; omega) | exact mayF_no (by unfold mayFP; omega) | (rw [Bool.eq_iff_iff, mayF_iff, decide_eq_true_eq]; unfold mayFP; omega)))), hst.bare⟩
          · have c47 : ¬ (f.Kind = 3) := of_decide_eq_false b33
            refine cE_cond false (congrArg Value.bool b33) (fun h => by cases h) (fun _ => ?_)
            refine cE_region rfl ?_
            refine s_cons (op_eql (k := .i64) (a := f.Kind) (b := 4) rfl rfl ?_)
            refine s_cons (op_assign (.bool (decide (f.Kind = 4))) rfl ?_)
            refine s_nil ?_
            refine then_n ?_
            rcases Bool.eq_false_or_eq_true (decide (f.Kind = 4)) with b48 | b48
            · have c49 : f.Kind = 4 := of_decide_eq_true b48
              refine cE_cond true (congrArg Value.bool b48) (fun _ => ?_) (fun h => by cases h)
              refine cE_seq ?_
              refine cE_region rfl ?_
              refine s_cons (op_fieldAddr (s := 0) Try.underlying25 rfl rfl Try.sizeOf3 rfl ?_)
              refine s_cons (op_load1 (u := (.int .i64 f.Site)) Try.isAgg3 rfl ((hst.cell 0 rfl).drop 2) ?_)
              refine s_cons (op_eql (k := .i64) (a := f.Site) (b := 0) rfl rfl ?_)
              refine s_cons (op_move (.bool (decide (f.Site = 0))) rfl ?_)
              rcases Bool.eq_false_or_eq_true (decide (f.Site = 0)) with b50 | b50
              · have c51 : f.Site = 0 := of_decide_eq_true b50
                refine s_no 61 rfl (congrArg Value.bool b50) ?_
                refine s_no 61 rfl (congrArg Value.bool b50) ?_
                refine s_no 61 rfl (congrArg Value.bool b50) ?_
                refine s_cons (op_pick_t (.bool true) (congrArg Value.bool b50) rfl ?_)
                refine s_cons (op_move (.bool true) rfl ?_)
                refine s_yes 66 rfl rfl (op_fieldAddr (s := 0) Try.underlying25 rfl rfl Try.sizeOf2 rfl ?_)
                refine s_yes 66 rfl rfl (op_load1 (u := (.int .i64 f.Seq)) Try.isAgg2 rfl ((hst.cell 0 rfl).drop 3) ?_)
                refine s_yes 66 rfl rfl (op_eql (k := .i64) (a := f.Seq) (b := 0) rfl rfl ?_)
                refine s_cons (op_pick_t (.bool (decide (f.Seq = 0))) rfl rfl ?_)
                refine s_cons (op_move (.bool (decide (f.Seq = 0))) rfl ?_)
                rcases Bool.eq_false_or_eq_true (decide (f.Seq = 0)) with b52 | b52
                · have c53 : f.Seq = 0 := of_decide_eq_true b52
                  refine s_yes 71 rfl (congrArg Value.bool b52) (op_fieldAddr (s := 0) Try.underlying25 rfl rfl Try.sizeOf23 rfl ?_)
                  refine s_yes 71 rfl (congrArg Value.bool b52) (op_load1 (u := v_f_Body) Try.isAgg23 rfl ((hst.cell 0 rfl).drop 4) ?_)
                  refine s_yes 71 rfl (congrArg Value.bool b52) (op_len (E := u8E) (xs := f.Body) Try.underlying23 rfl h_f_Body ?_)
                  refine s_yes 71 rfl (congrArg Value.bool b52) (op_eql (k := .i64) (a := (f.Body.length : Int)) (b := 0) rfl rfl ?_)
                  refine s_cons (op_pick_t (.bool (decide ((f.Body.length : Int) = 0))) (congrArg Value.bool b52) rfl ?_)
                  refine s_cons (op_assign (.bool (decide ((f.Body.length : Int) = 0))) rfl ?_)
                  refine s_nil ?_
                  refine then_n ?_
                  refine cE_ret ?_
                  refine block_r (then_r ?_)
                  refine post_r _ (res1 (v := (.bool (decide ((f.Body.length : Int) = 0)))) rfl) ?_
                  exact ⟨(retv1 (congrArg Value.bool (show (decide ((f.Body.length : Int) = 0)) = (mayF f) from by first | exact mayF_yes (by unfold mayFP; omega) | exact mayF_no (by unfold mayFP; omega) | (rw [Bool.eq_iff_iff, mayF_iff, decide_eq_true_eq]; unfold mayFP; omega)))), hst.bare⟩
                · have c54 : ¬ (f.Seq = 0) := of_decide_eq_false b52
                  refine s_no 71 rfl (congrArg Value.bool b52) ?_
                  refine s_no 71 rfl (congrArg Value.bool b52) ?_
                  refine s_no 71 rfl (congrArg Value.bool b52) ?_
                  refine s_no 71 rfl (congrArg Value.bool b52) ?_
                  refine s_cons (op_pick_f (.bool false) (congrArg Value.bool b52) rfl ?_)
                  refine s_cons (op_assign (.bool false) rfl ?_)
                  refine s_nil ?_
                  refine then_n ?_
                  refine cE_ret ?_
                  refine block_r (then_r ?_)
                  refine post_r _ (res1 (v := (.bool false)) rfl) ?_
                  exact ⟨(retv1 (congrArg Value.bool (show false = (mayF f) from by first | exact mayF_yes (by unfold mayFP; omega) | exact mayF_no (by unfold mayFP; omega) | (rw [Bool.eq_iff_iff, mayF_iff, decide_eq_true_eq]; unfold mayFP; omega)))), hst.bare⟩
              · have c55 : ¬ (f.Site = 0) := of_decide_eq_false b50
                refine s_yes 61 rfl (congrArg Value.bool b50) (op_fieldAddr (s := 0) Try.underlying25 rfl rfl Try.sizeOf3 rfl ?_)
                refine s_yes 61 rfl (congrArg Value.bool b50) (op_load1 (u := (.int .i64 f.Site)) Try.isAgg3 rfl ((hst.cell 0 rfl).drop 2) ?_)
                refine s_yes 61 rfl (congrArg Value.bool b50) (op_eql (k := .i64) (a := f.Site) (b := 1) rfl rfl ?_)
                refine s_cons (op_pick_f (.bool (decide (f.Site = 1))) (congrArg Value.bool b50) rfl ?_)
                refine s_cons (op_move (.bool (decide (f.Site = 1))) rfl ?_)
                rcases Bool.eq_false_or_eq_true (decide (f.Site = 1)) with b56 | b56
                · have c57 : f.Site = 1 := of_decide_eq_true b56
                  refine s_yes 66 rfl (congrArg Value.bool b56) (op_fieldAddr (s := 0) Try.underlying25 rfl rfl Try.sizeOf2 rfl ?_)
                  refine s_yes 66 rfl (congrArg Value.bool b56) (op_load1 (u := (.int .i64 f.Seq)) Try.isAgg2 rfl ((hst.cell 0 rfl).drop 3) ?_)
                  refine s_yes 66 rfl (congrArg Value.bool b56) (op_eql (k := .i64) (a := f.Seq) (b := 0) rfl rfl ?_)
                  refine s_cons (op_pick_t (.bool (decide (f.Seq = 0))) (congrArg Value.bool b56) rfl ?_)
                  refine s_cons (op_move (.bool (decide (f.Seq = 0))) rfl ?_)
                  rcases Bool.eq_false_or_eq_true (decide (f.Seq = 0)) with b58 | b58
                  · have c59 : f.Seq = 0 := of_decide_eq_true b58
                    refine s_yes 71 rfl (congrArg Value.bool b58) (op_fieldAddr (s := 0) Try.underlying25 rfl rfl Try.sizeOf23 rfl ?_)
                    refine s_yes 71 rfl (congrArg Value.bool b58) (op_load1 (u := v_f_Body) Try.isAgg23 rfl ((hst.cell 0 rfl).drop 4) ?_)
                    refine s_yes 71 rfl (congrArg Value.bool b58) (op_len (E := u8E) (xs := f.Body) Try.underlying23 rfl h_f_Body ?_)
                    refine s_yes 71 rfl (congrArg Value.bool b58) (op_eql (k := .i64) (a := (f.Body.length : Int)) (b := 0) rfl rfl ?_)
                    refine s_cons (op_pick_t (.bool (decide ((f.Body.length : Int) = 0))) (congrArg Value.bool b58) rfl ?_)
                    refine s_cons (op_assign (.bool (decide ((f.Body.length : Int) = 0))) rfl ?_)
                    refine s_nil ?_
                    refine then_n ?_
                    refine cE_ret ?_
                    refine block_r (then_r ?_)
                    refine post_r _ (res1 (v := (.bool (decide ((f.Body.length : Int) = 0)))) rfl) ?_
                    exact ⟨(retv1 (congrArg Value.bool (show (decide ((f.Body.length : Int) = 0)) = (mayF f) from by first | exact mayF_yes (by unfold mayFP; omega) | exact mayF_no (by unfold mayFP; omega) | (rw [Bool.eq_iff_iff, mayF_iff, decide_eq_true_eq]; unfold mayFP; omega)))), hst.bare⟩
                  · have c60 : ¬ (f.Seq = 0) := of_decide_eq_false b58
                    refine s_no 71 rfl (congrArg Value.bool b58) ?_
                    refine s_no 71 rfl (congrArg Value.bool b58) ?_
                    refine s_no 71 rfl (congrArg Value.bool b58) ?_
                    refine s_no 71 rfl (congrArg Value.bool b58) ?_
                    refine s_cons (op_pick_f (.bool false) (congrArg Value.bool b58) rfl ?_)
                    refine s_cons (op_assign (.bool false) rfl ?_)
                    refine s_nil ?_
                    refine then_n ?_
                    refine cE_ret ?_
                    refine block_r (then_r ?_)
                    refine post_r _ (res1 (v := (.bool false)) rfl) ?_
                    exact ⟨(retv1 (congrArg Value.bool (show false = (mayF f) from by first | exact mayF_yes (by unfold mayFP; omega) | exact mayF_no (by unfold mayFP; omega) | (rw [Bool.eq_iff_iff, mayF_iff, decide_eq_true_eq]; unfold mayFP; omega)))), hst.bare⟩
                · have c61 : ¬ (f.Site = 1) := of_decide_eq_false b56
                  refine s_no 66 rfl (congrArg Value.bool b56) ?_
                  refine s_no 66 rfl (congrArg Value.bool b56) ?_
                  refine s_no 66 rfl (congrArg Value.bool b56) ?_
                  refine s_cons (op_pick_f (.bool false) (congrArg Value.bool b56) rfl ?_)
                  refine s_cons (op_move (.bool false) rfl ?_)
                  refine s_no 71 rfl rfl ?_
                  refine s_no 71 rfl rfl ?_
                  refine s_no 71 rfl rfl ?_
                  refine s_no 71 rfl rfl ?_
                  refine s_cons (op_pick_f (.bool false) rfl rfl ?_)
                  refine s_cons (op_assign (.bool false) rfl ?_)
                  refine s_nil ?_
                  refine then_n ?_
                  refine cE_ret ?_
                  refine block_r (then_r ?_)
                  refine post_r _ (res1 (v := (.bool false)) rfl) ?_
                  exact ⟨(retv1 (congrArg Value.bool (show false = (mayF f) from by first | exact mayF_yes (by unfold mayFP; omega) | exact mayF_no (by unfold mayFP; omega) | (rw [Bool.eq_iff_iff, mayF_iff, decide_eq_true_eq]; unfold mayFP; omega)))), hst.bare⟩
            · have c62 : ¬ (f.Kind = 4) := of_decide_eq_false b48
              refine cE_cond false (congrArg Value.bool b48) (fun h => by cases h) (fun _ => ?_)
              refine cE_skip ?_
              refine block_n (then_n ?_)
              refine cE_seq ?_
              refine cE_region rfl ?_
              refine s_cons (op_assign (.bool false) rfl ?_)
              refine s_nil ?_
              refine then_n ?_
              refine cE_ret ?_
              refine post_r _ (res1 (v := (.bool false)) rfl) ?_
              exact ⟨(retv1 (congrArg Value.bool (show false = (mayF f) from by first | exact mayF_yes (by unfold mayFP; omega) | exact mayF_no (by unfold mayFP; omega) | (rw [Bool.eq_iff_iff, mayF_iff, decide_eq_true_eq]; unfold mayFP; omega)))), hst.bare⟩

end Go.Proofs.Ytfljkaigfmedeaa
