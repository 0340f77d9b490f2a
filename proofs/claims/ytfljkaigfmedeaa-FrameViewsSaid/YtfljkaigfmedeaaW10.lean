/- frames: frame.May -/
import Derived.Test.YtfljkaigfmedeaaW1
import Derived.Test.YtfljkaigfmedeaaW2
import Derived.Test.YtfljkaigfmedeaaW3
import Derived.Test.YtfljkaigfmedeaaFC
namespace Go.Proofs.Ytfljkaigfmedeaa
open Go.RowKit

theorem c_fMay (w0 : World) (f : Frame) (v_f_Body : Value) (h_f_Body : Sl w0 u8E v_f_Body f.Body) :
    Calls Try.prog 15 #[(.agg #[(.int .i64 f.Kind), (.int .i64 f.View), (.int .i64 f.Site), (.int .i64 f.Seq), v_f_Body])] w0 fun e w' => e = .returned (.bool (mayF f)) ∧ St w0 w' [] := by
  refine calls_E (n := 72) (ts := [2]) Try.func15 rfl rfl rfl (by simp) ?_
  have hst := St.start w0
  refine cE_seq ?_
  refine cE_region rfl ?_
  refine s_cons (op_box (v := (.agg #[(.int .i64 f.Kind), (.int .i64 f.View), (.int .i64 f.Site), (.int .i64 f.Seq), v_f_Body])) (cs := #[(.int .i64 f.Kind), (.int .i64 f.View), (.int .i64 f.Site), (.int .i64 f.Seq), v_f_Body]) hst rfl rfl (fun g1 w2 hst _ => ?_))
  replace hst : St w0 w2 [.blk g1 25 #[(.int .i64 f.Kind), (.int .i64 f.View), (.int .i64 f.Site), (.int .i64 f.Seq), v_f_Body]] := hst
  refine s_cons (op_assign (.bool false) rfl ?_)
  refine s_nil ?_
  refine then_n ?_
  refine cE_scope ?_
  refine cE_seq ?_
  refine cE_seq ?_
  refine cE_region rfl ?_
  refine s_cons (op_fieldAddr (s := 0) Try.underlying25 rfl rfl Try.sizeOf3 rfl ?_)
  refine s_cons (op_load1 (u := (.int .i64 f.View)) Try.isAgg3 rfl ((hst.cell 0 rfl).drop 1) ?_)
  refine s_cons (op_lss (k := .i64) (a := f.View) (b := 0) rfl rfl ?_)
  refine s_cons (op_move (.bool (decide (f.View < 0))) rfl ?_)
  rcases Bool.eq_false_or_eq_true (decide (f.View < 0)) with b3 | b3
  · have c4 : f.View < 0 := of_decide_eq_true b3
    refine s_no 6 rfl (congrArg Value.bool b3) ?_
    refine s_no 6 rfl (congrArg Value.bool b3) ?_
    refine s_no 6 rfl (congrArg Value.bool b3) ?_
    refine s_cons (op_pick_t (.bool true) (congrArg Value.bool b3) rfl ?_)
    refine s_cons (op_move (.bool true) rfl ?_)
    refine s_no 11 rfl rfl ?_
    refine s_no 11 rfl rfl ?_
    refine s_no 11 rfl rfl ?_
    refine s_cons (op_pick_t (.bool true) rfl rfl ?_)
    refine s_cons (op_move (.bool true) rfl ?_)
    refine s_no 16 rfl rfl ?_
    refine s_no 16 rfl rfl ?_
    refine s_no 16 rfl rfl ?_
    refine s_cons (op_pick_t (.bool true) rfl rfl ?_)
    refine s_nil ?_
    refine then_n ?_
    refine cE_cond true rfl (fun _ => ?_) (fun h => by cases h)
    refine cE_seq ?_
    refine cE_region rfl ?_
    refine s_cons (op_assign (.bool false) rfl ?_)
    refine s_nil ?_
    refine then_n ?_
    refine cE_ret ?_
    refine then_r (scope_r ?_)
    refine post_r _ (res1 (v := (.bool false)) rfl) ?_
    exact ⟨(retv1 (congrArg Value.bool (show false = (mayF f) from by first | exact mayF_yes (by unfold mayFP; omega) | exact mayF_no (by unfold mayFP; omega) | (rw [Bool.eq_iff_iff, mayF_iff, decide_eq_true_eq]; unfold mayFP; omega)))), hst.bare⟩
  · have c5 : ¬ (f.View < 0) := of_decide_eq_false b3
    refine s_yes 6 rfl (congrArg Value.bool b3) (op_fieldAddr (s := 0) Try.underlying25 rfl rfl Try.sizeOf3 rfl ?_)
    refine s_yes 6 rfl (congrArg Value.bool b3) (op_load1 (u := (.int .i64 f.View)) Try.isAgg3 rfl ((hst.cell 0 rfl).drop 1) ?_)
    refine s_yes 6 rfl (congrArg Value.bool b3) (op_gtr (k := .i64) (a := f.View) (b := 1073741824) rfl rfl ?_)
    refine s_cons (op_pick_f (.bool (decide (1073741824 < f.View))) (congrArg Value.bool b3) rfl ?_)
    refine s_cons (op_move (.bool (decide (1073741824 < f.View))) rfl ?_)
    rcases Bool.eq_false_or_eq_true (decide (1073741824 < f.View)) with b6 | b6
    · have c7 : 1073741824 < f.View := of_decide_eq_true b6
      refine s_no 11 rfl (congrArg Value.bool b6) ?_
      refine s_no 11 rfl (congrArg Value.bool b6) ?_
      refine s_no 11 rfl (congrArg Value.bool b6) ?_
      refine s_cons (op_pick_t (.bool true) (congrArg Value.bool b6) rfl ?_)
      refine s_cons (op_move (.bool true) rfl ?_)
      refine s_no 16 rfl rfl ?_
      refine s_no 16 rfl rfl ?_
      refine s_no 16 rfl rfl ?_
      refine s_cons (op_pick_t (.bool true) rfl rfl ?_)
      refine s_nil ?_
      refine then_n ?_
      refine cE_cond true rfl (fun _ => ?_) (fun h => by cases h)
      refine cE_seq ?_
      refine cE_region rfl ?_
      refine s_cons (op_assign (.bool false) rfl ?_)
      refine s_nil ?_
      refine then_n ?_
      refine cE_ret ?_
      refine then_r (scope_r ?_)
      refine post_r _ (res1 (v := (.bool false)) rfl) ?_
      exact ⟨(retv1 (congrArg Value.bool (show false = (mayF f) from by first | exact mayF_yes (by unfold mayFP; omega) | exact mayF_no (by unfold mayFP; omega) | (rw [Bool.eq_iff_iff, mayF_iff, decide_eq_true_eq]; unfold mayFP; omega)))), hst.bare⟩
    · have c8 : ¬ (1073741824 < f.View) := of_decide_eq_false b6
      refine s_yes 11 rfl (congrArg Value.bool b6) (op_fieldAddr (s := 0) Try.underlying25 rfl rfl Try.sizeOf2 rfl ?_)
      refine s_yes 11 rfl (congrArg Value.bool b6) (op_load1 (u := (.int .i64 f.Seq)) Try.isAgg2 rfl ((hst.cell 0 rfl).drop 3) ?_)
      refine s_yes 11 rfl (congrArg Value.bool b6) (op_lss (k := .i64) (a := f.Seq) (b := 0) rfl rfl ?_)
      refine s_cons (op_pick_f (.bool (decide (f.Seq < 0))) (congrArg Value.bool b6) rfl ?_)
      refine s_cons (op_move (.bool (decide (f.Seq < 0))) rfl ?_)
      rcases Bool.eq_false_or_eq_true (decide (f.Seq < 0)) with b9 | b9
      · have c10 : f.Seq < 0 := of_decide_eq_true b9
        refine s_no 16 rfl (congrArg Value.bool b9) ?_
        refine s_no 16 rfl (congrArg Value.bool b9) ?_
        refine s_no 16 rfl (congrArg Value.bool b9) ?_
        refine s_cons (op_pick_t (.bool true) (congrArg Value.bool b9) rfl ?_)
        refine s_nil ?_
        refine then_n ?_
        refine cE_cond true rfl (fun _ => ?_) (fun h => by cases h)
        refine cE_seq ?_
        refine cE_region rfl ?_
        refine s_cons (op_assign (.bool false) rfl ?_)
        refine s_nil ?_
        refine then_n ?_
        refine cE_ret ?_
        refine then_r (scope_r ?_)
        refine post_r _ (res1 (v := (.bool false)) rfl) ?_
        exact ⟨(retv1 (congrArg Value.bool (show false = (mayF f) from by first | exact mayF_yes (by unfold mayFP; omega) | exact mayF_no (by unfold mayFP; omega) | (rw [Bool.eq_iff_iff, mayF_iff, decide_eq_true_eq]; unfold mayFP; omega)))), hst.bare⟩
      · have c11 : ¬ (f.Seq < 0) := of_decide_eq_false b9
        refine s_yes 16 rfl (congrArg Value.bool b9) (op_fieldAddr (s := 0) Try.underlying25 rfl rfl Try.sizeOf2 rfl ?_)
        refine s_yes 16 rfl (congrArg Value.bool b9) (op_load1 (u := (.int .i64 f.Seq)) Try.isAgg2 rfl ((hst.cell 0 rfl).drop 3) ?_)
        refine s_yes 16 rfl (congrArg Value.bool b9) (op_gtr (k := .i64) (a := f.Seq) (b := 1099511627776) rfl rfl ?_)
        refine s_cons (op_pick_f (.bool (decide (1099511627776 < f.Seq))) (congrArg Value.bool b9) rfl ?_)
        refine s_nil ?_
        refine then_n ?_
        rcases Bool.eq_false_or_eq_true (decide (1099511627776 < f.Seq)) with b12 | b12
        · have c13 : 1099511627776 < f.Seq := of_decide_eq_true b12
          refine cE_cond true (congrArg Value.bool b12) (fun _ => ?_) (fun h => by cases h)
          refine cE_seq ?_
          refine cE_region rfl ?_
          refine s_cons (op_assign (.bool false) rfl ?_)
          refine s_nil ?_
          refine then_n ?_
          refine cE_ret ?_
          refine then_r (scope_r ?_)
          refine post_r _ (res1 (v := (.bool false)) rfl) ?_
          exact ⟨(retv1 (congrArg Value.bool (show false = (mayF f) from by first | exact mayF_yes (by unfold mayFP; omega) | exact mayF_no (by unfold mayFP; omega) | (rw [Bool.eq_iff_iff, mayF_iff, decide_eq_true_eq]; unfold mayFP; omega)))), hst.bare⟩
        · have c14 : ¬ (1099511627776 < f.Seq) := of_decide_eq_false b12
          refine cE_cond false (congrArg Value.bool b12) (fun h => by cases h) (fun _ => ?_)
          refine cE_skip ?_
          refine then_n ?_
          refine cE_seq ?_
          refine cE_label ?_
          refine then_n ?_
          refine cE_seq ?_
          refine cE_block ?_
          refine cE_loop (fun (m : Nat) (ρ : Env) (w : World) => m = 0 ∧ ρ 0 = (.agg #[(.int .i64 f.Kind), (.int .i64 f.View), (.int .i64 f.Site), (.int .i64 f.Seq), v_f_Body]) ∧ ρ 1 = (.pointer (some ⟨g1, 0, none⟩)) ∧ ρ 3 = (.pointer (some ⟨g1, (0 + 1), none⟩)) ∧ ρ 4 = (.int .i64 f.View) ∧ ρ 5 = (.bool (decide (f.View < 0))) ∧ ρ 6 = (.bool (decide (f.View < 0))) ∧ ρ 7 = (.pointer (some ⟨g1, (0 + 1), none⟩)) ∧ ρ 8 = (.int .i64 f.View) ∧ ρ 9 = (.bool (decide (1073741824 < f.View))) ∧ ρ 10 = (.bool (decide (1073741824 < f.View))) ∧ ρ 11 = (.bool (decide (1073741824 < f.View))) ∧ ρ 12 = (.pointer (some ⟨g1, (0 + 3), none⟩)) ∧ ρ 13 = (.int .i64 f.Seq) ∧ ρ 14 = (.bool (decide (f.Seq < 0))) ∧ ρ 15 = (.bool (decide (f.Seq < 0))) ∧ ρ 16 = (.bool (decide (f.Seq < 0))) ∧ ρ 17 = (.pointer (some ⟨g1, (0 + 3), none⟩)) ∧ ρ 18 = (.int .i64 f.Seq) ∧ ρ 19 = (.bool (decide (1099511627776 < f.Seq))) ∧ ρ 20 = (.bool (decide (1099511627776 < f.Seq))) ∧ St w0 w [.blk g1 25 #[(.int .i64 f.Kind), (.int .i64 f.View), (.int .i64 f.Site), (.int .i64 f.Seq), v_f_Body]]) id _ ⟨rfl, rfl, rfl, rfl, rfl, rfl, rfl, rfl, rfl, rfl, rfl, rfl, rfl, rfl, rfl, rfl, rfl, rfl, rfl, rfl, rfl, hst⟩ ?_
          rintro m16 ρ17 w18 ⟨hm16, q15_0, q15_1, q15_3, q15_4, q15_5, q15_6, q15_7, q15_8, q15_9, q15_10, q15_11, q15_12, q15_13, q15_14, q15_15, q15_16, q15_17, q15_18, q15_19, q15_20, hst⟩
          refine cE_block ?_
          refine cE_seq ?_
          refine cE_seq ?_
          refine cE_region rfl ?_
          refine s_cons (op_fieldAddr (s := 0) Try.underlying25 rfl rfl Try.sizeOf3 q15_1 ?_)
          refine s_cons (op_load1 (u := (.int .i64 f.Kind)) Try.isAgg3 rfl (hst.cell 0 rfl) ?_)
          refine s_nil ?_
          refine then_n ?_
          refine cE_block ?_
          refine cE_seq ?_
          refine cE_region rfl ?_
          refine s_cons (op_eql (k := .i64) (a := f.Kind) (b := 1) rfl rfl ?_)
          refine s_cons (op_assign (.bool (decide (f.Kind = 1))) rfl ?_)
          refine s_nil ?_
          refine then_n ?_
          rcases Bool.eq_false_or_eq_true (decide (f.Kind = 1)) with b19 | b19
          · have c20 : f.Kind = 1 := of_decide_eq_true b19
            refine cE_cond true (congrArg Value.bool b19) (fun _ => ?_) (fun h => by cases h)
            refine cE_seq ?_
            refine cE_region rfl ?_
            refine s_cons (op_fieldAddr (s := 0) Try.underlying25 rfl rfl Try.sizeOf2 q15_1 ?_)
            refine s_cons (op_load1 (u := (.int .i64 f.Seq)) Try.isAgg2 rfl ((hst.cell 0 rfl).drop 3) ?_)
            refine s_cons (op_gtr (k := .i64) (a := f.Seq) (b := 0) rfl rfl ?_)
            refine s_cons (op_move (.bool (decide (0 < f.Seq))) rfl ?_)
            rcases Bool.eq_false_or_eq_true (decide (0 < f.Seq)) with b21 | b21
            · have c22 : 0 < f.Seq := of_decide_eq_true b21
              refine s_yes 28 rfl (congrArg Value.bool b21) (op_fieldAddr (s := 0) Try.underlying25 rfl rfl Try.sizeOf23 q15_1 ?_)
              refine s_yes 28 rfl (congrArg Value.bool b21) (op_load1 (u := v_f_Body) Try.isAgg23 rfl ((hst.cell 0 rfl).drop 4) ?_)
              refine s_yes 28 rfl (congrArg Value.bool b21) (op_len (E := u8E) (xs := f.Body) Try.underlying23 rfl h_f_Body ?_)
              refine s_yes 28 rfl (congrArg Value.bool b21) (op_leq (k := .i64) (a := (f.Body.length : Int)) (b := 4100) rfl rfl ?_)
              refine s_cons (op_pick_t (.bool (decide ((f.Body.length : Int) ≤ 4100))) (congrArg Value.bool b21) rfl ?_)
              refine s_cons (op_move (.bool (decide ((f.Body.length : Int) ≤ 4100))) rfl ?_)
              rcases Bool.eq_false_or_eq_true (decide ((f.Body.length : Int) ≤ 4100)) with b23 | b23
              · have c24 : (f.Body.length : Int) ≤ 4100 := of_decide_eq_true b23
                refine s_yes 34 rfl (congrArg Value.bool b23) (op_fieldAddr (s := 0) Try.underlying25 rfl rfl Try.sizeOf3 q15_1 ?_)
                refine s_yes 34 rfl (congrArg Value.bool b23) (op_load1 (u := (.int .i64 f.Site)) Try.isAgg3 rfl ((hst.cell 0 rfl).drop 2) ?_)
                refine s_yes 34 rfl (congrArg Value.bool b23) (op_eql (k := .i64) (a := f.Site) (b := 0) rfl rfl ?_)
                refine s_cons (op_pick_t (.bool (decide (f.Site = 0))) (congrArg Value.bool b23) rfl ?_)
                refine s_cons (op_assign (.bool (decide (f.Site = 0))) rfl ?_)
                refine s_nil ?_
                refine then_n ?_
                refine cE_ret ?_
                refine block_r (then_r (block_r (then_r (block_r (then_r (scope_r ?_))))))
                refine post_r _ (res1 (v := (.bool (decide (f.Site = 0)))) rfl) ?_
                exact ⟨(retv1 (congrArg Value.bool (show (decide (f.Site = 0)) = (mayF f) from by first | exact mayF_yes (by unfold mayFP; omega) | exact mayF_no (by unfold mayFP; omega) | (rw [Bool.eq_iff_iff, mayF_iff, decide_eq_true_eq]; unfold mayFP; omega)))), hst.bare⟩
              · have c25 : ¬ ((f.Body.length : Int) ≤ 4100) := of_decide_eq_false b23
                refine s_no 34 rfl (congrArg Value.bool b23) ?_
                refine s_no 34 rfl (congrArg Value.bool b23) ?_
                refine s_no 34 rfl (congrArg Value.bool b23) ?_
                refine s_cons (op_pick_f (.bool false) (congrArg Value.bool b23) rfl ?_)
                refine s_cons (op_assign (.bool false) rfl ?_)
                refine s_nil ?_
                refine then_n ?_
                refine cE_ret ?_
                refine block_r (then_r (block_r (then_r (block_r (then_r (scope_r ?_))))))
                refine post_r _ (res1 (v := (.bool false)) rfl) ?_
                exact ⟨(retv1 (congrArg Value.bool (show false = (mayF f) from by first | exact mayF_yes (by unfold mayFP; omega) | exact mayF_no (by unfold mayFP; omega) | (rw [Bool.eq_iff_iff, mayF_iff, decide_eq_true_eq]; unfold mayFP; omega)))), hst.bare⟩
            · have c26 : ¬ (0 < f.Seq) := of_decide_eq_false b21
              refine s_no 28 rfl (congrArg Value.bool b21) ?_
              refine s_no 28 rfl (congrArg Value.bool b21) ?_
              refine s_no 28 rfl (congrArg Value.bool b21) ?_
              refine s_no 28 rfl (congrArg Value.bool b21) ?_
              refine s_cons (op_pick_f (.bool false) (congrArg Value.bool b21) rfl ?_)
              refine s_cons (op_move (.bool false) rfl ?_)
              refine s_no 34 rfl rfl ?_
              refine s_no 34 rfl rfl ?_
              refine s_no 34 rfl rfl ?_
              refine s_cons (op_pick_f (.bool false) rfl rfl ?_)
              refine s_cons (op_assign (.bool false) rfl ?_)
              refine s_nil ?_
              refine then_n ?_
              refine cE_ret ?_
              refine block_r (then_r (block_r (then_r (block_r (then_r (scope_r ?_))))))
              refine post_r _ (res1 (v := (.bool false)) rfl) ?_
              exact ⟨(retv1 (congrArg Value.bool (show false = (mayF f) from by first | exact mayF_yes (by unfold mayFP; omega) | exact mayF_no (by unfold mayFP; omega) | (rw [Bool.eq_iff_iff, mayF_iff, decide_eq_true_eq]; unfold mayFP; omega)))), hst.bare⟩
          · have c27 : ¬ (f.Kind = 1) := of_decide_eq_false b19
            refine cE_cond false (congrArg Value.bool b19) (fun h => by cases h) (fun _ => ?_)
            refine cE_seq ?_
            refine cE_region rfl ?_
            refine s_cons (op_eql (k := .i64) (a := f.Kind) (b := 2) rfl rfl ?_)
            refine s_cons (op_assign (.bool (decide (f.Kind = 2))) rfl ?_)
            refine s_nil ?_
            refine then_n ?_
            rcases Bool.eq_false_or_eq_true (decide (f.Kind = 2)) with b28 | b28
            · have c29 : f.Kind = 2 := of_decide_eq_true b28
              refine cE_cond true (congrArg Value.bool b28) (fun _ => ?_) (fun h => by cases h)
              refine cE_seq ?_
              refine cE_region rfl ?_
              refine s_cons (op_fieldAddr (s := 0) Try.underlying25 rfl rfl Try.sizeOf23 q15_1 ?_)
              refine s_cons (op_load1 (u := v_f_Body) Try.isAgg23 rfl ((hst.cell 0 rfl).drop 4) ?_)
              refine s_cons (op_len (E := u8E) (xs := f.Body) Try.underlying23 rfl h_f_Body ?_)
              refine s_cons (op_eql (k := .i64) (a := (f.Body.length : Int)) (b := 0) rfl rfl ?_)
              refine s_cons (op_move (.bool (decide ((f.Body.length : Int) = 0))) rfl ?_)
              rcases Bool.eq_false_or_eq_true (decide ((f.Body.length : Int) = 0)) with b30 | b30
              · have c31 : (f.Body.length : Int) = 0 := of_decide_eq_true b30
                refine s_yes 45 rfl (congrArg Value.bool b30) (op_fieldAddr (s := 0) Try.underlying25 rfl rfl Try.sizeOf3 q15_1 ?_)
                refine s_yes 45 rfl (congrArg Value.bool b30) (op_load1 (u := (.int .i64 f.Site)) Try.isAgg3 rfl ((hst.cell 0 rfl).drop 2) ?_)
                refine s_yes 45 rfl (congrArg Value.bool b30) (op_eql (k := .i64) (a := f.Site) (b := 0) rfl rfl ?_)
                refine s_cons (op_pick_t (.bool (decide (f.Site = 0))) (congrArg Value.bool b30) rfl ?_)
                refine s_cons (op_assign (.bool (decide (f.Site = 0))) rfl ?_)
                refine s_nil ?_
                refine then_n ?_
                refine cE_ret ?_
                refine block_r (then_r (block_r (then_r (block_r (then_r (scope_r ?_))))))
                refine post_r _ (res1 (v := (.bool (decide (f.Site = 0)))) rfl) ?_
                exact ⟨(retv1 (congrArg Value.bool (show (decide (f.Site = 0)) = (mayF f) from by first | exact mayF_yes (by unfold mayFP; omega) | exact mayF_no (by unfold mayFP; omega) | (rw [Bool.eq_iff_iff, mayF_iff, decide_eq_true_eq]; unfold mayFP; omega)))), hst.bare⟩
              · have c32 : ¬ ((f.Body.length : Int) = 0) := of_decide_eq_false b30
                refine s_no 45 rfl (congrArg Value.bool b30) ?_
                refine s_no 45 rfl (congrArg Value.bool b30) ?_
                refine s_no 45 rfl (congrArg Value.bool b30) ?_
                refine s_cons (op_pick_f (.bool false) (congrArg Value.bool b30) rfl ?_)
                refine s_cons (op_assign (.bool false) rfl ?_)
                refine s_nil ?_
                refine then_n ?_
                refine cE_ret ?_
                refine block_r (then_r (block_r (then_r (block_r (then_r (scope_r ?_))))))
                refine post_r _ (res1 (v := (.bool false)) rfl) ?_
                exact ⟨(retv1 (congrArg Value.bool (show false = (mayF f) from by first | exact mayF_yes (by unfold mayFP; omega) | exact mayF_no (by unfold mayFP; omega) | (rw [Bool.eq_iff_iff, mayF_iff, decide_eq_true_eq]; unfold mayFP; omega)))), hst.bare⟩
            · have c33 : ¬ (f.Kind = 2) := of_decide_eq_false b28
              refine cE_cond false (congrArg Value.bool b28) (fun h => by cases h) (fun _ => ?_)
              refine cE_seq ?_
              refine cE_seq ?_
              refine cE_region rfl ?_
              refine s_cons (op_eql (k := .i64) (a := f.Kind) (b := 3) rfl rfl ?_)
              refine s_cons (op_assign (.bool (decide (f.Kind = 3))) rfl ?_)
              refine s_nil ?_
              refine then_n ?_
              rcases Bool.eq_false_or_eq_true (decide (f.Kind = 3)) with b34 | b34
              · have c35 : f.Kind = 3 := of_decide_eq_true b34
                refine cE_cond true (congrArg Value.bool b34) (fun _ => ?_) (fun h => by cases h)
                refine cE_skip ?_
                refine then_n ?_
                refine cE_cond true (congrArg Value.bool b34) (fun _ => ?_) (fun h => by cases h)
                refine cE_seq ?_
                refine cE_region rfl ?_
                refine s_cons (op_fieldAddr (s := 0) Try.underlying25 rfl rfl Try.sizeOf2 q15_1 ?_)
                refine s_cons (op_load1 (u := (.int .i64 f.Seq)) Try.isAgg2 rfl ((hst.cell 0 rfl).drop 3) ?_)
                refine s_cons (op_eql (k := .i64) (a := f.Seq) (b := 0) rfl rfl ?_)
                refine s_cons (op_move (.bool (decide (f.Seq = 0))) rfl ?_)
                rcases Bool.eq_false_or_eq_true (decide (f.Seq = 0)) with b36 | b36
                · have c37 : f.Seq = 0 := of_decide_eq_true b36
                  refine s_yes 56 rfl (congrArg Value.bool b36) (op_fieldAddr (s := 0) Try.underlying25 rfl rfl Try.sizeOf23 q15_1 ?_)
                  refine s_yes 56 rfl (congrArg Value.bool b36) (op_load1 (u := v_f_Body) Try.isAgg23 rfl ((hst.cell 0 rfl).drop 4) ?_)
                  refine s_yes 56 rfl (congrArg Value.bool b36) (op_len (E := u8E) (xs := f.Body) Try.underlying23 rfl h_f_Body ?_)
                  refine s_yes 56 rfl (congrArg Value.bool b36) (op_eql (k := .i64) (a := (f.Body.length : Int)) (b := 0) rfl rfl ?_)
                  refine s_cons (op_pick_t (.bool (decide ((f.Body.length : Int) = 0))) (congrArg Value.bool b36) rfl ?_)
                  refine s_cons (op_move (.bool (decide ((f.Body.length : Int) = 0))) rfl ?_)
                  rcases Bool.eq_false_or_eq_true (decide ((f.Body.length : Int) = 0)) with b38 | b38
                  · have c39 : (f.Body.length : Int) = 0 := of_decide_eq_true b38
                    refine s_yes 62 rfl (congrArg Value.bool b38) (op_fieldAddr (s := 0) Try.underlying25 rfl rfl Try.sizeOf3 q15_1 ?_)
                    refine s_yes 62 rfl (congrArg Value.bool b38) (op_load1 (u := (.int .i64 f.Site)) Try.isAgg3 rfl ((hst.cell 0 rfl).drop 2) ?_)
                    refine s_yes 62 rfl (congrArg Value.bool b38) (op_geq (k := .i64) (a := f.Site) (b := 0) rfl rfl ?_)
                    refine s_cons (op_pick_t (.bool (decide (0 ≤ f.Site))) (congrArg Value.bool b38) rfl ?_)
                    refine s_cons (op_move (.bool (decide (0 ≤ f.Site))) rfl ?_)
                    rcases Bool.eq_false_or_eq_true (decide (0 ≤ f.Site)) with b40 | b40
                    · have c41 : 0 ≤ f.Site := of_decide_eq_true b40
                      refine s_yes 67 rfl (congrArg Value.bool b40) (op_fieldAddr (s := 0) Try.underlying25 rfl rfl Try.sizeOf3 q15_1 ?_)
                      refine s_yes 67 rfl (congrArg Value.bool b40) (op_load1 (u := (.int .i64 f.Site)) Try.isAgg3 rfl ((hst.cell 0 rfl).drop 2) ?_)
                      refine s_yes 67 rfl (congrArg Value.bool b40) (op_lss (k := .i64) (a := f.Site) (b := 2) rfl rfl ?_)
                      refine s_cons (op_pick_t (.bool (decide (f.Site < 2))) (congrArg Value.bool b40) rfl ?_)
                      refine s_cons (op_assign (.bool (decide (f.Site < 2))) rfl ?_)
                      refine s_nil ?_
                      refine then_n ?_
                      refine cE_ret ?_
                      refine block_r (then_r (block_r (then_r (block_r (then_r (scope_r ?_))))))
                      refine post_r _ (res1 (v := (.bool (decide (f.Site < 2)))) rfl) ?_
                      exact ⟨(retv1 (congrArg Value.bool (show (decide (f.Site < 2)) = (mayF f) from by first | exact mayF_yes (by unfold mayFP; omega) | exact mayF_no (by unfold mayFP; omega) | (rw [Bool.eq_iff_iff, mayF_iff, decide_eq_true_eq]; unfold mayFP; omega)))), hst.bare⟩
                    · have c42 : ¬ (0 ≤ f.Site) := of_decide_eq_false b40
                      refine s_no 67 rfl (congrArg Value.bool b40) ?_
                      refine s_no 67 rfl (congrArg Value.bool b40) ?_
                      refine s_no 67 rfl (congrArg Value.bool b40) ?_
                      refine s_cons (op_pick_f (.bool false) (congrArg Value.bool b40) rfl ?_)
                      refine s_cons (op_assign (.bool false) rfl ?_)
                      refine s_nil ?_
                      refine then_n ?_
                      refine cE_ret ?_
                      refine block_r (then_r (block_r (then_r (block_r (then_r (scope_r ?_))))))
                      refine post_r _ (res1 (v := (.bool false)) rfl) ?_
                      exact ⟨(retv1 (congrArg Value.bool (show false = (mayF f) from by first | exact mayF_yes (by unfold mayFP; omega) | exact mayF_no (by unfold mayFP; omega) | (rw [Bool.eq_iff_iff, mayF_iff, decide_eq_true_eq]; unfold mayFP; omega)))), hst.bare⟩
                  · have c43 : ¬ ((f.Body.length : Int) = 0) := of_decide_eq_false b38
                    refine s_no 62 rfl (congrArg Value.bool b38) ?_
                    refine s_no 62 rfl (congrArg Value.bool b38) ?_
                    refine s_no 62 rfl (congrArg Value.bool b38) ?_
                    refine s_cons (op_pick_f (.bool false) (congrArg Value.bool b38) rfl ?_)
                    refine s_cons (op_move (.bool false) rfl ?_)
                    refine s_no 67 rfl rfl ?_
                    refine s_no 67 rfl rfl ?_
                    refine s_no 67 rfl rfl ?_
                    refine s_cons (op_pick_f (.bool false) rfl rfl ?_)
                    refine s_cons (op_assign (.bool false) rfl ?_)
                    refine s_nil ?_
                    refine then_n ?_
                    refine cE_ret ?_
                    refine block_r (then_r (block_r (then_r (block_r (then_r (scope_r ?_))))))
                    refine post_r _ (res1 (v := (.bool false)) rfl) ?_
                    exact ⟨(retv1 (congrArg Value.bool (show false = (mayF f) from by first | exact mayF_yes (by unfold mayFP; omega) | exact mayF_no (by unfold mayFP; omega) | (rw [Bool.eq_iff_iff, mayF_iff, decide_eq_true_eq]; unfold mayFP; omega)))), hst.bare⟩
                · have c44 : ¬ (f.Seq = 0) := of_decide_eq_false b36
                  refine s_no 56 rfl (congrArg Value.bool b36) ?_
                  refine s_no 56 rfl (congrArg Value.bool b36) ?_
                  refine s_no 56 rfl (congrArg Value.bool b36) ?_
                  refine s_no 56 rfl (congrArg Value.bool b36) ?_
                  refine s_cons (op_pick_f (.bool false) (congrArg Value.bool b36) rfl ?_)
                  refine s_cons (op_move (.bool false) rfl ?_)
                  refine s_no 62 rfl rfl ?_
                  refine s_no 62 rfl rfl ?_
                  refine s_no 62 rfl rfl ?_
                  refine s_cons (op_pick_f (.bool false) rfl rfl ?_)
                  refine s_cons (op_move (.bool false) rfl ?_)
                  refine s_no 67 rfl rfl ?_
                  refine s_no 67 rfl rfl ?_
                  refine s_no 67 rfl rfl ?_
                  refine s_cons (op_pick_f (.bool false) rfl rfl ?_)
                  refine s_cons (op_assign (.bool false) rfl ?_)
                  refine s_nil ?_
                  refine then_n ?_
                  refine cE_ret ?_
                  refine block_r (then_r (block_r (then_r (block_r (then_r (scope_r ?_))))))
                  refine post_r _ (res1 (v := (.bool false)) rfl) ?_
                  exact ⟨(retv1 (congrArg Value.bool (show false = (mayF f) from by first | exact mayF_yes (by unfold mayFP; omega) | exact mayF_no (by unfold mayFP; omega) | (rw [Bool.eq_iff_iff, mayF_iff, decide_eq_true_eq]; unfold mayFP; omega)))), hst.bare⟩
              · have c45 : ¬ (f.Kind = 3) := of_decide_eq_false b34
                refine cE_cond false (congrArg Value.bool b34) (fun h => by cases h) (fun _ => ?_)
                refine cE_region rfl ?_
                refine s_cons (op_eql (k := .i64) (a := f.Kind) (b := 4) rfl rfl ?_)
                refine s_cons (op_assign (.bool (decide (f.Kind = 4))) rfl ?_)
                refine s_nil ?_
                refine then_n ?_
                rcases Bool.eq_false_or_eq_true (decide (f.Kind = 4)) with b46 | b46
                · have c47 : f.Kind = 4 := of_decide_eq_true b46
                  refine cE_cond true (congrArg Value.bool b46) (fun _ => ?_) (fun h => by cases h)
                  refine cE_seq ?_
                  refine cE_region rfl ?_
                  refine s_cons (op_fieldAddr (s := 0) Try.underlying25 rfl rfl Try.sizeOf2 q15_1 ?_)
                  refine s_cons (op_load1 (u := (.int .i64 f.Seq)) Try.isAgg2 rfl ((hst.cell 0 rfl).drop 3) ?_)
                  refine s_cons (op_eql (k := .i64) (a := f.Seq) (b := 0) rfl rfl ?_)
                  refine s_cons (op_move (.bool (decide (f.Seq = 0))) rfl ?_)
                  rcases Bool.eq_false_or_eq_true (decide (f.Seq = 0)) with b48 | b48
                  · have c49 : f.Seq = 0 := of_decide_eq_true b48
                    refine s_yes 56 rfl (congrArg Value.bool b48) (op_fieldAddr (s := 0) Try.underlying25 rfl rfl Try.sizeOf23 q15_1 ?_)
                    refine s_yes 56 rfl (congrArg Value.bool b48) (op_load1 (u := v_f_Body) Try.isAgg23 rfl ((hst.cell 0 rfl).drop 4) ?_)
                    refine s_yes 56 rfl (congrArg Value.bool b48) (op_len (E := u8E) (xs := f.Body) Try.underlying23 rfl h_f_Body ?_)
                    refine s_yes 56 rfl (congrArg Value.bool b48) (op_eql (k := .i64) (a := (f.Body.length : Int)) (b := 0) rfl rfl ?_)
                    refine s_cons (op_pick_t (.bool (decide ((f.Body.length : Int) = 0))) (congrArg Value.bool b48) rfl ?_)
                    refine s_cons (op_move (.bool (decide ((f.Body.length : Int) = 0))) rfl ?_)
                    rcases Bool.eq_false_or_eq_true (decide ((f.Body.length : Int) = 0)) with b50 | b50
                    · have c51 : (f.Body.length : Int) = 0 := of_decide_eq_true b50
                      refine s_yes 62 rfl (congrArg Value.bool b50) (op_fieldAddr (s := 0) Try.underlying25 rfl rfl Try.sizeOf3 q15_1 ?_)
                      refine s_yes 62 rfl (congrArg Value.bool b50) (op_load1 (u := (.int .i64 f.Site)) Try.isAgg3 rfl ((hst.cell 0 rfl).drop 2) ?_)
                      refine s_yes 62 rfl (congrArg Value.bool b50) (op_geq (k := .i64) (a := f.Site) (b := 0) rfl rfl ?_)
                      refine s_cons (op_pick_t (.bool (decide (0 ≤ f.Site))) (congrArg Value.bool b50) rfl ?_)
                      refine s_cons (op_move (.bool (decide (0 ≤ f.Site))) rfl ?_)
                      rcases Bool.eq_false_or_eq_true (decide (0 ≤ f.Site)) with b52 | b52
                      · have c53 : 0 ≤ f.Site := of_decide_eq_true b52
                        refine s_yes 67 rfl (congrArg Value.bool b52) (op_fieldAddr (s := 0) Try.underlying25 rfl rfl Try.sizeOf3 q15_1 ?_)
                        refine s_yes 67 rfl (congrArg Value.bool b52) (op_load1 (u := (.int .i64 f.Site)) Try.isAgg3 rfl ((hst.cell 0 rfl).drop 2) ?_)
                        refine s_yes 67 rfl (congrArg Value.bool b52) (op_lss (k := .i64) (a := f.Site) (b := 2) rfl rfl ?_)
                        refine s_cons (op_pick_t (.bool (decide (f.Site < 2))) (congrArg Value.bool b52) rfl ?_)
                        refine s_cons (op_assign (.bool (decide (f.Site < 2))) rfl ?_)
                        refine s_nil ?_
                        refine then_n ?_
                        refine cE_ret ?_
                        refine block_r (then_r (block_r (then_r (block_r (then_r (scope_r ?_))))))
                        refine post_r _ (res1 (v := (.bool (decide (f.Site < 2)))) rfl) ?_
                        exact ⟨(retv1 (congrArg Value.bool (show (decide (f.Site < 2)) = (mayF f) from by first | exact mayF_yes (by unfold mayFP; omega) | exact mayF_no (by unfold mayFP; omega) | (rw [Bool.eq_iff_iff, mayF_iff, decide_eq_true_eq]; unfold mayFP; omega)))), hst.bare⟩
                      · have c54 : ¬ (0 ≤ f.Site) := of_decide_eq_false b52
                        refine s_no 67 rfl (congrArg Value.bool b52) ?_
                        refine s_no 67 rfl (congrArg Value.bool b52) ?_
                        refine s_no 67 rfl (congrArg Value.bool b52) ?_
                        refine s_cons (op_pick_f (.bool false) (congrArg Value.bool b52) rfl ?_)
                        refine s_cons (op_assign (.bool false) rfl ?_)
                        refine s_nil ?_
                        refine then_n ?_
                        refine cE_ret ?_
                        refine block_r (then_r (block_r (then_r (block_r (then_r (scope_r ?_))))))
                        refine post_r _ (res1 (v := (.bool false)) rfl) ?_
                        exact ⟨(retv1 (congrArg Value.bool (show false = (mayF f) from by first | exact mayF_yes (by unfold mayFP; omega) | exact mayF_no (by unfold mayFP; omega) | (rw [Bool.eq_iff_iff, mayF_iff, decide_eq_true_eq]; unfold mayFP; omega)))), hst.bare⟩
                    · have c55 : ¬ ((f.Body.length : Int) = 0) := of_decide_eq_false b50
                      refine s_no 62 rfl (congrArg Value.bool b50) ?_
                      refine s_no 62 rfl (congrArg Value.bool b50) ?_
                      refine s_no 62 rfl (congrArg Value.bool b50) ?_
                      refine s_cons (op_pick_f (.bool false) (congrArg Value.bool b50) rfl ?_)
                      refine s_cons (op_move (.bool false) rfl ?_)
                      refine s_no 67 rfl rfl ?_
                      refine s_no 67 rfl rfl ?_
                      refine s_no 67 rfl rfl ?_
                      refine s_cons (op_pick_f (.bool false) rfl rfl ?_)
                      refine s_cons (op_assign (.bool false) rfl ?_)
                      refine s_nil ?_
                      refine then_n ?_
                      refine cE_ret ?_
                      refine block_r (then_r (block_r (then_r (block_r (then_r (scope_r ?_))))))
                      refine post_r _ (res1 (v := (.bool false)) rfl) ?_
                      exact ⟨(retv1 (congrArg Value.bool (show false = (mayF f) from by first | exact mayF_yes (by unfold mayFP; omega) | exact mayF_no (by unfold mayFP; omega) | (rw [Bool.eq_iff_iff, mayF_iff, decide_eq_true_eq]; unfold mayFP; omega)))), hst.bare⟩
                  · have c56 : ¬ (f.Seq = 0) := of_decide_eq_false b48
                    refine s_no 56 rfl (congrArg Value.bool b48) ?_
                    refine s_no 56 rfl (congrArg Value.bool b48) ?_
                    refine s_no 56 rfl (congrArg Value.bool b48) ?_
                    refine s_no 56 rfl (congrArg Value.bool b48) ?_
                    refine s_cons (op_pick_f (.bool false) (congrArg Value.bool b48) rfl ?_)
                    refine s_cons (op_move (.bool false) rfl ?_)
                    refine s_no 62 rfl rfl ?_
                    refine s_no 62 rfl rfl ?_
                    refine s_no 62 rfl rfl ?_
                    refine s_cons (op_pick_f (.bool false) rfl rfl ?_)
                    refine s_cons (op_move (.bool false) rfl ?_)
                    refine s_no 67 rfl rfl ?_
                    refine s_no 67 rfl rfl ?_
                    refine s_no 67 rfl rfl ?_
                    refine s_cons (op_pick_f (.bool false) rfl rfl ?_)
                    refine s_cons (op_assign (.bool false) rfl ?_)
                    refine s_nil ?_
                    refine then_n ?_
                    refine cE_ret ?_
                    refine block_r (then_r (block_r (then_r (block_r (then_r (scope_r ?_))))))
                    refine post_r _ (res1 (v := (.bool false)) rfl) ?_
                    exact ⟨(retv1 (congrArg Value.bool (show false = (mayF f) from by first | exact mayF_yes (by unfold mayFP; omega) | exact mayF_no (by unfold mayFP; omega) | (rw [Bool.eq_iff_iff, mayF_iff, decide_eq_true_eq]; unfold mayFP; omega)))), hst.bare⟩
                · have c57 : ¬ (f.Kind = 4) := of_decide_eq_false b46
                  refine cE_cond false (congrArg Value.bool b46) (fun h => by cases h) (fun _ => ?_)
                  refine cE_skip ?_
                  refine block_n (then_n ?_)
                  refine cE_exit ?_
                  refine block_miss (by decide) (then_x (block_hit (then_n ?_)))
                  refine cE_seq ?_
                  refine cE_region rfl ?_
                  refine s_cons (op_assign (.bool false) rfl ?_)
                  refine s_nil ?_
                  refine then_n ?_
                  refine cE_ret ?_
                  refine scope_r ?_
                  refine post_r _ (res1 (v := (.bool false)) rfl) ?_
                  exact ⟨(retv1 (congrArg Value.bool (show false = (mayF f) from by first | exact mayF_yes (by unfold mayFP; omega) | exact mayF_no (by unfold mayFP; omega) | (rw [Bool.eq_iff_iff, mayF_iff, decide_eq_true_eq]; unfold mayFP; omega)))), hst.bare⟩

end Go.Proofs.Ytfljkaigfmedeaa
