/- twinkeeplaw6.BlockAsks -/
import Derived.Test.YtpamjfbdgaamoaaW40
import Derived.Test.YtpamjfbdgaamoaaW36
namespace Go.Proofs.Ytpamjfbdgaamoaa
open Go.RowKit

set_option maxHeartbeats 4000000 in
theorem c_BlockAsks (w0 : World) (v_s : Value) (s : List Sample) (h_s : Sl w0 sampE v_s s) (v_g : Value) (g : List Agg) (h_g : Sl w0 aggE v_g g) (k : Int) (v_b : Value) (b : List UInt8) (h_b : Sl w0 u8E v_b b) (hs : ∀ z ∈ s, z.ok) (hg : ∀ z ∈ g, z.ok) (k0 : -9223372036854775808 ≤ k) (k1 : k ≤ 9223372036854775807) :
    Calls Try.prog 3 #[v_s, v_g, (.int .i64 k), v_b] w0 fun e w' => e = .returned (.bool true) ∧ St w0 w' [] := by
  refine calls_E (n := 128) (ts := [8]) Try.func3 rfl rfl rfl (by simp) ?_
  have hst := St.start w0
  refine cE_seq ?_
  refine cE_region rfl ?_
  refine s_cons (op_assign (.bool false) rfl ?_)
  refine s_nil ?_
  refine then_n ?_
  refine cE_seq ?_
  refine cE_seq ?_
  refine cE_region rfl ?_
  refine s_cons (op_move v_s rfl ?_)
  refine s_cons (op_len (E := sampE) (xs := s) Try.underlying22 rfl h_s ?_)
  refine s_cons (op_gtr (k := .i64) (a := (s.length : Int)) (b := 70) rfl rfl ?_)
  refine s_cons (op_move (.bool (decide (70 < (s.length : Int)))) rfl ?_)
  rcases Bool.eq_false_or_eq_true (decide (70 < (s.length : Int))) with b1 | b1
  · have c2 : 70 < (s.length : Int) := of_decide_eq_true b1
    refine s_no 28 rfl (congrArg Value.bool b1) ?_
    refine s_no 28 rfl (congrArg Value.bool b1) ?_
    refine s_no 28 rfl (congrArg Value.bool b1) ?_
    refine s_cons (op_pick_t (.bool true) (congrArg Value.bool b1) rfl ?_)
    refine s_cons (op_move (.bool true) rfl ?_)
    refine s_no 33 rfl rfl ?_
    refine s_no 33 rfl rfl ?_
    refine s_no 33 rfl rfl ?_
    refine s_cons (op_pick_t (.bool true) rfl rfl ?_)
    refine s_nil ?_
    refine then_n ?_
    refine cE_cond true rfl (fun _ => ?_) (fun h => by cases h)
    refine cE_seq ?_
    refine cE_region rfl ?_
    refine s_cons (op_call Try.call8 evs_nil (c_told6 (w0 := w0)) ?_)
    rintro _ w3 ⟨rfl, hcall⟩
    refine ⟨_, rfl, ?_⟩
    have hst : St w0 w3 [] := hst.call hcall
    refine s_cons (op_assign (.bool true) rfl ?_)
    refine s_nil ?_
    refine then_n ?_
    refine cE_ret ?_
    refine then_r ?_
    refine post_r _ (res1 (v := (.bool true)) rfl) ?_
    exact ⟨rfl, hst.bare⟩
  have c4 : ¬ (70 < (s.length : Int)) := of_decide_eq_false b1
  refine s_yes 28 rfl (congrArg Value.bool b1) (op_move v_g rfl ?_)
  refine s_yes 28 rfl (congrArg Value.bool b1) (op_len (E := aggE) (xs := g) Try.underlying23 rfl h_g ?_)
  refine s_yes 28 rfl (congrArg Value.bool b1) (op_gtr (k := .i64) (a := (g.length : Int)) (b := 70) rfl rfl ?_)
  refine s_cons (op_pick_f (.bool (decide (70 < (g.length : Int)))) (congrArg Value.bool b1) rfl ?_)
  refine s_cons (op_move (.bool (decide (70 < (g.length : Int)))) rfl ?_)
  rcases Bool.eq_false_or_eq_true (decide (70 < (g.length : Int))) with b5 | b5
  · have c6 : 70 < (g.length : Int) := of_decide_eq_true b5
    refine s_no 33 rfl (congrArg Value.bool b5) ?_
    refine s_no 33 rfl (congrArg Value.bool b5) ?_
    refine s_no 33 rfl (congrArg Value.bool b5) ?_
    refine s_cons (op_pick_t (.bool true) (congrArg Value.bool b5) rfl ?_)
    refine s_nil ?_
    refine then_n ?_
    refine cE_cond true rfl (fun _ => ?_) (fun h => by cases h)
    refine cE_seq ?_
    refine cE_region rfl ?_
    refine s_cons (op_call Try.call8 evs_nil (c_told6 (w0 := w0)) ?_)
    rintro _ w7 ⟨rfl, hcall⟩
    refine ⟨_, rfl, ?_⟩
    have hst : St w0 w7 [] := hst.call hcall
    refine s_cons (op_assign (.bool true) rfl ?_)
    refine s_nil ?_
    refine then_n ?_
    refine cE_ret ?_
    refine then_r ?_
    refine post_r _ (res1 (v := (.bool true)) rfl) ?_
    exact ⟨rfl, hst.bare⟩
  have c8 : ¬ (70 < (g.length : Int)) := of_decide_eq_false b5
  refine s_yes 33 rfl (congrArg Value.bool b5) (op_move v_b rfl ?_)
  refine s_yes 33 rfl (congrArg Value.bool b5) (op_len (E := u8E) (xs := b) Try.underlying24 rfl h_b ?_)
  refine s_yes 33 rfl (congrArg Value.bool b5) (op_gtr (k := .i64) (a := (b.length : Int)) (b := 300) rfl rfl ?_)
  refine s_cons (op_pick_f (.bool (decide (300 < (b.length : Int)))) (congrArg Value.bool b5) rfl ?_)
  refine s_nil ?_
  refine then_n ?_
  rcases Bool.eq_false_or_eq_true (decide (300 < (b.length : Int))) with b9 | b9
  · have c10 : 300 < (b.length : Int) := of_decide_eq_true b9
    refine cE_cond true (congrArg Value.bool b9) (fun _ => ?_) (fun h => by cases h)
    refine cE_seq ?_
    refine cE_region rfl ?_
    refine s_cons (op_call Try.call8 evs_nil (c_told6 (w0 := w0)) ?_)
    rintro _ w11 ⟨rfl, hcall⟩
    refine ⟨_, rfl, ?_⟩
    have hst : St w0 w11 [] := hst.call hcall
    refine s_cons (op_assign (.bool true) rfl ?_)
    refine s_nil ?_
    refine then_n ?_
    refine cE_ret ?_
    refine then_r ?_
    refine post_r _ (res1 (v := (.bool true)) rfl) ?_
    exact ⟨rfl, hst.bare⟩
  have c12 : ¬ (300 < (b.length : Int)) := of_decide_eq_false b9
  refine cE_cond false (congrArg Value.bool b9) (fun h => by cases h) (fun _ => ?_)
  refine cE_skip ?_
  refine then_n ?_
  refine cE_seq ?_
  refine cE_region rfl ?_
  refine s_cons (op_move v_s rfl ?_)
  refine s_cons (op_call Try.call9 (evs_cons (v := v_s) rfl evs_nil) (c_kPut (w0 := w0) (v_l := v_s) (l := s) (h_l := (h_s.below hst.below)) (hl := hs)) ?_)
  rintro _ w14 ⟨r13, rfl, hcall⟩
  refine ⟨_, rfl, ?_⟩
  have hst : St w0 w14 [rowT 5 u8E r13 ((encS s).1)] := hst.call hcall
  refine s_cons (op_move (.tuple #[r13, (.int .i64 ((encS s).2))]) rfl ?_)
  refine s_cons (op_extract r13 rfl rfl ?_)
  refine s_cons (op_extract (.int .i64 ((encS s).2)) rfl rfl ?_)
  refine s_cons (op_assign r13 rfl ?_)
  refine s_cons (op_assign (.int .i64 ((encS s).2)) rfl ?_)
  refine s_nil ?_
  refine then_n ?_
  refine cE_seq ?_
  refine cE_region rfl ?_
  refine s_cons (op_move v_s rfl ?_)
  refine s_cons (op_call Try.call10 (evs_cons (v := v_s) rfl evs_nil) (c_rPutBlock (w0 := w14) (v_l := v_s) (l := s) (h_l := (h_s.below hst.below)) (hl := hs)) ?_)
  rintro _ w15 ⟨rfl, hcall⟩
  refine ⟨_, rfl, ?_⟩
  have hst : St w0 w15 [rowT 5 u8E r13 ((encS s).1)] := hst.call hcall
  refine s_cons (op_move (.tuple #[(.string (str ((encS s).1))), (.int .i64 ((encS s).2))]) rfl ?_)
  refine s_cons (op_extract (.string (str ((encS s).1))) rfl rfl ?_)
  refine s_cons (op_extract (.int .i64 ((encS s).2)) rfl rfl ?_)
  refine s_cons (op_assign (.string (str ((encS s).1))) rfl ?_)
  refine s_cons (op_assign (.int .i64 ((encS s).2)) rfl ?_)
  refine s_nil ?_
  refine then_n ?_
  refine cE_seq ?_
  refine cE_region rfl ?_
  refine s_cons (op_move v_b rfl ?_)
  refine s_cons (op_call Try.call11 (evs_cons (v := v_b) rfl evs_nil) (c_kGet (w0 := w15) (v_b := v_b) (b := b) (h_b := (h_b.below hst.below)) (hl := (by omega))) ?_)
  rintro _ w20 ⟨r16, r17, r18, rfl, hcall, x19⟩
  refine ⟨_, rfl, ?_⟩
  have hst : St w0 w20 [rowT 48 sampE r16 r17, rowT 5 u8E r13 ((encS s).1)] := hst.call hcall
  refine s_cons (op_move (.tuple #[r16, (.int .i64 r18)]) rfl ?_)
  refine s_cons (op_extract r16 rfl rfl ?_)
  refine s_cons (op_extract (.int .i64 r18) rfl rfl ?_)
  refine s_cons (op_assign r16 rfl ?_)
  refine s_cons (op_assign (.int .i64 r18) rfl ?_)
  refine s_nil ?_
  refine then_n ?_
  refine cE_seq ?_
  refine cE_region rfl ?_
  refine s_cons (op_move v_b rfl ?_)
  refine s_cons (op_str (xs := b) Try.underlying24 Try.underlying5 Try.underlying9 rfl (h_b.below hst.below) ?_)
  refine s_cons (op_call Try.call12 (evs_cons (v := (.string (str b))) rfl evs_nil) (c_rGetBlock (w0 := w20) (b := b) (hl := (by omega))) ?_)
  rintro _ w25 ⟨r21, r22, r23, rfl, hcall, x24⟩
  refine ⟨_, rfl, ?_⟩
  have hst : St w0 w25 [rowT 48 sampE r21 r22, rowT 48 sampE r16 r17, rowT 5 u8E r13 ((encS s).1)] := hst.call hcall
  refine s_cons (op_move (.tuple #[r21, (.int .i64 r23)]) rfl ?_)
  refine s_cons (op_extract r21 rfl rfl ?_)
  refine s_cons (op_extract (.int .i64 r23) rfl rfl ?_)
  refine s_cons (op_assign r21 rfl ?_)
  refine s_cons (op_assign (.int .i64 r23) rfl ?_)
  refine s_nil ?_
  refine then_n ?_
  refine cE_seq ?_
  refine cE_region rfl ?_
  refine s_cons (op_move v_g rfl ?_)
  refine s_cons (op_move (.int .i64 k) rfl ?_)
  refine s_cons (op_call Try.call13 (evs_cons (v := v_g) rfl (evs_cons (v := (.int .i64 k)) rfl evs_nil)) (c_kPutAggs (w0 := w25) (v_l := v_g) (l := g) (h_l := (h_g.below hst.below)) (k := k) (hl := hg) (k0 := (by omega)) (k1 := (by omega))) ?_)
  rintro _ w27 ⟨r26, rfl, hcall⟩
  refine ⟨_, rfl, ?_⟩
  have hst : St w0 w27 [rowT 5 u8E r26 ((encA k g).1), rowT 48 sampE r21 r22, rowT 48 sampE r16 r17, rowT 5 u8E r13 ((encS s).1)] := hst.call hcall
  refine s_cons (op_move (.tuple #[r26, (.int .i64 ((encA k g).2))]) rfl ?_)
  refine s_cons (op_extract r26 rfl rfl ?_)
  refine s_cons (op_extract (.int .i64 ((encA k g).2)) rfl rfl ?_)
  refine s_cons (op_assign r26 rfl ?_)
  refine s_cons (op_assign (.int .i64 ((encA k g).2)) rfl ?_)
  refine s_nil ?_
  refine then_n ?_
  refine cE_seq ?_
  refine cE_region rfl ?_
  refine s_cons (op_move v_g rfl ?_)
  refine s_cons (op_move (.int .i64 k) rfl ?_)
  refine s_cons (op_call Try.call14 (evs_cons (v := v_g) rfl (evs_cons (v := (.int .i64 k)) rfl evs_nil)) (c_rPutAggs (w0 := w27) (v_l := v_g) (l := g) (h_l := (h_g.below hst.below)) (k := k) (hl := hg) (k0 := (by omega)) (k1 := (by omega))) ?_)
  rintro _ w28 ⟨rfl, hcall⟩
  refine ⟨_, rfl, ?_⟩
  have hst : St w0 w28 [rowT 5 u8E r26 ((encA k g).1), rowT 48 sampE r21 r22, rowT 48 sampE r16 r17, rowT 5 u8E r13 ((encS s).1)] := hst.call hcall
  refine s_cons (op_move (.tuple #[(.string (str ((encA k g).1))), (.int .i64 ((encA k g).2))]) rfl ?_)
  refine s_cons (op_extract (.string (str ((encA k g).1))) rfl rfl ?_)
  refine s_cons (op_extract (.int .i64 ((encA k g).2)) rfl rfl ?_)
  refine s_cons (op_assign (.string (str ((encA k g).1))) rfl ?_)
  refine s_cons (op_assign (.int .i64 ((encA k g).2)) rfl ?_)
  refine s_nil ?_
  refine then_n ?_
  refine cE_seq ?_
  refine cE_region rfl ?_
  refine s_cons (op_move v_b rfl ?_)
  refine s_cons (op_move (.int .i64 k) rfl ?_)
  refine s_cons (op_call Try.call15 (evs_cons (v := v_b) rfl (evs_cons (v := (.int .i64 k)) rfl evs_nil)) (c_kGetAggs (w0 := w28) (v_b := v_b) (b := b) (h_b := (h_b.below hst.below)) (k := k) (hl := (by omega)) (k0 := (by omega)) (k1 := (by omega))) ?_)
  rintro _ w33 ⟨r29, r30, r31, rfl, hcall, x32⟩
  refine ⟨_, rfl, ?_⟩
  have hst : St w0 w33 [rowT 71 aggE r29 r30, rowT 5 u8E r26 ((encA k g).1), rowT 48 sampE r21 r22, rowT 48 sampE r16 r17, rowT 5 u8E r13 ((encS s).1)] := hst.call hcall
  refine s_cons (op_move (.tuple #[r29, (.int .i64 r31)]) rfl ?_)
  refine s_cons (op_extract r29 rfl rfl ?_)
  refine s_cons (op_extract (.int .i64 r31) rfl rfl ?_)
  refine s_cons (op_assign r29 rfl ?_)
  refine s_cons (op_assign (.int .i64 r31) rfl ?_)
  refine s_nil ?_
  refine then_n ?_
  refine cE_seq ?_
  refine cE_region rfl ?_
  refine s_cons (op_move v_b rfl ?_)
  refine s_cons (op_str (xs := b) Try.underlying24 Try.underlying5 Try.underlying9 rfl (h_b.below hst.below) ?_)
  refine s_cons (op_move (.int .i64 k) rfl ?_)
  refine s_cons (op_call Try.call16 (evs_cons (v := (.string (str b))) rfl (evs_cons (v := (.int .i64 k)) rfl evs_nil)) (c_rGetAggs (w0 := w33) (b := b) (k := k) (hl := (by omega)) (k0 := (by omega)) (k1 := (by omega))) ?_)
  rintro _ w38 ⟨r34, r35, r36, rfl, hcall, x37⟩
  refine ⟨_, rfl, ?_⟩
  have hst : St w0 w38 [rowT 71 aggE r34 r35, rowT 71 aggE r29 r30, rowT 5 u8E r26 ((encA k g).1), rowT 48 sampE r21 r22, rowT 48 sampE r16 r17, rowT 5 u8E r13 ((encS s).1)] := hst.call hcall
  refine s_cons (op_move (.tuple #[r34, (.int .i64 r36)]) rfl ?_)
  refine s_cons (op_extract r34 rfl rfl ?_)
  refine s_cons (op_extract (.int .i64 r36) rfl rfl ?_)
  refine s_cons (op_assign r34 rfl ?_)
  refine s_cons (op_assign (.int .i64 r36) rfl ?_)
  refine s_nil ?_
  refine then_n ?_
  refine cE_seq ?_
  refine cE_region rfl ?_
  refine s_cons (op_call Try.call8 evs_nil (c_told6 (w0 := w38)) ?_)
  rintro _ w39 ⟨rfl, hcall⟩
  refine ⟨_, rfl, ?_⟩
  have hst : St w0 w39 [rowT 71 aggE r34 r35, rowT 71 aggE r29 r30, rowT 5 u8E r26 ((encA k g).1), rowT 48 sampE r21 r22, rowT 48 sampE r16 r17, rowT 5 u8E r13 ((encS s).1)] := hst.call hcall
  refine s_cons (op_move (.bool true) rfl ?_)
  refine s_yes 86 rfl rfl (op_move (.int .i64 ((encS s).2)) rfl ?_)
  refine s_yes 86 rfl rfl (op_move (.int .i64 ((encS s).2)) rfl ?_)
  refine s_yes 86 rfl rfl (op_eql (k := .i64) (a := (encS s).2) (b := (encS s).2) rfl rfl ?_)
  refine s_cons (op_pick_t (.bool (decide (((encS s).2) = ((encS s).2)))) rfl rfl ?_)
  refine s_cons (op_move (.bool (decide (((encS s).2) = ((encS s).2)))) rfl ?_)
  refine s_yes 91 rfl (congrArg Value.bool (show (decide (((encS s).2) = ((encS s).2))) = true from (decide_eq_true rfl))) (op_move r13 rfl ?_)
  refine s_yes 91 rfl (congrArg Value.bool (show (decide (((encS s).2) = ((encS s).2))) = true from (decide_eq_true rfl))) (op_str (xs := (encS s).1) Try.underlying24 Try.underlying5 Try.underlying9 rfl (hst.sl 5 rfl) ?_)
  refine s_yes 91 rfl (congrArg Value.bool (show (decide (((encS s).2) = ((encS s).2))) = true from (decide_eq_true rfl))) (op_move (.string (str ((encS s).1))) rfl ?_)
  refine s_yes 91 rfl (congrArg Value.bool (show (decide (((encS s).2) = ((encS s).2))) = true from (decide_eq_true rfl))) (op_eqlStr (a := (encS s).1) (b := (encS s).1) rfl rfl ?_)
  refine s_cons (op_pick_t (.bool (decide (((encS s).1) = ((encS s).1)))) (congrArg Value.bool (show (decide (((encS s).2) = ((encS s).2))) = true from (decide_eq_true rfl))) rfl ?_)
  refine s_cons (op_move (.bool (decide (((encS s).1) = ((encS s).1)))) rfl ?_)
  refine s_yes 97 rfl (congrArg Value.bool (show (decide (((encS s).1) = ((encS s).1))) = true from (decide_eq_true rfl))) (op_move (.int .i64 r18) rfl ?_)
  refine s_yes 97 rfl (congrArg Value.bool (show (decide (((encS s).1) = ((encS s).1))) = true from (decide_eq_true rfl))) (op_move (.int .i64 r23) rfl ?_)
  refine s_yes 97 rfl (congrArg Value.bool (show (decide (((encS s).1) = ((encS s).1))) = true from (decide_eq_true rfl))) (op_eql (k := .i64) (a := r18) (b := r23) rfl rfl ?_)
  refine s_cons (op_pick_t (.bool (decide (r18 = r23))) (congrArg Value.bool (show (decide (((encS s).1) = ((encS s).1))) = true from (decide_eq_true rfl))) rfl ?_)
  refine s_cons (op_move (.bool (decide (r18 = r23))) rfl ?_)
  refine s_yes 102 rfl (congrArg Value.bool (show (decide (r18 = r23)) = true from (decide_eq_true (by first | exact (decS_one (by assumption) (by assumption)).2 | exact (decA_one (by assumption) (by assumption)).2 | exact (decS_one (by assumption) (by assumption)).1 | exact (decA_one (by assumption) (by assumption)).1)))) (op_move r16 rfl ?_)
  refine s_yes 102 rfl (congrArg Value.bool (show (decide (r18 = r23)) = true from (decide_eq_true (by first | exact (decS_one (by assumption) (by assumption)).2 | exact (decA_one (by assumption) (by assumption)).2 | exact (decS_one (by assumption) (by assumption)).1 | exact (decA_one (by assumption) (by assumption)).1)))) (op_move r21 rfl ?_)
  refine s_yes 102 rfl (congrArg Value.bool (show (decide (r18 = r23)) = true from (decide_eq_true (by first | exact (decS_one (by assumption) (by assumption)).2 | exact (decA_one (by assumption) (by assumption)).2 | exact (decS_one (by assumption) (by assumption)).1 | exact (decA_one (by assumption) (by assumption)).1)))) (op_call Try.call17 (evs_cons (v := r16) rfl (evs_cons (v := r21) rfl evs_nil)) (c_SameSamples (w0 := w39) (v_a := r16) (a := r17) (h_a := (hst.sl 4 rfl)) (v_b := r21) (b := r22) (h_b := (hst.sl 3 rfl))) ?_)
  rintro _ w40 ⟨rfl, hcall⟩
  refine ⟨_, rfl, ?_⟩
  have hst : St w0 w40 [rowT 71 aggE r34 r35, rowT 71 aggE r29 r30, rowT 5 u8E r26 ((encA k g).1), rowT 48 sampE r21 r22, rowT 48 sampE r16 r17, rowT 5 u8E r13 ((encS s).1)] := hst.call hcall
  refine s_cons (op_pick_t (.bool (decide (r17 = r22))) (congrArg Value.bool (show (decide (r18 = r23)) = true from (decide_eq_true (by first | exact (decS_one (by assumption) (by assumption)).2 | exact (decA_one (by assumption) (by assumption)).2 | exact (decS_one (by assumption) (by assumption)).1 | exact (decA_one (by assumption) (by assumption)).1)))) rfl ?_)
  refine s_cons (op_move (.bool (decide (r17 = r22))) rfl ?_)
  refine s_yes 107 rfl (congrArg Value.bool (show (decide (r17 = r22)) = true from (decide_eq_true (by first | exact (decS_one (by assumption) (by assumption)).2 | exact (decA_one (by assumption) (by assumption)).2 | exact (decS_one (by assumption) (by assumption)).1 | exact (decA_one (by assumption) (by assumption)).1)))) (op_move (.int .i64 ((encA k g).2)) rfl ?_)
  refine s_yes 107 rfl (congrArg Value.bool (show (decide (r17 = r22)) = true from (decide_eq_true (by first | exact (decS_one (by assumption) (by assumption)).2 | exact (decA_one (by assumption) (by assumption)).2 | exact (decS_one (by assumption) (by assumption)).1 | exact (decA_one (by assumption) (by assumption)).1)))) (op_move (.int .i64 ((encA k g).2)) rfl ?_)
  refine s_yes 107 rfl (congrArg Value.bool (show (decide (r17 = r22)) = true from (decide_eq_true (by first | exact (decS_one (by assumption) (by assumption)).2 | exact (decA_one (by assumption) (by assumption)).2 | exact (decS_one (by assumption) (by assumption)).1 | exact (decA_one (by assumption) (by assumption)).1)))) (op_eql (k := .i64) (a := (encA k g).2) (b := (encA k g).2) rfl rfl ?_)
  refine s_cons (op_pick_t (.bool (decide (((encA k g).2) = ((encA k g).2)))) (congrArg Value.bool (show (decide (r17 = r22)) = true from (decide_eq_true (by first | exact (decS_one (by assumption) (by assumption)).2 | exact (decA_one (by assumption) (by assumption)).2 | exact (decS_one (by assumption) (by assumption)).1 | exact (decA_one (by assumption) (by assumption)).1)))) rfl ?_)
  refine s_cons (op_move (.bool (decide (((encA k g).2) = ((encA k g).2)))) rfl ?_)
  refine s_yes 112 rfl (congrArg Value.bool (show (decide (((encA k g).2) = ((encA k g).2))) = true from (decide_eq_true rfl))) (op_move r26 rfl ?_)
  refine s_yes 112 rfl (congrArg Value.bool (show (decide (((encA k g).2) = ((encA k g).2))) = true from (decide_eq_true rfl))) (op_str (xs := (encA k g).1) Try.underlying24 Try.underlying5 Try.underlying9 rfl (hst.sl 2 rfl) ?_)
  refine s_yes 112 rfl (congrArg Value.bool (show (decide (((encA k g).2) = ((encA k g).2))) = true from (decide_eq_true rfl))) (op_move (.string (str ((encA k g).1))) rfl ?_)
  refine s_yes 112 rfl (congrArg Value.bool (show (decide (((encA k g).2) = ((encA k g).2))) = true from (decide_eq_true rfl))) (op_eqlStr (a := (encA k g).1) (b := (encA k g).1) rfl rfl ?_)
  refine s_cons (op_pick_t (.bool (decide (((encA k g).1) = ((encA k g).1)))) (congrArg Value.bool (show (decide (((encA k g).2) = ((encA k g).2))) = true from (decide_eq_true rfl))) rfl ?_)
  refine s_cons (op_move (.bool (decide (((encA k g).1) = ((encA k g).1)))) rfl ?_)
  refine s_yes 118 rfl (congrArg Value.bool (show (decide (((encA k g).1) = ((encA k g).1))) = true from (decide_eq_true rfl))) (op_move (.int .i64 r31) rfl ?_)
  refine s_yes 118 rfl (congrArg Value.bool (show (decide (((encA k g).1) = ((encA k g).1))) = true from (decide_eq_true rfl))) (op_move (.int .i64 r36) rfl ?_)
  refine s_yes 118 rfl (congrArg Value.bool (show (decide (((encA k g).1) = ((encA k g).1))) = true from (decide_eq_true rfl))) (op_eql (k := .i64) (a := r31) (b := r36) rfl rfl ?_)
  refine s_cons (op_pick_t (.bool (decide (r31 = r36))) (congrArg Value.bool (show (decide (((encA k g).1) = ((encA k g).1))) = true from (decide_eq_true rfl))) rfl ?_)
  refine s_cons (op_move (.bool (decide (r31 = r36))) rfl ?_)
  refine s_yes 123 rfl (congrArg Value.bool (show (decide (r31 = r36)) = true from (decide_eq_true (by first | exact (decS_one (by assumption) (by assumption)).2 | exact (decA_one (by assumption) (by assumption)).2 | exact (decS_one (by assumption) (by assumption)).1 | exact (decA_one (by assumption) (by assumption)).1)))) (op_move r29 rfl ?_)
  refine s_yes 123 rfl (congrArg Value.bool (show (decide (r31 = r36)) = true from (decide_eq_true (by first | exact (decS_one (by assumption) (by assumption)).2 | exact (decA_one (by assumption) (by assumption)).2 | exact (decS_one (by assumption) (by assumption)).1 | exact (decA_one (by assumption) (by assumption)).1)))) (op_move r34 rfl ?_)
  refine s_yes 123 rfl (congrArg Value.bool (show (decide (r31 = r36)) = true from (decide_eq_true (by first | exact (decS_one (by assumption) (by assumption)).2 | exact (decA_one (by assumption) (by assumption)).2 | exact (decS_one (by assumption) (by assumption)).1 | exact (decA_one (by assumption) (by assumption)).1)))) (op_call Try.call18 (evs_cons (v := r29) rfl (evs_cons (v := r34) rfl evs_nil)) (c_SameAggs (w0 := w40) (v_a := r29) (a := r30) (h_a := (hst.sl 1 rfl)) (v_b := r34) (b := r35) (h_b := (hst.sl 0 rfl))) ?_)
  rintro _ w41 ⟨rfl, hcall⟩
  refine ⟨_, rfl, ?_⟩
  have hst : St w0 w41 [rowT 71 aggE r34 r35, rowT 71 aggE r29 r30, rowT 5 u8E r26 ((encA k g).1), rowT 48 sampE r21 r22, rowT 48 sampE r16 r17, rowT 5 u8E r13 ((encS s).1)] := hst.call hcall
  refine s_cons (op_pick_t (.bool (decide (r30 = r35))) (congrArg Value.bool (show (decide (r31 = r36)) = true from (decide_eq_true (by first | exact (decS_one (by assumption) (by assumption)).2 | exact (decA_one (by assumption) (by assumption)).2 | exact (decS_one (by assumption) (by assumption)).1 | exact (decA_one (by assumption) (by assumption)).1)))) rfl ?_)
  refine s_cons (op_assign (.bool (decide (r30 = r35))) rfl ?_)
  refine s_nil ?_
  refine then_n ?_
  refine cE_ret ?_
  refine post_r _ (res1 (v := (.bool true)) (congrArg Value.bool (show (decide (r30 = r35)) = true from (decide_eq_true (by first | exact (decS_one (by assumption) (by assumption)).2 | exact (decA_one (by assumption) (by assumption)).2 | exact (decS_one (by assumption) (by assumption)).1 | exact (decA_one (by assumption) (by assumption)).1))))) ?_
  exact ⟨rfl, hst.bare⟩

end Go.Proofs.Ytpamjfbdgaamoaa
