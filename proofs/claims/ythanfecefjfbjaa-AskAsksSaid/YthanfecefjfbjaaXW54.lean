/- twinkeeplaw8.Few, twinkeeplaw22.AskAsks -/
import Derived.Test.YthanfecefjfbjaaXLA
import Derived.Test.YthanfecefjfbjaaXW53
import Derived.Test.YthanfecefjfbjaaXW47
import Derived.Test.YthanfecefjfbjaaXW51
import Derived.Test.YthanfecefjfbjaaXW52
import Derived.Test.YthanfecefjfbjaaXW35
import Derived.Test.YthanfecefjfbjaaXW33
import Derived.Test.YthanfecefjfbjaaXW37
import Derived.Test.YthanfecefjfbjaaXT
namespace Go.Proofs.Ythanfecefjfbjaa
open Go.RowKit

set_option maxRecDepth 8000 in
theorem c_Few (w0 : World) (s : Seg) (h_s : SegIn w0 s) :
  Calls Try.prog 10 #[(.agg #[(iV s.d.Id), (iV s.d.Tier), (iV s.d.From), (iV s.d.To), s.sv.1, s.av.1])] w0 fun e w' => e = .returned (.bool (fewB s.d)) ∧ St w0 w' [] := by
 refine calls_E (n := 13) (ts := [2]) Try.func10 rfl rfl rfl (by simp) ?_
 have hst := St.start w0
 refine cE_seq (cE_region rfl (s_cons (op_box (v := (.agg #[(iV s.d.Id), (iV s.d.Tier), (iV s.d.From), (iV s.d.To), s.sv.1, s.av.1])) (cs := #[(iV s.d.Id), (iV s.d.Tier), (iV s.d.From), (iV s.d.To), s.sv.1, s.av.1]) hst rfl rfl (fun g1 w2 hst _ => ?_))))
 refine s_cons (op_assign (.bool false) rfl (s_nil (then_n (cE_seq (cE_region rfl (s_cons (op_fieldAddr (s := 0) Try.underlying25 rfl rfl Try.sizeOf22 rfl (s_cons (op_load1 (u := s.sv.1) Try.isAgg22 rfl ((hst.cell 0 rfl).drop 4) (s_cons (op_len (E := sampE) (xs := s.d.Samples) Try.underlying22 rfl h_s.1 (s_cons (op_leq (k := .i64) (a := (s.d.Samples.length : Int)) (b := 70) rfl rfl ?_)))))))))))))
 refine s_cons (op_move (.bool (decide ((s.d.Samples.length : Int) ≤ 70))) rfl ?_)
 obtain ⟨g3, hg4⟩ : ∃ x : Bool, x = decide ((s.d.Samples.length : Int) ≤ 70) := ⟨_, rfl⟩
 refine s_lz 7 rfl ((gA_t rfl).trans hg4.symm) (Rlz g3 (.pointer (some ⟨g1, (0 + 5), none⟩)) w2) ?_ (fun hc5 => rlz_f hc5) ?_
 ·intro hc5
  refine op_fieldAddr (s := 0) Try.underlying25 rfl rfl Try.sizeOf23 rfl ?_
  exact rlz_t hc5
 rintro _ _ ⟨rfl, rfl⟩
 refine s_lz 7 rfl ((gA_t rfl).trans hg4.symm) (Rlz g3 s.av.1 w2) ?_ (fun hc6 => rlz_f hc6) ?_
 ·intro hc6
  refine op_load1 (u := s.av.1) Try.isAgg23 (gt hc6) ((hst.cell 0 rfl).drop 5) ?_
  exact rlz_t hc6
 rintro _ _ ⟨rfl, rfl⟩
 refine s_lz 7 rfl ((gA_t rfl).trans hg4.symm) (Rlz g3 (iV (s.d.Aggs.length : Int)) w2) ?_ (fun hc7 => rlz_f hc7) ?_
 ·intro hc7
  have c8 : (s.d.Samples.length : Int) ≤ 70 := of_decide_eq_true (hg4.symm.trans hc7)
  refine op_len (E := aggE) (xs := s.d.Aggs) Try.underlying23 (gt hc7) h_s.2 ?_
  exact rlz_t hc7
 rintro _ _ ⟨rfl, rfl⟩
 refine s_lz 7 rfl ((gA_t rfl).trans hg4.symm) (Rlz g3 (.bool (decide ((s.d.Aggs.length : Int) ≤ 70))) w2) ?_ (fun hc9 => rlz_f hc9) ?_
 ·intro hc9
  refine op_leq (k := .i64) (a := (s.d.Aggs.length : Int)) (b := 70) (gt hc9) rfl ?_
  exact rlz_t hc9
 rintro _ _ ⟨rfl, rfl⟩
 obtain ⟨g10, hg11⟩ : ∃ x : Bool, x = ((decide ((s.d.Samples.length : Int) ≤ 70)) && (decide ((s.d.Aggs.length : Int) ≤ 70))) := ⟨_, rfl⟩
 refine s_cons (op_pick_and rfl rfl (fun hp => (hg4.trans hp)) rfl (s_cons (op_assign (.bool g10) (congrArg Value.bool hg11.symm) (s_nil (then_n (cE_ret (post_r _ (res1 (v := (.bool g10)) rfl) ?_)))))))
 exact ⟨(retv1 (congrArg Value.bool (show g10 = (fewB s.d) from by (rw [hg11]; rfl)))), hst.bare⟩

set_option maxRecDepth 8000 in
set_option maxHeartbeats 8000000 in
theorem c_AskAsks (w0 : World) (a : Seg) (h_a : SegIn w0 a) (b : Seg) (h_b : SegIn w0 b) (v_l : Value) (l : List Info) (h_l : Sl w0 infoE v_l l) (v_head : Value) (head : List Sample) (h_head : Sl w0 sampE v_head head) (fr : Int) (to : Int) (hao : a.d.ok) (hbo : b.d.ok) (hho : ∀ s ∈ head, s.ok) (fr0 : -9223372036854775808 ≤ fr) (to0 : -9223372036854775808 ≤ to) (fr1 : fr ≤ 9223372036854775807) (to1 : to ≤ 9223372036854775807) :
  Calls Try.prog 3 #[(.agg #[(iV a.d.Id), (iV a.d.Tier), (iV a.d.From), (iV a.d.To), a.sv.1, a.av.1]), (.agg #[(iV b.d.Id), (iV b.d.Tier), (iV b.d.From), (iV b.d.To), b.sv.1, b.av.1]), v_l, v_head, (iV fr), (iV to)] w0 fun e w' => e = .returned (.bool true) ∧ St w0 w' [] := by
 refine calls_E (n := 98) (ts := [12]) Try.func3 rfl rfl rfl (by simp) ?_
 have hst := St.start w0
 refine cE_seq (cE_region rfl (s_cons (op_box (v := (.agg #[(iV a.d.Id), (iV a.d.Tier), (iV a.d.From), (iV a.d.To), a.sv.1, a.av.1])) (cs := #[(iV a.d.Id), (iV a.d.Tier), (iV a.d.From), (iV a.d.To), a.sv.1, a.av.1]) hst rfl rfl (fun g12 w13 hst _ => ?_))))
 refine s_cons (op_box (v := (.agg #[(iV b.d.Id), (iV b.d.Tier), (iV b.d.From), (iV b.d.To), b.sv.1, b.av.1])) (cs := #[(iV b.d.Id), (iV b.d.Tier), (iV b.d.From), (iV b.d.To), b.sv.1, b.av.1]) hst rfl rfl (fun g14 w15 hst _ => ?_))
 refine s_cons (op_assign (.bool false) rfl (s_nil (then_n (cE_seq (cE_seq (cE_region rfl (s_cons (op_loadN (cs := [(iV a.d.Id), (iV a.d.Tier), (iV a.d.From), (iV a.d.To), a.sv.1, a.av.1]) Try.isAgg25 Try.sizeOf25 rfl (Pt.of (hst.cell 1 rfl) rfl) rfl (s_cons (op_call Try.call10 (evs_cons (v := (.agg #[(iV a.d.Id), (iV a.d.Tier), (iV a.d.From), (iV a.d.To), a.sv.1, a.av.1])) rfl evs_nil) (c_Few (w0 := w15) (s := a) (h_s := ⟨(h_a.1.below hst.below), (h_a.2.below hst.below)⟩)) ?_))))))))))
 rintro _ w16 ⟨rfl, hcall⟩
 refine ⟨_, rfl, ?_⟩
 have hst := hst.call hcall
 refine s_cons (op_not (b := (fewB a.d)) rfl (s_cons (op_move (.bool (!(fewB a.d))) rfl (s_lz 24 rfl (gA_f rfl) (Rlz (!(!(fewB a.d))) (.agg #[(iV b.d.Id), (iV b.d.Tier), (iV b.d.From), (iV b.d.To), b.sv.1, b.av.1]) w16) ?_ (fun hc17 => rlz_f hc17) ?_))))
 ·intro hc17
  refine op_loadN (cs := [(iV b.d.Id), (iV b.d.Tier), (iV b.d.From), (iV b.d.To), b.sv.1, b.av.1]) Try.isAgg25 Try.sizeOf25 rfl (Pt.of (hst.cell 0 rfl) rfl) rfl ?_
  exact rlz_t hc17
 rintro _ _ ⟨rfl, rfl⟩
 refine s_lz 24 rfl (gA_f rfl) (RlzW (!(!(fewB a.d))) (.bool (fewB b.d)) w0 [.blk g14 25 #[(iV b.d.Id), (iV b.d.Tier), (iV b.d.From), (iV b.d.To), b.sv.1, b.av.1], .blk g12 25 #[(iV a.d.Id), (iV a.d.Tier), (iV a.d.From), (iV a.d.To), a.sv.1, a.av.1]]) ?_ (fun hc18 => ⟨(gf hc18).symm, hst⟩) ?_
 ·intro hc18
  have c19 : (fewB a.d) = true := (not_f (not_t hc18))
  refine op_call Try.call10 (evs_cons (v := (.agg #[(iV b.d.Id), (iV b.d.Tier), (iV b.d.From), (iV b.d.To), b.sv.1, b.av.1])) (gt (congrArg (! ·) (congrArg (! ·) c19))) evs_nil) (c_Few (w0 := w16) (s := b) (h_s := ⟨(h_b.1.below hst.below), (h_b.2.below hst.below)⟩)) ?_
  rintro _ w20 ⟨rfl, hcall⟩
  refine ⟨_, rfl, ?_⟩
  have hst := hst.call hcall
  exact ⟨(gt hc18).symm, hst⟩
 rintro _ w21 ⟨rfl, hst⟩
 refine s_lz 24 rfl (gA_f rfl) (Rlz (!(!(fewB a.d))) (.bool (!(fewB b.d))) w21) ?_ (fun hc22 => rlz_f hc22) ?_
 ·intro hc22
  have c23 : (fewB a.d) = true := (not_f (not_t hc22))
  refine op_not (b := (fewB b.d)) (gt (congrArg (! ·) (congrArg (! ·) c23))) ?_
  exact rlz_t hc22
 rintro _ _ ⟨rfl, rfl⟩
 obtain ⟨g24, hg25⟩ : ∃ x : Bool, x = ((!(fewB a.d)) || (!(fewB b.d))) := ⟨_, rfl⟩
 refine s_cons (op_pick_or rfl rfl rfl (fun hp => (congrArg (! ·) (congrArg (! ·) (not_f hp)))) (s_cons (op_move (.bool g24) (congrArg Value.bool hg25.symm) (s_lz 29 rfl (gA_f rfl) (Rlz (!g24) v_l w21) ?_ (fun hc26 => rlz_f hc26) ?_))))
 ·intro hc26
  refine op_move v_l rfl ?_
  exact rlz_t hc26
 rintro _ _ ⟨rfl, rfl⟩
 refine s_lz 29 rfl (gA_f rfl) (Rlz (!g24) (iV (l.length : Int)) w21) ?_ (fun hc27 => rlz_f hc27) ?_
 ·intro hc27
  have c28 : (fewB a.d) = true := (not_f (or_l (hg25.symm.trans (not_t hc27))))
  have c29 : (fewB b.d) = true := (not_f (or_r (hg25.symm.trans (not_t hc27))))
  refine op_len (E := infoE) (xs := l) Try.underlying26 (gt (congrArg (! ·) (not_t hc27))) h_l ?_
  exact rlz_t hc27
 rintro _ _ ⟨rfl, rfl⟩
 refine s_lz 29 rfl (gA_f rfl) (Rlz (!g24) (.bool (decide (30 < (l.length : Int)))) w21) ?_ (fun hc30 => rlz_f hc30) ?_
 ·intro hc30
  refine op_gtr (k := .i64) (a := (l.length : Int)) (b := 30) (gt (congrArg (! ·) (not_t hc30))) rfl ?_
  exact rlz_t hc30
 rintro _ _ ⟨rfl, rfl⟩
 obtain ⟨g31, hg32⟩ : ∃ x : Bool, x = (g24 || (decide (30 < (l.length : Int)))) := ⟨_, rfl⟩
 refine s_cons (op_pick_or rfl rfl rfl (fun hp => (congrArg (! ·) hp)) (s_cons (op_move (.bool g31) (congrArg Value.bool hg32.symm) (s_lz 34 rfl (gA_f rfl) (Rlz (!g31) v_head w21) ?_ (fun hc33 => rlz_f hc33) ?_))))
 ·intro hc33
  refine op_move v_head rfl ?_
  exact rlz_t hc33
 rintro _ _ ⟨rfl, rfl⟩
 refine s_lz 34 rfl (gA_f rfl) (Rlz (!g31) (iV (head.length : Int)) w21) ?_ (fun hc34 => rlz_f hc34) ?_
 ·intro hc34
  have c35 : (fewB a.d) = true := (not_f (or_l (hg25.symm.trans (or_l (hg32.symm.trans (not_t hc34))))))
  have c36 : (fewB b.d) = true := (not_f (or_r (hg25.symm.trans (or_l (hg32.symm.trans (not_t hc34))))))
  have c37 : ¬ (30 < (l.length : Int)) := of_decide_eq_false (or_r (hg32.symm.trans (not_t hc34)))
  refine op_len (E := sampE) (xs := head) Try.underlying22 (gt (congrArg (! ·) (not_t hc34))) h_head ?_
  exact rlz_t hc34
 rintro _ _ ⟨rfl, rfl⟩
 refine s_lz 34 rfl (gA_f rfl) (Rlz (!g31) (.bool (decide (20 < (head.length : Int)))) w21) ?_ (fun hc38 => rlz_f hc38) ?_
 ·intro hc38
  refine op_gtr (k := .i64) (a := (head.length : Int)) (b := 20) (gt (congrArg (! ·) (not_t hc38))) rfl ?_
  exact rlz_t hc38
 rintro _ _ ⟨rfl, rfl⟩
 obtain ⟨g39, hg40⟩ : ∃ x : Bool, x = (g31 || (decide (20 < (head.length : Int)))) := ⟨_, rfl⟩
 refine s_cons (op_pick_or rfl rfl rfl (fun hp => (congrArg (! ·) hp)) (s_nil (then_n ?_)))
 rcases Bool.eq_false_or_eq_true g39 with b41 | b41
 ·have c42 : (((¬ ((fewB a.d) = true)) ∨ (¬ ((fewB b.d) = true))) ∨ (30 < (l.length : Int))) ∨ (20 < (head.length : Int)) := (pi_or (pi_name hg32 (pi_or (pi_name hg25 (pi_or (pi_not pi_self) (pi_not pi_self))) pi_dec)) pi_dec).1 (hg40.symm.trans b41)
  refine cE_cond true ((congrArg Value.bool hg40.symm).trans (congrArg Value.bool b41)) (fun _ => ?_) (fun h => by cases h)
  refine cE_seq (cE_region rfl (s_cons (op_call Try.call11 evs_nil (c_told22 (w0 := w21)) ?_)))
  rintro _ w43 ⟨rfl, hcall⟩
  refine ⟨_, rfl, ?_⟩
  have hst := hst.call hcall
  refine s_cons (op_assign (.bool true) rfl (s_nil (then_n (cE_ret (then_r (post_r _ (res1 (v := (.bool true)) rfl) ?_))))))
  exact ⟨rfl, hst.bare⟩
 have c44 : (fewB a.d) = true := (not_f (or_l (hg25.symm.trans (or_l (hg32.symm.trans (or_l (hg40.symm.trans b41)))))))
 have c45 : (fewB b.d) = true := (not_f (or_r (hg25.symm.trans (or_l (hg32.symm.trans (or_l (hg40.symm.trans b41)))))))
 have c46 : ¬ (30 < (l.length : Int)) := of_decide_eq_false (or_r (hg32.symm.trans (or_l (hg40.symm.trans b41))))
 have c47 : ¬ (20 < (head.length : Int)) := of_decide_eq_false (or_r (hg40.symm.trans b41))
 refine cE_cond false ((congrArg Value.bool hg40.symm).trans (congrArg Value.bool b41)) (fun h => by cases h) (fun _ => ?_)
 refine cE_skip (then_n (cE_seq (cE_region rfl (s_cons (op_loadN (cs := [(iV a.d.Id), (iV a.d.Tier), (iV a.d.From), (iV a.d.To), a.sv.1, a.av.1]) Try.isAgg25 Try.sizeOf25 rfl (Pt.of (hst.cell 1 rfl) rfl) rfl (s_cons (op_loadN (cs := [(iV b.d.Id), (iV b.d.Tier), (iV b.d.From), (iV b.d.To), b.sv.1, b.av.1]) Try.isAgg25 Try.sizeOf25 rfl (Pt.of (hst.cell 0 rfl) rfl) rfl (s_cons (op_buildSlice (E := segE) [a, b] hst Try.underlying32 Try.sizeOf25 Try.zeroValue25 (evp_cons (v := (.agg #[(iV a.d.Id), (iV a.d.Tier), (iV a.d.From), (iV a.d.To), a.sv.1, a.av.1])) rfl (evp_cons (v := (.agg #[(iV b.d.Id), (iV b.d.Tier), (iV b.d.From), (iV b.d.To), b.sv.1, b.av.1])) rfl evp_nil)) (parts_cons rfl (parts_cons rfl parts_nil)) rfl (by decide) (fun v48 w49 hst => ?_))))))))))
 refine s_cons (op_move v_head rfl (s_cons (op_move (iV fr) rfl (s_cons (op_move (iV to) rfl (s_cons (op_call Try.call12 (evs_cons (v := v48) rfl (evs_cons (v := v_head) rfl (evs_cons (v := (iV fr)) rfl (evs_cons (v := (iV to)) rfl evs_nil)))) (c_Range (w0 := w49) (v_segs := v48) (segs := [a, b]) (h_segs := (hst.sl 0 rfl)) (v_head := v_head) (head := head) (h_head := (h_head.below hst.below)) (fr := fr) (to := to) (hsg := (segsIn_two ⟨(h_a.1.below hst.below), (h_a.2.below hst.below)⟩ ⟨(h_b.1.below hst.below), (h_b.2.below hst.below)⟩)) (hso := (ok_two hao hbo)) (hho := hho) (fr0 := (by omega)) (to0 := (by omega)) (fr1 := (by omega)) (to1 := (by omega)) (hll := (by simp)) (hhl := (by omega)) (hbl := (hb_of (by simp)))) ?_)))))))
 rintro _ w51 ⟨r50, rfl, hcall⟩
 refine ⟨_, rfl, ?_⟩
 have hst := hst.call hcall
 refine s_cons (op_move (.tuple #[r50, (iV ((rangeW (ds ([a, b])) head fr to).2))]) rfl (s_cons (op_extract r50 rfl rfl (s_cons (op_extract (iV ((rangeW (ds ([a, b])) head fr to).2)) rfl rfl (s_cons (op_assign r50 rfl (s_cons (op_assign (iV ((rangeW (ds ([a, b])) head fr to).2)) rfl (s_nil (then_n (cE_seq (cE_region rfl (s_cons (op_loadN (cs := [(iV a.d.Id), (iV a.d.Tier), (iV a.d.From), (iV a.d.To), a.sv.1, a.av.1]) Try.isAgg25 Try.sizeOf25 rfl (Pt.of (hst.cell 3 rfl) rfl) rfl ?_)))))))))))))))
 refine s_cons (op_loadN (cs := [(iV b.d.Id), (iV b.d.Tier), (iV b.d.From), (iV b.d.To), b.sv.1, b.av.1]) Try.isAgg25 Try.sizeOf25 rfl (Pt.of (hst.cell 2 rfl) rfl) rfl (s_cons (op_buildSlice (E := segE) [a, b] hst Try.underlying32 Try.sizeOf25 Try.zeroValue25 (evp_cons (v := (.agg #[(iV a.d.Id), (iV a.d.Tier), (iV a.d.From), (iV a.d.To), a.sv.1, a.av.1])) rfl (evp_cons (v := (.agg #[(iV b.d.Id), (iV b.d.Tier), (iV b.d.From), (iV b.d.To), b.sv.1, b.av.1])) rfl evp_nil)) (parts_cons rfl (parts_cons rfl parts_nil)) rfl (by decide) (fun v52 w53 hst => ?_))))
 refine s_cons (op_move v_head rfl (s_cons (op_move (iV fr) rfl (s_cons (op_move (iV to) rfl (s_cons (op_call Try.call13 (evs_cons (v := v52) rfl (evs_cons (v := v_head) rfl (evs_cons (v := (iV fr)) rfl (evs_cons (v := (iV to)) rfl evs_nil)))) (c_rRange (w0 := w53) (v_segs := v52) (segs := [a, b]) (h_segs := (hst.sl 0 rfl)) (v_head := v_head) (head := head) (h_head := (h_head.below hst.below)) (fr := fr) (to := to) (hsg := (segsIn_two ⟨(h_a.1.below hst.below), (h_a.2.below hst.below)⟩ ⟨(h_b.1.below hst.below), (h_b.2.below hst.below)⟩)) (hso := (ok_two hao hbo)) (hho := hho) (fr0 := (by omega)) (to0 := (by omega)) (fr1 := (by omega)) (to1 := (by omega)) (hll := (by simp)) (hhl := (by omega))) ?_)))))))
 rintro _ w55 ⟨r54, rfl, hcall⟩
 refine ⟨_, rfl, ?_⟩
 have hst := hst.call hcall
 refine s_cons (op_move (.tuple #[r54, (iV ((rangeW (ds ([a, b])) head fr to).2))]) rfl (s_cons (op_extract r54 rfl rfl (s_cons (op_extract (iV ((rangeW (ds ([a, b])) head fr to).2)) rfl rfl (s_cons (op_assign r54 rfl (s_cons (op_assign (iV ((rangeW (ds ([a, b])) head fr to).2)) rfl (s_nil (then_n (cE_seq ?_))))))))))))
 have hwo : ∀ w ∈ (rangeW (ds ([a, b])) head fr to).1, w.Agg.ok := range_oks (ok_two hao hbo) hho
 refine cE_region rfl (s_cons (op_move r50 rfl (s_cons (op_call Try.call14 (evs_cons (v := r50) rfl evs_nil) (c_Total (w0 := w55) (v_l := r50) (l := (rangeW (ds ([a, b])) head fr to).1) (h_l := (hst.sl 2 rfl)) (hl := hwo)) ?_))))
 rintro _ w56 ⟨rfl, hcall⟩
 refine ⟨_, rfl, ?_⟩
 have hst := hst.call hcall
 refine s_cons (op_move (.tuple #[(.agg (aggA ((totW ((rangeW (ds ([a, b])) head fr to).1)).1))), (iV ((totW ((rangeW (ds ([a, b])) head fr to).1)).2))]) rfl (s_cons (op_extract (.agg (aggA ((totW ((rangeW (ds ([a, b])) head fr to).1)).1))) rfl rfl (s_cons (op_extract (iV ((totW ((rangeW (ds ([a, b])) head fr to).1)).2)) rfl rfl (s_cons (op_alloc (cs := #[(iV 0), (iV 0), (iV 0), (iV 0), (iV 0), (iV 0), (iV 0)]) hst Try.zeroValue37 rfl (fun g57 w58 hst _ => ?_))))))))
 refine s_cons0 (op_storeAll hst 0 rfl Try.sizeOf37 rfl rfl rfl rfl (by simp [Value.oneCell']) (fun w59 hst => ?_))
 refine s_cons (op_assign (iV ((totW ((rangeW (ds ([a, b])) head fr to).1)).2)) rfl (s_nil (then_n (cE_seq (cE_region rfl (s_cons (op_move r54 rfl (s_cons (op_call Try.call15 (evs_cons (v := r54) rfl evs_nil) (c_rTotal (w0 := w59) (v_l := r54) (l := (rangeW (ds ([a, b])) head fr to).1) (h_l := (hst.sl 1 rfl)) (hl := hwo)) ?_)))))))))
 rintro _ w60 ⟨rfl, hcall⟩
 refine ⟨_, rfl, ?_⟩
 have hst := hst.call hcall
 refine s_cons (op_move (.tuple #[(.agg (aggA ((totW ((rangeW (ds ([a, b])) head fr to).1)).1))), (iV ((totW ((rangeW (ds ([a, b])) head fr to).1)).2))]) rfl (s_cons (op_extract (.agg (aggA ((totW ((rangeW (ds ([a, b])) head fr to).1)).1))) rfl rfl (s_cons (op_extract (iV ((totW ((rangeW (ds ([a, b])) head fr to).1)).2)) rfl rfl (s_cons (op_alloc (cs := #[(iV 0), (iV 0), (iV 0), (iV 0), (iV 0), (iV 0), (iV 0)]) hst Try.zeroValue37 rfl (fun g61 w62 hst _ => ?_))))))))
 refine s_cons0 (op_storeAll hst 0 rfl Try.sizeOf37 rfl rfl rfl rfl (by simp [Value.oneCell']) (fun w63 hst => ?_))
 refine s_cons (op_assign (iV ((totW ((rangeW (ds ([a, b])) head fr to).1)).2)) rfl (s_nil (then_n (cE_seq (cE_region rfl (s_cons (op_call Try.call11 evs_nil (c_told22 (w0 := w63)) ?_)))))))
 rintro _ w64 ⟨rfl, hcall⟩
 refine ⟨_, rfl, ?_⟩
 have hst := hst.call hcall
 refine s_cons (op_move (.bool true) rfl (s_yes 71 rfl rfl (op_move (iV ((rangeW (ds ([a, b])) head fr to).2)) rfl (s_yes 71 rfl rfl (op_move (iV ((rangeW (ds ([a, b])) head fr to).2)) rfl (s_yes 71 rfl rfl (op_eql (k := .i64) (a := (rangeW (ds ([a, b])) head fr to).2) (b := (rangeW (ds ([a, b])) head fr to).2) rfl rfl (s_cons (op_pick_t (.bool (decide (((rangeW (ds ([a, b])) head fr to).2) = ((rangeW (ds ([a, b])) head fr to).2)))) rfl rfl ?_)))))))))
 refine s_cons (op_move (.bool (decide (((rangeW (ds ([a, b])) head fr to).2) = ((rangeW (ds ([a, b])) head fr to).2)))) rfl (s_yes 76 rfl (congrArg Value.bool (show (decide (((rangeW (ds ([a, b])) head fr to).2) = ((rangeW (ds ([a, b])) head fr to).2))) = true from (decide_eq_true rfl))) (op_move r50 rfl (s_yes 76 rfl (congrArg Value.bool (show (decide (((rangeW (ds ([a, b])) head fr to).2) = ((rangeW (ds ([a, b])) head fr to).2))) = true from (decide_eq_true rfl))) (op_move r54 rfl ?_)))))
 refine s_yes 76 rfl (congrArg Value.bool (show (decide (((rangeW (ds ([a, b])) head fr to).2) = ((rangeW (ds ([a, b])) head fr to).2))) = true from (decide_eq_true rfl))) (op_call Try.call16 (evs_cons (v := r50) rfl (evs_cons (v := r54) rfl evs_nil)) (c_wins (w0 := w64) (v_a := r50) (a := (rangeW (ds ([a, b])) head fr to).1) (h_a := (hst.sl 4 rfl)) (v_b := r54) (b := (rangeW (ds ([a, b])) head fr to).1) (h_b := (hst.sl 2 rfl))) ?_)
 rintro _ w65 ⟨rfl, hcall⟩
 refine ⟨_, rfl, ?_⟩
 have hst := hst.call hcall
 refine s_cons (op_pick_t (.bool (decide ((rangeW (ds ([a, b])) head fr to).1 = (rangeW (ds ([a, b])) head fr to).1))) (congrArg Value.bool (show (decide (((rangeW (ds ([a, b])) head fr to).2) = ((rangeW (ds ([a, b])) head fr to).2))) = true from (decide_eq_true rfl))) rfl (s_cons (op_move (.bool (decide ((rangeW (ds ([a, b])) head fr to).1 = (rangeW (ds ([a, b])) head fr to).1))) rfl (s_yes 81 rfl (congrArg Value.bool (show (decide ((rangeW (ds ([a, b])) head fr to).1 = (rangeW (ds ([a, b])) head fr to).1)) = true from (decide_eq_true rfl))) (op_loadN (cs := (aggC ((totW ((rangeW (ds ([a, b])) head fr to).1)).1))) Try.isAgg37 Try.sizeOf37 rfl (Pt.of (hst.cell 1 rfl) rfl) rfl ?_)))))
 refine s_yes 81 rfl (congrArg Value.bool (show (decide ((rangeW (ds ([a, b])) head fr to).1 = (rangeW (ds ([a, b])) head fr to).1)) = true from (decide_eq_true rfl))) (op_loadN (cs := (aggC ((totW ((rangeW (ds ([a, b])) head fr to).1)).1))) Try.isAgg37 Try.sizeOf37 rfl (Pt.of (hst.cell 0 rfl) rfl) rfl (s_yes 81 rfl (congrArg Value.bool (show (decide ((rangeW (ds ([a, b])) head fr to).1 = (rangeW (ds ([a, b])) head fr to).1)) = true from (decide_eq_true rfl))) (op_eqlG Try.eqGuardType37 (Try.eqAgg ((totW ((rangeW (ds ([a, b])) head fr to).1)).1) ((totW ((rangeW (ds ([a, b])) head fr to).1)).1) _) rfl rfl ?_)))
 refine s_cons (op_pick_t (.bool (decide (((totW ((rangeW (ds ([a, b])) head fr to).1)).1) = ((totW ((rangeW (ds ([a, b])) head fr to).1)).1)))) (congrArg Value.bool (show (decide ((rangeW (ds ([a, b])) head fr to).1 = (rangeW (ds ([a, b])) head fr to).1)) = true from (decide_eq_true rfl))) rfl (s_cons (op_move (.bool (decide (((totW ((rangeW (ds ([a, b])) head fr to).1)).1) = ((totW ((rangeW (ds ([a, b])) head fr to).1)).1)))) rfl ?_)))
 refine s_yes 86 rfl (congrArg Value.bool (show (decide (((totW ((rangeW (ds ([a, b])) head fr to).1)).1) = ((totW ((rangeW (ds ([a, b])) head fr to).1)).1))) = true from (decide_eq_true rfl))) (op_move (iV ((totW ((rangeW (ds ([a, b])) head fr to).1)).2)) rfl (s_yes 86 rfl (congrArg Value.bool (show (decide (((totW ((rangeW (ds ([a, b])) head fr to).1)).1) = ((totW ((rangeW (ds ([a, b])) head fr to).1)).1))) = true from (decide_eq_true rfl))) (op_move (iV ((totW ((rangeW (ds ([a, b])) head fr to).1)).2)) rfl ?_)))
 refine s_yes 86 rfl (congrArg Value.bool (show (decide (((totW ((rangeW (ds ([a, b])) head fr to).1)).1) = ((totW ((rangeW (ds ([a, b])) head fr to).1)).1))) = true from (decide_eq_true rfl))) (op_eql (k := .i64) (a := (totW ((rangeW (ds ([a, b])) head fr to).1)).2) (b := (totW ((rangeW (ds ([a, b])) head fr to).1)).2) rfl rfl (s_cons (op_pick_t (.bool (decide (((totW ((rangeW (ds ([a, b])) head fr to).1)).2) = ((totW ((rangeW (ds ([a, b])) head fr to).1)).2)))) (congrArg Value.bool (show (decide (((totW ((rangeW (ds ([a, b])) head fr to).1)).1) = ((totW ((rangeW (ds ([a, b])) head fr to).1)).1))) = true from (decide_eq_true rfl))) rfl ?_)))
 refine s_cons (op_move (.bool (decide (((totW ((rangeW (ds ([a, b])) head fr to).1)).2) = ((totW ((rangeW (ds ([a, b])) head fr to).1)).2)))) rfl (s_yes 91 rfl (congrArg Value.bool (show (decide (((totW ((rangeW (ds ([a, b])) head fr to).1)).2) = ((totW ((rangeW (ds ([a, b])) head fr to).1)).2))) = true from (decide_eq_true rfl))) (op_move v_l rfl (s_yes 91 rfl (congrArg Value.bool (show (decide (((totW ((rangeW (ds ([a, b])) head fr to).1)).2) = ((totW ((rangeW (ds ([a, b])) head fr to).1)).2))) = true from (decide_eq_true rfl))) (op_call Try.call18 (evs_cons (v := v_l) rfl evs_nil) (c_pickB (w0 := w65) (v_l := v_l) (l := l) (h_l := (h_l.below hst.below)) (hll := (by omega))) ?_)))))
 rintro _ w67 ⟨r66, rfl, hcall⟩
 refine ⟨_, rfl, ?_⟩
 have hst := hst.call hcall
 refine s_yes 91 rfl (congrArg Value.bool (show (decide (((totW ((rangeW (ds ([a, b])) head fr to).1)).2) = ((totW ((rangeW (ds ([a, b])) head fr to).1)).2))) = true from (decide_eq_true rfl))) (op_move v_l rfl (s_yes 91 rfl (congrArg Value.bool (show (decide (((totW ((rangeW (ds ([a, b])) head fr to).1)).2) = ((totW ((rangeW (ds ([a, b])) head fr to).1)).2))) = true from (decide_eq_true rfl))) (op_call Try.call19 (evs_cons (v := v_l) rfl evs_nil) (c_rPick (w0 := w67) (v_l := v_l) (l := l) (h_l := (h_l.below hst.below)) (hll := (by omega))) ?_)))
 rintro _ w69 ⟨r68, rfl, hcall⟩
 refine ⟨_, rfl, ?_⟩
 have hst := hst.call hcall
 refine s_yes 91 rfl (congrArg Value.bool (show (decide (((totW ((rangeW (ds ([a, b])) head fr to).1)).2) = ((totW ((rangeW (ds ([a, b])) head fr to).1)).2))) = true from (decide_eq_true rfl))) (op_call Try.call17 (evs_cons (v := r66) rfl (evs_cons (v := r68) rfl evs_nil)) (c_Ints (w0 := w69) (v_a := r66) (a := (pickI l)) (h_a := (hst.sl 1 rfl)) (v_b := r68) (b := (pickI l)) (h_b := (hst.sl 0 rfl))) ?_)
 rintro _ w70 ⟨rfl, hcall⟩
 refine ⟨_, rfl, ?_⟩
 have hst := hst.call hcall
 refine s_cons (op_pick_t (.bool (decide ((pickI l) = (pickI l)))) (congrArg Value.bool (show (decide (((totW ((rangeW (ds ([a, b])) head fr to).1)).2) = ((totW ((rangeW (ds ([a, b])) head fr to).1)).2))) = true from (decide_eq_true rfl))) rfl (s_cons (op_assign (.bool (decide ((pickI l) = (pickI l)))) rfl (s_nil (then_n (cE_ret (post_r _ (res1 (v := (.bool true)) (congrArg Value.bool (show (decide ((pickI l) = (pickI l))) = true from (decide_eq_true rfl)))) ?_)))))))
 exact ⟨rfl, hst.bare⟩

end Go.Proofs.Ythanfecefjfbjaa
