/- twinkeepref1.MayAgg, twinkeepref1.Width, twinkeepref1.Floor, twinkeepref1.Rising, twinkeepref1.Aligned -/
import Derived.Test.YtldfnkhccaglmaaXLA
import Derived.Test.YtldfnkhccaglmaaXT
namespace Go.Proofs.Ytldfnkhccaglmaa
open Go.RowKit

set_option maxRecDepth 8000 in
set_option maxHeartbeats 4000000 in
theorem c_rMay (w0 : World) (a : Agg) :
  Calls Try.prog 30 #[(.agg (aggA a))] w0 fun e w' => e = .returned (.bool (mayA a)) ∧ St w0 w' [] := by
 refine calls_E (n := 73) (ts := [2]) Try.func30 rfl rfl rfl (by simp) ?_
 have hst := St.start w0
 refine cE_seq (cE_region rfl (s_cons (op_box (v := (.agg (aggA a))) (cs := (aggA a)) hst rfl rfl (fun g1 w2 hst _ => ?_))))
 refine s_cons (op_assign (.bool false) rfl (s_nil (then_n (cE_seq (cE_seq (cE_region rfl (s_cons (op_fieldAddr (s := 0) Try.underlying29 rfl rfl Try.sizeOf2 rfl (s_cons (op_load1 (u := (iV a.Count)) Try.isAgg2 rfl ((hst.cell 0 rfl).drop 1) (s_cons (op_lss (k := .i64) (a := a.Count) (b := 1) rfl rfl (s_cons (op_move (.bool (decide (a.Count < 1))) rfl (s_lz 6 rfl (gA_f rfl) (Rlz (!(decide (a.Count < 1))) (.pointer (some ⟨g1, (0 + 1), none⟩)) w2) ?_ (fun hc3 => rlz_f hc3) ?_)))))))))))))))
 ·intro hc3
  refine op_fieldAddr (s := 0) Try.underlying29 rfl rfl Try.sizeOf2 rfl ?_
  exact rlz_t hc3
 rintro _ _ ⟨rfl, rfl⟩
 refine s_lz 6 rfl (gA_f rfl) (Rlz (!(decide (a.Count < 1))) (iV a.Count) w2) ?_ (fun hc4 => rlz_f hc4) ?_
 ·intro hc4
  refine op_load1 (u := (iV a.Count)) Try.isAgg2 (gt (congrArg (! ·) (not_t hc4))) ((hst.cell 0 rfl).drop 1) ?_
  exact rlz_t hc4
 rintro _ _ ⟨rfl, rfl⟩
 refine s_lz 6 rfl (gA_f rfl) (Rlz (!(decide (a.Count < 1))) (.bool (decide (1099511627776 < a.Count))) w2) ?_ (fun hc5 => rlz_f hc5) ?_
 ·intro hc5
  refine op_gtr (k := .i64) (a := a.Count) (b := 1099511627776) (gt (congrArg (! ·) (not_t hc5))) rfl ?_
  exact rlz_t hc5
 rintro _ _ ⟨rfl, rfl⟩
 obtain ⟨g6, hg7⟩ : ∃ x : Bool, x = ((decide (a.Count < 1)) || (decide (1099511627776 < a.Count))) := ⟨_, rfl⟩
 refine s_cons (op_pick_or rfl rfl rfl (fun hp => (congrArg (! ·) hp)) (s_cons (op_move (.bool g6) (congrArg Value.bool hg7.symm) (s_lz 11 rfl (gA_f rfl) (Rlz (!g6) (.pointer (some ⟨g1, (0 + 0), none⟩)) w2) ?_ (fun hc8 => rlz_f hc8) ?_))))
 ·intro hc8
  refine op_fieldAddr (s := 0) Try.underlying29 rfl rfl Try.sizeOf2 rfl ?_
  exact rlz_t hc8
 rintro _ _ ⟨rfl, rfl⟩
 refine s_lz 11 rfl (gA_f rfl) (Rlz (!g6) (iV a.From) w2) ?_ (fun hc9 => rlz_f hc9) ?_
 ·intro hc9
  refine op_load1 (u := (iV a.From)) Try.isAgg2 (gt (congrArg (! ·) (not_t hc9))) (hst.cell 0 rfl) ?_
  exact rlz_t hc9
 rintro _ _ ⟨rfl, rfl⟩
 refine s_lz 11 rfl (gA_f rfl) (Rlz (!g6) (.bool (decide (a.From < 0))) w2) ?_ (fun hc10 => rlz_f hc10) ?_
 ·intro hc10
  refine op_lss (k := .i64) (a := a.From) (b := 0) (gt (congrArg (! ·) (not_t hc10))) rfl ?_
  exact rlz_t hc10
 rintro _ _ ⟨rfl, rfl⟩
 obtain ⟨g11, hg12⟩ : ∃ x : Bool, x = (g6 || (decide (a.From < 0))) := ⟨_, rfl⟩
 refine s_cons (op_pick_or rfl rfl rfl (fun hp => (congrArg (! ·) hp)) (s_cons (op_move (.bool g11) (congrArg Value.bool hg12.symm) (s_lz 16 rfl (gA_f rfl) (Rlz (!g11) (.pointer (some ⟨g1, (0 + 0), none⟩)) w2) ?_ (fun hc13 => rlz_f hc13) ?_))))
 ·intro hc13
  refine op_fieldAddr (s := 0) Try.underlying29 rfl rfl Try.sizeOf2 rfl ?_
  exact rlz_t hc13
 rintro _ _ ⟨rfl, rfl⟩
 refine s_lz 16 rfl (gA_f rfl) (Rlz (!g11) (iV a.From) w2) ?_ (fun hc14 => rlz_f hc14) ?_
 ·intro hc14
  refine op_load1 (u := (iV a.From)) Try.isAgg2 (gt (congrArg (! ·) (not_t hc14))) (hst.cell 0 rfl) ?_
  exact rlz_t hc14
 rintro _ _ ⟨rfl, rfl⟩
 refine s_lz 16 rfl (gA_f rfl) (Rlz (!g11) (.bool (decide (1099511627776 < a.From))) w2) ?_ (fun hc15 => rlz_f hc15) ?_
 ·intro hc15
  refine op_gtr (k := .i64) (a := a.From) (b := 1099511627776) (gt (congrArg (! ·) (not_t hc15))) rfl ?_
  exact rlz_t hc15
 rintro _ _ ⟨rfl, rfl⟩
 obtain ⟨g16, hg17⟩ : ∃ x : Bool, x = (g11 || (decide (1099511627776 < a.From))) := ⟨_, rfl⟩
 refine s_cons (op_pick_or rfl rfl rfl (fun hp => (congrArg (! ·) hp)) (s_cons (op_move (.bool g16) (congrArg Value.bool hg17.symm) (s_lz 21 rfl (gA_f rfl) (Rlz (!g16) (.pointer (some ⟨g1, (0 + 3), none⟩)) w2) ?_ (fun hc18 => rlz_f hc18) ?_))))
 ·intro hc18
  refine op_fieldAddr (s := 0) Try.underlying29 rfl rfl Try.sizeOf2 rfl ?_
  exact rlz_t hc18
 rintro _ _ ⟨rfl, rfl⟩
 refine s_lz 21 rfl (gA_f rfl) (Rlz (!g16) (iV a.Min) w2) ?_ (fun hc19 => rlz_f hc19) ?_
 ·intro hc19
  refine op_load1 (u := (iV a.Min)) Try.isAgg2 (gt (congrArg (! ·) (not_t hc19))) ((hst.cell 0 rfl).drop 3) ?_
  exact rlz_t hc19
 rintro _ _ ⟨rfl, rfl⟩
 refine s_lz 21 rfl (gA_f rfl) (Rlz (!g16) (.pointer (some ⟨g1, (0 + 5), none⟩)) w2) ?_ (fun hc20 => rlz_f hc20) ?_
 ·intro hc20
  refine op_fieldAddr (s := 0) Try.underlying29 rfl rfl Try.sizeOf2 rfl ?_
  exact rlz_t hc20
 rintro _ _ ⟨rfl, rfl⟩
 refine s_lz 21 rfl (gA_f rfl) (Rlz (!g16) (iV a.First) w2) ?_ (fun hc21 => rlz_f hc21) ?_
 ·intro hc21
  refine op_load1 (u := (iV a.First)) Try.isAgg2 (gt (congrArg (! ·) (not_t hc21))) ((hst.cell 0 rfl).drop 5) ?_
  exact rlz_t hc21
 rintro _ _ ⟨rfl, rfl⟩
 refine s_lz 21 rfl (gA_f rfl) (Rlz (!g16) (.bool (decide (a.First < a.Min))) w2) ?_ (fun hc22 => rlz_f hc22) ?_
 ·intro hc22
  refine op_gtr (k := .i64) (a := a.Min) (b := a.First) (gt (congrArg (! ·) (not_t hc22))) (gt (congrArg (! ·) (not_t hc22))) ?_
  exact rlz_t hc22
 rintro _ _ ⟨rfl, rfl⟩
 obtain ⟨g23, hg24⟩ : ∃ x : Bool, x = (g16 || (decide (a.First < a.Min))) := ⟨_, rfl⟩
 refine s_cons (op_pick_or rfl rfl rfl (fun hp => (congrArg (! ·) hp)) (s_cons (op_move (.bool g23) (congrArg Value.bool hg24.symm) (s_lz 28 rfl (gA_f rfl) (Rlz (!g23) (.pointer (some ⟨g1, (0 + 3), none⟩)) w2) ?_ (fun hc25 => rlz_f hc25) ?_))))
 ·intro hc25
  refine op_fieldAddr (s := 0) Try.underlying29 rfl rfl Try.sizeOf2 rfl ?_
  exact rlz_t hc25
 rintro _ _ ⟨rfl, rfl⟩
 refine s_lz 28 rfl (gA_f rfl) (Rlz (!g23) (iV a.Min) w2) ?_ (fun hc26 => rlz_f hc26) ?_
 ·intro hc26
  refine op_load1 (u := (iV a.Min)) Try.isAgg2 (gt (congrArg (! ·) (not_t hc26))) ((hst.cell 0 rfl).drop 3) ?_
  exact rlz_t hc26
 rintro _ _ ⟨rfl, rfl⟩
 refine s_lz 28 rfl (gA_f rfl) (Rlz (!g23) (.pointer (some ⟨g1, (0 + 6), none⟩)) w2) ?_ (fun hc27 => rlz_f hc27) ?_
 ·intro hc27
  refine op_fieldAddr (s := 0) Try.underlying29 rfl rfl Try.sizeOf2 rfl ?_
  exact rlz_t hc27
 rintro _ _ ⟨rfl, rfl⟩
 refine s_lz 28 rfl (gA_f rfl) (Rlz (!g23) (iV a.Last) w2) ?_ (fun hc28 => rlz_f hc28) ?_
 ·intro hc28
  refine op_load1 (u := (iV a.Last)) Try.isAgg2 (gt (congrArg (! ·) (not_t hc28))) ((hst.cell 0 rfl).drop 6) ?_
  exact rlz_t hc28
 rintro _ _ ⟨rfl, rfl⟩
 refine s_lz 28 rfl (gA_f rfl) (Rlz (!g23) (.bool (decide (a.Last < a.Min))) w2) ?_ (fun hc29 => rlz_f hc29) ?_
 ·intro hc29
  refine op_gtr (k := .i64) (a := a.Min) (b := a.Last) (gt (congrArg (! ·) (not_t hc29))) (gt (congrArg (! ·) (not_t hc29))) ?_
  exact rlz_t hc29
 rintro _ _ ⟨rfl, rfl⟩
 obtain ⟨g30, hg31⟩ : ∃ x : Bool, x = (g23 || (decide (a.Last < a.Min))) := ⟨_, rfl⟩
 refine s_cons (op_pick_or rfl rfl rfl (fun hp => (congrArg (! ·) hp)) (s_cons (op_move (.bool g30) (congrArg Value.bool hg31.symm) (s_lz 35 rfl (gA_f rfl) (Rlz (!g30) (.pointer (some ⟨g1, (0 + 3), none⟩)) w2) ?_ (fun hc32 => rlz_f hc32) ?_))))
 ·intro hc32
  refine op_fieldAddr (s := 0) Try.underlying29 rfl rfl Try.sizeOf2 rfl ?_
  exact rlz_t hc32
 rintro _ _ ⟨rfl, rfl⟩
 refine s_lz 35 rfl (gA_f rfl) (Rlz (!g30) (iV a.Min) w2) ?_ (fun hc33 => rlz_f hc33) ?_
 ·intro hc33
  refine op_load1 (u := (iV a.Min)) Try.isAgg2 (gt (congrArg (! ·) (not_t hc33))) ((hst.cell 0 rfl).drop 3) ?_
  exact rlz_t hc33
 rintro _ _ ⟨rfl, rfl⟩
 refine s_lz 35 rfl (gA_f rfl) (Rlz (!g30) (.pointer (some ⟨g1, (0 + 4), none⟩)) w2) ?_ (fun hc34 => rlz_f hc34) ?_
 ·intro hc34
  refine op_fieldAddr (s := 0) Try.underlying29 rfl rfl Try.sizeOf2 rfl ?_
  exact rlz_t hc34
 rintro _ _ ⟨rfl, rfl⟩
 refine s_lz 35 rfl (gA_f rfl) (Rlz (!g30) (iV a.Max) w2) ?_ (fun hc35 => rlz_f hc35) ?_
 ·intro hc35
  refine op_load1 (u := (iV a.Max)) Try.isAgg2 (gt (congrArg (! ·) (not_t hc35))) ((hst.cell 0 rfl).drop 4) ?_
  exact rlz_t hc35
 rintro _ _ ⟨rfl, rfl⟩
 refine s_lz 35 rfl (gA_f rfl) (Rlz (!g30) (.bool (decide (a.Max < a.Min))) w2) ?_ (fun hc36 => rlz_f hc36) ?_
 ·intro hc36
  refine op_gtr (k := .i64) (a := a.Min) (b := a.Max) (gt (congrArg (! ·) (not_t hc36))) (gt (congrArg (! ·) (not_t hc36))) ?_
  exact rlz_t hc36
 rintro _ _ ⟨rfl, rfl⟩
 obtain ⟨g37, hg38⟩ : ∃ x : Bool, x = (g30 || (decide (a.Max < a.Min))) := ⟨_, rfl⟩
 refine s_cons (op_pick_or rfl rfl rfl (fun hp => (congrArg (! ·) hp)) (s_cons (op_move (.bool g37) (congrArg Value.bool hg38.symm) (s_lz 42 rfl (gA_f rfl) (Rlz (!g37) (.pointer (some ⟨g1, (0 + 4), none⟩)) w2) ?_ (fun hc39 => rlz_f hc39) ?_))))
 ·intro hc39
  refine op_fieldAddr (s := 0) Try.underlying29 rfl rfl Try.sizeOf2 rfl ?_
  exact rlz_t hc39
 rintro _ _ ⟨rfl, rfl⟩
 refine s_lz 42 rfl (gA_f rfl) (Rlz (!g37) (iV a.Max) w2) ?_ (fun hc40 => rlz_f hc40) ?_
 ·intro hc40
  refine op_load1 (u := (iV a.Max)) Try.isAgg2 (gt (congrArg (! ·) (not_t hc40))) ((hst.cell 0 rfl).drop 4) ?_
  exact rlz_t hc40
 rintro _ _ ⟨rfl, rfl⟩
 refine s_lz 42 rfl (gA_f rfl) (Rlz (!g37) (.pointer (some ⟨g1, (0 + 5), none⟩)) w2) ?_ (fun hc41 => rlz_f hc41) ?_
 ·intro hc41
  refine op_fieldAddr (s := 0) Try.underlying29 rfl rfl Try.sizeOf2 rfl ?_
  exact rlz_t hc41
 rintro _ _ ⟨rfl, rfl⟩
 refine s_lz 42 rfl (gA_f rfl) (Rlz (!g37) (iV a.First) w2) ?_ (fun hc42 => rlz_f hc42) ?_
 ·intro hc42
  refine op_load1 (u := (iV a.First)) Try.isAgg2 (gt (congrArg (! ·) (not_t hc42))) ((hst.cell 0 rfl).drop 5) ?_
  exact rlz_t hc42
 rintro _ _ ⟨rfl, rfl⟩
 refine s_lz 42 rfl (gA_f rfl) (Rlz (!g37) (.bool (decide (a.Max < a.First))) w2) ?_ (fun hc43 => rlz_f hc43) ?_
 ·intro hc43
  refine op_lss (k := .i64) (a := a.Max) (b := a.First) (gt (congrArg (! ·) (not_t hc43))) (gt (congrArg (! ·) (not_t hc43))) ?_
  exact rlz_t hc43
 rintro _ _ ⟨rfl, rfl⟩
 obtain ⟨g44, hg45⟩ : ∃ x : Bool, x = (g37 || (decide (a.Max < a.First))) := ⟨_, rfl⟩
 refine s_cons (op_pick_or rfl rfl rfl (fun hp => (congrArg (! ·) hp)) (s_cons (op_move (.bool g44) (congrArg Value.bool hg45.symm) (s_lz 49 rfl (gA_f rfl) (Rlz (!g44) (.pointer (some ⟨g1, (0 + 4), none⟩)) w2) ?_ (fun hc46 => rlz_f hc46) ?_))))
 ·intro hc46
  refine op_fieldAddr (s := 0) Try.underlying29 rfl rfl Try.sizeOf2 rfl ?_
  exact rlz_t hc46
 rintro _ _ ⟨rfl, rfl⟩
 refine s_lz 49 rfl (gA_f rfl) (Rlz (!g44) (iV a.Max) w2) ?_ (fun hc47 => rlz_f hc47) ?_
 ·intro hc47
  refine op_load1 (u := (iV a.Max)) Try.isAgg2 (gt (congrArg (! ·) (not_t hc47))) ((hst.cell 0 rfl).drop 4) ?_
  exact rlz_t hc47
 rintro _ _ ⟨rfl, rfl⟩
 refine s_lz 49 rfl (gA_f rfl) (Rlz (!g44) (.pointer (some ⟨g1, (0 + 6), none⟩)) w2) ?_ (fun hc48 => rlz_f hc48) ?_
 ·intro hc48
  refine op_fieldAddr (s := 0) Try.underlying29 rfl rfl Try.sizeOf2 rfl ?_
  exact rlz_t hc48
 rintro _ _ ⟨rfl, rfl⟩
 refine s_lz 49 rfl (gA_f rfl) (Rlz (!g44) (iV a.Last) w2) ?_ (fun hc49 => rlz_f hc49) ?_
 ·intro hc49
  refine op_load1 (u := (iV a.Last)) Try.isAgg2 (gt (congrArg (! ·) (not_t hc49))) ((hst.cell 0 rfl).drop 6) ?_
  exact rlz_t hc49
 rintro _ _ ⟨rfl, rfl⟩
 refine s_lz 49 rfl (gA_f rfl) (Rlz (!g44) (.bool (decide (a.Max < a.Last))) w2) ?_ (fun hc50 => rlz_f hc50) ?_
 ·intro hc50
  refine op_lss (k := .i64) (a := a.Max) (b := a.Last) (gt (congrArg (! ·) (not_t hc50))) (gt (congrArg (! ·) (not_t hc50))) ?_
  exact rlz_t hc50
 rintro _ _ ⟨rfl, rfl⟩
 obtain ⟨g51, hg52⟩ : ∃ x : Bool, x = (g44 || (decide (a.Max < a.Last))) := ⟨_, rfl⟩
 refine s_cons (op_pick_or rfl rfl rfl (fun hp => (congrArg (! ·) hp)) (s_nil (then_n ?_)))
 rcases Bool.eq_false_or_eq_true g51 with b53 | b53
 ·have c54 : ((((((((a.Count < 1) ∨ (1099511627776 < a.Count)) ∨ (a.From < 0)) ∨ (1099511627776 < a.From)) ∨ (a.First < a.Min)) ∨ (a.Last < a.Min)) ∨ (a.Max < a.Min)) ∨ (a.Max < a.First)) ∨ (a.Max < a.Last) := (pi_or (pi_name hg45 (pi_or (pi_name hg38 (pi_or (pi_name hg31 (pi_or (pi_name hg24 (pi_or (pi_name hg17 (pi_or (pi_name hg12 (pi_or (pi_name hg7 (pi_or pi_dec pi_dec)) pi_dec)) pi_dec)) pi_dec)) pi_dec)) pi_dec)) pi_dec)) pi_dec).1 (hg52.symm.trans b53)
  refine cE_cond true ((congrArg Value.bool hg52.symm).trans (congrArg Value.bool b53)) (fun _ => ?_) (fun h => by cases h)
  refine cE_seq (cE_region rfl (s_cons (op_assign (.bool false) rfl (s_nil (then_n (cE_ret (then_r (post_r _ (res1 (v := (.bool false)) rfl) ?_))))))))
  exact ⟨(retv1 (congrArg Value.bool (show false = (mayA a) from by (rw []; (rw [Bool.eq_iff_iff]; simp only [mayA, mayP, i64R, addB, agg_iff, true_and, and_true, decide_eq_true_eq, Bool.or_eq_true, Bool.and_eq_true, Bool.not_eq_true', decide_eq_false_iff_not, Bool.false_eq_true, true_iff, false_iff]; omega))))), hst.bare⟩
 have c55 : ¬ (a.Count < 1) := of_decide_eq_false (or_l (hg7.symm.trans (or_l (hg12.symm.trans (or_l (hg17.symm.trans (or_l (hg24.symm.trans (or_l (hg31.symm.trans (or_l (hg38.symm.trans (or_l (hg45.symm.trans (or_l (hg52.symm.trans b53))))))))))))))))
 have c56 : ¬ (1099511627776 < a.Count) := of_decide_eq_false (or_r (hg7.symm.trans (or_l (hg12.symm.trans (or_l (hg17.symm.trans (or_l (hg24.symm.trans (or_l (hg31.symm.trans (or_l (hg38.symm.trans (or_l (hg45.symm.trans (or_l (hg52.symm.trans b53))))))))))))))))
 have c57 : ¬ (a.From < 0) := of_decide_eq_false (or_r (hg12.symm.trans (or_l (hg17.symm.trans (or_l (hg24.symm.trans (or_l (hg31.symm.trans (or_l (hg38.symm.trans (or_l (hg45.symm.trans (or_l (hg52.symm.trans b53))))))))))))))
 have c58 : ¬ (1099511627776 < a.From) := of_decide_eq_false (or_r (hg17.symm.trans (or_l (hg24.symm.trans (or_l (hg31.symm.trans (or_l (hg38.symm.trans (or_l (hg45.symm.trans (or_l (hg52.symm.trans b53))))))))))))
 have c59 : ¬ (a.First < a.Min) := of_decide_eq_false (or_r (hg24.symm.trans (or_l (hg31.symm.trans (or_l (hg38.symm.trans (or_l (hg45.symm.trans (or_l (hg52.symm.trans b53))))))))))
 have c60 : ¬ (a.Last < a.Min) := of_decide_eq_false (or_r (hg31.symm.trans (or_l (hg38.symm.trans (or_l (hg45.symm.trans (or_l (hg52.symm.trans b53))))))))
 have c61 : ¬ (a.Max < a.Min) := of_decide_eq_false (or_r (hg38.symm.trans (or_l (hg45.symm.trans (or_l (hg52.symm.trans b53))))))
 have c62 : ¬ (a.Max < a.First) := of_decide_eq_false (or_r (hg45.symm.trans (or_l (hg52.symm.trans b53))))
 have c63 : ¬ (a.Max < a.Last) := of_decide_eq_false (or_r (hg52.symm.trans b53))
 refine cE_cond false ((congrArg Value.bool hg52.symm).trans (congrArg Value.bool b53)) (fun h => by cases h) (fun _ => ?_)
 refine cE_skip (then_n (cE_seq (cE_region rfl (s_cons (op_fieldAddr (s := 0) Try.underlying29 rfl rfl Try.sizeOf2 rfl (s_cons (op_load1 (u := (iV a.Count)) Try.isAgg2 rfl ((hst.cell 0 rfl).drop 1) (s_cons (op_gtr (k := .i64) (a := a.Count) (b := 1) rfl rfl (s_cons (op_move (.bool (decide (1 < a.Count))) rfl (s_lz 59 rfl (gA_f rfl) (Rlz (!(decide (1 < a.Count))) (.pointer (some ⟨g1, (0 + 2), none⟩)) w2) ?_ (fun hc64 => rlz_f hc64) ?_))))))))))))
 ·intro hc64
  refine op_fieldAddr (s := 0) Try.underlying29 rfl rfl Try.sizeOf2 rfl ?_
  exact rlz_t hc64
 rintro _ _ ⟨rfl, rfl⟩
 refine s_lz 59 rfl (gA_f rfl) (Rlz (!(decide (1 < a.Count))) (iV a.Sum) w2) ?_ (fun hc65 => rlz_f hc65) ?_
 ·intro hc65
  refine op_load1 (u := (iV a.Sum)) Try.isAgg2 (gt (congrArg (! ·) (not_t hc65))) ((hst.cell 0 rfl).drop 2) ?_
  exact rlz_t hc65
 rintro _ _ ⟨rfl, rfl⟩
 refine s_lz 59 rfl (gA_f rfl) (Rlz (!(decide (1 < a.Count))) (.pointer (some ⟨g1, (0 + 3), none⟩)) w2) ?_ (fun hc66 => rlz_f hc66) ?_
 ·intro hc66
  refine op_fieldAddr (s := 0) Try.underlying29 rfl rfl Try.sizeOf2 rfl ?_
  exact rlz_t hc66
 rintro _ _ ⟨rfl, rfl⟩
 refine s_lz 59 rfl (gA_f rfl) (Rlz (!(decide (1 < a.Count))) (iV a.Min) w2) ?_ (fun hc67 => rlz_f hc67) ?_
 ·intro hc67
  refine op_load1 (u := (iV a.Min)) Try.isAgg2 (gt (congrArg (! ·) (not_t hc67))) ((hst.cell 0 rfl).drop 3) ?_
  exact rlz_t hc67
 rintro _ _ ⟨rfl, rfl⟩
 refine s_lz 59 rfl (gA_f rfl) (Rlz (!(decide (1 < a.Count))) (.bool (decide (a.Sum = a.Min))) w2) ?_ (fun hc68 => rlz_f hc68) ?_
 ·intro hc68
  refine op_eql (k := .i64) (a := a.Sum) (b := a.Min) (gt (congrArg (! ·) (not_t hc68))) (gt (congrArg (! ·) (not_t hc68))) ?_
  exact rlz_t hc68
 rintro _ _ ⟨rfl, rfl⟩
 refine s_lz 59 rfl (gA_f rfl) (Rlz (!(decide (1 < a.Count))) (.bool (decide (a.Sum = a.Min))) w2) ?_ (fun hc69 => rlz_f hc69) ?_
 ·intro hc69
  refine op_move (.bool (decide (a.Sum = a.Min))) (gt (congrArg (! ·) (not_t hc69))) ?_
  exact rlz_t hc69
 rintro _ _ ⟨rfl, rfl⟩
 obtain ⟨g70, hg71⟩ : ∃ x : Bool, x = ((!(decide (1 < a.Count))) && (decide (a.Sum = a.Min))) := ⟨_, rfl⟩
 refine s_lz 65 rfl ((gB_t rfl).trans hg71.symm) (Rlz g70 (.pointer (some ⟨g1, (0 + 3), none⟩)) w2) ?_ (fun hc72 => rlz_f hc72) ?_
 ·intro hc72
  refine op_fieldAddr (s := 0) Try.underlying29 rfl rfl Try.sizeOf2 rfl ?_
  exact rlz_t hc72
 rintro _ _ ⟨rfl, rfl⟩
 refine s_lz 65 rfl ((gB_t rfl).trans hg71.symm) (Rlz g70 (iV a.Min) w2) ?_ (fun hc73 => rlz_f hc73) ?_
 ·intro hc73
  refine op_load1 (u := (iV a.Min)) Try.isAgg2 (gt hc73) ((hst.cell 0 rfl).drop 3) ?_
  exact rlz_t hc73
 rintro _ _ ⟨rfl, rfl⟩
 refine s_lz 65 rfl ((gB_t rfl).trans hg71.symm) (Rlz g70 (.pointer (some ⟨g1, (0 + 4), none⟩)) w2) ?_ (fun hc74 => rlz_f hc74) ?_
 ·intro hc74
  refine op_fieldAddr (s := 0) Try.underlying29 rfl rfl Try.sizeOf2 rfl ?_
  exact rlz_t hc74
 rintro _ _ ⟨rfl, rfl⟩
 refine s_lz 65 rfl ((gB_t rfl).trans hg71.symm) (Rlz g70 (iV a.Max) w2) ?_ (fun hc75 => rlz_f hc75) ?_
 ·intro hc75
  refine op_load1 (u := (iV a.Max)) Try.isAgg2 (gt hc75) ((hst.cell 0 rfl).drop 4) ?_
  exact rlz_t hc75
 rintro _ _ ⟨rfl, rfl⟩
 refine s_lz 65 rfl ((gB_t rfl).trans hg71.symm) (Rlz g70 (.bool (decide (a.Min = a.Max))) w2) ?_ (fun hc76 => rlz_f hc76) ?_
 ·intro hc76
  refine op_eql (k := .i64) (a := a.Min) (b := a.Max) (gt hc76) (gt hc76) ?_
  exact rlz_t hc76
 rintro _ _ ⟨rfl, rfl⟩
 obtain ⟨g79, hg80⟩ : ∃ x : Bool, x = ((decide (a.Sum = a.Min)) && (decide (a.Min = a.Max))) := ⟨_, rfl⟩
 refine s_lz 59 rfl (gA_f rfl) (Rlz (!(decide (1 < a.Count))) (.bool g79) w2) ?_ (fun hc77 => rlz_f hc77) ?_
 ·intro hc77
  refine op_pick_and (gt (congrArg (! ·) (not_t hc77))) rfl (fun hp => (hg71.trans (and_i (congrArg (! ·) (not_t hc77)) hp))) rfl ?_
  exact rlz_n hg80 hc77
 rintro _ _ ⟨rfl, rfl⟩
 obtain ⟨g78, hg79⟩ : ∃ x : Bool, x = ((decide (1 < a.Count)) || g79) := ⟨_, rfl⟩
 refine s_cons (op_pick_or rfl rfl rfl (fun hp => (congrArg (! ·) hp)) (s_cons (op_assign (.bool g78) (congrArg Value.bool hg79.symm) (s_nil (then_n (cE_ret (post_r _ (res1 (v := (.bool g78)) rfl) ?_)))))))
 exact ⟨(retv1 (congrArg Value.bool (show g78 = (mayA a) from by (rw [hg79, hg80]; (rw [Bool.eq_iff_iff]; simp only [mayA, mayP, i64R, addB, agg_iff, true_and, and_true, decide_eq_true_eq, Bool.or_eq_true, Bool.and_eq_true, Bool.not_eq_true', decide_eq_false_iff_not, Bool.false_eq_true, true_iff, false_iff]; omega))))), hst.bare⟩

set_option maxRecDepth 8000 in
theorem c_rWidth (w0 : World) (k : Int) (k0 : -9223372036854775808 ≤ k) (k1 : k ≤ 9223372036854775807) :
  Calls Try.prog 32 #[(iV k)] w0 fun e w' => e = .returned (iV (widthA k)) ∧ St w0 w' [] := by
 refine calls_E (n := 12) (ts := [2]) Try.func32 rfl rfl rfl (by simp) ?_
 have hst := St.start w0
 refine cE_seq (cE_region rfl (s_cons (op_assign (iV 0) rfl (s_nil (then_n (cE_seq (cE_seq (cE_region rfl (s_cons (op_move (iV k) rfl (s_nil (then_n (cE_block (cE_seq (cE_region rfl (s_cons (op_eql (k := .i64) (a := k) (b := 0) rfl rfl (s_cons (op_assign (.bool (decide (k = 0))) rfl (s_nil (then_n ?_)))))))))))))))))))))
 rcases Bool.eq_false_or_eq_true (decide (k = 0)) with b80 | b80
 ·have c81 := of_decide_eq_true b80
  refine cE_cond true (congrArg Value.bool b80) (fun _ => ?_) (fun h => by cases h)
  refine cE_seq (cE_region rfl (s_cons (op_assign (iV 1) rfl (s_nil (then_n (cE_ret (block_r (then_r (post_r _ (res1 (v := (iV 1)) rfl) ?_)))))))))
  exact ⟨(retv1 (congrArg iV (show 1 = (widthA k) from by (unfold widthA; (repeat' split) <;> omega)))), hst.bare⟩
 have c82 := of_decide_eq_false b80
 refine cE_cond false (congrArg Value.bool b80) (fun h => by cases h) (fun _ => ?_)
 refine cE_seq (cE_region rfl (s_cons (op_eql (k := .i64) (a := k) (b := 1) rfl rfl (s_cons (op_assign (.bool (decide (k = 1))) rfl (s_nil (then_n ?_)))))))
 rcases Bool.eq_false_or_eq_true (decide (k = 1)) with b83 | b83
 ·have c84 := of_decide_eq_true b83
  refine cE_cond true (congrArg Value.bool b83) (fun _ => ?_) (fun h => by cases h)
  refine cE_seq (cE_region rfl (s_cons (op_assign (iV 5) rfl (s_nil (then_n (cE_ret (block_r (then_r (post_r _ (res1 (v := (iV 5)) rfl) ?_)))))))))
  exact ⟨(retv1 (congrArg iV (show 5 = (widthA k) from by (unfold widthA; (repeat' split) <;> omega)))), hst.bare⟩
 have c85 := of_decide_eq_false b83
 refine cE_cond false (congrArg Value.bool b83) (fun h => by cases h) (fun _ => ?_)
 refine cE_seq (cE_region rfl (s_cons (op_eql (k := .i64) (a := k) (b := 2) rfl rfl (s_cons (op_assign (.bool (decide (k = 2))) rfl (s_nil (then_n ?_)))))))
 rcases Bool.eq_false_or_eq_true (decide (k = 2)) with b86 | b86
 ·have c87 := of_decide_eq_true b86
  refine cE_cond true (congrArg Value.bool b86) (fun _ => ?_) (fun h => by cases h)
  refine cE_seq (cE_region rfl (s_cons (op_assign (iV 60) rfl (s_nil (then_n (cE_ret (block_r (then_r (post_r _ (res1 (v := (iV 60)) rfl) ?_)))))))))
  exact ⟨(retv1 (congrArg iV (show 60 = (widthA k) from by (unfold widthA; (repeat' split) <;> omega)))), hst.bare⟩
 have c88 := of_decide_eq_false b86
 refine cE_cond false (congrArg Value.bool b86) (fun h => by cases h) (fun _ => ?_)
 refine cE_seq (cE_region rfl (s_cons (op_eql (k := .i64) (a := k) (b := 3) rfl rfl (s_cons (op_assign (.bool (decide (k = 3))) rfl (s_nil (then_n ?_)))))))
 rcases Bool.eq_false_or_eq_true (decide (k = 3)) with b89 | b89
 ·have c90 := of_decide_eq_true b89
  refine cE_cond true (congrArg Value.bool b89) (fun _ => ?_) (fun h => by cases h)
  refine cE_seq (cE_region rfl (s_cons (op_assign (iV 1440) rfl (s_nil (then_n (cE_ret (block_r (then_r (post_r _ (res1 (v := (iV 1440)) rfl) ?_)))))))))
  exact ⟨(retv1 (congrArg iV (show 1440 = (widthA k) from by (unfold widthA; (repeat' split) <;> omega)))), hst.bare⟩
 have c91 := of_decide_eq_false b89
 refine cE_cond false (congrArg Value.bool b89) (fun h => by cases h) (fun _ => ?_)
 refine cE_skip (block_n (then_n (cE_seq (cE_region rfl (s_cons (op_assign (iV 0) rfl (s_nil (then_n (cE_ret (post_r _ (res1 (v := (iV 0)) rfl) ?_))))))))))
 exact ⟨(retv1 (congrArg iV (show 0 = (widthA k) from by (unfold widthA; (repeat' split) <;> omega)))), hst.bare⟩

set_option maxRecDepth 8000 in
theorem c_rFloor (w0 : World) (t : Int) (k : Int) (t0 : -9223372036854775808 ≤ t) (k0 : -9223372036854775808 ≤ k) (t1 : t ≤ 9223372036854775807) (k1 : k ≤ 9223372036854775807) :
  Calls Try.prog 31 #[(iV t), (iV k)] w0 fun e w' => e = .returned (iV (floorA t k)) ∧ St w0 w' [] := by
 have hw := width_r k
 refine calls_E (n := 22) (ts := [4]) Try.func31 rfl rfl rfl (by simp) ?_
 have hst := St.start w0
 refine cE_seq (cE_region rfl (s_cons (op_assign (iV 0) rfl (s_nil (then_n (cE_seq (cE_seq (cE_region rfl (s_cons (op_move (iV t) rfl (s_cons (op_lss (k := .i64) (a := t) (b := 0) rfl rfl (s_cons (op_move (.bool (decide (t < 0))) rfl ?_))))))))))))))
 rcases Bool.eq_false_or_eq_true (decide (t < 0)) with b92 | b92
 ·have c93 := of_decide_eq_true b92
  refine s_no 7 rfl (congrArg Value.bool b92) (s_no 7 rfl (congrArg Value.bool b92) (s_cons (op_pick_t (.bool true) (congrArg Value.bool b92) rfl (s_cons (op_move (.bool true) rfl (s_no 11 rfl rfl (s_no 11 rfl rfl (s_no 11 rfl rfl (s_cons (op_pick_t (.bool true) rfl rfl (s_nil (then_n (cE_cond true rfl (fun _ => ?_) (fun h => by cases h))))))))))))))
  refine cE_seq (cE_region rfl (s_cons (op_assign (iV (-1)) rfl (s_nil (then_n (cE_ret (then_r (post_r _ (res1 (v := (iV (-1))) rfl) ?_))))))))
  exact ⟨(retv1 (congrArg iV (show (-1) = (floorA t k) from by exact (floor_none (by omega)).symm))), hst.bare⟩
 have c94 := of_decide_eq_false b92
 refine s_yes 7 rfl (congrArg Value.bool b92) (op_move (iV t) rfl (s_yes 7 rfl (congrArg Value.bool b92) (op_gtr (k := .i64) (a := t) (b := 1099511627776) rfl rfl (s_cons (op_pick_f (.bool (decide (1099511627776 < t))) (congrArg Value.bool b92) rfl (s_cons (op_move (.bool (decide (1099511627776 < t))) rfl ?_)))))))
 rcases Bool.eq_false_or_eq_true (decide (1099511627776 < t)) with b95 | b95
 ·have c96 := of_decide_eq_true b95
  refine s_no 11 rfl (congrArg Value.bool b95) (s_no 11 rfl (congrArg Value.bool b95) (s_no 11 rfl (congrArg Value.bool b95) (s_cons (op_pick_t (.bool true) (congrArg Value.bool b95) rfl (s_nil (then_n (cE_cond true rfl (fun _ => ?_) (fun h => by cases h))))))))
  refine cE_seq (cE_region rfl (s_cons (op_assign (iV (-1)) rfl (s_nil (then_n (cE_ret (then_r (post_r _ (res1 (v := (iV (-1))) rfl) ?_))))))))
  exact ⟨(retv1 (congrArg iV (show (-1) = (floorA t k) from by exact (floor_none (by omega)).symm))), hst.bare⟩
 have c97 := of_decide_eq_false b95
 refine s_yes 11 rfl (congrArg Value.bool b95) (op_move (iV k) rfl (s_yes 11 rfl (congrArg Value.bool b95) (op_call Try.call32 (evs_cons (v := (iV k)) rfl evs_nil) (c_rWidth (w0 := w0) (k := k) (k0 := (by omega)) (k1 := (by omega))) ?_)))
 rintro _ w98 ⟨rfl, hcall⟩
 refine ⟨_, rfl, ?_⟩
 have hst := hst.call hcall
 refine s_yes 11 rfl (congrArg Value.bool b95) (op_eql (k := .i64) (a := (widthA k)) (b := 0) rfl rfl (s_cons (op_pick_f (.bool (decide ((widthA k) = 0))) (congrArg Value.bool b95) rfl (s_nil (then_n ?_)))))
 rcases Bool.eq_false_or_eq_true (decide ((widthA k) = 0)) with b99 | b99
 ·have c100 := of_decide_eq_true b99
  refine cE_cond true (congrArg Value.bool b99) (fun _ => ?_) (fun h => by cases h)
  refine cE_seq (cE_region rfl (s_cons (op_assign (iV (-1)) rfl (s_nil (then_n (cE_ret (then_r (post_r _ (res1 (v := (iV (-1))) rfl) ?_))))))))
  exact ⟨(retv1 (congrArg iV (show (-1) = (floorA t k) from by exact (floor_none (by omega)).symm))), hst.bare⟩
 have c101 := of_decide_eq_false b99
 refine cE_cond false (congrArg Value.bool b99) (fun h => by cases h) (fun _ => ?_)
 refine cE_skip (then_n (cE_seq ?_))
 have hw2 := emod_w (t := t) (w := widthA k) (by omega) (by omega) hw.1
 refine cE_region rfl (s_cons (op_move (iV t) rfl (s_cons (op_move (iV t) rfl (s_cons (op_move (iV k) rfl (s_cons (op_call Try.call32 (evs_cons (v := (iV k)) rfl evs_nil) (c_rWidth (w0 := w98) (k := k) (k0 := (by omega)) (k1 := (by omega))) ?_))))))))
 rintro _ w102 ⟨rfl, hcall⟩
 refine ⟨_, rfl, ?_⟩
 have hst := hst.call hcall
 refine s_cons (op_rem (k := .i64) (a := t) (b := (widthA k)) (t % (widthA k)) rfl rfl (by omega) (tmod_nn (by omega)) (s_cons (op_sub (k := .i64) (a := t) (b := (t % (widthA k))) (t - (t % (widthA k))) rfl rfl (xi64 (by omega) (by omega)) (s_cons (op_assign (iV (t - (t % (widthA k)))) rfl (s_nil (then_n (cE_ret (post_r _ (res1 (v := (iV (t - (t % (widthA k))))) rfl) ?_)))))))))
 exact ⟨(retv1 (congrArg iV (show (t - (t % (widthA k))) = (floorA t k) from by exact (floor_some (by omega) (by omega) (by omega)).symm))), hst.bare⟩

set_option maxRecDepth 8000 in
theorem c_rRising (w0 : World) (v_l : Value) (l : List Sample) (h_l : Sl w0 sampE v_l l) (hl : ∀ s ∈ l, s.ok) :
  Calls Try.prog 23 #[v_l] w0 fun e w' => e = .returned (.bool (risingA l)) ∧ St w0 w' [] := by
 refine calls_E (n := 42) (ts := [2]) Try.func23 rfl rfl rfl (by simp) ?_
 have hst := St.start w0
 refine cE_seq (cE_region rfl (s_cons (op_assign (.bool false) rfl (s_nil (then_n (cE_seq (cE_seq (cE_region rfl (s_cons (op_assign (iV 0) rfl (s_nil (then_n (cE_block (cE_loop (fun (m : Nat) (ρ : Env) (w : World) => ∃ (i : Nat), m = l.length - i ∧ ρ 0 = v_l ∧ ρ 3 = (iV (i : Int)) ∧ St w0 w [] ∧ (i ≤ l.length) ∧ (-1 ≤ lastT l i) ∧ (risingA l = risesFrom (lastT l i) (l.drop i))) id _ ⟨0, rfl, rfl, (congrArg iV (show 0 = _ from by omega)), hst, (by omega), (by exact (by decide : (-1 : Int) ≤ -1)), (by rfl)⟩ ?_))))))))))))))
 rintro m104 ρ105 w106 ⟨i, hm104, q103_0, q103_3, hst, hi, hlt, hI⟩
 have hlen := h_l.len
 refine cE_seq (cE_seq (cE_region rfl (s_cons (op_move (iV (i : Int)) q103_3 (s_cons (op_move v_l q103_0 (s_cons (op_len (E := sampE) (xs := l) Try.underlying23 rfl h_l (s_cons (op_lss (k := .i64) (a := (i : Int)) (b := (l.length : Int)) rfl rfl (s_nil (then_n ?_))))))))))))
 rcases Bool.eq_false_or_eq_true (decide ((i : Int) < (l.length : Int))) with b107 | b107
 ·have c108 := of_decide_eq_true b107
  refine cE_cond true (congrArg Value.bool b107) (fun _ => ?_) (fun h => by cases h)
  refine cE_skip (then_n (cE_seq (cE_block (cE_seq ?_))))
  obtain ⟨g135, hg136⟩ : ∃ x : Bool, x = ((decide (((gd l i).T) < 0)) || (decide (1099511627776 < ((gd l i).T)))) := ⟨_, rfl⟩
  obtain ⟨g161, hg162⟩ : ∃ x : Bool, x = ((!g135) && (decide (0 < (i : Int)))) := ⟨_, rfl⟩
  obtain ⟨g361, hg362⟩ : ∃ x : Bool, x = ((decide (0 < (i : Int))) && (decide (((gd l i).T) ≤ ((gd l (i - 1)).T)))) := ⟨_, rfl⟩
  obtain ⟨g363, hg364⟩ : ∃ x : Bool, x = (g135 || g361) := ⟨_, rfl⟩
  refine cE_regionM (fun (D : Nat → Bool) (w : World) => St w0 w [] ∧ (St w0 w [])) [[(0, none)], [(3, none)], [(10, some 0), (11, some 1)], [(12, some 2)], [(13, some 3)], [(14, some 4)], [(15, some 5)], [(0, none), (16, some 6)], [(3, none), (16, some 6)], [(17, some 7), (18, some 8), (16, some 6)], [(19, some 9), (16, some 6)], [(20, some 10), (16, some 6)], [(21, some 11), (16, some 6)], [(16, some 6), (22, some 12)], [(23, some 13)], [(3, none), (24, some 14)], [(25, some 15), (24, some 14)], [(26, some 16), (24, some 14)], [(0, none), (27, some 17)], [(3, none), (27, some 17)], [(28, some 18), (29, some 19), (27, some 17)], [(30, some 20), (27, some 17)], [(31, some 21), (27, some 17)], [(0, none), (27, some 17)], [(3, none), (27, some 17)], [(34, some 24), (27, some 17)], [(33, some 23), (35, some 25), (27, some 17)], [(36, some 26), (27, some 17)], [(37, some 27), (27, some 17)], [(32, some 22), (38, some 28), (27, some 17)], [(27, some 17), (39, some 29), (24, some 14)], [(24, some 14), (40, some 30)]] [] [(kEq v_l), (kEq (iV (i : Int))), (kPt0 w0 [(iV ((gd l i).T)), (iV ((gd l i).V))]), (kPt0 w0 [(iV ((gd l i).T)), (iV ((gd l i).V))]), (kEq (iV ((gd l i).T))), (kEq (.bool (decide (((gd l i).T) < 0)))), (kEq (.bool (decide (((gd l i).T) < 0)))), (kEq (bif (!(decide (((gd l i).T) < 0))) then v_l else undef)), (kEq (bif (!(decide (((gd l i).T) < 0))) then (iV (i : Int)) else undef)), (kPtc w0 (!(decide (((gd l i).T) < 0))) [(iV ((gd l i).T)), (iV ((gd l i).V))]), (kPtc w0 (!(decide (((gd l i).T) < 0))) [(iV ((gd l i).T)), (iV ((gd l i).V))]), (kEq (bif (!(decide (((gd l i).T) < 0))) then (iV ((gd l i).T)) else undef)), (kEq (bif (!(decide (((gd l i).T) < 0))) then (.bool (decide (1099511627776 < ((gd l i).T)))) else undef)), (kEq (.bool g135)), (kEq (.bool g135)), (kEq (bif (!g135) then (iV (i : Int)) else undef)), (kEq (bif (!g135) then (.bool (decide (0 < (i : Int)))) else undef)), (kEq (bif (!g135) then (.bool (decide (0 < (i : Int)))) else undef)), (kEq (bif g161 then v_l else undef)), (kEq (bif g161 then (iV (i : Int)) else undef)), (kPtc w0 g161 [(iV ((gd l i).T)), (iV ((gd l i).V))]), (kPtc w0 g161 [(iV ((gd l i).T)), (iV ((gd l i).V))]), (kEq (bif g161 then (iV ((gd l i).T)) else undef)), (kEq (bif g161 then v_l else undef)), (kEq (bif g161 then (iV (i : Int)) else undef)), (kEq (bif g161 then (iV ((i : Int) - 1)) else undef)), (kPtc w0 g161 [(iV ((gd l (i - 1)).T)), (iV ((gd l (i - 1)).V))]), (kPtc w0 g161 [(iV ((gd l (i - 1)).T)), (iV ((gd l (i - 1)).V))]), (kEq (bif g161 then (iV ((gd l (i - 1)).T)) else undef)), (kEq (bif g161 then (.bool (decide (((gd l i).T) ≤ ((gd l (i - 1)).T)))) else undef)), (kEq (bif (!g135) then (.bool g361) else undef)), (kEq (.bool g363))] ⟨mEq, mEq, mPt0, mPt0, mEq, mEq, mEq, mEq, mEq, mPtc, mPtc, mEq, mEq, mEq, mEq, mEq, mEq, mEq, mEq, mEq, mPtc, mPtc, mEq, mEq, mEq, mEq, mPtc, mPtc, mEq, mEq, mEq, mEq, trivial⟩ (by kernel_rfl) rfl (by kernel_rfl) ⟨hst.drewW.sub .slnil, hst.drewW⟩ (fun hM => ⟨?_, ?_, ?_, ?_, ?_, ?_, ?_, ?_, ?_, ?_, ?_, ?_, ?_, ?_, ?_, ?_, ?_, ?_, ?_, ?_, ?_, ?_, ?_, ?_, ?_, ?_, ?_, ?_, ?_, ?_, ?_, ?_, trivial⟩) ?_
  ·rintro D ρo wo nD eD cD jD aD ⟨f0, _⟩
   exact go_plain (op_move v_l (f0.trans q103_0) (kN0 (i := 0) hM (by decide) (by exact jD) (by exact rfl)))
  ·rintro D ρo wo nD eD cD jD aD ⟨f3, _⟩
   exact go_plain (op_move (iV (i : Int)) (f3.trans q103_3) (kN0 (i := 1) hM (by decide) (by exact jD) (by exact rfl)))
  ·rintro D ρo wo nD eD cD jD aD ⟨f10, f11, _⟩
   refine go_plain (op_indexAddrD (E := sampE) (xs := l) i Try.underlying23 Try.sizeOf51 f10 h_l f11 (by omega) (by omega) (fun a366 o367 p368 => ?_))
   exact (kN0 (i := 2) hM (by decide) (by exact jD) (by exact ⟨_, _, rfl, p368⟩))
  ·rintro D ρo wo nD eD cD jD aD ⟨f12, _⟩
   obtain ⟨a369, o370, e371, p372⟩ := f12
   exact go_plain (op_fieldAddr (s := 0) Try.underlying51 rfl rfl Try.sizeOf2 e371 (kN0 (i := 3) hM (by decide) (by exact jD) (by exact ⟨_, _, rfl, p372⟩)))
  ·rintro D ρo wo nD eD cD jD aD ⟨f13, _⟩
   have hst := jD.2 
   obtain ⟨a373, o374, e375, p376⟩ := f13
   exact go_plain (op_load1 (u := (iV ((gd l i).T))) Try.isAgg2 e375 (p376.below hst.below) (kN0 (i := 4) hM (by decide) (by exact jD) (by exact rfl)))
  ·rintro D ρo wo nD eD cD jD aD ⟨f14, _⟩
   exact go_plain (op_lss (k := .i64) (a := (gd l i).T) (b := 0) f14 rfl (kN0 (i := 5) hM (by decide) (by exact jD) (by exact rfl)))
  ·rintro D ρo wo nD eD cD jD aD ⟨f15, _⟩
   exact go_plain (op_move (.bool (decide (((gd l i).T) < 0))) f15 (kN0 (i := 6) hM (by decide) (by exact jD) (by exact rfl)))
  ·rintro D ρo wo nD eD cD jD aD ⟨f0, f16, _⟩
   refine go_lz 16 rfl (gA_f f16) ?_ (fun hc377 => (kN0 (i := 7) hM (by decide) (by exact jD) (by exact (gf hc377).symm)))
   intro hc377
   exact id (op_move v_l (f0.trans q103_0) (kN0 (i := 7) hM (by decide) (by exact jD) (by exact (gt hc377).symm)))
  ·rintro D ρo wo nD eD cD jD aD ⟨f3, f16, _⟩
   refine go_lz 16 rfl (gA_f f16) ?_ (fun hc378 => (kN0 (i := 8) hM (by decide) (by exact jD) (by exact (gf hc378).symm)))
   intro hc378
   exact id (op_move (iV (i : Int)) (f3.trans q103_3) (kN0 (i := 8) hM (by decide) (by exact jD) (by exact (gt hc378).symm)))
  ·rintro D ρo wo nD eD cD jD aD ⟨f17, f18, f16, _⟩
   refine go_lz 16 rfl (gA_f f16) ?_ (fun hc379 => (kN0 (i := 9) hM (by decide) (by exact jD) (by exact fun h => absurd (show _ = true from h) (by rw [hc379]; decide))))
   intro hc379
   have c380 : ¬ (((gd l i).T) < 0) := of_decide_eq_false (not_t hc379)
   refine id (op_indexAddrD (E := sampE) (xs := l) i Try.underlying23 Try.sizeOf51 (f17.trans (gt (congrArg (! ·) (not_t hc379)))) h_l (f18.trans (gt (congrArg (! ·) (not_t hc379)))) (by omega) (by omega) (fun a381 o382 p383 => ?_))
   exact (kN0 (i := 9) hM (by decide) (by exact jD) (by exact fun _ => ⟨_, _, rfl, p383⟩))
  ·rintro D ρo wo nD eD cD jD aD ⟨f19, f16, _⟩
   refine go_lz 16 rfl (gA_f f16) ?_ (fun hc384 => (kN0 (i := 10) hM (by decide) (by exact jD) (by exact fun h => absurd (show _ = true from h) (by rw [hc384]; decide))))
   intro hc384
   obtain ⟨a385, o386, e387, p388⟩ := f19 (congrArg (! ·) (not_t hc384))
   exact id (op_fieldAddr (s := 0) Try.underlying51 rfl rfl Try.sizeOf2 e387 (kN0 (i := 10) hM (by decide) (by exact jD) (by exact fun _ => ⟨_, _, rfl, p388⟩)))
  ·rintro D ρo wo nD eD cD jD aD ⟨f20, f16, _⟩
   refine go_lz 16 rfl (gA_f f16) ?_ (fun hc389 => (kN0 (i := 11) hM (by decide) (by exact jD) (by exact (gf hc389).symm)))
   intro hc389
   have hst := jD.2 
   obtain ⟨a390, o391, e392, p393⟩ := f20 (congrArg (! ·) (not_t hc389))
   exact id (op_load1 (u := (iV ((gd l i).T))) Try.isAgg2 e392 (p393.below hst.below) (kN0 (i := 11) hM (by decide) (by exact jD) (by exact (gt hc389).symm)))
  ·rintro D ρo wo nD eD cD jD aD ⟨f21, f16, _⟩
   refine go_lz 16 rfl (gA_f f16) ?_ (fun hc394 => (kN0 (i := 12) hM (by decide) (by exact jD) (by exact (gf hc394).symm)))
   intro hc394
   exact id (op_gtr (k := .i64) (a := (gd l i).T) (b := 1099511627776) (f21.trans (gt (congrArg (! ·) (not_t hc394)))) rfl (kN0 (i := 12) hM (by decide) (by exact jD) (by exact (gt hc394).symm)))
  ·rintro D ρo wo nD eD cD jD aD ⟨f16, f22, _⟩
   refine go_plain (op_pick_or f16 rfl f22 (fun hp => (congrArg (! ·) hp)) ?_)
   exact (kN0 (i := 13) hM (by decide) (by exact jD) (by exact (congrArg Value.bool hg136.symm)))
  ·rintro D ρo wo nD eD cD jD aD ⟨f23, _⟩
   exact go_plain (op_move (.bool g135) f23 (kN0 (i := 14) hM (by decide) (by exact jD) (by exact rfl)))
  ·rintro D ρo wo nD eD cD jD aD ⟨f3, f24, _⟩
   refine go_lz 24 rfl (gA_f f24) ?_ (fun hc395 => (kN0 (i := 15) hM (by decide) (by exact jD) (by exact (gf hc395).symm)))
   intro hc395
   exact id (op_move (iV (i : Int)) (f3.trans q103_3) (kN0 (i := 15) hM (by decide) (by exact jD) (by exact (gt hc395).symm)))
  ·rintro D ρo wo nD eD cD jD aD ⟨f25, f24, _⟩
   refine go_lz 24 rfl (gA_f f24) ?_ (fun hc396 => (kN0 (i := 16) hM (by decide) (by exact jD) (by exact (gf hc396).symm)))
   intro hc396
   exact id (op_gtr (k := .i64) (a := (i : Int)) (b := 0) (f25.trans (gt (congrArg (! ·) (not_t hc396)))) rfl (kN0 (i := 16) hM (by decide) (by exact jD) (by exact (gt hc396).symm)))
  ·rintro D ρo wo nD eD cD jD aD ⟨f26, f24, _⟩
   refine go_lz 24 rfl (gA_f f24) ?_ (fun hc397 => (kN0 (i := 17) hM (by decide) (by exact jD) (by exact (gf hc397).symm)))
   intro hc397
   exact id (op_move (.bool (decide (0 < (i : Int)))) (f26.trans (gt (congrArg (! ·) (not_t hc397)))) (kN0 (i := 17) hM (by decide) (by exact jD) (by exact (gt hc397).symm)))
  ·rintro D ρo wo nD eD cD jD aD ⟨f0, f27, _⟩
   refine go_lz 27 rfl ((gB_t f27).trans hg162.symm) ?_ (fun hc398 => (kN0 (i := 18) hM (by decide) (by exact jD) (by exact (gf hc398).symm)))
   intro hc398
   exact id (op_move v_l (f0.trans q103_0) (kN0 (i := 18) hM (by decide) (by exact jD) (by exact (gt hc398).symm)))
  ·rintro D ρo wo nD eD cD jD aD ⟨f3, f27, _⟩
   refine go_lz 27 rfl ((gB_t f27).trans hg162.symm) ?_ (fun hc399 => (kN0 (i := 19) hM (by decide) (by exact jD) (by exact (gf hc399).symm)))
   intro hc399
   exact id (op_move (iV (i : Int)) (f3.trans q103_3) (kN0 (i := 19) hM (by decide) (by exact jD) (by exact (gt hc399).symm)))
  ·rintro D ρo wo nD eD cD jD aD ⟨f28, f29, f27, _⟩
   refine go_lz 27 rfl ((gB_t f27).trans hg162.symm) ?_ (fun hc400 => (kN0 (i := 20) hM (by decide) (by exact jD) (by exact fun h => absurd (show _ = true from h) (by rw [hc400]; decide))))
   intro hc400
   have c401 : ¬ (((gd l i).T) < 0) := of_decide_eq_false (or_l (hg136.symm.trans (not_t (and_l (hg162.symm.trans hc400)))))
   have c402 : ¬ (1099511627776 < ((gd l i).T)) := of_decide_eq_false (or_r (hg136.symm.trans (not_t (and_l (hg162.symm.trans hc400)))))
   have c403 : 0 < (i : Int) := of_decide_eq_true (and_r (hg162.symm.trans hc400))
   refine id (op_indexAddrD (E := sampE) (xs := l) i Try.underlying23 Try.sizeOf51 (f28.trans (gt hc400)) h_l (f29.trans (gt hc400)) (by omega) (by omega) (fun a404 o405 p406 => ?_))
   exact (kN0 (i := 20) hM (by decide) (by exact jD) (by exact fun _ => ⟨_, _, rfl, p406⟩))
  ·rintro D ρo wo nD eD cD jD aD ⟨f30, f27, _⟩
   refine go_lz 27 rfl ((gB_t f27).trans hg162.symm) ?_ (fun hc407 => (kN0 (i := 21) hM (by decide) (by exact jD) (by exact fun h => absurd (show _ = true from h) (by rw [hc407]; decide))))
   intro hc407
   obtain ⟨a408, o409, e410, p411⟩ := f30 hc407
   exact id (op_fieldAddr (s := 0) Try.underlying51 rfl rfl Try.sizeOf2 e410 (kN0 (i := 21) hM (by decide) (by exact jD) (by exact fun _ => ⟨_, _, rfl, p411⟩)))
  ·rintro D ρo wo nD eD cD jD aD ⟨f31, f27, _⟩
   refine go_lz 27 rfl ((gB_t f27).trans hg162.symm) ?_ (fun hc412 => (kN0 (i := 22) hM (by decide) (by exact jD) (by exact (gf hc412).symm)))
   intro hc412
   have hst := jD.2 
   obtain ⟨a413, o414, e415, p416⟩ := f31 hc412
   exact id (op_load1 (u := (iV ((gd l i).T))) Try.isAgg2 e415 (p416.below hst.below) (kN0 (i := 22) hM (by decide) (by exact jD) (by exact (gt hc412).symm)))
  ·rintro D ρo wo nD eD cD jD aD ⟨f0, f27, _⟩
   refine go_lz 27 rfl ((gB_t f27).trans hg162.symm) ?_ (fun hc417 => (kN0 (i := 23) hM (by decide) (by exact jD) (by exact (gf hc417).symm)))
   intro hc417
   exact id (op_move v_l (f0.trans q103_0) (kN0 (i := 23) hM (by decide) (by exact jD) (by exact (gt hc417).symm)))
  ·rintro D ρo wo nD eD cD jD aD ⟨f3, f27, _⟩
   refine go_lz 27 rfl ((gB_t f27).trans hg162.symm) ?_ (fun hc418 => (kN0 (i := 24) hM (by decide) (by exact jD) (by exact (gf hc418).symm)))
   intro hc418
   exact id (op_move (iV (i : Int)) (f3.trans q103_3) (kN0 (i := 24) hM (by decide) (by exact jD) (by exact (gt hc418).symm)))
  ·rintro D ρo wo nD eD cD jD aD ⟨f34, f27, _⟩
   refine go_lz 27 rfl ((gB_t f27).trans hg162.symm) ?_ (fun hc419 => (kN0 (i := 25) hM (by decide) (by exact jD) (by exact (gf hc419).symm)))
   intro hc419
   have c420 : ¬ (((gd l i).T) < 0) := of_decide_eq_false (or_l (hg136.symm.trans (not_t (and_l (hg162.symm.trans hc419)))))
   have c421 : ¬ (1099511627776 < ((gd l i).T)) := of_decide_eq_false (or_r (hg136.symm.trans (not_t (and_l (hg162.symm.trans hc419)))))
   have c422 : 0 < (i : Int) := of_decide_eq_true (and_r (hg162.symm.trans hc419))
   exact id (op_sub (k := .i64) (a := (i : Int)) (b := 1) ((i : Int) - 1) (f34.trans (gt hc419)) rfl (xi64 (by omega) (by omega)) (kN0 (i := 25) hM (by decide) (by exact jD) (by exact (gt hc419).symm)))
  ·rintro D ρo wo nD eD cD jD aD ⟨f33, f35, f27, _⟩
   refine go_lz 27 rfl ((gB_t f27).trans hg162.symm) ?_ (fun hc423 => (kN0 (i := 26) hM (by decide) (by exact jD) (by exact fun h => absurd (show _ = true from h) (by rw [hc423]; decide))))
   intro hc423
   have c424 : ¬ (((gd l i).T) < 0) := of_decide_eq_false (or_l (hg136.symm.trans (not_t (and_l (hg162.symm.trans hc423)))))
   have c425 : ¬ (1099511627776 < ((gd l i).T)) := of_decide_eq_false (or_r (hg136.symm.trans (not_t (and_l (hg162.symm.trans hc423)))))
   have c426 : 0 < (i : Int) := of_decide_eq_true (and_r (hg162.symm.trans hc423))
   refine id (op_indexAddrD (E := sampE) (xs := l) (i - 1) Try.underlying23 Try.sizeOf51 (f33.trans (gt hc423)) h_l (f35.trans (gt hc423)) (by omega) (by omega) (fun a427 o428 p429 => ?_))
   exact (kN0 (i := 26) hM (by decide) (by exact jD) (by exact fun _ => ⟨_, _, rfl, p429⟩))
  ·rintro D ρo wo nD eD cD jD aD ⟨f36, f27, _⟩
   refine go_lz 27 rfl ((gB_t f27).trans hg162.symm) ?_ (fun hc430 => (kN0 (i := 27) hM (by decide) (by exact jD) (by exact fun h => absurd (show _ = true from h) (by rw [hc430]; decide))))
   intro hc430
   obtain ⟨a431, o432, e433, p434⟩ := f36 hc430
   exact id (op_fieldAddr (s := 0) Try.underlying51 rfl rfl Try.sizeOf2 e433 (kN0 (i := 27) hM (by decide) (by exact jD) (by exact fun _ => ⟨_, _, rfl, p434⟩)))
  ·rintro D ρo wo nD eD cD jD aD ⟨f37, f27, _⟩
   refine go_lz 27 rfl ((gB_t f27).trans hg162.symm) ?_ (fun hc435 => (kN0 (i := 28) hM (by decide) (by exact jD) (by exact (gf hc435).symm)))
   intro hc435
   have hst := jD.2 
   obtain ⟨a436, o437, e438, p439⟩ := f37 hc435
   exact id (op_load1 (u := (iV ((gd l (i - 1)).T))) Try.isAgg2 e438 (p439.below hst.below) (kN0 (i := 28) hM (by decide) (by exact jD) (by exact (gt hc435).symm)))
  ·rintro D ρo wo nD eD cD jD aD ⟨f32, f38, f27, _⟩
   refine go_lz 27 rfl ((gB_t f27).trans hg162.symm) ?_ (fun hc440 => (kN0 (i := 29) hM (by decide) (by exact jD) (by exact (gf hc440).symm)))
   intro hc440
   exact id (op_leq (k := .i64) (a := (gd l i).T) (b := (gd l (i - 1)).T) (f32.trans (gt hc440)) (f38.trans (gt hc440)) (kN0 (i := 29) hM (by decide) (by exact jD) (by exact (gt hc440).symm)))
  ·rintro D ρo wo nD eD cD jD aD ⟨f27, f39, f24, _⟩
   refine go_lz 24 rfl (gA_f f24) ?_ (fun hc441 => (kN0 (i := 30) hM (by decide) (by exact jD) (by exact (gf hc441).symm)))
   intro hc441
   refine id (op_pick_and (f27.trans (gt (congrArg (! ·) (not_t hc441)))) f39 (fun hp => (hg162.trans (and_i (congrArg (! ·) (not_t hc441)) hp))) rfl ?_)
   exact (kN0 (i := 30) hM (by decide) (by exact jD) (by exact ((congrArg Value.bool hg362.symm).trans (gt hc441).symm)))
  ·rintro D ρo wo nD eD cD jD aD ⟨f24, f40, _⟩
   refine go_plain (op_pick_or f24 rfl f40 (fun hp => (congrArg (! ·) hp)) ?_)
   exact (kN0 (i := 31) hM (by decide) (by exact jD) (by exact (congrArg Value.bool hg364.symm)))
  intro ρ442 w443 Dw443 hallw443 hJw443 hRw443 hkw443
  have hst : St w0 w443 [] := hJw443.2 
  have uw443_0 := (hkw443 0 rfl).trans q103_0
  have uw443_3 := (hkw443 3 rfl).trans q103_3
  have uw443_41 : ρ442 41 = (.bool g363) := hRw443 31 41 rfl
  refine then_n ?_
  rcases Bool.eq_false_or_eq_true g363 with b444 | b444
  ·have c445 : ((((gd l i).T) < 0) ∨ (1099511627776 < ((gd l i).T))) ∨ ((0 < (i : Int)) ∧ (((gd l i).T) ≤ ((gd l (i - 1)).T))) := (pi_or (pi_name hg136 (pi_or pi_dec pi_dec)) (pi_name hg362 (pi_and pi_dec pi_dec))).1 (hg364.symm.trans b444)
   refine cE_cond true (uw443_41.trans (congrArg Value.bool b444)) (fun _ => ?_) (fun h => by cases h)
   refine cE_seq (cE_region rfl (s_cons (op_assign (.bool false) rfl (s_nil (then_n (cE_ret (block_r (then_r (then_r (block_r (then_r (post_r _ (res1 (v := (.bool false)) rfl) ?_))))))))))))
   exact ⟨(retv1 (congrArg Value.bool (show false = (risingA l) from by exact (hI.trans (rr_noG (by omega) (by assumption) hlt)).symm))), hst.bare⟩
  have c446 : ¬ (((gd l i).T) < 0) := of_decide_eq_false (or_l (hg136.symm.trans (or_l (hg364.symm.trans b444))))
  have c447 : ¬ (1099511627776 < ((gd l i).T)) := of_decide_eq_false (or_r (hg136.symm.trans (or_l (hg364.symm.trans b444))))
  have c448 : ¬ ((0 < (i : Int)) ∧ (((gd l i).T) ≤ ((gd l (i - 1)).T))) := pi_f (pi_and pi_dec pi_dec) (hg362.symm.trans (or_r (hg364.symm.trans b444)))
  refine cE_cond false (uw443_41.trans (congrArg Value.bool b444)) (fun h => by cases h) (fun _ => ?_)
  refine cE_skip (block_n (then_n (cE_region rfl (s_cons (op_move (iV (i : Int)) uw443_3 (s_cons (op_add (k := .i64) (a := (i : Int)) (b := 1) ((i : Int) + 1) rfl rfl (xi64 (by omega) (by omega)) (s_cons (op_assign (iV ((i : Int) + 1)) rfl (s_nil (then_n ?_)))))))))))
  exact ⟨_, ⟨(i + 1), rfl, uw443_0, (congrArg iV (show ((i : Int) + 1) = _ from by omega)), hst, (by omega), (by exact lastT_low (by omega) (by assumption)), (by exact hI.trans (rr_goG (by omega) (by assumption) (by assumption) (by assumption)))⟩, (by simp only [id]; omega)⟩
 have c449 := of_decide_eq_false b107
 refine cE_cond false (congrArg Value.bool b107) (fun h => by cases h) (fun _ => ?_)
 refine cE_exit (then_x (then_x (block_hit (then_n (cE_seq (cE_region rfl (s_cons (op_assign (.bool true) rfl (s_nil (then_n (cE_ret (post_r _ (res1 (v := (.bool true)) rfl) ?_))))))))))))
 exact ⟨(retv1 (congrArg Value.bool (show true = (risingA l) from by exact (hI.trans (rises_end (by omega))).symm))), hst.bare⟩

set_option maxRecDepth 8000 in
theorem c_rAligned (w0 : World) (v_l : Value) (l : List Agg) (h_l : Sl w0 aggE v_l l) (k : Int) (hl : ∀ a ∈ l, a.ok) (k0 : -9223372036854775808 ≤ k) (k1 : k ≤ 9223372036854775807) :
  Calls Try.prog 58 #[v_l, (iV k)] w0 fun e w' => e = .returned (.bool (alignedA l k)) ∧ St w0 w' [] := by
 refine calls_E (n := 57) (ts := [4]) Try.func58 rfl rfl rfl (by simp) ?_
 have hst := St.start w0
 refine cE_seq (cE_region rfl (s_cons (op_assign (.bool false) rfl (s_nil (then_n (cE_seq (cE_seq (cE_region rfl (s_cons (op_move (iV k) rfl (s_cons (op_lss (k := .i64) (a := k) (b := 1) rfl rfl (s_cons (op_move (.bool (decide (k < 1))) rfl (s_lz 8 rfl (gA_f rfl) (Rlz (!(decide (k < 1))) (iV k) w0) ?_ (fun hc450 => rlz_f hc450) ?_)))))))))))))))
 ·intro hc450
  refine op_move (iV k) rfl ?_
  exact rlz_t hc450
 rintro _ _ ⟨rfl, rfl⟩
 refine s_lz 8 rfl (gA_f rfl) (Rlz (!(decide (k < 1))) (.bool (decide (3 < k))) w0) ?_ (fun hc451 => rlz_f hc451) ?_
 ·intro hc451
  refine op_gtr (k := .i64) (a := k) (b := 3) (gt (congrArg (! ·) (not_t hc451))) rfl ?_
  exact rlz_t hc451
 rintro _ _ ⟨rfl, rfl⟩
 obtain ⟨g452, hg453⟩ : ∃ x : Bool, x = ((decide (k < 1)) || (decide (3 < k))) := ⟨_, rfl⟩
 refine s_cons (op_pick_or rfl rfl rfl (fun hp => (congrArg (! ·) hp)) (s_nil (then_n ?_)))
 rcases Bool.eq_false_or_eq_true g452 with b454 | b454
 ·have c455 : (k < 1) ∨ (3 < k) := (pi_or pi_dec pi_dec).1 (hg453.symm.trans b454)
  refine cE_cond true ((congrArg Value.bool hg453.symm).trans (congrArg Value.bool b454)) (fun _ => ?_) (fun h => by cases h)
  refine cE_seq (cE_region rfl (s_cons (op_assign (.bool false) rfl (s_nil (then_n (cE_ret (then_r (post_r _ (res1 (v := (.bool false)) rfl) ?_))))))))
  exact ⟨(retv1 (congrArg Value.bool (show false = (alignedA l k) from by (unfold alignedA; rw [coarse_no (by omega)]; rfl)))), hst.bare⟩
 have c456 : ¬ (k < 1) := of_decide_eq_false (or_l (hg453.symm.trans b454))
 have c457 : ¬ (3 < k) := of_decide_eq_false (or_r (hg453.symm.trans b454))
 refine cE_cond false ((congrArg Value.bool hg453.symm).trans (congrArg Value.bool b454)) (fun h => by cases h) (fun _ => ?_)
 refine cE_skip (then_n (cE_seq (cE_seq (cE_region rfl (s_cons (op_assign (iV 0) rfl (s_nil (then_n (cE_block (cE_loop (fun (m : Nat) (ρ : Env) (w : World) => ∃ (i : Nat), m = l.length - i ∧ ρ 0 = v_l ∧ ρ 1 = (iV k) ∧ ρ 5 = (iV (i : Int)) ∧ St w0 w [] ∧ (i ≤ l.length) ∧ (alignedA l k = alignsFrom k (lastF l i) (l.drop i))) id _ ⟨0, rfl, rfl, rfl, (congrArg iV (show 0 = _ from by omega)), hst, (by omega), (by (unfold alignedA; rw [coarse_yes (by omega) (by omega)]; rfl))⟩ ?_))))))))))
 rintro m459 ρ460 w461 ⟨i, hm459, q458_0, q458_1, q458_5, hst, hi, hI⟩
 have hlen := h_l.len
 have hco := coarse_yes (k := k) (by omega) (by omega)
 refine cE_seq (cE_seq (cE_region rfl (s_cons (op_move (iV (i : Int)) q458_5 (s_cons (op_move v_l q458_0 (s_cons (op_len (E := aggE) (xs := l) Try.underlying74 rfl h_l (s_cons (op_lss (k := .i64) (a := (i : Int)) (b := (l.length : Int)) rfl rfl (s_nil (then_n ?_))))))))))))
 rcases Bool.eq_false_or_eq_true (decide ((i : Int) < (l.length : Int))) with b462 | b462
 ·have c463 := of_decide_eq_true b462
  refine cE_cond true (congrArg Value.bool b462) (fun _ => ?_) (fun h => by cases h)
  refine cE_skip (then_n (cE_seq (cE_block (cE_seq ?_))))
  obtain ⟨g571, hg572⟩ : ∃ x : Bool, x = ((!(mayA (gd l i))) || (!decide ((floorA ((gd l i).From) k) = ((gd l i).From)))) := ⟨_, rfl⟩
  obtain ⟨g621, hg622⟩ : ∃ x : Bool, x = ((!g571) && (decide (0 < (i : Int)))) := ⟨_, rfl⟩
  obtain ⟨g925, hg926⟩ : ∃ x : Bool, x = ((decide (0 < (i : Int))) && (decide (((gd l i).From) ≤ ((gd l (i - 1)).From)))) := ⟨_, rfl⟩
  obtain ⟨g927, hg928⟩ : ∃ x : Bool, x = (g571 || g925) := ⟨_, rfl⟩
  refine cE_regionM (fun (D : Nat → Bool) (w : World) => St w0 w [] ∧ (St w0 w [])) [[(0, none)], [(5, none)], [(18, some 0), (19, some 1)], [(20, some 2)], [(21, some 3)], [(22, some 4)], [(23, some 5)], [(0, none), (24, some 6)], [(5, none), (24, some 6)], [(25, some 7), (26, some 8), (24, some 6)], [(27, some 9), (24, some 6)], [(28, some 10), (24, some 6)], [(1, none), (24, some 6)], [(29, some 11), (30, some 12), (24, some 6)], [(0, none), (24, some 6)], [(5, none), (24, some 6)], [(32, some 14), (33, some 15), (24, some 6)], [(34, some 16), (24, some 6)], [(35, some 17), (24, some 6)], [(31, some 13), (36, some 18), (24, some 6)], [(24, some 6), (37, some 19)], [(38, some 20)], [(5, none), (39, some 21)], [(40, some 22), (39, some 21)], [(41, some 23), (39, some 21)], [(0, none), (42, some 24)], [(5, none), (42, some 24)], [(43, some 25), (44, some 26), (42, some 24)], [(45, some 27), (42, some 24)], [(46, some 28), (42, some 24)], [(0, none), (42, some 24)], [(5, none), (42, some 24)], [(49, some 31), (42, some 24)], [(48, some 30), (50, some 32), (42, some 24)], [(51, some 33), (42, some 24)], [(52, some 34), (42, some 24)], [(47, some 29), (53, some 35), (42, some 24)], [(42, some 24), (54, some 36), (39, some 21)], [(39, some 21), (55, some 37)]] [] [(kEq v_l), (kEq (iV (i : Int))), (kPt0 w0 (aggC (gd l i))), (kEq (.agg (aggA (gd l i)))), (kEq (.bool (mayA (gd l i)))), (kEq (.bool (!(mayA (gd l i))))), (kEq (.bool (!(mayA (gd l i))))), (kEq (bif (!(!(mayA (gd l i)))) then v_l else undef)), (kEq (bif (!(!(mayA (gd l i)))) then (iV (i : Int)) else undef)), (kPtc w0 (!(!(mayA (gd l i)))) (aggC (gd l i))), (kPtc w0 (!(!(mayA (gd l i)))) (aggC (gd l i))), (kEq (bif (!(!(mayA (gd l i)))) then (iV ((gd l i).From)) else undef)), (kEq (bif (!(!(mayA (gd l i)))) then (iV k) else undef)), (kEq (bif (!(!(mayA (gd l i)))) then (iV (floorA ((gd l i).From) k)) else undef)), (kEq (bif (!(!(mayA (gd l i)))) then v_l else undef)), (kEq (bif (!(!(mayA (gd l i)))) then (iV (i : Int)) else undef)), (kPtc w0 (!(!(mayA (gd l i)))) (aggC (gd l i))), (kPtc w0 (!(!(mayA (gd l i)))) (aggC (gd l i))), (kEq (bif (!(!(mayA (gd l i)))) then (iV ((gd l i).From)) else undef)), (kEq (bif (!(!(mayA (gd l i)))) then (.bool (!decide ((floorA ((gd l i).From) k) = ((gd l i).From)))) else undef)), (kEq (.bool g571)), (kEq (.bool g571)), (kEq (bif (!g571) then (iV (i : Int)) else undef)), (kEq (bif (!g571) then (.bool (decide (0 < (i : Int)))) else undef)), (kEq (bif (!g571) then (.bool (decide (0 < (i : Int)))) else undef)), (kEq (bif g621 then v_l else undef)), (kEq (bif g621 then (iV (i : Int)) else undef)), (kPtc w0 g621 (aggC (gd l i))), (kPtc w0 g621 (aggC (gd l i))), (kEq (bif g621 then (iV ((gd l i).From)) else undef)), (kEq (bif g621 then v_l else undef)), (kEq (bif g621 then (iV (i : Int)) else undef)), (kEq (bif g621 then (iV ((i : Int) - 1)) else undef)), (kPtc w0 g621 (aggC (gd l (i - 1)))), (kPtc w0 g621 (aggC (gd l (i - 1)))), (kEq (bif g621 then (iV ((gd l (i - 1)).From)) else undef)), (kEq (bif g621 then (.bool (decide (((gd l i).From) ≤ ((gd l (i - 1)).From)))) else undef)), (kEq (bif (!g571) then (.bool g925) else undef)), (kEq (.bool g927))] ⟨mEq, mEq, mPt0, mEq, mEq, mEq, mEq, mEq, mEq, mPtc, mPtc, mEq, mEq, mEq, mEq, mEq, mPtc, mPtc, mEq, mEq, mEq, mEq, mEq, mEq, mEq, mEq, mEq, mPtc, mPtc, mEq, mEq, mEq, mEq, mPtc, mPtc, mEq, mEq, mEq, mEq, trivial⟩ (by kernel_rfl) rfl (by kernel_rfl) ⟨hst.drewW.sub .slnil, hst.drewW⟩ (fun hM => ⟨?_, ?_, ?_, ?_, ?_, ?_, ?_, ?_, ?_, ?_, ?_, ?_, ?_, ?_, ?_, ?_, ?_, ?_, ?_, ?_, ?_, ?_, ?_, ?_, ?_, ?_, ?_, ?_, ?_, ?_, ?_, ?_, ?_, ?_, ?_, ?_, ?_, ?_, ?_, trivial⟩) ?_
  ·rintro D ρo wo nD eD cD jD aD ⟨f0, _⟩
   exact go_plain (op_move v_l (f0.trans q458_0) (kN0 (i := 0) hM (by decide) (by exact jD) (by exact rfl)))
  ·rintro D ρo wo nD eD cD jD aD ⟨f5, _⟩
   exact go_plain (op_move (iV (i : Int)) (f5.trans q458_5) (kN0 (i := 1) hM (by decide) (by exact jD) (by exact rfl)))
  ·rintro D ρo wo nD eD cD jD aD ⟨f18, f19, _⟩
   refine go_plain (op_indexAddrD (E := aggE) (xs := l) i Try.underlying74 Try.sizeOf29 f18 h_l f19 (by omega) (by omega) (fun a930 o931 p932 => ?_))
   exact (kN0 (i := 2) hM (by decide) (by exact jD) (by exact ⟨_, _, rfl, p932⟩))
  ·rintro D ρo wo nD eD cD jD aD ⟨f20, _⟩
   have hst := jD.2 
   obtain ⟨a933, o934, e935, p936⟩ := f20
   exact go_plain (op_loadN (cs := (aggC (gd l i))) Try.isAgg29 Try.sizeOf29 e935 (Pt.of (p936.below hst.below) rfl) rfl (kN0 (i := 3) hM (by decide) (by exact jD) (by exact rfl)))
  ·rintro D ρo wo nD eD cD jD aD ⟨f21, _⟩
   refine go_plain (op_call Try.call30 (evs_cons (v := (.agg (aggA (gd l i)))) f21 evs_nil) (c_rMay (w0 := wo) (a := (gd l i))) ?_)
   rintro _ w937 ⟨rfl, hcall⟩
   refine ⟨_, rfl, ?_⟩
   exact kN (i := 4) hM (by decide) hcall.below (by exact ⟨(jD.1).ext hcall.below, (jD.2).ext hcall.below⟩) (by exact rfl)
  ·rintro D ρo wo nD eD cD jD aD ⟨f22, _⟩
   exact go_plain (op_not (b := mayA (gd l i)) f22 (kN0 (i := 5) hM (by decide) (by exact jD) (by exact rfl)))
  ·rintro D ρo wo nD eD cD jD aD ⟨f23, _⟩
   exact go_plain (op_move (.bool (!(mayA (gd l i)))) f23 (kN0 (i := 6) hM (by decide) (by exact jD) (by exact rfl)))
  ·rintro D ρo wo nD eD cD jD aD ⟨f0, f24, _⟩
   refine go_lz 24 rfl (gA_f f24) ?_ (fun hc938 => (kN0 (i := 7) hM (by decide) (by exact jD) (by exact (gf hc938).symm)))
   intro hc938
   exact id (op_move v_l (f0.trans q458_0) (kN0 (i := 7) hM (by decide) (by exact jD) (by exact (gt hc938).symm)))
  ·rintro D ρo wo nD eD cD jD aD ⟨f5, f24, _⟩
   refine go_lz 24 rfl (gA_f f24) ?_ (fun hc939 => (kN0 (i := 8) hM (by decide) (by exact jD) (by exact (gf hc939).symm)))
   intro hc939
   exact id (op_move (iV (i : Int)) (f5.trans q458_5) (kN0 (i := 8) hM (by decide) (by exact jD) (by exact (gt hc939).symm)))
  ·rintro D ρo wo nD eD cD jD aD ⟨f25, f26, f24, _⟩
   refine go_lz 24 rfl (gA_f f24) ?_ (fun hc940 => (kN0 (i := 9) hM (by decide) (by exact jD) (by exact fun h => absurd (show _ = true from h) (by rw [hc940]; decide))))
   intro hc940
   have c941 : (mayA (gd l i)) = true := (not_f (not_t hc940))
   refine id (op_indexAddrD (E := aggE) (xs := l) i Try.underlying74 Try.sizeOf29 (f25.trans (gt (congrArg (! ·) (congrArg (! ·) c941)))) h_l (f26.trans (gt (congrArg (! ·) (congrArg (! ·) c941)))) (by omega) (by omega) (fun a942 o943 p944 => ?_))
   exact (kN0 (i := 9) hM (by decide) (by exact jD) (by exact fun _ => ⟨_, _, rfl, p944⟩))
  ·rintro D ρo wo nD eD cD jD aD ⟨f27, f24, _⟩
   refine go_lz 24 rfl (gA_f f24) ?_ (fun hc945 => (kN0 (i := 10) hM (by decide) (by exact jD) (by exact fun h => absurd (show _ = true from h) (by rw [hc945]; decide))))
   intro hc945
   obtain ⟨a946, o947, e948, p949⟩ := f27 (congrArg (! ·) (congrArg (! ·) (not_f (not_t hc945))))
   exact id (op_fieldAddr (s := 0) Try.underlying29 rfl rfl Try.sizeOf2 e948 (kN0 (i := 10) hM (by decide) (by exact jD) (by exact fun _ => ⟨_, _, rfl, p949⟩)))
  ·rintro D ρo wo nD eD cD jD aD ⟨f28, f24, _⟩
   refine go_lz 24 rfl (gA_f f24) ?_ (fun hc950 => (kN0 (i := 11) hM (by decide) (by exact jD) (by exact (gf hc950).symm)))
   intro hc950
   have hst := jD.2 
   obtain ⟨a951, o952, e953, p954⟩ := f28 (congrArg (! ·) (congrArg (! ·) (not_f (not_t hc950))))
   exact id (op_load1 (u := (iV ((gd l i).From))) Try.isAgg2 e953 (p954.below hst.below) (kN0 (i := 11) hM (by decide) (by exact jD) (by exact (gt hc950).symm)))
  ·rintro D ρo wo nD eD cD jD aD ⟨f1, f24, _⟩
   refine go_lz 24 rfl (gA_f f24) ?_ (fun hc955 => (kN0 (i := 12) hM (by decide) (by exact jD) (by exact (gf hc955).symm)))
   intro hc955
   exact id (op_move (iV k) (f1.trans q458_1) (kN0 (i := 12) hM (by decide) (by exact jD) (by exact (gt hc955).symm)))
  ·rintro D ρo wo nD eD cD jD aD ⟨f29, f30, f24, _⟩
   refine go_lz 24 rfl (gA_f f24) ?_ (fun hc956 => (kN0 (i := 13) hM (by decide) (by exact jD) (by exact (gf hc956).symm)))
   intro hc956
   have c957 : (mayA (gd l i)) = true := (not_f (not_t hc956))
   refine id (op_call Try.call31 (evs_cons (v := (iV ((gd l i).From))) (f29.trans (gt (congrArg (! ·) (congrArg (! ·) c957)))) (evs_cons (v := (iV k)) (f30.trans (gt (congrArg (! ·) (congrArg (! ·) c957)))) evs_nil)) (c_rFloor (w0 := wo) (t := (gd l i).From) (k := k) (t0 := (hl _ (gd_mem (by omega))).1.1) (k0 := (by omega)) (t1 := (hl _ (gd_mem (by omega))).1.2) (k1 := (by omega))) ?_)
   rintro _ w958 ⟨rfl, hcall⟩
   refine ⟨_, rfl, ?_⟩
   exact kN (i := 13) hM (by decide) hcall.below (by exact ⟨(jD.1).ext hcall.below, (jD.2).ext hcall.below⟩) (by exact (gt hc956).symm)
  ·rintro D ρo wo nD eD cD jD aD ⟨f0, f24, _⟩
   refine go_lz 24 rfl (gA_f f24) ?_ (fun hc959 => (kN0 (i := 14) hM (by decide) (by exact jD) (by exact (gf hc959).symm)))
   intro hc959
   exact id (op_move v_l (f0.trans q458_0) (kN0 (i := 14) hM (by decide) (by exact jD) (by exact (gt hc959).symm)))
  ·rintro D ρo wo nD eD cD jD aD ⟨f5, f24, _⟩
   refine go_lz 24 rfl (gA_f f24) ?_ (fun hc960 => (kN0 (i := 15) hM (by decide) (by exact jD) (by exact (gf hc960).symm)))
   intro hc960
   exact id (op_move (iV (i : Int)) (f5.trans q458_5) (kN0 (i := 15) hM (by decide) (by exact jD) (by exact (gt hc960).symm)))
  ·rintro D ρo wo nD eD cD jD aD ⟨f32, f33, f24, _⟩
   refine go_lz 24 rfl (gA_f f24) ?_ (fun hc961 => (kN0 (i := 16) hM (by decide) (by exact jD) (by exact fun h => absurd (show _ = true from h) (by rw [hc961]; decide))))
   intro hc961
   have c962 : (mayA (gd l i)) = true := (not_f (not_t hc961))
   refine id (op_indexAddrD (E := aggE) (xs := l) i Try.underlying74 Try.sizeOf29 (f32.trans (gt (congrArg (! ·) (congrArg (! ·) c962)))) h_l (f33.trans (gt (congrArg (! ·) (congrArg (! ·) c962)))) (by omega) (by omega) (fun a963 o964 p965 => ?_))
   exact (kN0 (i := 16) hM (by decide) (by exact jD) (by exact fun _ => ⟨_, _, rfl, p965⟩))
  ·rintro D ρo wo nD eD cD jD aD ⟨f34, f24, _⟩
   refine go_lz 24 rfl (gA_f f24) ?_ (fun hc966 => (kN0 (i := 17) hM (by decide) (by exact jD) (by exact fun h => absurd (show _ = true from h) (by rw [hc966]; decide))))
   intro hc966
   obtain ⟨a967, o968, e969, p970⟩ := f34 (congrArg (! ·) (congrArg (! ·) (not_f (not_t hc966))))
   exact id (op_fieldAddr (s := 0) Try.underlying29 rfl rfl Try.sizeOf2 e969 (kN0 (i := 17) hM (by decide) (by exact jD) (by exact fun _ => ⟨_, _, rfl, p970⟩)))
  ·rintro D ρo wo nD eD cD jD aD ⟨f35, f24, _⟩
   refine go_lz 24 rfl (gA_f f24) ?_ (fun hc971 => (kN0 (i := 18) hM (by decide) (by exact jD) (by exact (gf hc971).symm)))
   intro hc971
   have hst := jD.2 
   obtain ⟨a972, o973, e974, p975⟩ := f35 (congrArg (! ·) (congrArg (! ·) (not_f (not_t hc971))))
   exact id (op_load1 (u := (iV ((gd l i).From))) Try.isAgg2 e974 (p975.below hst.below) (kN0 (i := 18) hM (by decide) (by exact jD) (by exact (gt hc971).symm)))
  ·rintro D ρo wo nD eD cD jD aD ⟨f31, f36, f24, _⟩
   refine go_lz 24 rfl (gA_f f24) ?_ (fun hc976 => (kN0 (i := 19) hM (by decide) (by exact jD) (by exact (gf hc976).symm)))
   intro hc976
   exact id (op_neq (k := .i64) (a := (floorA ((gd l i).From) k)) (b := (gd l i).From) (f31.trans (gt (congrArg (! ·) (congrArg (! ·) (not_f (not_t hc976)))))) (f36.trans (gt (congrArg (! ·) (congrArg (! ·) (not_f (not_t hc976)))))) (kN0 (i := 19) hM (by decide) (by exact jD) (by exact (gt hc976).symm)))
  ·rintro D ρo wo nD eD cD jD aD ⟨f24, f37, _⟩
   refine go_plain (op_pick_or f24 rfl f37 (fun hp => (congrArg (! ·) (congrArg (! ·) (not_f hp)))) ?_)
   exact (kN0 (i := 20) hM (by decide) (by exact jD) (by exact (congrArg Value.bool hg572.symm)))
  ·rintro D ρo wo nD eD cD jD aD ⟨f38, _⟩
   exact go_plain (op_move (.bool g571) f38 (kN0 (i := 21) hM (by decide) (by exact jD) (by exact rfl)))
  ·rintro D ρo wo nD eD cD jD aD ⟨f5, f39, _⟩
   refine go_lz 39 rfl (gA_f f39) ?_ (fun hc977 => (kN0 (i := 22) hM (by decide) (by exact jD) (by exact (gf hc977).symm)))
   intro hc977
   exact id (op_move (iV (i : Int)) (f5.trans q458_5) (kN0 (i := 22) hM (by decide) (by exact jD) (by exact (gt hc977).symm)))
  ·rintro D ρo wo nD eD cD jD aD ⟨f40, f39, _⟩
   refine go_lz 39 rfl (gA_f f39) ?_ (fun hc978 => (kN0 (i := 23) hM (by decide) (by exact jD) (by exact (gf hc978).symm)))
   intro hc978
   exact id (op_gtr (k := .i64) (a := (i : Int)) (b := 0) (f40.trans (gt (congrArg (! ·) (not_t hc978)))) rfl (kN0 (i := 23) hM (by decide) (by exact jD) (by exact (gt hc978).symm)))
  ·rintro D ρo wo nD eD cD jD aD ⟨f41, f39, _⟩
   refine go_lz 39 rfl (gA_f f39) ?_ (fun hc979 => (kN0 (i := 24) hM (by decide) (by exact jD) (by exact (gf hc979).symm)))
   intro hc979
   exact id (op_move (.bool (decide (0 < (i : Int)))) (f41.trans (gt (congrArg (! ·) (not_t hc979)))) (kN0 (i := 24) hM (by decide) (by exact jD) (by exact (gt hc979).symm)))
  ·rintro D ρo wo nD eD cD jD aD ⟨f0, f42, _⟩
   refine go_lz 42 rfl ((gB_t f42).trans hg622.symm) ?_ (fun hc980 => (kN0 (i := 25) hM (by decide) (by exact jD) (by exact (gf hc980).symm)))
   intro hc980
   exact id (op_move v_l (f0.trans q458_0) (kN0 (i := 25) hM (by decide) (by exact jD) (by exact (gt hc980).symm)))
  ·rintro D ρo wo nD eD cD jD aD ⟨f5, f42, _⟩
   refine go_lz 42 rfl ((gB_t f42).trans hg622.symm) ?_ (fun hc981 => (kN0 (i := 26) hM (by decide) (by exact jD) (by exact (gf hc981).symm)))
   intro hc981
   exact id (op_move (iV (i : Int)) (f5.trans q458_5) (kN0 (i := 26) hM (by decide) (by exact jD) (by exact (gt hc981).symm)))
  ·rintro D ρo wo nD eD cD jD aD ⟨f43, f44, f42, _⟩
   refine go_lz 42 rfl ((gB_t f42).trans hg622.symm) ?_ (fun hc982 => (kN0 (i := 27) hM (by decide) (by exact jD) (by exact fun h => absurd (show _ = true from h) (by rw [hc982]; decide))))
   intro hc982
   have c983 : (mayA (gd l i)) = true := (not_f (or_l (hg572.symm.trans (not_t (and_l (hg622.symm.trans hc982))))))
   have c984 : (floorA ((gd l i).From) k) = ((gd l i).From) := of_decide_eq_true (not_f (or_r (hg572.symm.trans (not_t (and_l (hg622.symm.trans hc982))))))
   have c985 : 0 < (i : Int) := of_decide_eq_true (and_r (hg622.symm.trans hc982))
   refine id (op_indexAddrD (E := aggE) (xs := l) i Try.underlying74 Try.sizeOf29 (f43.trans (gt hc982)) h_l (f44.trans (gt hc982)) (by omega) (by omega) (fun a986 o987 p988 => ?_))
   exact (kN0 (i := 27) hM (by decide) (by exact jD) (by exact fun _ => ⟨_, _, rfl, p988⟩))
  ·rintro D ρo wo nD eD cD jD aD ⟨f45, f42, _⟩
   refine go_lz 42 rfl ((gB_t f42).trans hg622.symm) ?_ (fun hc989 => (kN0 (i := 28) hM (by decide) (by exact jD) (by exact fun h => absurd (show _ = true from h) (by rw [hc989]; decide))))
   intro hc989
   obtain ⟨a990, o991, e992, p993⟩ := f45 hc989
   exact id (op_fieldAddr (s := 0) Try.underlying29 rfl rfl Try.sizeOf2 e992 (kN0 (i := 28) hM (by decide) (by exact jD) (by exact fun _ => ⟨_, _, rfl, p993⟩)))
  ·rintro D ρo wo nD eD cD jD aD ⟨f46, f42, _⟩
   refine go_lz 42 rfl ((gB_t f42).trans hg622.symm) ?_ (fun hc994 => (kN0 (i := 29) hM (by decide) (by exact jD) (by exact (gf hc994).symm)))
   intro hc994
   have hst := jD.2 
   obtain ⟨a995, o996, e997, p998⟩ := f46 hc994
   exact id (op_load1 (u := (iV ((gd l i).From))) Try.isAgg2 e997 (p998.below hst.below) (kN0 (i := 29) hM (by decide) (by exact jD) (by exact (gt hc994).symm)))
  ·rintro D ρo wo nD eD cD jD aD ⟨f0, f42, _⟩
   refine go_lz 42 rfl ((gB_t f42).trans hg622.symm) ?_ (fun hc999 => (kN0 (i := 30) hM (by decide) (by exact jD) (by exact (gf hc999).symm)))
   intro hc999
   exact id (op_move v_l (f0.trans q458_0) (kN0 (i := 30) hM (by decide) (by exact jD) (by exact (gt hc999).symm)))
  ·rintro D ρo wo nD eD cD jD aD ⟨f5, f42, _⟩
   refine go_lz 42 rfl ((gB_t f42).trans hg622.symm) ?_ (fun hc1000 => (kN0 (i := 31) hM (by decide) (by exact jD) (by exact (gf hc1000).symm)))
   intro hc1000
   exact id (op_move (iV (i : Int)) (f5.trans q458_5) (kN0 (i := 31) hM (by decide) (by exact jD) (by exact (gt hc1000).symm)))
  ·rintro D ρo wo nD eD cD jD aD ⟨f49, f42, _⟩
   refine go_lz 42 rfl ((gB_t f42).trans hg622.symm) ?_ (fun hc1001 => (kN0 (i := 32) hM (by decide) (by exact jD) (by exact (gf hc1001).symm)))
   intro hc1001
   have c1002 : (mayA (gd l i)) = true := (not_f (or_l (hg572.symm.trans (not_t (and_l (hg622.symm.trans hc1001))))))
   have c1003 : (floorA ((gd l i).From) k) = ((gd l i).From) := of_decide_eq_true (not_f (or_r (hg572.symm.trans (not_t (and_l (hg622.symm.trans hc1001))))))
   have c1004 : 0 < (i : Int) := of_decide_eq_true (and_r (hg622.symm.trans hc1001))
   exact id (op_sub (k := .i64) (a := (i : Int)) (b := 1) ((i : Int) - 1) (f49.trans (gt hc1001)) rfl (xi64 (by omega) (by omega)) (kN0 (i := 32) hM (by decide) (by exact jD) (by exact (gt hc1001).symm)))
  ·rintro D ρo wo nD eD cD jD aD ⟨f48, f50, f42, _⟩
   refine go_lz 42 rfl ((gB_t f42).trans hg622.symm) ?_ (fun hc1005 => (kN0 (i := 33) hM (by decide) (by exact jD) (by exact fun h => absurd (show _ = true from h) (by rw [hc1005]; decide))))
   intro hc1005
   have c1006 : (mayA (gd l i)) = true := (not_f (or_l (hg572.symm.trans (not_t (and_l (hg622.symm.trans hc1005))))))
   have c1007 : (floorA ((gd l i).From) k) = ((gd l i).From) := of_decide_eq_true (not_f (or_r (hg572.symm.trans (not_t (and_l (hg622.symm.trans hc1005))))))
   have c1008 : 0 < (i : Int) := of_decide_eq_true (and_r (hg622.symm.trans hc1005))
   refine id (op_indexAddrD (E := aggE) (xs := l) (i - 1) Try.underlying74 Try.sizeOf29 (f48.trans (gt hc1005)) h_l (f50.trans (gt hc1005)) (by omega) (by omega) (fun a1009 o1010 p1011 => ?_))
   exact (kN0 (i := 33) hM (by decide) (by exact jD) (by exact fun _ => ⟨_, _, rfl, p1011⟩))
  ·rintro D ρo wo nD eD cD jD aD ⟨f51, f42, _⟩
   refine go_lz 42 rfl ((gB_t f42).trans hg622.symm) ?_ (fun hc1012 => (kN0 (i := 34) hM (by decide) (by exact jD) (by exact fun h => absurd (show _ = true from h) (by rw [hc1012]; decide))))
   intro hc1012
   obtain ⟨a1013, o1014, e1015, p1016⟩ := f51 hc1012
   exact id (op_fieldAddr (s := 0) Try.underlying29 rfl rfl Try.sizeOf2 e1015 (kN0 (i := 34) hM (by decide) (by exact jD) (by exact fun _ => ⟨_, _, rfl, p1016⟩)))
  ·rintro D ρo wo nD eD cD jD aD ⟨f52, f42, _⟩
   refine go_lz 42 rfl ((gB_t f42).trans hg622.symm) ?_ (fun hc1017 => (kN0 (i := 35) hM (by decide) (by exact jD) (by exact (gf hc1017).symm)))
   intro hc1017
   have hst := jD.2 
   obtain ⟨a1018, o1019, e1020, p1021⟩ := f52 hc1017
   exact id (op_load1 (u := (iV ((gd l (i - 1)).From))) Try.isAgg2 e1020 (p1021.below hst.below) (kN0 (i := 35) hM (by decide) (by exact jD) (by exact (gt hc1017).symm)))
  ·rintro D ρo wo nD eD cD jD aD ⟨f47, f53, f42, _⟩
   refine go_lz 42 rfl ((gB_t f42).trans hg622.symm) ?_ (fun hc1022 => (kN0 (i := 36) hM (by decide) (by exact jD) (by exact (gf hc1022).symm)))
   intro hc1022
   exact id (op_leq (k := .i64) (a := (gd l i).From) (b := (gd l (i - 1)).From) (f47.trans (gt hc1022)) (f53.trans (gt hc1022)) (kN0 (i := 36) hM (by decide) (by exact jD) (by exact (gt hc1022).symm)))
  ·rintro D ρo wo nD eD cD jD aD ⟨f42, f54, f39, _⟩
   refine go_lz 39 rfl (gA_f f39) ?_ (fun hc1023 => (kN0 (i := 37) hM (by decide) (by exact jD) (by exact (gf hc1023).symm)))
   intro hc1023
   refine id (op_pick_and (f42.trans (gt (congrArg (! ·) (not_t hc1023)))) f54 (fun hp => (hg622.trans (and_i (congrArg (! ·) (not_t hc1023)) hp))) rfl ?_)
   exact (kN0 (i := 37) hM (by decide) (by exact jD) (by exact ((congrArg Value.bool hg926.symm).trans (gt hc1023).symm)))
  ·rintro D ρo wo nD eD cD jD aD ⟨f39, f55, _⟩
   refine go_plain (op_pick_or f39 rfl f55 (fun hp => (congrArg (! ·) hp)) ?_)
   exact (kN0 (i := 38) hM (by decide) (by exact jD) (by exact (congrArg Value.bool hg928.symm)))
  intro ρ1024 w1025 Dw1025 hallw1025 hJw1025 hRw1025 hkw1025
  have hst : St w0 w1025 [] := hJw1025.2 
  have uw1025_0 := (hkw1025 0 rfl).trans q458_0
  have uw1025_1 := (hkw1025 1 rfl).trans q458_1
  have uw1025_5 := (hkw1025 5 rfl).trans q458_5
  have uw1025_56 : ρ1024 56 = (.bool g927) := hRw1025 38 56 rfl
  refine then_n ?_
  rcases Bool.eq_false_or_eq_true g927 with b1026 | b1026
  ·have c1027 : ((¬ ((mayA (gd l i)) = true)) ∨ (¬ ((floorA ((gd l i).From) k) = ((gd l i).From)))) ∨ ((0 < (i : Int)) ∧ (((gd l i).From) ≤ ((gd l (i - 1)).From))) := (pi_or (pi_name hg572 (pi_or (pi_not pi_self) (pi_not pi_dec))) (pi_name hg926 (pi_and pi_dec pi_dec))).1 (hg928.symm.trans b1026)
   refine cE_cond true (uw1025_56.trans (congrArg Value.bool b1026)) (fun _ => ?_) (fun h => by cases h)
   refine cE_seq (cE_region rfl (s_cons (op_assign (.bool false) rfl (s_nil (then_n (cE_ret (block_r (then_r (then_r (block_r (then_r (post_r _ (res1 (v := (.bool false)) rfl) ?_))))))))))))
   exact ⟨(retv1 (congrArg Value.bool (show false = (alignedA l k) from by exact (hI.trans (ra_noG (by omega) (by assumption))).symm))), hst.bare⟩
  have c1028 : (mayA (gd l i)) = true := (not_f (or_l (hg572.symm.trans (or_l (hg928.symm.trans b1026)))))
  have c1029 : (floorA ((gd l i).From) k) = ((gd l i).From) := of_decide_eq_true (not_f (or_r (hg572.symm.trans (or_l (hg928.symm.trans b1026)))))
  have c1030 : ¬ ((0 < (i : Int)) ∧ (((gd l i).From) ≤ ((gd l (i - 1)).From))) := pi_f (pi_and pi_dec pi_dec) (hg926.symm.trans (or_r (hg928.symm.trans b1026)))
  refine cE_cond false (uw1025_56.trans (congrArg Value.bool b1026)) (fun h => by cases h) (fun _ => ?_)
  refine cE_skip (block_n (then_n (cE_region rfl (s_cons (op_move (iV (i : Int)) uw1025_5 (s_cons (op_add (k := .i64) (a := (i : Int)) (b := 1) ((i : Int) + 1) rfl rfl (xi64 (by omega) (by omega)) (s_cons (op_assign (iV ((i : Int) + 1)) rfl (s_nil (then_n ?_)))))))))))
  exact ⟨_, ⟨(i + 1), rfl, uw1025_0, uw1025_1, (congrArg iV (show ((i : Int) + 1) = _ from by omega)), hst, (by omega), (by exact hI.trans (ra_goG (by omega) (by assumption) (by assumption) (by assumption)))⟩, (by simp only [id]; omega)⟩
 have c1031 := of_decide_eq_false b462
 refine cE_cond false (congrArg Value.bool b462) (fun h => by cases h) (fun _ => ?_)
 refine cE_exit (then_x (then_x (block_hit (then_n (cE_seq (cE_region rfl (s_cons (op_assign (.bool true) rfl (s_nil (then_n (cE_ret (post_r _ (res1 (v := (.bool true)) rfl) ?_))))))))))))
 exact ⟨(retv1 (congrArg Value.bool (show true = (alignedA l k) from by exact (hI.trans (aligns_end (by omega))).symm))), hst.bare⟩

end Go.Proofs.Ytldfnkhccaglmaa
