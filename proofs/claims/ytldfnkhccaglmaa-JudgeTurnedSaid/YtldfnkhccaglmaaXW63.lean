/- judge.Grants, twinkeepref17.Grants -/
import Derived.Test.YtldfnkhccaglmaaXLB
import Derived.Test.YtldfnkhccaglmaaXLA
import Derived.Test.YtldfnkhccaglmaaXTM
import Derived.Test.YtldfnkhccaglmaaXT
namespace Go.Proofs.Ytldfnkhccaglmaa
open Go.RowKit

set_option maxRecDepth 8000 in
set_option maxHeartbeats 4000000 in
theorem c_Grants (w0 : World) (v_l : Value) (l : List Grant) (h_l : Sl w0 grantE v_l l) :
  Calls Try.prog 16 #[v_l] w0 fun e w' => e = .returned (iV (grantsC l)) ∧ St w0 w' [] := by
 refine calls_E (n := 32) (ts := [2]) Try.func16 rfl rfl rfl (by simp) ?_
 have hst := St.start w0
 refine cE_seq (cE_region rfl (s_cons (op_assign (iV 0) rfl (s_nil (then_n (cE_seq (cE_region rfl (s_cons (op_assign (iV 0) rfl (s_nil (then_n (cE_seq (cE_seq (cE_region rfl (s_cons (op_move v_l rfl (s_cons (op_len (E := grantE) (xs := l) Try.underlying25 rfl h_l (s_cons (op_move (iV 0) rfl (s_nil (then_n (cE_block (cE_loop (fun (m : Nat) (ρ : Env) (w : World) => ∃ (last : Int) (i : Nat), m = l.length - i ∧ ρ 0 = v_l ∧ ρ 6 = v_l ∧ ρ 7 = (iV (l.length : Int)) ∧ ρ 3 = (iV last) ∧ ρ 8 = (iV (i : Int)) ∧ St w0 w [] ∧ (i ≤ l.length) ∧ (grantsC l = grantsG last (l.drop i) i)) id _ ⟨0, 0, rfl, rfl, rfl, rfl, rfl, (congrArg iV (show 0 = _ from by omega)), hst, (by omega), (by rfl)⟩ ?_))))))))))))))))))))))))
 rintro m2 ρ3 w4 ⟨last, i, hm2, q1_0, q1_6, q1_7, q1_3, q1_8, hst, hi, hI⟩
 have hlen := h_l.len
 refine cE_seq (cE_region rfl (s_cons (op_lss (k := .i64) (a := (i : Int)) (b := (l.length : Int)) q1_8 q1_7 (s_nil (then_n (cE_seq ?_))))))
 rcases Bool.eq_false_or_eq_true (decide ((i : Int) < (l.length : Int))) with b5 | b5
 ·have c6 := of_decide_eq_true b5
  refine cE_cond true (congrArg Value.bool b5) (fun _ => ?_) (fun h => by cases h)
  refine cE_skip (then_n (cE_seq (cE_block (cE_seq (cE_region rfl (s_cons (op_move (iV (i : Int)) q1_8 (s_cons (op_indexAddrD (E := grantE) (xs := l) i Try.underlying25 Try.sizeOf58 q1_6 h_l q1_8 (by omega) (by omega) (fun a7 o8 p9 => ?_))))))))))
  refine s_cons (op_loadN (cs := [(iV ((gd l i).View)), (iV ((gd l i).Site))]) Try.isAgg58 Try.sizeOf58 rfl (Pt.of (p9.below hst.below) rfl) rfl (s_cons (op_alloc (cs := #[(iV 0), (iV 0)]) hst Try.zeroValue58 rfl (fun g10 w11 hst _ => ?_))))
  refine s_cons (op_assign (iV (i : Int)) rfl (s_cons0 (op_storeAll hst 0 rfl Try.sizeOf58 rfl rfl rfl rfl (by simp [Value.oneCell']) (fun w12 hst => ?_))))
  refine s_nil (then_n (cE_seq (cE_seq (cE_region rfl (s_cons (op_fieldAddr (s := 0) Try.underlying58 rfl rfl Try.sizeOf3 rfl (s_cons (op_load1 (u := (iV ((gd l i).View))) Try.isAgg3 rfl (hst.cell 0 rfl) (s_cons (op_move (iV last) q1_3 (s_cons (op_leq (k := .i64) (a := (gd l i).View) (b := last) rfl rfl (s_cons (op_move (.bool (decide (((gd l i).View) ≤ last))) rfl ?_))))))))))))))
  obtain ⟨g13, hg14⟩ : ∃ x : Bool, x = !(decide (((gd l i).View) ≤ last)) := ⟨_, rfl⟩
  refine s_lz 17 rfl ((gA_f rfl).trans hg14.symm) (Rlz g13 (.pointer (some ⟨g10, (0 + 1), none⟩)) w12) ?_ (fun hc15 => rlz_f hc15) ?_
  ·intro hc15
   refine op_fieldAddr (s := 0) Try.underlying58 rfl rfl Try.sizeOf3 rfl ?_
   exact rlz_t hc15
  rintro _ _ ⟨rfl, rfl⟩
  refine s_lz 17 rfl ((gA_f rfl).trans hg14.symm) (Rlz g13 (iV ((gd l i).Site)) w12) ?_ (fun hc16 => rlz_f hc16) ?_
  ·intro hc16
   refine op_load1 (u := (iV ((gd l i).Site))) Try.isAgg3 (gt hc16) ((hst.cell 0 rfl).drop 1) ?_
   exact rlz_t hc16
  rintro _ _ ⟨rfl, rfl⟩
  refine s_lz 17 rfl ((gA_f rfl).trans hg14.symm) (Rlz g13 (.bool (decide (((gd l i).Site) < 0))) w12) ?_ (fun hc17 => rlz_f hc17) ?_
  ·intro hc17
   refine op_lss (k := .i64) (a := (gd l i).Site) (b := 0) (gt hc17) rfl ?_
   exact rlz_t hc17
  rintro _ _ ⟨rfl, rfl⟩
  obtain ⟨g18, hg19⟩ : ∃ x : Bool, x = ((decide (((gd l i).View) ≤ last)) || (decide (((gd l i).Site) < 0))) := ⟨_, rfl⟩
  refine s_cons (op_pick_or rfl rfl rfl (fun hp => (hg14.trans (congrArg (! ·) hp))) (s_cons (op_move (.bool g18) (congrArg Value.bool hg19.symm) (s_lz 22 rfl (gA_f rfl) (Rlz (!g18) (.pointer (some ⟨g10, (0 + 1), none⟩)) w12) ?_ (fun hc20 => rlz_f hc20) ?_))))
  ·intro hc20
   refine op_fieldAddr (s := 0) Try.underlying58 rfl rfl Try.sizeOf3 rfl ?_
   exact rlz_t hc20
  rintro _ _ ⟨rfl, rfl⟩
  refine s_lz 22 rfl (gA_f rfl) (Rlz (!g18) (iV ((gd l i).Site)) w12) ?_ (fun hc21 => rlz_f hc21) ?_
  ·intro hc21
   refine op_load1 (u := (iV ((gd l i).Site))) Try.isAgg3 (gt (congrArg (! ·) (not_t hc21))) ((hst.cell 0 rfl).drop 1) ?_
   exact rlz_t hc21
  rintro _ _ ⟨rfl, rfl⟩
  refine s_lz 22 rfl (gA_f rfl) (Rlz (!g18) (.bool (decide (2 ≤ ((gd l i).Site)))) w12) ?_ (fun hc22 => rlz_f hc22) ?_
  ·intro hc22
   refine op_geq (k := .i64) (a := (gd l i).Site) (b := 2) (gt (congrArg (! ·) (not_t hc22))) rfl ?_
   exact rlz_t hc22
  rintro _ _ ⟨rfl, rfl⟩
  obtain ⟨g23, hg24⟩ : ∃ x : Bool, x = (g18 || (decide (2 ≤ ((gd l i).Site)))) := ⟨_, rfl⟩
  refine s_cons (op_pick_or rfl rfl rfl (fun hp => (congrArg (! ·) hp)) (s_nil (then_n ?_)))
  rcases Bool.eq_false_or_eq_true g23 with b25 | b25
  ·have c26 : ((((gd l i).View) ≤ last) ∨ (((gd l i).Site) < 0)) ∨ (2 ≤ ((gd l i).Site)) := (pi_or (pi_name hg19 (pi_or pi_dec pi_dec)) pi_dec).1 (hg24.symm.trans b25)
   refine cE_cond true ((congrArg Value.bool hg24.symm).trans (congrArg Value.bool b25)) (fun _ => ?_) (fun h => by cases h)
   refine cE_seq (cE_region rfl (s_cons (op_move (iV (i : Int)) rfl (s_cons (op_add (k := .i64) (a := (i : Int)) (b := 1) ((i : Int) + 1) rfl rfl (xi64 (by omega) (by omega)) (s_cons (op_assign (iV ((i : Int) + 1)) rfl (s_nil (then_n (cE_ret (then_r (block_r (then_r (then_r (block_r (then_r (post_r _ (res1 (v := (iV ((i : Int) + 1))) rfl) ?_)))))))))))))))))
   exact ⟨(retv1 (congrArg iV (show ((i : Int) + 1) = (grantsC l) from by exact (hI.trans (grants_at (by omega) (by omega))).symm))), hst.bare⟩
  have c27 : ¬ (((gd l i).View) ≤ last) := of_decide_eq_false (or_l (hg19.symm.trans (or_l (hg24.symm.trans b25))))
  have c28 : ¬ (((gd l i).Site) < 0) := of_decide_eq_false (or_r (hg19.symm.trans (or_l (hg24.symm.trans b25))))
  have c29 : ¬ (2 ≤ ((gd l i).Site)) := of_decide_eq_false (or_r (hg24.symm.trans b25))
  refine cE_cond false ((congrArg Value.bool hg24.symm).trans (congrArg Value.bool b25)) (fun h => by cases h) (fun _ => ?_)
  refine cE_skip (then_n (cE_region rfl (s_cons (op_fieldAddr (s := 0) Try.underlying58 rfl rfl Try.sizeOf3 rfl (s_cons (op_load1 (u := (iV ((gd l i).View))) Try.isAgg3 rfl (hst.cell 0 rfl) (s_cons (op_assign (iV ((gd l i).View)) rfl (s_nil (block_n (then_n (cE_region rfl (s_cons (op_add (k := .i64) (a := (i : Int)) (b := 1) ((i : Int) + 1) q1_8 rfl (xi64 (by omega) (by omega)) (s_cons (op_move (iV ((i : Int) + 1)) rfl ?_))))))))))))))))
  refine s_nil (then_n ?_)
  exact ⟨_, ⟨(gd l i).View, (i + 1), rfl, q1_0, q1_6, q1_7, rfl, (congrArg iV (show ((i : Int) + 1) = _ from by omega)), (hst.sub (.cons _ .slnil)), (by omega), (by exact hI.trans (grants_go (by omega) (by omega)))⟩, (by simp only [id]; omega)⟩
 have c30 := of_decide_eq_false b5
 refine cE_cond false (congrArg Value.bool b5) (fun h => by cases h) (fun _ => ?_)
 refine cE_exit (then_x (then_x (block_hit (then_n (cE_seq (cE_region rfl (s_cons (op_assign (iV 0) rfl (s_nil (then_n (cE_ret (post_r _ (res1 (v := (iV 0)) rfl) ?_))))))))))))
 exact ⟨(retv1 (congrArg iV (show 0 = (grantsC l) from by exact (hI.trans (grants_end (by omega))).symm))), hst.bare⟩

set_option maxRecDepth 8000 in
set_option maxHeartbeats 4000000 in
theorem c_rGrants (w0 : World) (v_l : Value) (l : List Grant) (h_l : Sl w0 grantE v_l l) :
  Calls Try.prog 17 #[v_l] w0 fun e w' => e = .returned (iV (grantsC l)) ∧ St w0 w' [] := by
 refine calls_E (n := 41) (ts := [2]) Try.func17 rfl rfl rfl (by simp) ?_
 have hst := St.start w0
 refine cE_seq (cE_region rfl (s_cons (op_assign (iV 0) rfl (s_nil (then_n (cE_seq (cE_region rfl (s_cons (op_assign (iV 0) rfl (s_nil (then_n (cE_seq (cE_seq (cE_region rfl (s_cons (op_assign (iV 0) rfl (s_nil (then_n (cE_block (cE_loop (fun (m : Nat) (ρ : Env) (w : World) => ∃ (last : Int) (i : Nat), m = l.length - i ∧ ρ 0 = v_l ∧ ρ 3 = (iV last) ∧ ρ 4 = (iV (i : Int)) ∧ St w0 w [] ∧ (i ≤ l.length) ∧ (grantsC l = grantsG last (l.drop i) i)) id _ ⟨0, 0, rfl, rfl, rfl, (congrArg iV (show 0 = _ from by omega)), hst, (by omega), (by rfl)⟩ ?_))))))))))))))))))))
 rintro m32 ρ33 w34 ⟨last, i, hm32, q31_0, q31_3, q31_4, hst, hi, hI⟩
 have hlen := h_l.len
 refine cE_seq (cE_seq (cE_region rfl (s_cons (op_move (iV (i : Int)) q31_4 (s_cons (op_move v_l q31_0 (s_cons (op_len (E := grantE) (xs := l) Try.underlying25 rfl h_l (s_cons (op_lss (k := .i64) (a := (i : Int)) (b := (l.length : Int)) rfl rfl (s_nil (then_n ?_))))))))))))
 rcases Bool.eq_false_or_eq_true (decide ((i : Int) < (l.length : Int))) with b35 | b35
 ·have c36 := of_decide_eq_true b35
  refine cE_cond true (congrArg Value.bool b35) (fun _ => ?_) (fun h => by cases h)
  refine cE_skip (then_n (cE_seq (cE_block (cE_seq (cE_seq (cE_region rfl (s_cons (op_move v_l q31_0 (s_cons (op_move (iV (i : Int)) q31_4 (s_cons (op_indexAddrD (E := grantE) (xs := l) i Try.underlying25 Try.sizeOf58 rfl h_l rfl (by omega) (by omega) (fun a37 o38 p39 => ?_)))))))))))))
  refine s_cons (op_fieldAddr (s := 0) Try.underlying58 rfl rfl Try.sizeOf3 rfl (s_cons (op_load1 (u := (iV ((gd l i).View))) Try.isAgg3 rfl (p39.below hst.below) (s_cons (op_move (iV last) q31_3 (s_cons (op_leq (k := .i64) (a := (gd l i).View) (b := last) rfl rfl (s_cons (op_move (.bool (decide (((gd l i).View) ≤ last))) rfl ?_)))))))))
  obtain ⟨g40, hg41⟩ : ∃ x : Bool, x = !(decide (((gd l i).View) ≤ last)) := ⟨_, rfl⟩
  refine s_lz 18 rfl ((gA_f rfl).trans hg41.symm) (Rlz g40 v_l w34) ?_ (fun hc42 => rlz_f hc42) ?_
  ·intro hc42
   refine op_move v_l q31_0 ?_
   exact rlz_t hc42
  rintro _ _ ⟨rfl, rfl⟩
  refine s_lz 18 rfl ((gA_f rfl).trans hg41.symm) (Rlz g40 (iV (i : Int)) w34) ?_ (fun hc43 => rlz_f hc43) ?_
  ·intro hc43
   refine op_move (iV (i : Int)) q31_4 ?_
   exact rlz_t hc43
  rintro _ _ ⟨rfl, rfl⟩
  refine s_lz 18 rfl ((gA_f rfl).trans hg41.symm) (RlzP g40 w0 w34 [(iV ((gd l i).View)), (iV ((gd l i).Site))]) ?_ (fun hc44 => ⟨fun h => absurd (show _ = true from h) (by rw [hc44]; decide), rfl⟩) ?_
  ·intro hc44
   have c45 : ¬ (((gd l i).View) ≤ last) := of_decide_eq_false (not_t (hg41.symm.trans hc44))
   refine op_indexAddrD (E := grantE) (xs := l) i Try.underlying25 Try.sizeOf58 (gt hc44) h_l (gt hc44) (by omega) (by omega) (fun a46 o47 p48 => ?_)
   exact ⟨fun _ => ⟨_, _, rfl, p48⟩, rfl⟩
  rintro v49 _ ⟨hp50, rfl⟩
  refine s_lz 18 rfl ((gA_f rfl).trans hg41.symm) (RlzP g40 w0 w34 [(iV ((gd l i).Site))]) ?_ (fun hc51 => ⟨fun h => absurd (show _ = true from h) (by rw [hc51]; decide), rfl⟩) ?_
  ·intro hc51
   obtain ⟨a52, o53, e54, p55⟩ := hp50 hc51
   refine op_fieldAddr (s := 0) Try.underlying58 rfl rfl Try.sizeOf3 e54 ?_
   exact ⟨fun _ => ⟨_, _, rfl, (p55.drop 1)⟩, rfl⟩
  rintro v56 _ ⟨hp57, rfl⟩
  refine s_lz 18 rfl ((gA_f rfl).trans hg41.symm) (Rlz g40 (iV ((gd l i).Site)) w34) ?_ (fun hc58 => rlz_f hc58) ?_
  ·intro hc58
   obtain ⟨a59, o60, e61, p62⟩ := hp50 hc58
   obtain ⟨a63, o64, e65, p66⟩ := hp57 hc58
   refine op_load1 (u := (iV ((gd l i).Site))) Try.isAgg3 e65 (p66.below hst.below) ?_
   exact rlz_t hc58
  rintro _ _ ⟨rfl, rfl⟩
  refine s_lz 18 rfl ((gA_f rfl).trans hg41.symm) (Rlz g40 (.bool (decide (((gd l i).Site) < 0))) w34) ?_ (fun hc67 => rlz_f hc67) ?_
  ·intro hc67
   obtain ⟨a68, o69, e70, p71⟩ := hp50 hc67
   obtain ⟨a72, o73, e74, p75⟩ := hp57 hc67
   refine op_lss (k := .i64) (a := (gd l i).Site) (b := 0) (gt hc67) rfl ?_
   exact rlz_t hc67
  rintro _ _ ⟨rfl, rfl⟩
  obtain ⟨g76, hg77⟩ : ∃ x : Bool, x = ((decide (((gd l i).View) ≤ last)) || (decide (((gd l i).Site) < 0))) := ⟨_, rfl⟩
  refine s_cons (op_pick_or rfl rfl rfl (fun hp => (hg41.trans (congrArg (! ·) hp))) (s_cons (op_move (.bool g76) (congrArg Value.bool hg77.symm) (s_lz 26 rfl (gA_f rfl) (Rlz (!g76) v_l w34) ?_ (fun hc78 => rlz_f hc78) ?_))))
  ·intro hc78
   obtain ⟨a79, o80, e81, p82⟩ := hp50 (hg41.trans (congrArg (! ·) (or_l (hg77.symm.trans (not_t hc78)))))
   obtain ⟨a83, o84, e85, p86⟩ := hp57 (hg41.trans (congrArg (! ·) (or_l (hg77.symm.trans (not_t hc78)))))
   refine op_move v_l q31_0 ?_
   exact rlz_t hc78
  rintro _ _ ⟨rfl, rfl⟩
  refine s_lz 26 rfl (gA_f rfl) (Rlz (!g76) (iV (i : Int)) w34) ?_ (fun hc87 => rlz_f hc87) ?_
  ·intro hc87
   obtain ⟨a88, o89, e90, p91⟩ := hp50 (hg41.trans (congrArg (! ·) (or_l (hg77.symm.trans (not_t hc87)))))
   obtain ⟨a92, o93, e94, p95⟩ := hp57 (hg41.trans (congrArg (! ·) (or_l (hg77.symm.trans (not_t hc87)))))
   refine op_move (iV (i : Int)) q31_4 ?_
   exact rlz_t hc87
  rintro _ _ ⟨rfl, rfl⟩
  refine s_lz 26 rfl (gA_f rfl) (RlzP (!g76) w0 w34 [(iV ((gd l i).View)), (iV ((gd l i).Site))]) ?_ (fun hc96 => ⟨fun h => absurd (show _ = true from h) (by rw [hc96]; decide), rfl⟩) ?_
  ·intro hc96
   have c97 : ¬ (((gd l i).View) ≤ last) := of_decide_eq_false (or_l (hg77.symm.trans (not_t hc96)))
   have c98 : ¬ (((gd l i).Site) < 0) := of_decide_eq_false (or_r (hg77.symm.trans (not_t hc96)))
   obtain ⟨a99, o100, e101, p102⟩ := hp50 (hg41.trans (congrArg (! ·) (or_l (hg77.symm.trans (not_t hc96)))))
   obtain ⟨a103, o104, e105, p106⟩ := hp57 (hg41.trans (congrArg (! ·) (or_l (hg77.symm.trans (not_t hc96)))))
   refine op_indexAddrD (E := grantE) (xs := l) i Try.underlying25 Try.sizeOf58 (gt (congrArg (! ·) (not_t hc96))) h_l (gt (congrArg (! ·) (not_t hc96))) (by omega) (by omega) (fun a107 o108 p109 => ?_)
   exact ⟨fun _ => ⟨_, _, rfl, p109⟩, rfl⟩
  rintro v110 _ ⟨hp111, rfl⟩
  refine s_lz 26 rfl (gA_f rfl) (RlzP (!g76) w0 w34 [(iV ((gd l i).Site))]) ?_ (fun hc112 => ⟨fun h => absurd (show _ = true from h) (by rw [hc112]; decide), rfl⟩) ?_
  ·intro hc112
   obtain ⟨a113, o114, e115, p116⟩ := hp50 (hg41.trans (congrArg (! ·) (or_l (hg77.symm.trans (not_t hc112)))))
   obtain ⟨a117, o118, e119, p120⟩ := hp57 (hg41.trans (congrArg (! ·) (or_l (hg77.symm.trans (not_t hc112)))))
   obtain ⟨a121, o122, e123, p124⟩ := hp111 (congrArg (! ·) (not_t hc112))
   refine op_fieldAddr (s := 0) Try.underlying58 rfl rfl Try.sizeOf3 e123 ?_
   exact ⟨fun _ => ⟨_, _, rfl, (p124.drop 1)⟩, rfl⟩
  rintro v125 _ ⟨hp126, rfl⟩
  refine s_lz 26 rfl (gA_f rfl) (Rlz (!g76) (iV ((gd l i).Site)) w34) ?_ (fun hc127 => rlz_f hc127) ?_
  ·intro hc127
   obtain ⟨a128, o129, e130, p131⟩ := hp50 (hg41.trans (congrArg (! ·) (or_l (hg77.symm.trans (not_t hc127)))))
   obtain ⟨a132, o133, e134, p135⟩ := hp57 (hg41.trans (congrArg (! ·) (or_l (hg77.symm.trans (not_t hc127)))))
   obtain ⟨a136, o137, e138, p139⟩ := hp111 (congrArg (! ·) (not_t hc127))
   obtain ⟨a140, o141, e142, p143⟩ := hp126 (congrArg (! ·) (not_t hc127))
   refine op_load1 (u := (iV ((gd l i).Site))) Try.isAgg3 e142 (p143.below hst.below) ?_
   exact rlz_t hc127
  rintro _ _ ⟨rfl, rfl⟩
  refine s_lz 26 rfl (gA_f rfl) (Rlz (!g76) (.bool (decide (1 < ((gd l i).Site)))) w34) ?_ (fun hc144 => rlz_f hc144) ?_
  ·intro hc144
   obtain ⟨a145, o146, e147, p148⟩ := hp50 (hg41.trans (congrArg (! ·) (or_l (hg77.symm.trans (not_t hc144)))))
   obtain ⟨a149, o150, e151, p152⟩ := hp57 (hg41.trans (congrArg (! ·) (or_l (hg77.symm.trans (not_t hc144)))))
   obtain ⟨a153, o154, e155, p156⟩ := hp111 (congrArg (! ·) (not_t hc144))
   obtain ⟨a157, o158, e159, p160⟩ := hp126 (congrArg (! ·) (not_t hc144))
   refine op_gtr (k := .i64) (a := (gd l i).Site) (b := 1) (gt (congrArg (! ·) (not_t hc144))) rfl ?_
   exact rlz_t hc144
  rintro _ _ ⟨rfl, rfl⟩
  obtain ⟨g161, hg162⟩ : ∃ x : Bool, x = (g76 || (decide (1 < ((gd l i).Site)))) := ⟨_, rfl⟩
  refine s_cons (op_pick_or rfl rfl rfl (fun hp => (congrArg (! ·) hp)) (s_nil (then_n ?_)))
  rcases Bool.eq_false_or_eq_true g161 with b163 | b163
  ·have c164 : ((((gd l i).View) ≤ last) ∨ (((gd l i).Site) < 0)) ∨ (1 < ((gd l i).Site)) := (pi_or (pi_name hg77 (pi_or pi_dec pi_dec)) pi_dec).1 (hg162.symm.trans b163)
   refine cE_cond true ((congrArg Value.bool hg162.symm).trans (congrArg Value.bool b163)) (fun _ => ?_) (fun h => by cases h)
   refine cE_seq (cE_region rfl (s_cons (op_move (iV (i : Int)) q31_4 (s_cons (op_add (k := .i64) (a := (i : Int)) (b := 1) ((i : Int) + 1) rfl rfl (xi64 (by omega) (by omega)) (s_cons (op_assign (iV ((i : Int) + 1)) rfl (s_nil (then_n (cE_ret (then_r (block_r (then_r (then_r (block_r (then_r (post_r _ (res1 (v := (iV ((i : Int) + 1))) rfl) ?_)))))))))))))))))
   exact ⟨(retv1 (congrArg iV (show ((i : Int) + 1) = (grantsC l) from by exact (hI.trans (grants_at (by omega) (by omega))).symm))), hst.bare⟩
  have c165 : ¬ (((gd l i).View) ≤ last) := of_decide_eq_false (or_l (hg77.symm.trans (or_l (hg162.symm.trans b163))))
  have c166 : ¬ (((gd l i).Site) < 0) := of_decide_eq_false (or_r (hg77.symm.trans (or_l (hg162.symm.trans b163))))
  have c167 : ¬ (1 < ((gd l i).Site)) := of_decide_eq_false (or_r (hg162.symm.trans b163))
  refine cE_cond false ((congrArg Value.bool hg162.symm).trans (congrArg Value.bool b163)) (fun h => by cases h) (fun _ => ?_)
  refine cE_skip (then_n (cE_region rfl (s_cons (op_move v_l q31_0 (s_cons (op_move (iV (i : Int)) q31_4 (s_cons (op_indexAddrD (E := grantE) (xs := l) i Try.underlying25 Try.sizeOf58 rfl h_l rfl (by omega) (by omega) (fun a168 o169 p170 => ?_)))))))))
  refine s_cons (op_fieldAddr (s := 0) Try.underlying58 rfl rfl Try.sizeOf3 rfl (s_cons (op_load1 (u := (iV ((gd l i).View))) Try.isAgg3 rfl (p170.below hst.below) (s_cons (op_assign (iV ((gd l i).View)) rfl (s_nil (block_n (then_n (cE_region rfl (s_cons (op_move (iV (i : Int)) q31_4 (s_cons (op_add (k := .i64) (a := (i : Int)) (b := 1) ((i : Int) + 1) rfl rfl (xi64 (by omega) (by omega)) ?_)))))))))))))
  refine s_cons (op_assign (iV ((i : Int) + 1)) rfl (s_nil (then_n ?_)))
  exact ⟨_, ⟨(gd l i).View, (i + 1), rfl, q31_0, rfl, (congrArg iV (show ((i : Int) + 1) = _ from by omega)), hst, (by omega), (by exact hI.trans (grants_go (by omega) (by omega)))⟩, (by simp only [id]; omega)⟩
 have c171 := of_decide_eq_false b35
 refine cE_cond false (congrArg Value.bool b35) (fun h => by cases h) (fun _ => ?_)
 refine cE_exit (then_x (then_x (block_hit (then_n (cE_seq (cE_region rfl (s_cons (op_assign (iV 0) rfl (s_nil (then_n (cE_ret (post_r _ (res1 (v := (iV 0)) rfl) ?_))))))))))))
 exact ⟨(retv1 (congrArg iV (show 0 = (grantsC l) from by exact (hI.trans (grants_end (by omega))).symm))), hst.bare⟩

end Go.Proofs.Ytldfnkhccaglmaa
