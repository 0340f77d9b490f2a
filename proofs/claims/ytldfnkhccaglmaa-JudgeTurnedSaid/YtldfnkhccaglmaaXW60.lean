/- judge.Told -/
import Derived.Test.YtldfnkhccaglmaaXLB
import Derived.Test.YtldfnkhccaglmaaXLA
import Derived.Test.YtldfnkhccaglmaaXTM
import Derived.Test.YtldfnkhccaglmaaXT
namespace Go.Proofs.Ytldfnkhccaglmaa
open Go.RowKit

set_option maxRecDepth 8000 in
set_option maxHeartbeats 8000000 in
theorem c_Told (w0 : World) (v_l : Value) (l : List Told) (h_l : Sl w0 toldE v_l l) :
  Calls Try.prog 9 #[v_l] w0 fun e w' => e = .returned (.bool (toldJ l)) ∧ St w0 w' [] := by
 refine calls_E (n := 57) (ts := [2]) Try.func9 rfl rfl rfl (by simp) ?_
 have hst := St.start w0
 refine cE_seq (cE_region rfl (s_cons (op_assign (.bool false) rfl (s_nil (then_n (cE_scope (cE_seq (cE_region rfl (s_cons (op_makeMap encI hst (fun g1 w2 hst => ?_)))))))))))
 refine s_cons (op_assign (.map (some g1)) rfl (s_nil (then_n (cE_seq (cE_label (then_n (cE_seq (cE_seq (cE_region rfl (s_cons (op_move v_l rfl (s_cons (op_len (E := toldE) (xs := l) Try.underlying22 rfl h_l (s_cons (op_move (iV 0) rfl (s_nil (then_n (cE_block (cE_loop (fun (m : Nat) (ρ : Env) (w : World) => ∃ (M : List (Int × Nat)) (cl : Nat) (i : Nat), m = l.length - i ∧ ρ 0 = v_l ∧ ρ 3 = (.map (some g1)) ∧ ρ 7 = v_l ∧ ρ 8 = (iV (l.length : Int)) ∧ ρ 9 = (iV (i : Int)) ∧ St w0 w [mapT encI g1 M cl] ∧ (i ≤ l.length) ∧ (toldTo l i = true) ∧ (∀ t, hasM M t = safeAt (l.take i) t)) id _ ⟨[], 0, 0, rfl, rfl, rfl, rfl, rfl, (congrArg iV (show 0 = _ from by omega)), hst, (by omega), (by rfl), (by exact fun t => rfl)⟩ ?_)))))))))))))))))))
 rintro m4 ρ5 w6 ⟨M, cl, i, hm4, q3_0, q3_3, q3_7, q3_8, q3_9, hst, hi, hI, hM⟩
 have hlen := h_l.len
 refine cE_seq (cE_region rfl (s_cons (op_lss (k := .i64) (a := (i : Int)) (b := (l.length : Int)) q3_9 q3_8 (s_nil (then_n (cE_seq ?_))))))
 rcases Bool.eq_false_or_eq_true (decide ((i : Int) < (l.length : Int))) with b7 | b7
 ·have c8 := of_decide_eq_true b7
  refine cE_cond true (congrArg Value.bool b7) (fun _ => ?_) (fun h => by cases h)
  refine cE_skip (then_n (cE_seq (cE_block (cE_seq (cE_region rfl (s_cons (op_indexAddrD (E := toldE) (xs := l) i Try.underlying22 Try.sizeOf54 q3_7 h_l q3_9 (by omega) (by omega) (fun a9 o10 p11 => ?_))))))))
  refine s_cons (op_loadN (cs := [(iV (((gd l i).S).T)), (iV (((gd l i).S).V)), (iV ((gd l i).Site)), (iV ((gd l i).View)), (.bool ((gd l i).Safe))]) Try.isAgg54 Try.sizeOf54 rfl (Pt.of (p11.below hst.below) rfl) rfl (s_cons (op_alloc (cs := #[(iV 0), (iV 0), (iV 0), (iV 0), (.bool false)]) hst Try.zeroValue54 rfl (fun g12 w13 hst _ => ?_))))
  refine s_cons0 (op_storeAll hst 0 rfl Try.sizeOf54 rfl rfl rfl rfl (by simp [Value.oneCell']) (fun w14 hst => ?_))
  refine s_nil (then_n (cE_seq (cE_seq (cE_region rfl (s_cons (op_fieldAddr (s := 0) Try.underlying54 rfl rfl Try.sizeOf3 rfl (s_cons (op_load1 (u := (iV ((gd l i).Site))) Try.isAgg3 rfl ((hst.cell 0 rfl).drop 2) (s_cons (op_lss (k := .i64) (a := (gd l i).Site) (b := 0) rfl rfl (s_cons (op_move (.bool (decide (((gd l i).Site) < 0))) rfl ?_))))))))))))
  obtain ⟨g15, hg16⟩ : ∃ x : Bool, x = !(decide (((gd l i).Site) < 0)) := ⟨_, rfl⟩
  refine s_lz 16 rfl ((gA_f rfl).trans hg16.symm) (Rlz g15 (.pointer (some ⟨g12, (0 + 2), none⟩)) w14) ?_ (fun hc17 => rlz_f hc17) ?_
  ·intro hc17
   refine op_fieldAddr (s := 0) Try.underlying54 rfl rfl Try.sizeOf3 rfl ?_
   exact rlz_t hc17
  rintro _ _ ⟨rfl, rfl⟩
  refine s_lz 16 rfl ((gA_f rfl).trans hg16.symm) (Rlz g15 (iV ((gd l i).Site)) w14) ?_ (fun hc18 => rlz_f hc18) ?_
  ·intro hc18
   refine op_load1 (u := (iV ((gd l i).Site))) Try.isAgg3 (gt hc18) ((hst.cell 0 rfl).drop 2) ?_
   exact rlz_t hc18
  rintro _ _ ⟨rfl, rfl⟩
  refine s_lz 16 rfl ((gA_f rfl).trans hg16.symm) (Rlz g15 (.bool (decide (2 ≤ ((gd l i).Site)))) w14) ?_ (fun hc19 => rlz_f hc19) ?_
  ·intro hc19
   refine op_geq (k := .i64) (a := (gd l i).Site) (b := 2) (gt hc19) rfl ?_
   exact rlz_t hc19
  rintro _ _ ⟨rfl, rfl⟩
  obtain ⟨g20, hg21⟩ : ∃ x : Bool, x = ((decide (((gd l i).Site) < 0)) || (decide (2 ≤ ((gd l i).Site)))) := ⟨_, rfl⟩
  refine s_cons (op_pick_or rfl rfl rfl (fun hp => (hg16.trans (congrArg (! ·) hp))) (s_cons (op_move (.bool g20) (congrArg Value.bool hg21.symm) (s_lz 21 rfl (gA_f rfl) (Rlz (!g20) (.pointer (some ⟨g12, (0 + 3), none⟩)) w14) ?_ (fun hc22 => rlz_f hc22) ?_))))
  ·intro hc22
   refine op_fieldAddr (s := 0) Try.underlying54 rfl rfl Try.sizeOf3 rfl ?_
   exact rlz_t hc22
  rintro _ _ ⟨rfl, rfl⟩
  refine s_lz 21 rfl (gA_f rfl) (Rlz (!g20) (iV ((gd l i).View)) w14) ?_ (fun hc23 => rlz_f hc23) ?_
  ·intro hc23
   refine op_load1 (u := (iV ((gd l i).View))) Try.isAgg3 (gt (congrArg (! ·) (not_t hc23))) ((hst.cell 0 rfl).drop 3) ?_
   exact rlz_t hc23
  rintro _ _ ⟨rfl, rfl⟩
  refine s_lz 21 rfl (gA_f rfl) (Rlz (!g20) (.bool (decide (((gd l i).View) < 1))) w14) ?_ (fun hc24 => rlz_f hc24) ?_
  ·intro hc24
   refine op_lss (k := .i64) (a := (gd l i).View) (b := 1) (gt (congrArg (! ·) (not_t hc24))) rfl ?_
   exact rlz_t hc24
  rintro _ _ ⟨rfl, rfl⟩
  obtain ⟨g25, hg26⟩ : ∃ x : Bool, x = (g20 || (decide (((gd l i).View) < 1))) := ⟨_, rfl⟩
  refine s_cons (op_pick_or rfl rfl rfl (fun hp => (congrArg (! ·) hp)) (s_cons (op_move (.bool g25) (congrArg Value.bool hg26.symm) (s_lz 26 rfl (gA_f rfl) (Rlz (!g25) (.pointer (some ⟨g12, (0 + 0), none⟩)) w14) ?_ (fun hc27 => rlz_f hc27) ?_))))
  ·intro hc27
   refine op_fieldAddr (s := 1) Try.underlying54 rfl rfl Try.sizeOf51 rfl ?_
   exact rlz_t hc27
  rintro _ _ ⟨rfl, rfl⟩
  refine s_lz 26 rfl (gA_f rfl) (Rlz (!g25) (.pointer (some ⟨g12, ((0 + 0) + 0), none⟩)) w14) ?_ (fun hc28 => rlz_f hc28) ?_
  ·intro hc28
   refine op_fieldAddr (s := 0) Try.underlying51 rfl rfl Try.sizeOf2 (gt (congrArg (! ·) (not_t hc28))) ?_
   exact rlz_t hc28
  rintro _ _ ⟨rfl, rfl⟩
  refine s_lz 26 rfl (gA_f rfl) (Rlz (!g25) (iV (((gd l i).S).T)) w14) ?_ (fun hc29 => rlz_f hc29) ?_
  ·intro hc29
   refine op_load1 (u := (iV (((gd l i).S).T))) Try.isAgg2 (gt (congrArg (! ·) (not_t hc29))) (hst.cell 0 rfl) ?_
   exact rlz_t hc29
  rintro _ _ ⟨rfl, rfl⟩
  refine s_lz 26 rfl (gA_f rfl) (Rlz (!g25) (.bool (decide ((((gd l i).S).T) < 0))) w14) ?_ (fun hc30 => rlz_f hc30) ?_
  ·intro hc30
   refine op_lss (k := .i64) (a := ((gd l i).S).T) (b := 0) (gt (congrArg (! ·) (not_t hc30))) rfl ?_
   exact rlz_t hc30
  rintro _ _ ⟨rfl, rfl⟩
  obtain ⟨g31, hg32⟩ : ∃ x : Bool, x = (g25 || (decide ((((gd l i).S).T) < 0))) := ⟨_, rfl⟩
  refine s_cons (op_pick_or rfl rfl rfl (fun hp => (congrArg (! ·) hp)) (s_cons (op_move (.bool g31) (congrArg Value.bool hg32.symm) (s_lz 32 rfl (gA_f rfl) (Rlz (!g31) (.pointer (some ⟨g12, (0 + 0), none⟩)) w14) ?_ (fun hc33 => rlz_f hc33) ?_))))
  ·intro hc33
   refine op_fieldAddr (s := 1) Try.underlying54 rfl rfl Try.sizeOf51 rfl ?_
   exact rlz_t hc33
  rintro _ _ ⟨rfl, rfl⟩
  refine s_lz 32 rfl (gA_f rfl) (Rlz (!g31) (.pointer (some ⟨g12, ((0 + 0) + 0), none⟩)) w14) ?_ (fun hc34 => rlz_f hc34) ?_
  ·intro hc34
   refine op_fieldAddr (s := 0) Try.underlying51 rfl rfl Try.sizeOf2 (gt (congrArg (! ·) (not_t hc34))) ?_
   exact rlz_t hc34
  rintro _ _ ⟨rfl, rfl⟩
  refine s_lz 32 rfl (gA_f rfl) (Rlz (!g31) (iV (((gd l i).S).T)) w14) ?_ (fun hc35 => rlz_f hc35) ?_
  ·intro hc35
   refine op_load1 (u := (iV (((gd l i).S).T))) Try.isAgg2 (gt (congrArg (! ·) (not_t hc35))) (hst.cell 0 rfl) ?_
   exact rlz_t hc35
  rintro _ _ ⟨rfl, rfl⟩
  refine s_lz 32 rfl (gA_f rfl) (Rlz (!g31) (.bool (decide (1099511627776 < (((gd l i).S).T)))) w14) ?_ (fun hc36 => rlz_f hc36) ?_
  ·intro hc36
   refine op_gtr (k := .i64) (a := ((gd l i).S).T) (b := 1099511627776) (gt (congrArg (! ·) (not_t hc36))) rfl ?_
   exact rlz_t hc36
  rintro _ _ ⟨rfl, rfl⟩
  obtain ⟨g37, hg38⟩ : ∃ x : Bool, x = (g31 || (decide (1099511627776 < (((gd l i).S).T)))) := ⟨_, rfl⟩
  refine s_cons (op_pick_or rfl rfl rfl (fun hp => (congrArg (! ·) hp)) (s_cons (op_move (.bool g37) (congrArg Value.bool hg38.symm) (s_lz 38 rfl (gA_f rfl) (Rlz (!g37) (.pointer (some ⟨g12, (0 + 4), none⟩)) w14) ?_ (fun hc39 => rlz_f hc39) ?_))))
  ·intro hc39
   refine op_fieldAddr (s := 0) Try.underlying54 rfl rfl Try.sizeOf4 rfl ?_
   exact rlz_t hc39
  rintro _ _ ⟨rfl, rfl⟩
  refine s_lz 38 rfl (gA_f rfl) (Rlz (!g37) (.bool ((gd l i).Safe)) w14) ?_ (fun hc40 => rlz_f hc40) ?_
  ·intro hc40
   refine op_load1 (u := (.bool ((gd l i).Safe))) Try.isAgg4 (gt (congrArg (! ·) (not_t hc40))) ((hst.cell 0 rfl).drop 4) ?_
   exact rlz_t hc40
  rintro _ _ ⟨rfl, rfl⟩
  refine s_lz 38 rfl (gA_f rfl) (Rlz (!g37) (.bool ((gd l i).Safe)) w14) ?_ (fun hc41 => rlz_f hc41) ?_
  ·intro hc41
   refine op_move (.bool ((gd l i).Safe)) (gt (congrArg (! ·) (not_t hc41))) ?_
   exact rlz_t hc41
  rintro _ _ ⟨rfl, rfl⟩
  refine s_lz 41 rfl (gB_t rfl) (Rlz ((!g37) && ((gd l i).Safe)) (.map (some g1)) w14) ?_ (fun hc42 => rlz_f hc42) ?_
  ·intro hc42
   refine op_move (.map (some g1)) q3_3 ?_
   exact rlz_t hc42
  rintro _ _ ⟨rfl, rfl⟩
  refine s_lz 41 rfl (gB_t rfl) (Rlz ((!g37) && ((gd l i).Safe)) (.pointer (some ⟨g12, (0 + 0), none⟩)) w14) ?_ (fun hc43 => rlz_f hc43) ?_
  ·intro hc43
   refine op_fieldAddr (s := 1) Try.underlying54 rfl rfl Try.sizeOf51 rfl ?_
   exact rlz_t hc43
  rintro _ _ ⟨rfl, rfl⟩
  refine s_lz 41 rfl (gB_t rfl) (Rlz ((!g37) && ((gd l i).Safe)) (.pointer (some ⟨g12, ((0 + 0) + 0), none⟩)) w14) ?_ (fun hc44 => rlz_f hc44) ?_
  ·intro hc44
   refine op_fieldAddr (s := 0) Try.underlying51 rfl rfl Try.sizeOf2 (gt hc44) ?_
   exact rlz_t hc44
  rintro _ _ ⟨rfl, rfl⟩
  refine s_lz 41 rfl (gB_t rfl) (Rlz ((!g37) && ((gd l i).Safe)) (iV (((gd l i).S).T)) w14) ?_ (fun hc45 => rlz_f hc45) ?_
  ·intro hc45
   refine op_load1 (u := (iV (((gd l i).S).T))) Try.isAgg2 (gt hc45) (hst.cell 0 rfl) ?_
   exact rlz_t hc45
  rintro _ _ ⟨rfl, rfl⟩
  refine s_lz 41 rfl (gB_t rfl) (Rlz ((!g37) && ((gd l i).Safe)) (.bool (hasM M (((gd l i).S).T))) w14) ?_ (fun hc46 => rlz_f hc46) ?_
  ·intro hc46
   refine op_lookupM (y := ((gd l i).S).T) Try.keys2 Try.underlying60 Try.zeroValue4 (hst.at 1 rfl).2 (gt hc46) (gt hc46) ?_
   exact rlz_t hc46
  rintro _ _ ⟨rfl, rfl⟩
  obtain ⟨g53, hg54⟩ : ∃ x : Bool, x = (((gd l i).Safe) && (hasM M (((gd l i).S).T))) := ⟨_, rfl⟩
  refine s_lz 38 rfl (gA_f rfl) (Rlz (!g37) (.bool g53) w14) ?_ (fun hc47 => rlz_f hc47) ?_
  ·intro hc47
   refine op_pick_and (gt (congrArg (! ·) (not_t hc47))) rfl (fun hp => (and_i (congrArg (! ·) (not_t hc47)) hp)) rfl ?_
   exact rlz_n hg54 hc47
  rintro _ _ ⟨rfl, rfl⟩
  obtain ⟨g48, hg49⟩ : ∃ x : Bool, x = (g37 || g53) := ⟨_, rfl⟩
  refine s_cons (op_pick_or rfl rfl rfl (fun hp => (congrArg (! ·) hp)) (s_nil (then_n ?_)))
  rcases Bool.eq_false_or_eq_true g48 with b50 | b50
  ·have c51 : (((((((gd l i).Site) < 0) ∨ (2 ≤ ((gd l i).Site))) ∨ (((gd l i).View) < 1)) ∨ ((((gd l i).S).T) < 0)) ∨ (1099511627776 < (((gd l i).S).T))) ∨ ((((gd l i).Safe) = true) ∧ ((hasM M (((gd l i).S).T)) = true)) := (pi_or (pi_name hg38 (pi_or (pi_name hg32 (pi_or (pi_name hg26 (pi_or (pi_name hg21 (pi_or pi_dec pi_dec)) pi_dec)) pi_dec)) pi_dec)) (pi_name hg54 (pi_and pi_self pi_self))).1 (hg49.symm.trans b50)
   refine cE_cond true ((congrArg Value.bool hg49.symm).trans (congrArg Value.bool b50)) (fun _ => ?_) (fun h => by cases h)
   refine cE_seq (cE_region rfl (s_cons (op_assign (.bool false) rfl (s_nil (then_n (cE_ret (then_r (block_r (then_r (then_r (block_r (then_r (scope_r (post_r _ (res1 (v := (.bool false)) rfl) ?_))))))))))))))
   exact ⟨(retv1 (congrArg Value.bool (show false = (toldJ l) from by exact (told_bad (by omega) hM (by assumption)).symm))), hst.bare⟩
  have c52 : ¬ (((gd l i).Site) < 0) := of_decide_eq_false (or_l (hg21.symm.trans (or_l (hg26.symm.trans (or_l (hg32.symm.trans (or_l (hg38.symm.trans (or_l (hg49.symm.trans b50))))))))))
  have c53 : ¬ (2 ≤ ((gd l i).Site)) := of_decide_eq_false (or_r (hg21.symm.trans (or_l (hg26.symm.trans (or_l (hg32.symm.trans (or_l (hg38.symm.trans (or_l (hg49.symm.trans b50))))))))))
  have c54 : ¬ (((gd l i).View) < 1) := of_decide_eq_false (or_r (hg26.symm.trans (or_l (hg32.symm.trans (or_l (hg38.symm.trans (or_l (hg49.symm.trans b50))))))))
  have c55 : ¬ ((((gd l i).S).T) < 0) := of_decide_eq_false (or_r (hg32.symm.trans (or_l (hg38.symm.trans (or_l (hg49.symm.trans b50))))))
  have c56 : ¬ (1099511627776 < (((gd l i).S).T)) := of_decide_eq_false (or_r (hg38.symm.trans (or_l (hg49.symm.trans b50))))
  have c57 : ¬ ((((gd l i).Safe) = true) ∧ ((hasM M (((gd l i).S).T)) = true)) := pi_f (pi_and pi_self pi_self) (hg54.symm.trans (or_r (hg49.symm.trans b50)))
  refine cE_cond false ((congrArg Value.bool hg49.symm).trans (congrArg Value.bool b50)) (fun h => by cases h) (fun _ => ?_)
  refine cE_skip (then_n (cE_seq (cE_seq (cE_region rfl (s_cons (op_fieldAddr (s := 0) Try.underlying54 rfl rfl Try.sizeOf4 rfl (s_cons (op_load1 (u := (.bool ((gd l i).Safe))) Try.isAgg4 rfl ((hst.cell 0 rfl).drop 4) (s_cons (op_not (b := (gd l i).Safe) rfl (s_nil (then_n ?_))))))))))))
  rcases Bool.eq_false_or_eq_true ((gd l i).Safe) with b58 | b58
  ·refine cE_cond false (congrArg Value.bool (congrArg (! ·) b58)) (fun h => by cases h) (fun _ => ?_)
   refine cE_skip (then_n (cE_region rfl (s_cons (op_move (.map (some g1)) q3_3 (s_cons (op_fieldAddr (s := 1) Try.underlying54 rfl rfl Try.sizeOf51 rfl (s_cons (op_fieldAddr (s := 0) Try.underlying51 rfl rfl Try.sizeOf2 rfl (s_cons (op_load1 (u := (iV (((gd l i).S).T))) Try.isAgg2 rfl (hst.cell 0 rfl) (s_cons0 (op_mapSet (y := ((gd l i).S).T) Try.keys2 Try.underlying60 hst 1 rfl rfl rfl rfl (fun M59 cl60 w61 hst hM62 => ?_)))))))))))))
   refine s_nil (block_n (then_n (cE_region rfl (s_cons (op_add (k := .i64) (a := (i : Int)) (b := 1) ((i : Int) + 1) q3_9 rfl (xi64 (by omega) (by omega)) (s_cons (op_move (iV ((i : Int) + 1)) rfl (s_nil (then_n ?_)))))))))
   exact ⟨_, ⟨M59, cl60, (i + 1), rfl, q3_0, q3_3, q3_7, q3_8, (congrArg iV (show ((i : Int) + 1) = _ from by omega)), (hst.sub (.cons _ (.cons_cons _ .slnil))), (by omega), (by exact told_step hI (by omega) (by assumption) hM), (by exact safe_add (by omega) hM (by assumption) (by assumption))⟩, (by simp only [id]; omega)⟩
  refine cE_cond true (congrArg Value.bool (congrArg (! ·) b58)) (fun _ => ?_) (fun h => by cases h)
  refine cE_exit (then_x (block_hit (then_n (cE_region rfl (s_cons (op_add (k := .i64) (a := (i : Int)) (b := 1) ((i : Int) + 1) q3_9 rfl (xi64 (by omega) (by omega)) (s_cons (op_move (iV ((i : Int) + 1)) rfl (s_nil (then_n ?_))))))))))
  exact ⟨_, ⟨M, cl, (i + 1), rfl, q3_0, q3_3, q3_7, q3_8, (congrArg iV (show ((i : Int) + 1) = _ from by omega)), (hst.sub (.cons _ (.cons_cons _ .slnil))), (by omega), (by exact told_step hI (by omega) (by assumption) hM), (by exact safe_skip (by omega) hM (by assumption))⟩, (by simp only [id]; omega)⟩
 have c63 := of_decide_eq_false b7
 refine cE_cond false (congrArg Value.bool b7) (fun h => by cases h) (fun _ => ?_)
 refine cE_exit (then_x (then_x (block_hit (then_n (cE_seq (cE_region rfl (s_cons (op_assign (.bool true) rfl (s_nil (then_n (cE_ret (scope_r (post_r _ (res1 (v := (.bool true)) rfl) ?_)))))))))))))
 exact ⟨(retv1 (congrArg Value.bool (show true = (toldJ l) from by exact (told_all hI (by omega)).symm))), hst.bare⟩

end Go.Proofs.Ytldfnkhccaglmaa
