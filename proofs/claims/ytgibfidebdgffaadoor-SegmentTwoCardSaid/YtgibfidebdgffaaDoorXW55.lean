/- segment.Roll -/
import Derived.Test.YtgibfidebdgffaaDoorXLB
import Derived.Test.YtgibfidebdgffaaDoorXW54
import Derived.Test.YtgibfidebdgffaaDoorXW9
import Derived.Test.YtgibfidebdgffaaDoorXW7
namespace Go.Proofs.YtgibfidebdgffaaDoor
open Go.RowKit

set_option maxRecDepth 8000 in
set_option maxHeartbeats 8000000 in
theorem c_sRoll (w0 : World) (v_l : Value) (l : List Seg) (h_l : Sl w0 segE v_l l) (nid : Int) (k : Int) (hsg : SegsIn w0 l) (hso : ∀ s ∈ l, s.d.ok) (hl2 : l.length ≤ 2) (hk1 : k = 1 ∨ l.length ≤ 1) (nid0 : -9223372036854775808 ≤ nid) (k0 : -9223372036854775808 ≤ k) (nid1 : nid ≤ 9223372036854775807) (k1 : k ≤ 9223372036854775807) :
  Calls Tryd.prog 14 #[v_l, (iV nid), (iV k)] w0 fun e w' => ∃ (s : Seg), e = .returned (.tuple #[(.agg #[(iV s.d.Id), (iV s.d.Tier), (iV s.d.From), (iV s.d.To), s.sv.1, s.av.1]), (iV ((rollL l nid k).2))]) ∧ St w0 w' [rowT 28 sampE s.sv.1 s.d.Samples, rowT 45 aggE s.av.1 s.d.Aggs] ∧ s.d = (rollL l nid k).1 := by
 refine calls_G (n := 125) (rs := [.cell 6 26, .tmp 7]) Tryd.func14 rfl rfl rfl (by simp) ?_
 have hst := St.start w0
 refine cE_seq (cE_region rfl (s_cons (op_alloc (cs := #[(iV 0), (iV 0), (iV 0), (iV 0), nS, nS]) hst Tryd.zeroValue26 rfl (fun g1 w2 hst _ => ?_))))
 replace hst : St w0 w2 [.blk g1 26 #[(iV 0), (iV 0), (iV 0), (iV 0), nS, nS]] := hst
 refine s_cons (op_assign (iV 0) rfl (s_nil (then_n (cE_scope (cE_seq (cE_seq (cE_region rfl (s_cons (op_move (iV k) rfl (s_cons (op_lss (k := .i64) (a := k) (b := 1) rfl rfl (s_cons (op_move (.bool (decide (k < 1))) rfl (s_lz 16 rfl (gA_f rfl) (Rlz (!(decide (k < 1))) (iV k) w2) ?_ (fun hc3 => rlz_f hc3) ?_))))))))))))))
 ·intro hc3
  refine op_move (iV k) rfl ?_
  exact rlz_t hc3
 rintro _ _ ⟨rfl, rfl⟩
 refine s_lz 16 rfl (gA_f rfl) (Rlz (!(decide (k < 1))) (.bool (decide (4 ≤ k))) w2) ?_ (fun hc4 => rlz_f hc4) ?_
 ·intro hc4
  refine op_geq (k := .i64) (a := k) (b := 4) (gt (congrArg (! ·) (not_t hc4))) rfl ?_
  exact rlz_t hc4
 rintro _ _ ⟨rfl, rfl⟩
 obtain ⟨g5, hg6⟩ : ∃ x : Bool, x = ((decide (k < 1)) || (decide (4 ≤ k))) := ⟨_, rfl⟩
 refine s_cons (op_pick_or rfl rfl rfl (fun hp => (congrArg (! ·) hp)) (s_cons (op_move (.bool g5) (congrArg Value.bool hg6.symm) (s_lz 20 rfl (gA_f rfl) (Rlz (!g5) (iV nid) w2) ?_ (fun hc7 => rlz_f hc7) ?_))))
 ·intro hc7
  refine op_move (iV nid) rfl ?_
  exact rlz_t hc7
 rintro _ _ ⟨rfl, rfl⟩
 refine s_lz 20 rfl (gA_f rfl) (Rlz (!g5) (.bool (decide (nid < 1))) w2) ?_ (fun hc8 => rlz_f hc8) ?_
 ·intro hc8
  refine op_lss (k := .i64) (a := nid) (b := 1) (gt (congrArg (! ·) (not_t hc8))) rfl ?_
  exact rlz_t hc8
 rintro _ _ ⟨rfl, rfl⟩
 obtain ⟨g9, hg10⟩ : ∃ x : Bool, x = (g5 || (decide (nid < 1))) := ⟨_, rfl⟩
 refine s_cons (op_pick_or rfl rfl rfl (fun hp => (congrArg (! ·) hp)) (s_cons (op_move (.bool g9) (congrArg Value.bool hg10.symm) (s_lz 24 rfl (gA_f rfl) (Rlz (!g9) (iV nid) w2) ?_ (fun hc11 => rlz_f hc11) ?_))))
 ·intro hc11
  refine op_move (iV nid) rfl ?_
  exact rlz_t hc11
 rintro _ _ ⟨rfl, rfl⟩
 refine s_lz 24 rfl (gA_f rfl) (Rlz (!g9) (.bool (decide (1073741824 < nid))) w2) ?_ (fun hc12 => rlz_f hc12) ?_
 ·intro hc12
  refine op_gtr (k := .i64) (a := nid) (b := 1073741824) (gt (congrArg (! ·) (not_t hc12))) rfl ?_
  exact rlz_t hc12
 rintro _ _ ⟨rfl, rfl⟩
 obtain ⟨g13, hg14⟩ : ∃ x : Bool, x = (g9 || (decide (1073741824 < nid))) := ⟨_, rfl⟩
 refine s_cons (op_pick_or rfl rfl rfl (fun hp => (congrArg (! ·) hp)) (s_cons (op_move (.bool g13) (congrArg Value.bool hg14.symm) (s_lz 28 rfl (gA_f rfl) (Rlz (!g13) v_l w2) ?_ (fun hc15 => rlz_f hc15) ?_))))
 ·intro hc15
  refine op_move v_l rfl ?_
  exact rlz_t hc15
 rintro _ _ ⟨rfl, rfl⟩
 refine s_lz 28 rfl (gA_f rfl) (Rlz (!g13) (iV (l.length : Int)) w2) ?_ (fun hc16 => rlz_f hc16) ?_
 ·intro hc16
  have c17 : ¬ (k < 1) := of_decide_eq_false (or_l (hg6.symm.trans (or_l (hg10.symm.trans (or_l (hg14.symm.trans (not_t hc16)))))))
  have c18 : ¬ (4 ≤ k) := of_decide_eq_false (or_r (hg6.symm.trans (or_l (hg10.symm.trans (or_l (hg14.symm.trans (not_t hc16)))))))
  have c19 : ¬ (nid < 1) := of_decide_eq_false (or_r (hg10.symm.trans (or_l (hg14.symm.trans (not_t hc16)))))
  have c20 : ¬ (1073741824 < nid) := of_decide_eq_false (or_r (hg14.symm.trans (not_t hc16)))
  refine op_len (E := segE) (xs := l) Tryd.underlying43 (gt (congrArg (! ·) (not_t hc16))) h_l ?_
  exact rlz_t hc16
 rintro _ _ ⟨rfl, rfl⟩
 refine s_lz 28 rfl (gA_f rfl) (Rlz (!g13) (.bool (decide ((l.length : Int) = 0))) w2) ?_ (fun hc21 => rlz_f hc21) ?_
 ·intro hc21
  refine op_eql (k := .i64) (a := (l.length : Int)) (b := 0) (gt (congrArg (! ·) (not_t hc21))) rfl ?_
  exact rlz_t hc21
 rintro _ _ ⟨rfl, rfl⟩
 obtain ⟨g22, hg23⟩ : ∃ x : Bool, x = (g13 || (decide ((l.length : Int) = 0))) := ⟨_, rfl⟩
 refine s_cons (op_pick_or rfl rfl rfl (fun hp => (congrArg (! ·) hp)) (s_nil (then_n ?_)))
 rcases Bool.eq_false_or_eq_true g22 with b24 | b24
 ·have c25 : ((((k < 1) ∨ (4 ≤ k)) ∨ (nid < 1)) ∨ (1073741824 < nid)) ∨ ((l.length : Int) = 0) := (pi_or (pi_name hg14 (pi_or (pi_name hg10 (pi_or (pi_name hg6 (pi_or pi_dec pi_dec)) pi_dec)) pi_dec)) pi_dec).1 (hg23.symm.trans b24)
  refine cE_cond true ((congrArg Value.bool hg23.symm).trans (congrArg Value.bool b24)) (fun _ => ?_) (fun h => by cases h)
  refine cE_seq (cE_region rfl (s_cons (op_build (r := (.agg #[(iV 0), (iV 0), (iV 0), (iV 0), nS, nS])) evp_nil (by simp [Instr.build, Instr.fill, Value.cells, Tryd.runUnderlying26, Tryd.zeroValue26]) (s_cons0 (op_storeAll hst 0 rfl Tryd.sizeOf26 rfl rfl rfl rfl (by simp [Value.oneCell']) (fun w26 hst => ?_))))))
  replace hst : St w0 w26 [.blk g1 26 #[(iV 0), (iV 0), (iV 0), (iV 0), nS, nS]] := hst
  refine s_cons (op_assign (iV 1) rfl (s_nil (then_n (cE_ret (then_r (scope_r (postG_r _ (rvN (cs := [(iV 0), (iV 0), (iV 0), (iV 0), nS, nS]) Tryd.isAgg26 Tryd.sizeOf26 rfl (Pt.of (hst.cell 0 rfl) rfl) rfl (rvt (v := (iV 1)) rfl rvnil)) ?_)))))))
  replace hst : St w0 w26 [rowT 28 sampE nS ([]), .blk g1 26 #[(iV 0), (iV 0), (iV 0), (iV 0), nS, nS]] := hst.nilRow 28 sampE
  replace hst : St w0 w26 [rowT 45 aggE nS ([]), rowT 28 sampE nS ([]), .blk g1 26 #[(iV 0), (iV 0), (iV 0), (iV 0), nS, nS]] := hst.nilRow 45 aggE
  replace hst : St w0 w26 [rowT 28 sampE nS ([]), rowT 45 aggE nS ([]), .blk g1 26 #[(iV 0), (iV 0), (iV 0), (iV 0), nS, nS]] := hst.front 1 rfl
  exact ⟨(⟨⟨0, 0, 0, 0, [], []⟩, nilV, nilV⟩ : Seg), (retv2 rfl (congrArg iV (show 1 = (rollL l nid k).2 from by first | exact snd_of (rollL_out (by omega)) | exact snd_of (rollL_no (by omega) (chain_badG (i := i) (by omega) (by assumption))) | exact snd_of (rollL_bad (by omega) hC (by omega) (by first | (rw [if_pos (by omega)]; done) | (rw [if_neg (by omega)]; done)) (by assumption)) | exact snd_of (rollL_full (by omega) hC (by omega) (by first | (rw [if_pos (by omega)]; done) | (rw [if_neg (by omega)]; done)) (by omega) (by assumption)) | exact snd_of (rollL_ok (by omega) hC (by omega) (by first | (rw [if_pos (by omega)]; done) | (rw [if_neg (by omega)]; done)) (by omega) (by assumption))))), hst.sub (.cons_cons _ (.cons_cons _ (.cons _ .slnil))), (by first | exact fst_of (rollL_out (by omega)) | exact fst_of (rollL_no (by omega) (chain_badG (i := i) (by omega) (by assumption))) | exact fst_of (rollL_bad (by omega) hC (by omega) (by first | (rw [if_pos (by omega)]; done) | (rw [if_neg (by omega)]; done)) (by assumption)) | exact fst_of (rollL_full (by omega) hC (by omega) (by first | (rw [if_pos (by omega)]; done) | (rw [if_neg (by omega)]; done)) (by omega) (by assumption)) | exact fst_of (rollL_ok (by omega) hC (by omega) (by first | (rw [if_pos (by omega)]; done) | (rw [if_neg (by omega)]; done)) (by omega) (by assumption)))⟩
 have c27 : ¬ (k < 1) := of_decide_eq_false (or_l (hg6.symm.trans (or_l (hg10.symm.trans (or_l (hg14.symm.trans (or_l (hg23.symm.trans b24))))))))
 have c28 : ¬ (4 ≤ k) := of_decide_eq_false (or_r (hg6.symm.trans (or_l (hg10.symm.trans (or_l (hg14.symm.trans (or_l (hg23.symm.trans b24))))))))
 have c29 : ¬ (nid < 1) := of_decide_eq_false (or_r (hg10.symm.trans (or_l (hg14.symm.trans (or_l (hg23.symm.trans b24))))))
 have c30 : ¬ (1073741824 < nid) := of_decide_eq_false (or_r (hg14.symm.trans (or_l (hg23.symm.trans b24))))
 have c31 : ¬ ((l.length : Int) = 0) := of_decide_eq_false (or_r (hg23.symm.trans b24))
 refine cE_cond false ((congrArg Value.bool hg23.symm).trans (congrArg Value.bool b24)) (fun h => by cases h) (fun _ => ?_)
 refine cE_skip (then_n (cE_seq (cE_region rfl (s_cons (op_assign nS rfl (s_nil (then_n (cE_seq (cE_region rfl (s_cons (op_assign nS rfl (s_nil (then_n (cE_seq (cE_label (then_n (cE_seq (cE_seq (cE_region rfl (s_cons (op_move v_l rfl (s_cons (op_len (E := segE) (xs := l) Tryd.underlying43 rfl h_l (s_cons (op_move (iV 0) rfl (s_nil (then_n (cE_block ?_))))))))))))))))))))))))))))
 replace hst : St w0 w2 [rowT 28 sampE nS ([]), .blk g1 26 #[(iV 0), (iV 0), (iV 0), (iV 0), nS, nS]] := hst.nilRow 28 sampE
 replace hst : St w0 w2 [rowT 45 aggE nS ([]), rowT 28 sampE nS ([]), .blk g1 26 #[(iV 0), (iV 0), (iV 0), (iV 0), nS, nS]] := hst.nilRow 45 aggE
 refine cE_loop (fun (m : Nat) (ρ : Env) (w : World) => ∃ (vo : Value) (vu : Value) (i : Nat), m = l.length - i ∧ ρ 0 = v_l ∧ ρ 1 = (iV nid) ∧ ρ 2 = (iV k) ∧ ρ 6 = (.pointer (some ⟨g1, 0, none⟩)) ∧ ρ 34 = v_l ∧ ρ 35 = (iV (l.length : Int)) ∧ ρ 8 = vo ∧ ρ 9 = vu ∧ ρ 36 = (iV (i : Int)) ∧ St w0 w [rowT 45 aggE vu (flatA (l.take i)), rowT 28 sampE vo (flatS (l.take i)), .blk g1 26 #[(iV 0), (iV 0), (iV 0), (iV 0), nS, nS]] ∧ (i ≤ l.length) ∧ (chainG k l i = true)) id _ ⟨nS, nS, 0, rfl, rfl, rfl, rfl, rfl, rfl, rfl, rfl, rfl, (congrArg iV (show 0 = _ from by omega)), (by have h := hst; first | exact h | (refine (?_ : St _ _ _); simpa using h)), (by omega), (by first | rfl | exact chain_stepG hC (by assumption) (by assumption) (by assumption))⟩ ?_
 rintro m33 ρ34 w35 ⟨vo, vu, i, hm33, q32_0, q32_1, q32_2, q32_6, q32_34, q32_35, q32_8, q32_9, q32_36, hst, hi, hC⟩
 have hlen := h_l.len
 have hfl := flat_bnd hl2 hC hi
 refine cE_seq (cE_region rfl (s_cons (op_lss (k := .i64) (a := (i : Int)) (b := (l.length : Int)) q32_36 q32_35 (s_nil (then_n (cE_seq ?_))))))
 rcases Bool.eq_false_or_eq_true (decide ((i : Int) < (l.length : Int))) with b36 | b36
 ·have c37 : (i : Int) < (l.length : Int) := of_decide_eq_true b36
  refine cE_cond true (congrArg Value.bool b36) (fun _ => ?_) (fun h => by cases h)
  refine cE_skip (then_n (cE_seq (cE_block (cE_seq (cE_region rfl (s_cons (op_move (iV (i : Int)) q32_36 (s_cons (op_indexAddrD (E := segE) (xs := l) i Tryd.underlying43 Tryd.sizeOf26 q32_34 h_l q32_36 (by omega) (by omega) (fun a38 o39 p40 => ?_))))))))))
  refine s_cons (op_loadN (cs := [(iV ((gd l i).d.Id)), (iV ((gd l i).d.Tier)), (iV ((gd l i).d.From)), (iV ((gd l i).d.To)), (gd l i).sv.1, (gd l i).av.1]) Tryd.isAgg26 Tryd.sizeOf26 rfl (Pt.of (p40.below hst.below) rfl) rfl (s_cons (op_alloc (cs := #[(iV 0), (iV 0), (iV 0), (iV 0), nS, nS]) hst Tryd.zeroValue26 rfl (fun g41 w42 hst _ => ?_))))
  replace hst : St w0 w42 [.blk g41 26 #[(iV 0), (iV 0), (iV 0), (iV 0), nS, nS], rowT 45 aggE vu (flatA (l.take i)), rowT 28 sampE vo (flatS (l.take i)), .blk g1 26 #[(iV 0), (iV 0), (iV 0), (iV 0), nS, nS]] := hst
  refine s_cons (op_assign (iV (i : Int)) rfl (s_cons0 (op_storeAll hst 0 rfl Tryd.sizeOf26 rfl rfl rfl rfl (oneL_all (l := [(iV ((gd l i).d.Id)), (iV ((gd l i).d.Tier)), (iV ((gd l i).d.From)), (iV ((gd l i).d.To)), (gd l i).sv.1, (gd l i).av.1]) ⟨rfl, rfl, rfl, rfl, (gd l i).sv.2, (gd l i).av.2, trivial⟩) (fun w43 hst => ?_))))
  replace hst : St w0 w43 [.blk g41 26 #[(iV ((gd l i).d.Id)), (iV ((gd l i).d.Tier)), (iV ((gd l i).d.From)), (iV ((gd l i).d.To)), (gd l i).sv.1, (gd l i).av.1], rowT 45 aggE vu (flatA (l.take i)), rowT 28 sampE vo (flatS (l.take i)), .blk g1 26 #[(iV 0), (iV 0), (iV 0), (iV 0), nS, nS]] := hst
  refine s_nil (then_n (cE_seq (cE_seq ?_)))
  obtain ⟨g45, hg46⟩ : ∃ x : Bool, x = ((!(mayS (gd l i).d)) || (!decide (((gd l i).d.Tier) = (k - 1)))) := ⟨_, rfl⟩
  obtain ⟨g47, hg48⟩ : ∃ x : Bool, x = ((!g45) && (decide (0 < (i : Int)))) := ⟨_, rfl⟩
  obtain ⟨g72, hg73⟩ : ∃ x : Bool, x = ((decide (0 < (i : Int))) && (!decide (((gd l i).d.From) = ((gd l (i - 1)).d.To)))) := ⟨_, rfl⟩
  obtain ⟨g74, hg75⟩ : ∃ x : Bool, x = (g45 || g72) := ⟨_, rfl⟩
  refine cE_regionM (fun (D : Nat → Bool) (w : World) => St w0 w [.blk g41 26 #[(iV ((gd l i).d.Id)), (iV ((gd l i).d.Tier)), (iV ((gd l i).d.From)), (iV ((gd l i).d.To)), (gd l i).sv.1, (gd l i).av.1], rowT 45 aggE vu (flatA (l.take i)), rowT 28 sampE vo (flatS (l.take i)), .blk g1 26 #[(iV 0), (iV 0), (iV 0), (iV 0), nS, nS]] ∧ (St w0 w [.blk g41 26 #[(iV ((gd l i).d.Id)), (iV ((gd l i).d.Tier)), (iV ((gd l i).d.From)), (iV ((gd l i).d.To)), (gd l i).sv.1, (gd l i).av.1], rowT 45 aggE vu (flatA (l.take i)), rowT 28 sampE vo (flatS (l.take i)), .blk g1 26 #[(iV 0), (iV 0), (iV 0), (iV 0), nS, nS]])) [[(11, none)], [(41, some 0)], [(42, some 1)], [(43, some 2)], [(11, none), (44, some 3)], [(45, some 4), (44, some 3)], [(2, none), (44, some 3)], [(47, some 6), (44, some 3)], [(46, some 5), (48, some 7), (44, some 3)], [(44, some 3), (49, some 8)], [(50, some 9)], [(10, none), (51, some 10)], [(52, some 11), (51, some 10)], [(53, some 12), (51, some 10)], [(11, none), (54, some 13)], [(55, some 14), (54, some 13)], [(0, none), (54, some 13)], [(10, none), (54, some 13)], [(58, some 17), (54, some 13)], [(57, some 16), (59, some 18), (54, some 13)], [(60, some 19), (54, some 13)], [(61, some 20), (54, some 13)], [(56, some 15), (62, some 21), (54, some 13)], [(54, some 13), (63, some 22), (51, some 10)], [(51, some 10), (64, some 23)]] [] [(kEq (.agg #[(iV ((gd l i).d.Id)), (iV ((gd l i).d.Tier)), (iV ((gd l i).d.From)), (iV ((gd l i).d.To)), (gd l i).sv.1, (gd l i).av.1])), (kEq (.bool (mayS (gd l i).d))), (kEq (.bool (!(mayS (gd l i).d)))), (kEq (.bool (!(mayS (gd l i).d)))), (kEq (bif (!(!(mayS (gd l i).d))) then (.pointer (some ⟨g41, (0 + 1), none⟩)) else undef)), (kEq (bif (!(!(mayS (gd l i).d))) then (iV ((gd l i).d.Tier)) else undef)), (kEq (bif (!(!(mayS (gd l i).d))) then (iV k) else undef)), (kEq (bif (!(!(mayS (gd l i).d))) then (iV (k - 1)) else undef)), (kEq (bif (!(!(mayS (gd l i).d))) then (.bool (!decide (((gd l i).d.Tier) = (k - 1)))) else undef)), (kEq (.bool g45)), (kEq (.bool g45)), (kEq (bif (!g45) then (iV (i : Int)) else undef)), (kEq (bif (!g45) then (.bool (decide (0 < (i : Int)))) else undef)), (kEq (bif (!g45) then (.bool (decide (0 < (i : Int)))) else undef)), (kEq (bif g47 then (.pointer (some ⟨g41, (0 + 2), none⟩)) else undef)), (kEq (bif g47 then (iV ((gd l i).d.From)) else undef)), (kEq (bif g47 then v_l else undef)), (kEq (bif g47 then (iV (i : Int)) else undef)), (kEq (bif g47 then (iV ((i : Int) - 1)) else undef)), (kPtc w0 g47 [(iV ((gd l (i - 1)).d.Id)), (iV ((gd l (i - 1)).d.Tier)), (iV ((gd l (i - 1)).d.From)), (iV ((gd l (i - 1)).d.To)), (gd l (i - 1)).sv.1, (gd l (i - 1)).av.1]), (kPtc w0 g47 [(iV ((gd l (i - 1)).d.To)), (gd l (i - 1)).sv.1, (gd l (i - 1)).av.1]), (kEq (bif g47 then (iV ((gd l (i - 1)).d.To)) else undef)), (kEq (bif g47 then (.bool (!decide (((gd l i).d.From) = ((gd l (i - 1)).d.To)))) else undef)), (kEq (bif (!g45) then (.bool g72) else undef)), (kEq (.bool g74))] ⟨mEq, mEq, mEq, mEq, mEq, mEq, mEq, mEq, mEq, mEq, mEq, mEq, mEq, mEq, mEq, mEq, mEq, mEq, mEq, mPtc, mPtc, mEq, mEq, mEq, mEq, trivial⟩ (by kernel_rfl) rfl (by kernel_rfl) ⟨hst.drewW.sub (.cons_cons _ (.cons_cons _ (.cons_cons _ (.cons_cons _ .slnil)))), hst.drewW⟩ (fun hM => ⟨?_, ?_, ?_, ?_, ?_, ?_, ?_, ?_, ?_, ?_, ?_, ?_, ?_, ?_, ?_, ?_, ?_, ?_, ?_, ?_, ?_, ?_, ?_, ?_, ?_, trivial⟩) ?_
  ·rintro D ρo wo nD eD cD jD aD ⟨f11, _⟩
   have hst := jD.2 
   replace hst : St w0 wo [.blk g41 26 #[(iV ((gd l i).d.Id)), (iV ((gd l i).d.Tier)), (iV ((gd l i).d.From)), (iV ((gd l i).d.To)), (gd l i).sv.1, (gd l i).av.1], rowT 45 aggE vu (flatA (l.take i)), rowT 28 sampE vo (flatS (l.take i)), .blk g1 26 #[(iV 0), (iV 0), (iV 0), (iV 0), nS, nS]] := hst
   exact go_plain (op_loadN (cs := [(iV ((gd l i).d.Id)), (iV ((gd l i).d.Tier)), (iV ((gd l i).d.From)), (iV ((gd l i).d.To)), (gd l i).sv.1, (gd l i).av.1]) Tryd.isAgg26 Tryd.sizeOf26 (f11.trans rfl) (Pt.of (hst.cell 0 rfl) rfl) rfl (kN0 (i := 0) hM (by decide) (by exact jD) (by exact rfl)))
  ·rintro D ρo wo nD eD cD jD aD ⟨f41, _⟩
   have hst := jD.2 
   replace hst : St w0 wo [.blk g41 26 #[(iV ((gd l i).d.Id)), (iV ((gd l i).d.Tier)), (iV ((gd l i).d.From)), (iV ((gd l i).d.To)), (gd l i).sv.1, (gd l i).av.1], rowT 45 aggE vu (flatA (l.take i)), rowT 28 sampE vo (flatS (l.take i)), .blk g1 26 #[(iV 0), (iV 0), (iV 0), (iV 0), nS, nS]] := hst
   refine go_plain (op_call Tryd.call10 (evs_cons (v := (.agg #[(iV ((gd l i).d.Id)), (iV ((gd l i).d.Tier)), (iV ((gd l i).d.From)), (iV ((gd l i).d.To)), (gd l i).sv.1, (gd l i).av.1])) f41 evs_nil) (c_May2 (w0 := wo) (s := (gd l i)) (h_s := ⟨((hsg (gd l i) (gd_mem (by omega))).1.below hst.below), ((hsg (gd l i) (gd_mem (by omega))).2.below hst.below)⟩) (hs := (hso _ (gd_mem (by omega))))) ?_)
   rintro _ w77 ⟨rfl, hcall⟩
   refine ⟨_, rfl, ?_⟩
   exact kN (i := 1) hM (by decide) hcall.below (by exact ⟨(jD.1).ext hcall.below, (jD.2).ext hcall.below⟩) (by exact rfl)
  ·rintro D ρo wo nD eD cD jD aD ⟨f42, _⟩
   exact go_plain (op_not (b := (mayS (gd l i).d)) f42 (kN0 (i := 2) hM (by decide) (by exact jD) (by exact rfl)))
  ·rintro D ρo wo nD eD cD jD aD ⟨f43, _⟩
   exact go_plain (op_move (.bool (!(mayS (gd l i).d))) f43 (kN0 (i := 3) hM (by decide) (by exact jD) (by exact rfl)))
  ·rintro D ρo wo nD eD cD jD aD ⟨f11, f44, _⟩
   refine go_lz 44 rfl (gA_f f44) ?_ (fun hc78 => (kN0 (i := 4) hM (by decide) (by exact jD) (by exact (gf hc78).symm)))
   intro hc78
   exact id (op_fieldAddr (s := 0) Tryd.underlying26 rfl rfl Tryd.sizeOf3 (f11.trans rfl) (kN0 (i := 4) hM (by decide) (by exact jD) (by exact (gt hc78).symm)))
  ·rintro D ρo wo nD eD cD jD aD ⟨f45, f44, _⟩
   refine go_lz 44 rfl (gA_f f44) ?_ (fun hc79 => (kN0 (i := 5) hM (by decide) (by exact jD) (by exact (gf hc79).symm)))
   intro hc79
   have hst := jD.2 
   replace hst : St w0 wo [.blk g41 26 #[(iV ((gd l i).d.Id)), (iV ((gd l i).d.Tier)), (iV ((gd l i).d.From)), (iV ((gd l i).d.To)), (gd l i).sv.1, (gd l i).av.1], rowT 45 aggE vu (flatA (l.take i)), rowT 28 sampE vo (flatS (l.take i)), .blk g1 26 #[(iV 0), (iV 0), (iV 0), (iV 0), nS, nS]] := hst
   exact id (op_load1 (u := (iV ((gd l i).d.Tier))) Tryd.isAgg3 (f45.trans (gt (congrArg (! ·) (congrArg (! ·) (not_f (not_t hc79)))))) ((hst.cell 0 rfl).drop 1) (kN0 (i := 5) hM (by decide) (by exact jD) (by exact (gt hc79).symm)))
  ·rintro D ρo wo nD eD cD jD aD ⟨f2, f44, _⟩
   refine go_lz 44 rfl (gA_f f44) ?_ (fun hc80 => (kN0 (i := 6) hM (by decide) (by exact jD) (by exact (gf hc80).symm)))
   intro hc80
   exact id (op_move (iV k) (f2.trans q32_2) (kN0 (i := 6) hM (by decide) (by exact jD) (by exact (gt hc80).symm)))
  ·rintro D ρo wo nD eD cD jD aD ⟨f47, f44, _⟩
   refine go_lz 44 rfl (gA_f f44) ?_ (fun hc81 => (kN0 (i := 7) hM (by decide) (by exact jD) (by exact (gf hc81).symm)))
   intro hc81
   have c82 : (mayS (gd l i).d) = true := (not_f (not_t hc81))
   exact id (op_sub (k := .i64) (a := k) (b := 1) (k - 1) (f47.trans (gt (congrArg (! ·) (congrArg (! ·) c82)))) rfl (xi64 (by omega) (by omega)) (kN0 (i := 7) hM (by decide) (by exact jD) (by exact (gt hc81).symm)))
  ·rintro D ρo wo nD eD cD jD aD ⟨f46, f48, f44, _⟩
   refine go_lz 44 rfl (gA_f f44) ?_ (fun hc83 => (kN0 (i := 8) hM (by decide) (by exact jD) (by exact (gf hc83).symm)))
   intro hc83
   exact id (op_neq (k := .i64) (a := (gd l i).d.Tier) (b := (k - 1)) (f46.trans (gt (congrArg (! ·) (congrArg (! ·) (not_f (not_t hc83)))))) (f48.trans (gt (congrArg (! ·) (congrArg (! ·) (not_f (not_t hc83)))))) (kN0 (i := 8) hM (by decide) (by exact jD) (by exact (gt hc83).symm)))
  ·rintro D ρo wo nD eD cD jD aD ⟨f44, f49, _⟩
   refine go_plain (op_pick_or f44 rfl f49 (fun hp => (congrArg (! ·) (congrArg (! ·) (not_f hp)))) ?_)
   exact (kN0 (i := 9) hM (by decide) (by exact jD) (by exact (congrArg Value.bool hg46.symm)))
  ·rintro D ρo wo nD eD cD jD aD ⟨f50, _⟩
   exact go_plain (op_move (.bool g45) f50 (kN0 (i := 10) hM (by decide) (by exact jD) (by exact rfl)))
  ·rintro D ρo wo nD eD cD jD aD ⟨f10, f51, _⟩
   refine go_lz 51 rfl (gA_f f51) ?_ (fun hc84 => (kN0 (i := 11) hM (by decide) (by exact jD) (by exact (gf hc84).symm)))
   intro hc84
   exact id (op_move (iV (i : Int)) (f10.trans rfl) (kN0 (i := 11) hM (by decide) (by exact jD) (by exact (gt hc84).symm)))
  ·rintro D ρo wo nD eD cD jD aD ⟨f52, f51, _⟩
   refine go_lz 51 rfl (gA_f f51) ?_ (fun hc85 => (kN0 (i := 12) hM (by decide) (by exact jD) (by exact (gf hc85).symm)))
   intro hc85
   exact id (op_gtr (k := .i64) (a := (i : Int)) (b := 0) (f52.trans (gt (congrArg (! ·) (not_t hc85)))) rfl (kN0 (i := 12) hM (by decide) (by exact jD) (by exact (gt hc85).symm)))
  ·rintro D ρo wo nD eD cD jD aD ⟨f53, f51, _⟩
   refine go_lz 51 rfl (gA_f f51) ?_ (fun hc86 => (kN0 (i := 13) hM (by decide) (by exact jD) (by exact (gf hc86).symm)))
   intro hc86
   exact id (op_move (.bool (decide (0 < (i : Int)))) (f53.trans (gt (congrArg (! ·) (not_t hc86)))) (kN0 (i := 13) hM (by decide) (by exact jD) (by exact (gt hc86).symm)))
  ·rintro D ρo wo nD eD cD jD aD ⟨f11, f54, _⟩
   refine go_lz 54 rfl ((gB_t f54).trans hg48.symm) ?_ (fun hc87 => (kN0 (i := 14) hM (by decide) (by exact jD) (by exact (gf hc87).symm)))
   intro hc87
   exact id (op_fieldAddr (s := 0) Tryd.underlying26 rfl rfl Tryd.sizeOf2 (f11.trans rfl) (kN0 (i := 14) hM (by decide) (by exact jD) (by exact (gt hc87).symm)))
  ·rintro D ρo wo nD eD cD jD aD ⟨f55, f54, _⟩
   refine go_lz 54 rfl ((gB_t f54).trans hg48.symm) ?_ (fun hc88 => (kN0 (i := 15) hM (by decide) (by exact jD) (by exact (gf hc88).symm)))
   intro hc88
   have hst := jD.2 
   replace hst : St w0 wo [.blk g41 26 #[(iV ((gd l i).d.Id)), (iV ((gd l i).d.Tier)), (iV ((gd l i).d.From)), (iV ((gd l i).d.To)), (gd l i).sv.1, (gd l i).av.1], rowT 45 aggE vu (flatA (l.take i)), rowT 28 sampE vo (flatS (l.take i)), .blk g1 26 #[(iV 0), (iV 0), (iV 0), (iV 0), nS, nS]] := hst
   exact id (op_load1 (u := (iV ((gd l i).d.From))) Tryd.isAgg2 (f55.trans (gt hc88)) ((hst.cell 0 rfl).drop 2) (kN0 (i := 15) hM (by decide) (by exact jD) (by exact (gt hc88).symm)))
  ·rintro D ρo wo nD eD cD jD aD ⟨f0, f54, _⟩
   refine go_lz 54 rfl ((gB_t f54).trans hg48.symm) ?_ (fun hc89 => (kN0 (i := 16) hM (by decide) (by exact jD) (by exact (gf hc89).symm)))
   intro hc89
   exact id (op_move v_l (f0.trans q32_0) (kN0 (i := 16) hM (by decide) (by exact jD) (by exact (gt hc89).symm)))
  ·rintro D ρo wo nD eD cD jD aD ⟨f10, f54, _⟩
   refine go_lz 54 rfl ((gB_t f54).trans hg48.symm) ?_ (fun hc90 => (kN0 (i := 17) hM (by decide) (by exact jD) (by exact (gf hc90).symm)))
   intro hc90
   exact id (op_move (iV (i : Int)) (f10.trans rfl) (kN0 (i := 17) hM (by decide) (by exact jD) (by exact (gt hc90).symm)))
  ·rintro D ρo wo nD eD cD jD aD ⟨f58, f54, _⟩
   refine go_lz 54 rfl ((gB_t f54).trans hg48.symm) ?_ (fun hc91 => (kN0 (i := 18) hM (by decide) (by exact jD) (by exact (gf hc91).symm)))
   intro hc91
   have c92 : (mayS (gd l i).d) = true := (not_f (or_l (hg46.symm.trans (not_t (and_l (hg48.symm.trans hc91))))))
   have c93 : ((gd l i).d.Tier) = (k - 1) := of_decide_eq_true (not_f (or_r (hg46.symm.trans (not_t (and_l (hg48.symm.trans hc91))))))
   have c94 : 0 < (i : Int) := of_decide_eq_true (and_r (hg48.symm.trans hc91))
   exact id (op_sub (k := .i64) (a := (i : Int)) (b := 1) ((i : Int) - 1) (f58.trans (gt hc91)) rfl (xi64 (by omega) (by omega)) (kN0 (i := 18) hM (by decide) (by exact jD) (by exact (gt hc91).symm)))
  ·rintro D ρo wo nD eD cD jD aD ⟨f57, f59, f54, _⟩
   refine go_lz 54 rfl ((gB_t f54).trans hg48.symm) ?_ (fun hc95 => (kN0 (i := 19) hM (by decide) (by exact jD) (by exact fun h => absurd (show _ = true from h) (by rw [hc95]; decide))))
   intro hc95
   have c96 : (mayS (gd l i).d) = true := (not_f (or_l (hg46.symm.trans (not_t (and_l (hg48.symm.trans hc95))))))
   have c97 : ((gd l i).d.Tier) = (k - 1) := of_decide_eq_true (not_f (or_r (hg46.symm.trans (not_t (and_l (hg48.symm.trans hc95))))))
   have c98 : 0 < (i : Int) := of_decide_eq_true (and_r (hg48.symm.trans hc95))
   refine id (op_indexAddrD (E := segE) (xs := l) (i - 1) Tryd.underlying43 Tryd.sizeOf26 (f57.trans (gt hc95)) h_l (f59.trans (gt hc95)) (by omega) (by omega) (fun a99 o100 p101 => ?_))
   exact (kN0 (i := 19) hM (by decide) (by exact jD) (by exact fun _ => ⟨_, _, rfl, p101⟩))
  ·rintro D ρo wo nD eD cD jD aD ⟨f60, f54, _⟩
   refine go_lz 54 rfl ((gB_t f54).trans hg48.symm) ?_ (fun hc102 => (kN0 (i := 20) hM (by decide) (by exact jD) (by exact fun h => absurd (show _ = true from h) (by rw [hc102]; decide))))
   intro hc102
   obtain ⟨a103, o104, e105, p106⟩ := f60 hc102
   exact id (op_fieldAddr (s := 0) Tryd.underlying26 rfl rfl Tryd.sizeOf2 e105 (kN0 (i := 20) hM (by decide) (by exact jD) (by exact fun _ => ⟨_, _, rfl, (p106.drop 3)⟩)))
  ·rintro D ρo wo nD eD cD jD aD ⟨f61, f54, _⟩
   refine go_lz 54 rfl ((gB_t f54).trans hg48.symm) ?_ (fun hc107 => (kN0 (i := 21) hM (by decide) (by exact jD) (by exact (gf hc107).symm)))
   intro hc107
   have hst := jD.2 
   replace hst : St w0 wo [.blk g41 26 #[(iV ((gd l i).d.Id)), (iV ((gd l i).d.Tier)), (iV ((gd l i).d.From)), (iV ((gd l i).d.To)), (gd l i).sv.1, (gd l i).av.1], rowT 45 aggE vu (flatA (l.take i)), rowT 28 sampE vo (flatS (l.take i)), .blk g1 26 #[(iV 0), (iV 0), (iV 0), (iV 0), nS, nS]] := hst
   obtain ⟨a108, o109, e110, p111⟩ := f61 hc107
   exact id (op_load1 (u := (iV ((gd l (i - 1)).d.To))) Tryd.isAgg2 e110 (p111.below hst.below) (kN0 (i := 21) hM (by decide) (by exact jD) (by exact (gt hc107).symm)))
  ·rintro D ρo wo nD eD cD jD aD ⟨f56, f62, f54, _⟩
   refine go_lz 54 rfl ((gB_t f54).trans hg48.symm) ?_ (fun hc112 => (kN0 (i := 22) hM (by decide) (by exact jD) (by exact (gf hc112).symm)))
   intro hc112
   exact id (op_neq (k := .i64) (a := (gd l i).d.From) (b := (gd l (i - 1)).d.To) (f56.trans (gt hc112)) (f62.trans (gt hc112)) (kN0 (i := 22) hM (by decide) (by exact jD) (by exact (gt hc112).symm)))
  ·rintro D ρo wo nD eD cD jD aD ⟨f54, f63, f51, _⟩
   refine go_lz 51 rfl (gA_f f51) ?_ (fun hc113 => (kN0 (i := 23) hM (by decide) (by exact jD) (by exact (gf hc113).symm)))
   intro hc113
   refine id (op_pick_and (f54.trans (gt (congrArg (! ·) (not_t hc113)))) f63 (fun hp => (hg48.trans (and_i (congrArg (! ·) (not_t hc113)) hp))) rfl ?_)
   exact (kN0 (i := 23) hM (by decide) (by exact jD) (by exact ((congrArg Value.bool hg73.symm).trans (gt hc113).symm)))
  ·rintro D ρo wo nD eD cD jD aD ⟨f51, f64, _⟩
   refine go_plain (op_pick_or f51 rfl f64 (fun hp => (congrArg (! ·) hp)) ?_)
   exact (kN0 (i := 24) hM (by decide) (by exact jD) (by exact (congrArg Value.bool hg75.symm)))
  intro ρ114 w115 Dw115 hallw115 hJw115 hRw115 hkw115
  have hst : St w0 w115 [.blk g41 26 #[(iV ((gd l i).d.Id)), (iV ((gd l i).d.Tier)), (iV ((gd l i).d.From)), (iV ((gd l i).d.To)), (gd l i).sv.1, (gd l i).av.1], rowT 45 aggE vu (flatA (l.take i)), rowT 28 sampE vo (flatS (l.take i)), .blk g1 26 #[(iV 0), (iV 0), (iV 0), (iV 0), nS, nS]] := hJw115.2 
  have uw115_0 : ρ114 0 = v_l := (hkw115 0 rfl).trans q32_0
  have uw115_1 : ρ114 1 = (iV nid) := (hkw115 1 rfl).trans q32_1
  have uw115_2 : ρ114 2 = (iV k) := (hkw115 2 rfl).trans q32_2
  have uw115_6 : ρ114 6 = (.pointer (some ⟨g1, 0, none⟩)) := (hkw115 6 rfl).trans q32_6
  have uw115_34 : ρ114 34 = v_l := (hkw115 34 rfl).trans q32_34
  have uw115_35 : ρ114 35 = (iV (l.length : Int)) := (hkw115 35 rfl).trans q32_35
  have uw115_8 : ρ114 8 = vo := (hkw115 8 rfl).trans q32_8
  have uw115_9 : ρ114 9 = vu := (hkw115 9 rfl).trans q32_9
  have uw115_36 : ρ114 36 = (iV (i : Int)) := (hkw115 36 rfl).trans q32_36
  have uw115_37 : ρ114 37 = (.bool (decide ((i : Int) < (l.length : Int)))) := (hkw115 37 rfl).trans rfl
  have uw115_38 : ρ114 38 = (iV (i : Int)) := (hkw115 38 rfl).trans rfl
  have uw115_39 : ρ114 39 = (.pointer (some ⟨a38, o39, none⟩)) := (hkw115 39 rfl).trans rfl
  have uw115_40 : ρ114 40 = (.agg #[(iV ((gd l i).d.Id)), (iV ((gd l i).d.Tier)), (iV ((gd l i).d.From)), (iV ((gd l i).d.To)), (gd l i).sv.1, (gd l i).av.1]) := (hkw115 40 rfl).trans rfl
  have uw115_11 : ρ114 11 = (.pointer (some ⟨g41, 0, none⟩)) := (hkw115 11 rfl).trans rfl
  have uw115_65 : ρ114 65 = (.bool g74) := hRw115 24 65 rfl
  refine then_n ?_
  rcases Bool.eq_false_or_eq_true g74 with b116 | b116
  ·have c117 : ((¬ ((mayS (gd l i).d) = true)) ∨ (¬ (((gd l i).d.Tier) = (k - 1)))) ∨ ((0 < (i : Int)) ∧ (¬ (((gd l i).d.From) = ((gd l (i - 1)).d.To)))) := (pi_or (pi_name hg46 (pi_or (pi_not pi_self) (pi_not pi_dec))) (pi_name hg73 (pi_and pi_dec (pi_not pi_dec)))).1 (hg75.symm.trans b116)
   refine cE_cond true (uw115_65.trans (congrArg Value.bool b116)) (fun _ => ?_) (fun h => by cases h)
   refine cE_seq (cE_region rfl (s_cons (op_build (r := (.agg #[(iV 0), (iV 0), (iV 0), (iV 0), nS, nS])) evp_nil (by simp [Instr.build, Instr.fill, Value.cells, Tryd.runUnderlying26, Tryd.zeroValue26]) (s_cons0 (op_storeAll hst 3 rfl Tryd.sizeOf26 uw115_6 rfl rfl rfl (by simp [Value.oneCell']) (fun w118 hst => ?_))))))
   replace hst : St w0 w118 [.blk g41 26 #[(iV ((gd l i).d.Id)), (iV ((gd l i).d.Tier)), (iV ((gd l i).d.From)), (iV ((gd l i).d.To)), (gd l i).sv.1, (gd l i).av.1], rowT 45 aggE vu (flatA (l.take i)), rowT 28 sampE vo (flatS (l.take i)), .blk g1 26 #[(iV 0), (iV 0), (iV 0), (iV 0), nS, nS]] := hst
   refine s_cons (op_assign (iV 1) rfl (s_nil (then_n (cE_ret (then_r (block_r (then_r (then_r (block_r (then_r (scope_r (postG_r _ (rvN (cs := [(iV 0), (iV 0), (iV 0), (iV 0), nS, nS]) Tryd.isAgg26 Tryd.sizeOf26 uw115_6 (Pt.of (hst.cell 3 rfl) rfl) rfl (rvt (v := (iV 1)) rfl rvnil)) ?_))))))))))))
   replace hst : St w0 w118 [rowT 28 sampE nS ([]), .blk g41 26 #[(iV ((gd l i).d.Id)), (iV ((gd l i).d.Tier)), (iV ((gd l i).d.From)), (iV ((gd l i).d.To)), (gd l i).sv.1, (gd l i).av.1], rowT 45 aggE vu (flatA (l.take i)), rowT 28 sampE vo (flatS (l.take i)), .blk g1 26 #[(iV 0), (iV 0), (iV 0), (iV 0), nS, nS]] := hst.nilRow 28 sampE
   replace hst : St w0 w118 [rowT 45 aggE nS ([]), rowT 28 sampE nS ([]), .blk g41 26 #[(iV ((gd l i).d.Id)), (iV ((gd l i).d.Tier)), (iV ((gd l i).d.From)), (iV ((gd l i).d.To)), (gd l i).sv.1, (gd l i).av.1], rowT 45 aggE vu (flatA (l.take i)), rowT 28 sampE vo (flatS (l.take i)), .blk g1 26 #[(iV 0), (iV 0), (iV 0), (iV 0), nS, nS]] := hst.nilRow 45 aggE
   replace hst : St w0 w118 [rowT 28 sampE nS ([]), rowT 45 aggE nS ([]), .blk g41 26 #[(iV ((gd l i).d.Id)), (iV ((gd l i).d.Tier)), (iV ((gd l i).d.From)), (iV ((gd l i).d.To)), (gd l i).sv.1, (gd l i).av.1], rowT 45 aggE vu (flatA (l.take i)), rowT 28 sampE vo (flatS (l.take i)), .blk g1 26 #[(iV 0), (iV 0), (iV 0), (iV 0), nS, nS]] := hst.front 1 rfl
   exact ⟨(⟨⟨0, 0, 0, 0, [], []⟩, nilV, nilV⟩ : Seg), (retv2 rfl (congrArg iV (show 1 = (rollL l nid k).2 from by first | exact snd_of (rollL_out (by omega)) | exact snd_of (rollL_no (by omega) (chain_badG (i := i) (by omega) (by assumption))) | exact snd_of (rollL_bad (by omega) hC (by omega) (by first | (rw [if_pos (by omega)]; done) | (rw [if_neg (by omega)]; done)) (by assumption)) | exact snd_of (rollL_full (by omega) hC (by omega) (by first | (rw [if_pos (by omega)]; done) | (rw [if_neg (by omega)]; done)) (by omega) (by assumption)) | exact snd_of (rollL_ok (by omega) hC (by omega) (by first | (rw [if_pos (by omega)]; done) | (rw [if_neg (by omega)]; done)) (by omega) (by assumption))))), hst.sub (.cons_cons _ (.cons_cons _ (.cons _ (.cons _ (.cons _ (.cons _ .slnil)))))), (by first | exact fst_of (rollL_out (by omega)) | exact fst_of (rollL_no (by omega) (chain_badG (i := i) (by omega) (by assumption))) | exact fst_of (rollL_bad (by omega) hC (by omega) (by first | (rw [if_pos (by omega)]; done) | (rw [if_neg (by omega)]; done)) (by assumption)) | exact fst_of (rollL_full (by omega) hC (by omega) (by first | (rw [if_pos (by omega)]; done) | (rw [if_neg (by omega)]; done)) (by omega) (by assumption)) | exact fst_of (rollL_ok (by omega) hC (by omega) (by first | (rw [if_pos (by omega)]; done) | (rw [if_neg (by omega)]; done)) (by omega) (by assumption)))⟩
  have c119 : (mayS (gd l i).d) = true := (not_f (or_l (hg46.symm.trans (or_l (hg75.symm.trans b116)))))
  have c120 : ((gd l i).d.Tier) = (k - 1) := of_decide_eq_true (not_f (or_r (hg46.symm.trans (or_l (hg75.symm.trans b116)))))
  have c121 : ¬ ((0 < (i : Int)) ∧ (¬ (((gd l i).d.From) = ((gd l (i - 1)).d.To)))) := pi_f (pi_and pi_dec (pi_not pi_dec)) (hg73.symm.trans (or_r (hg75.symm.trans b116)))
  refine cE_cond false (uw115_65.trans (congrArg Value.bool b116)) (fun h => by cases h) (fun _ => ?_)
  refine cE_skip (then_n (cE_seq ?_))
  have hsn := segS_len (s := (gd l i).d) (by assumption)
  have hM126 : stabML [3, 7] [(kEq vo), (kEq (.pointer (some ⟨g41, (0 + 4), none⟩))), (kEq (gd l i).sv.1), kAny, (kEq vu), (kEq (.pointer (some ⟨g41, (0 + 5), none⟩))), (kEq (gd l i).av.1), kAny, kAny, kAny] := ⟨mEq, mEq, mEq, mAny, mEq, mEq, mEq, mAny, mAny, mAny, trivial⟩
  refine cE_regionJ (fun (D : Nat → Bool) (ρ : Env) (w : World) => St w0 w [.blk g41 26 #[(iV ((gd l i).d.Id)), (iV ((gd l i).d.Tier)), (iV ((gd l i).d.From)), (iV ((gd l i).d.To)), (gd l i).sv.1, (gd l i).av.1], .blk g1 26 #[(iV 0), (iV 0), (iV 0), (iV 0), nS, nS]] ∧ (D 3 = false → St w0 w [.blk g41 26 #[(iV ((gd l i).d.Id)), (iV ((gd l i).d.Tier)), (iV ((gd l i).d.From)), (iV ((gd l i).d.To)), (gd l i).sv.1, (gd l i).av.1], rowT 45 aggE vu (flatA (l.take i)), rowT 28 sampE vo (flatS (l.take i)), .blk g1 26 #[(iV 0), (iV 0), (iV 0), (iV 0), nS, nS]]) ∧ (D 3 = true → D 7 = false → St w0 w [rowT 28 sampE (ρ 70) (flatS (l.take (i + 1))), .blk g41 26 #[(iV ((gd l i).d.Id)), (iV ((gd l i).d.Tier)), (iV ((gd l i).d.From)), (iV ((gd l i).d.To)), (gd l i).sv.1, (gd l i).av.1], rowT 45 aggE vu (flatA (l.take i)), .blk g1 26 #[(iV 0), (iV 0), (iV 0), (iV 0), nS, nS]]) ∧ (D 7 = true → St w0 w [rowT 45 aggE (ρ 74) (flatA (l.take (i + 1))), rowT 28 sampE (ρ 70) (flatS (l.take (i + 1))), .blk g41 26 #[(iV ((gd l i).d.Id)), (iV ((gd l i).d.Tier)), (iV ((gd l i).d.From)), (iV ((gd l i).d.To)), (gd l i).sv.1, (gd l i).av.1], .blk g1 26 #[(iV 0), (iV 0), (iV 0), (iV 0), nS, nS]]) ∧ (D 8 = true → ρ 8 = ρ 70) ∧ (D 9 = true → ρ 9 = ρ 74)) [[(8, none)], [(11, none)], [(68, some 1)], [(67, some 0), (69, some 2)], [(9, none)], [(11, none)], [(72, some 5)], [(71, some 4), (73, some 6)], [(70, some 3)], [(74, some 7)]] (RofK [(kEq vo), (kEq (.pointer (some ⟨g41, (0 + 4), none⟩))), (kEq (gd l i).sv.1), kAny, (kEq vu), (kEq (.pointer (some ⟨g41, (0 + 5), none⟩))), (kEq (gd l i).av.1), kAny, kAny, kAny]) (by kernel_rfl) rfl (by kernel_rfl) ⟨hst.drewW.sub (.cons_cons _ (.cons _ (.cons _ (.cons_cons _ .slnil)))), (fun _ => hst.drewW), (fun h => absurd h Bool.false_ne_true), (fun h => absurd h Bool.false_ne_true), (fun h => absurd h Bool.false_ne_true), (fun h => absurd h Bool.false_ne_true)⟩ ⟨?_, ?_, ?_, ?_, ?_, ?_, ?_, ?_, ?_, ?_, trivial⟩ ?_
  ·rintro D127 ρ128 w129 hD130 hE131 hC132 hJ133 hA134 ⟨f8, _⟩
   have hst : St w0 w129 [.blk g41 26 #[(iV ((gd l i).d.Id)), (iV ((gd l i).d.Tier)), (iV ((gd l i).d.From)), (iV ((gd l i).d.To)), (gd l i).sv.1, (gd l i).av.1], rowT 45 aggE vu (flatA (l.take i)), rowT 28 sampE vo (flatS (l.take i)), .blk g1 26 #[(iV 0), (iV 0), (iV 0), (iV 0), nS, nS]] := hJ133.2.1 (not_yet hD130 (fun hm => (hC132 3 0 hm (by kernel_rfl))))
   exact go_plain (op_move vo (f8.trans uw115_8) (kN0 (i := 0) hM126 (by decide) (by exact hJ133) (by exact rfl)))
  ·rintro D135 ρ136 w137 hD138 hE139 hC140 hJ141 hA142 ⟨f11, _⟩
   have hst : St w0 w137 [.blk g41 26 #[(iV ((gd l i).d.Id)), (iV ((gd l i).d.Tier)), (iV ((gd l i).d.From)), (iV ((gd l i).d.To)), (gd l i).sv.1, (gd l i).av.1], rowT 45 aggE vu (flatA (l.take i)), rowT 28 sampE vo (flatS (l.take i)), .blk g1 26 #[(iV 0), (iV 0), (iV 0), (iV 0), nS, nS]] := hJ141.2.1 (not_yet hD138 (fun hm => (hC140 2 1 (hC140 3 2 hm (by kernel_rfl)) (by kernel_rfl))))
   exact go_plain (op_fieldAddr (s := 0) Tryd.underlying26 rfl rfl Tryd.sizeOf23 (f11.trans uw115_11) (kN0 (i := 1) hM126 (by decide) (by exact hJ141) (by exact rfl)))
  ·rintro D143 ρ144 w145 hD146 hE147 hC148 hJ149 hA150 ⟨f68, _⟩
   have hst : St w0 w145 [.blk g41 26 #[(iV ((gd l i).d.Id)), (iV ((gd l i).d.Tier)), (iV ((gd l i).d.From)), (iV ((gd l i).d.To)), (gd l i).sv.1, (gd l i).av.1], rowT 45 aggE vu (flatA (l.take i)), rowT 28 sampE vo (flatS (l.take i)), .blk g1 26 #[(iV 0), (iV 0), (iV 0), (iV 0), nS, nS]] := hJ149.2.1 (not_yet hD146 (fun hm => (hC148 3 2 hm (by kernel_rfl))))
   exact go_plain (op_load1 (u := (gd l i).sv.1) Tryd.isAgg23 f68 ((hst.cell 0 rfl).drop 4) (kN0 (i := 2) hM126 (by decide) (by exact hJ149) (by exact rfl)))
  ·rintro D151 ρ152 w153 hD154 hE155 hC156 hJ157 hA158 ⟨f67, f69, _⟩
   have hst : St w0 w153 [.blk g41 26 #[(iV ((gd l i).d.Id)), (iV ((gd l i).d.Tier)), (iV ((gd l i).d.From)), (iV ((gd l i).d.To)), (gd l i).sv.1, (gd l i).av.1], rowT 45 aggE vu (flatA (l.take i)), rowT 28 sampE vo (flatS (l.take i)), .blk g1 26 #[(iV 0), (iV 0), (iV 0), (iV 0), nS, nS]] := hJ157.2.1 hD154
   refine go_plain (op_append (E := sampE) (xs := (flatS (l.take i))) (ys := (gd l i).d.Samples) (z := (.agg #[(iV 0), (iV 0)])) (bytes := 16) hst 2 rfl Tryd.underlying23 (by kernel_rfl) rfl f67 f69 ((hsg (gd l i) (gd_mem (by omega))).1.below hst.below) (by first | omega | (simp; omega) | (simp; done)) (by first | omega | (simp; omega) | (simp; done)) (fun v159 w160 hst => ?_))
   replace hst : St w0 w160 [.blk g41 26 #[(iV ((gd l i).d.Id)), (iV ((gd l i).d.Tier)), (iV ((gd l i).d.From)), (iV ((gd l i).d.To)), (gd l i).sv.1, (gd l i).av.1], rowT 45 aggE vu (flatA (l.take i)), rowT 28 sampE v159 (flatS (l.take (i + 1))), .blk g1 26 #[(iV 0), (iV 0), (iV 0), (iV 0), nS, nS]] := by rw [show ((flatS (l.take i)) ++ ((gd l i).d.Samples)) = (flatS (l.take (i + 1))) from (flatS_gd (by omega))] at hst; exact hst
   replace hst : St w0 w160 [.blk g1 26 #[(iV 0), (iV 0), (iV 0), (iV 0), nS, nS], .blk g41 26 #[(iV ((gd l i).d.Id)), (iV ((gd l i).d.Tier)), (iV ((gd l i).d.From)), (iV ((gd l i).d.To)), (gd l i).sv.1, (gd l i).av.1], rowT 45 aggE vu (flatA (l.take i)), rowT 28 sampE v159 (flatS (l.take (i + 1)))] := hst.front 3 rfl
   replace hst : St w0 w160 [rowT 45 aggE vu (flatA (l.take i)), .blk g1 26 #[(iV 0), (iV 0), (iV 0), (iV 0), nS, nS], .blk g41 26 #[(iV ((gd l i).d.Id)), (iV ((gd l i).d.Tier)), (iV ((gd l i).d.From)), (iV ((gd l i).d.To)), (gd l i).sv.1, (gd l i).av.1], rowT 28 sampE v159 (flatS (l.take (i + 1)))] := hst.front 2 rfl
   replace hst : St w0 w160 [.blk g41 26 #[(iV ((gd l i).d.Id)), (iV ((gd l i).d.Tier)), (iV ((gd l i).d.From)), (iV ((gd l i).d.To)), (gd l i).sv.1, (gd l i).av.1], rowT 45 aggE vu (flatA (l.take i)), .blk g1 26 #[(iV 0), (iV 0), (iV 0), (iV 0), nS, nS], rowT 28 sampE v159 (flatS (l.take (i + 1)))] := hst.front 2 rfl
   replace hst : St w0 w160 [rowT 28 sampE v159 (flatS (l.take (i + 1))), .blk g41 26 #[(iV ((gd l i).d.Id)), (iV ((gd l i).d.Tier)), (iV ((gd l i).d.From)), (iV ((gd l i).d.To)), (gd l i).sv.1, (gd l i).av.1], rowT 45 aggE vu (flatA (l.take i)), .blk g1 26 #[(iV 0), (iV 0), (iV 0), (iV 0), nS, nS]] := hst.front 3 rfl
   have hI161 : stabIXs 3 [] D151 0 [(kEq vo), (kEq (.pointer (some ⟨g41, (0 + 4), none⟩))), (kEq (gd l i).sv.1), kAny, (kEq vu), (kEq (.pointer (some ⟨g41, (0 + 5), none⟩))), (kEq (gd l i).av.1), kAny, kAny, kAny] := ⟨Or.inr (Or.inr (Or.inr iEq)), Or.inr (Or.inr (Or.inr iEq)), Or.inr (Or.inr (Or.inr iEq)), Or.inl rfl, Or.inr (Or.inr (Or.inr iEq)), Or.inr (Or.inr (Or.inr iEq)), Or.inr (Or.inr (Or.inr iEq)), Or.inr (Or.inr (Or.inl (not_yet hD154 (fun hm => (hC156 7 3 hm (by kernel_rfl)))))), Or.inr (Or.inr (Or.inl (not_yet hD154 (fun hm => (hC156 8 3 hm (by kernel_rfl)))))), Or.inr (Or.inr (Or.inl (not_yet hD154 (fun hm => (hC156 9 3 hm (by kernel_rfl)))))), trivial⟩
   refine ⟨by exact ⟨hst.sub (.cons _ (.cons_cons _ (.cons _ (.cons_cons _ .slnil)))), (fun y0 => absurd y0 (fun h => Bool.noConfusion h)), (fun y0 y1 => hst.sub (.cons_cons _ (.cons_cons _ (.cons_cons _ (.cons_cons _ .slnil))))), (fun y0 => absurd (show D151 7 = true from y0) (by rw [(not_yet hD154 (fun hm => (hC156 7 3 hm (by kernel_rfl))))]; decide)), (fun h => absurd (show D151 8 = true from h) (by rw [(not_yet hD154 (fun hm => (hC156 8 3 hm (by kernel_rfl))))]; decide)), hJ157.2.2.2.2.2⟩, by exact trivial, kX [] hI161 (fun j d hj => nomatch hj)⟩
  ·rintro D162 ρ163 w164 hD165 hE166 hC167 hJ168 hA169 ⟨f9, _⟩
   have hst := hJ168.1
   exact go_plain (op_move vu (f9.trans uw115_9) (kN0 (i := 4) hM126 (by decide) (by exact hJ168) (by exact rfl)))
  ·rintro D170 ρ171 w172 hD173 hE174 hC175 hJ176 hA177 ⟨f11, _⟩
   have hst := hJ176.1
   exact go_plain (op_fieldAddr (s := 0) Tryd.underlying26 rfl rfl Tryd.sizeOf24 (f11.trans uw115_11) (kN0 (i := 5) hM126 (by decide) (by exact hJ176) (by exact rfl)))
  ·rintro D178 ρ179 w180 hD181 hE182 hC183 hJ184 hA185 ⟨f72, _⟩
   have hst := hJ184.1
   exact go_plain (op_load1 (u := (gd l i).av.1) Tryd.isAgg24 f72 ((hst.cell 0 rfl).drop 5) (kN0 (i := 6) hM126 (by decide) (by exact hJ184) (by exact rfl)))
  ·rintro D186 ρ187 w188 hD189 hE190 hC191 hJ192 hA193 ⟨f71, f73, _⟩
   obtain ⟨v194, e195⟩ : ∃ x, ρ187 70 = x := ⟨_, rfl⟩
   have hst : St w0 w188 [rowT 28 sampE v194 (flatS (l.take (i + 1))), .blk g41 26 #[(iV ((gd l i).d.Id)), (iV ((gd l i).d.Tier)), (iV ((gd l i).d.From)), (iV ((gd l i).d.To)), (gd l i).sv.1, (gd l i).av.1], rowT 45 aggE vu (flatA (l.take i)), .blk g1 26 #[(iV 0), (iV 0), (iV 0), (iV 0), nS, nS]] := by have h := hJ192.2.2.1 (hE190 3 (by kernel_rfl)) hD189; rw [e195] at h; exact h
   refine go_plain (op_append (E := aggE) (xs := (flatA (l.take i))) (ys := (gd l i).d.Aggs) (z := (.agg #[(iV 0), (iV 0), (iV 0), (iV 0), (iV 0), (iV 0), (iV 0)])) (bytes := 56) hst 2 rfl Tryd.underlying24 (by kernel_rfl) rfl f71 f73 ((hsg (gd l i) (gd_mem (by omega))).2.below hst.below) (by first | omega | (simp; omega) | (simp; done)) (by first | omega | (simp; omega) | (simp; done)) (fun v196 w197 hst => ?_))
   replace hst : St w0 w197 [rowT 28 sampE v194 (flatS (l.take (i + 1))), .blk g41 26 #[(iV ((gd l i).d.Id)), (iV ((gd l i).d.Tier)), (iV ((gd l i).d.From)), (iV ((gd l i).d.To)), (gd l i).sv.1, (gd l i).av.1], rowT 45 aggE v196 (flatA (l.take (i + 1))), .blk g1 26 #[(iV 0), (iV 0), (iV 0), (iV 0), nS, nS]] := by rw [show ((flatA (l.take i)) ++ ((gd l i).d.Aggs)) = (flatA (l.take (i + 1))) from (flatA_gd (by omega))] at hst; exact hst
   replace hst : St w0 w197 [.blk g1 26 #[(iV 0), (iV 0), (iV 0), (iV 0), nS, nS], rowT 28 sampE v194 (flatS (l.take (i + 1))), .blk g41 26 #[(iV ((gd l i).d.Id)), (iV ((gd l i).d.Tier)), (iV ((gd l i).d.From)), (iV ((gd l i).d.To)), (gd l i).sv.1, (gd l i).av.1], rowT 45 aggE v196 (flatA (l.take (i + 1)))] := hst.front 3 rfl
   replace hst : St w0 w197 [.blk g41 26 #[(iV ((gd l i).d.Id)), (iV ((gd l i).d.Tier)), (iV ((gd l i).d.From)), (iV ((gd l i).d.To)), (gd l i).sv.1, (gd l i).av.1], .blk g1 26 #[(iV 0), (iV 0), (iV 0), (iV 0), nS, nS], rowT 28 sampE v194 (flatS (l.take (i + 1))), rowT 45 aggE v196 (flatA (l.take (i + 1)))] := hst.front 2 rfl
   replace hst : St w0 w197 [rowT 28 sampE v194 (flatS (l.take (i + 1))), .blk g41 26 #[(iV ((gd l i).d.Id)), (iV ((gd l i).d.Tier)), (iV ((gd l i).d.From)), (iV ((gd l i).d.To)), (gd l i).sv.1, (gd l i).av.1], .blk g1 26 #[(iV 0), (iV 0), (iV 0), (iV 0), nS, nS], rowT 45 aggE v196 (flatA (l.take (i + 1)))] := hst.front 2 rfl
   replace hst : St w0 w197 [rowT 45 aggE v196 (flatA (l.take (i + 1))), rowT 28 sampE v194 (flatS (l.take (i + 1))), .blk g41 26 #[(iV ((gd l i).d.Id)), (iV ((gd l i).d.Tier)), (iV ((gd l i).d.From)), (iV ((gd l i).d.To)), (gd l i).sv.1, (gd l i).av.1], .blk g1 26 #[(iV 0), (iV 0), (iV 0), (iV 0), nS, nS]] := hst.front 3 rfl
   have hI198 : stabIXs 7 [] D186 0 [(kEq vo), (kEq (.pointer (some ⟨g41, (0 + 4), none⟩))), (kEq (gd l i).sv.1), kAny, (kEq vu), (kEq (.pointer (some ⟨g41, (0 + 5), none⟩))), (kEq (gd l i).av.1), kAny, kAny, kAny] := ⟨Or.inr (Or.inr (Or.inr iEq)), Or.inr (Or.inr (Or.inr iEq)), Or.inr (Or.inr (Or.inr iEq)), Or.inr (Or.inr (Or.inr iAny)), Or.inr (Or.inr (Or.inr iEq)), Or.inr (Or.inr (Or.inr iEq)), Or.inr (Or.inr (Or.inr iEq)), Or.inl rfl, Or.inr (Or.inr (Or.inl (not_yet hD189 (fun hm => (hC191 8 7 hm (by kernel_rfl)))))), Or.inr (Or.inr (Or.inl (not_yet hD189 (fun hm => (hC191 9 7 hm (by kernel_rfl)))))), trivial⟩
   refine ⟨by exact ⟨hst.sub (.cons _ (.cons _ (.cons_cons _ (.cons_cons _ .slnil)))), (fun y0 => absurd (show D186 3 = false from y0) (by rw [(hE190 3 (by kernel_rfl))]; decide)), (fun y0 y1 => absurd y1 (fun h => Bool.noConfusion h)), (fun y0 => (by have h := hst.sub (.cons_cons _ (.cons_cons _ (.cons_cons _ (.cons_cons _ .slnil)))); rw [← e195] at h; exact h)), hJ192.2.2.2.2.1, (fun h => absurd (show D186 9 = true from h) (by rw [(not_yet hD189 (fun hm => (hC191 9 7 hm (by kernel_rfl))))]; decide))⟩, by exact trivial, kX [] hI198 (fun j d hj => nomatch hj)⟩
  ·rintro D199 ρ200 w201 hD202 hE203 hC204 hJ205 hA206 ⟨f70, _⟩
   exact go_plain (op_assign _ rfl (kN0 (i := 8) hM126 (by decide) (by exact ⟨hJ205.1, hJ205.2.1, hJ205.2.2.1, hJ205.2.2.2.1, (fun _ => rfl), hJ205.2.2.2.2.2⟩) (by exact trivial)))
  ·rintro D207 ρ208 w209 hD210 hE211 hC212 hJ213 hA214 ⟨f74, _⟩
   exact go_plain (op_assign _ rfl (kN0 (i := 9) hM126 (by decide) (by exact ⟨hJ213.1, hJ213.2.1, hJ213.2.2.1, hJ213.2.2.2.1, hJ213.2.2.2.2.1, (fun _ => rfl)⟩) (by exact trivial)))
  intro ρ215 w216 Dw216 hallw216 hJw216 hRw216 hkw216
  obtain ⟨v217, uw216_70⟩ : ∃ x, ρ215 70 = x := ⟨_, rfl⟩
  obtain ⟨v218, uw216_74⟩ : ∃ x, ρ215 74 = x := ⟨_, rfl⟩
  have hst : St w0 w216 [rowT 45 aggE v218 (flatA (l.take (i + 1))), rowT 28 sampE v217 (flatS (l.take (i + 1))), .blk g41 26 #[(iV ((gd l i).d.Id)), (iV ((gd l i).d.Tier)), (iV ((gd l i).d.From)), (iV ((gd l i).d.To)), (gd l i).sv.1, (gd l i).av.1], .blk g1 26 #[(iV 0), (iV 0), (iV 0), (iV 0), nS, nS]] := by have h := hJw216.2.2.2.1 (hallw216 7 (show 7 < 10 from by decide)); rw [uw216_70, uw216_74] at h; exact h
  have uw216_8 : ρ215 8 = v217 := (hJw216.2.2.2.2.1 (hallw216 8 (show 8 < 10 from by decide))).trans uw216_70
  have uw216_9 : ρ215 9 = v218 := (hJw216.2.2.2.2.2 (hallw216 9 (show 9 < 10 from by decide))).trans uw216_74
  have uw216_0 : ρ215 0 = v_l := (hkw216 0 rfl).trans uw115_0
  have uw216_1 : ρ215 1 = (iV nid) := (hkw216 1 rfl).trans uw115_1
  have uw216_2 : ρ215 2 = (iV k) := (hkw216 2 rfl).trans uw115_2
  have uw216_6 : ρ215 6 = (.pointer (some ⟨g1, 0, none⟩)) := (hkw216 6 rfl).trans uw115_6
  have uw216_34 : ρ215 34 = v_l := (hkw216 34 rfl).trans uw115_34
  have uw216_35 : ρ215 35 = (iV (l.length : Int)) := (hkw216 35 rfl).trans uw115_35
  have uw216_36 : ρ215 36 = (iV (i : Int)) := (hkw216 36 rfl).trans uw115_36
  have uw216_37 : ρ215 37 = (.bool (decide ((i : Int) < (l.length : Int)))) := (hkw216 37 rfl).trans uw115_37
  have uw216_38 : ρ215 38 = (iV (i : Int)) := (hkw216 38 rfl).trans uw115_38
  have uw216_39 : ρ215 39 = (.pointer (some ⟨a38, o39, none⟩)) := (hkw216 39 rfl).trans uw115_39
  have uw216_40 : ρ215 40 = (.agg #[(iV ((gd l i).d.Id)), (iV ((gd l i).d.Tier)), (iV ((gd l i).d.From)), (iV ((gd l i).d.To)), (gd l i).sv.1, (gd l i).av.1]) := (hkw216 40 rfl).trans uw115_40
  have uw216_11 : ρ215 11 = (.pointer (some ⟨g41, 0, none⟩)) := (hkw216 11 rfl).trans uw115_11
  have uw216_65 : ρ215 65 = (.bool g74) := (hkw216 65 rfl).trans uw115_65
  refine then_n (cE_exit (block_hit (then_n (cE_region rfl (s_cons (op_add (k := .i64) (a := (i : Int)) (b := 1) ((i : Int) + 1) uw216_36 rfl (xi64 (by omega) (by omega)) (s_cons (op_move (iV ((i : Int) + 1)) rfl (s_nil (then_n ?_))))))))))
  exact ⟨_, ⟨v217, v218, (i + 1), rfl, uw216_0, uw216_1, uw216_2, uw216_6, uw216_34, uw216_35, uw216_8, uw216_9, (congrArg iV (show ((i : Int) + 1) = _ from by omega)), (hst.sub (.cons_cons _ (.cons_cons _ (.cons _ (.cons_cons _ .slnil))))), (by omega), (by first | rfl | exact chain_stepG hC (by assumption) (by assumption) (by assumption))⟩, (by simp only [id]; omega)⟩
 have c219 : ¬ ((i : Int) < (l.length : Int)) := of_decide_eq_false b36
 refine cE_cond false (congrArg Value.bool b36) (fun h => by cases h) (fun _ => ?_)
 refine cE_exit (then_x (then_x (block_hit (then_n (cE_seq (cE_regionM (fun (D : Nat → Bool) (w : World) => St w0 w [rowT 45 aggE vu (flatA (l.take i)), rowT 28 sampE vo (flatS (l.take i)), .blk g1 26 #[(iV 0), (iV 0), (iV 0), (iV 0), nS, nS]] ∧ (D 15 = false → St w0 w [rowT 45 aggE vu (flatA (l.take i)), rowT 28 sampE vo (flatS (l.take i)), .blk g1 26 #[(iV 0), (iV 0), (iV 0), (iV 0), nS, nS]]) ∧ (D 15 = true → St w0 w [rowT 45 aggE vu (flatA (l.take i)), rowT 28 sampE vo (flatS (l.take i)), .blk g1 26 #[(iV 0), (iV 0), (iV 0), (iV 0), nS, nS]])) [[(1, none)], [(2, none)], [(0, none)], [(78, some 2)], [(79, some 3)], [(80, some 4)], [(0, none)], [(0, none)], [(83, some 7)], [(84, some 8)], [(82, some 6), (85, some 9)], [(86, some 10)], [(87, some 11)], [(76, some 0), (77, some 1), (81, some 5), (88, some 12)], [], [(12, some 14), (89, some 13)]] [15] [(kEq (iV nid)), (kEq (iV k)), (kEq v_l), (kPt0 w0 [(iV ((gd l 0).d.Id)), (iV ((gd l 0).d.Tier)), (iV ((gd l 0).d.From)), (iV ((gd l 0).d.To)), (gd l 0).sv.1, (gd l 0).av.1]), (kPt0 w0 [(iV ((gd l 0).d.From)), (iV ((gd l 0).d.To)), (gd l 0).sv.1, (gd l 0).av.1]), (kEq (iV ((gd l 0).d.From))), (kEq v_l), (kEq v_l), (kEq (iV (l.length : Int))), (kEq (iV ((l.length : Int) - 1))), (kPt0 w0 [(iV ((gd l (l.length - 1)).d.Id)), (iV ((gd l (l.length - 1)).d.Tier)), (iV ((gd l (l.length - 1)).d.From)), (iV ((gd l (l.length - 1)).d.To)), (gd l (l.length - 1)).sv.1, (gd l (l.length - 1)).av.1]), (kPt0 w0 [(iV ((gd l (l.length - 1)).d.To)), (gd l (l.length - 1)).sv.1, (gd l (l.length - 1)).av.1]), (kEq (iV ((gd l (l.length - 1)).d.To))), (kEq (.agg #[(iV nid), (iV k), (iV ((gd l 0).d.From)), (iV ((gd l (l.length - 1)).d.To)), nS, nS])), (fun (D : Nat → Bool) (v : Value) (w : World) => ∃ g226 : Nat, v = .pointer (some ⟨g226, 0, none⟩) ∧ (D 15 = false → St w0 w [.blk g226 26 #[(iV 0), (iV 0), (iV 0), (iV 0), nS, nS], rowT 45 aggE vu (flatA (l.take i)), rowT 28 sampE vo (flatS (l.take i)), .blk g1 26 #[(iV 0), (iV 0), (iV 0), (iV 0), nS, nS]]) ∧ (D 15 = true → St w0 w [.blk g226 26 #[(iV nid), (iV k), (iV ((gd l 0).d.From)), (iV ((gd l (l.length - 1)).d.To)), nS, nS], rowT 45 aggE vu (flatA (l.take i)), rowT 28 sampE vo (flatS (l.take i)), .blk g1 26 #[(iV 0), (iV 0), (iV 0), (iV 0), nS, nS]])), kAny] ⟨mEq, mEq, mEq, mPt0, mPt0, mEq, mEq, mEq, mEq, mEq, mPt0, mPt0, mEq, mEq, (fun D D' v w w' hD hb ⟨g, h1, h2⟩ => ⟨g, h1, (fun x0 => (h2.1 ((hD 15 (by decide)).symm.trans x0)).ext hb), (fun x0 => (h2.2 ((hD 15 (by decide)).symm.trans x0)).ext hb)⟩), mAny, trivial⟩ (by kernel_rfl) rfl (by kernel_rfl) ⟨hst.drewW.sub (.cons_cons _ (.cons_cons _ (.cons_cons _ .slnil))), (fun _ => hst.drewW), (fun h => absurd h Bool.false_ne_true)⟩ (fun hM => ⟨?_, ?_, ?_, ?_, ?_, ?_, ?_, ?_, ?_, ?_, ?_, ?_, ?_, ?_, ?_, ?_, trivial⟩) ?_))))))
 ·rintro D ρo wo nD eD cD jD aD ⟨f1, _⟩
  exact go_plain (op_move (iV nid) (f1.trans q32_1) (kN0 (i := 0) hM (by decide) (by exact jD) (by exact rfl)))
 ·rintro D ρo wo nD eD cD jD aD ⟨f2, _⟩
  exact go_plain (op_move (iV k) (f2.trans q32_2) (kN0 (i := 1) hM (by decide) (by exact jD) (by exact rfl)))
 ·rintro D ρo wo nD eD cD jD aD ⟨f0, _⟩
  exact go_plain (op_move v_l (f0.trans q32_0) (kN0 (i := 2) hM (by decide) (by exact jD) (by exact rfl)))
 ·rintro D ρo wo nD eD cD jD aD ⟨f78, _⟩
  refine go_plain (op_indexAddrD (E := segE) (xs := l) 0 Tryd.underlying43 Tryd.sizeOf26 f78 h_l rfl (by omega) (by omega) (fun a230 o231 p232 => ?_))
  exact (kN0 (i := 3) hM (by decide) (by exact jD) (by exact ⟨_, _, rfl, p232⟩))
 ·rintro D ρo wo nD eD cD jD aD ⟨f79, _⟩
  obtain ⟨a233, o234, e235, p236⟩ := f79
  exact go_plain (op_fieldAddr (s := 0) Tryd.underlying26 rfl rfl Tryd.sizeOf2 e235 (kN0 (i := 4) hM (by decide) (by exact jD) (by exact ⟨_, _, rfl, (p236.drop 2)⟩)))
 ·rintro D ρo wo nD eD cD jD aD ⟨f80, _⟩
  have hst := jD.2.1 (not_yet nD (fun hm => (cD 15 5 hm (by kernel_rfl))))
  replace hst : St w0 wo [rowT 45 aggE vu (flatA (l.take i)), rowT 28 sampE vo (flatS (l.take i)), .blk g1 26 #[(iV 0), (iV 0), (iV 0), (iV 0), nS, nS]] := hst
  obtain ⟨a237, o238, e239, p240⟩ := f80
  exact go_plain (op_load1 (u := (iV ((gd l 0).d.From))) Tryd.isAgg2 e239 (p240.below hst.below) (kN0 (i := 5) hM (by decide) (by exact jD) (by exact rfl)))
 ·rintro D ρo wo nD eD cD jD aD ⟨f0, _⟩
  exact go_plain (op_move v_l (f0.trans q32_0) (kN0 (i := 6) hM (by decide) (by exact jD) (by exact rfl)))
 ·rintro D ρo wo nD eD cD jD aD ⟨f0, _⟩
  exact go_plain (op_move v_l (f0.trans q32_0) (kN0 (i := 7) hM (by decide) (by exact jD) (by exact rfl)))
 ·rintro D ρo wo nD eD cD jD aD ⟨f83, _⟩
  exact go_plain (op_len (E := segE) (xs := l) Tryd.underlying43 f83 h_l (kN0 (i := 8) hM (by decide) (by exact jD) (by exact rfl)))
 ·rintro D ρo wo nD eD cD jD aD ⟨f84, _⟩
  exact go_plain (op_sub (k := .i64) (a := (l.length : Int)) (b := 1) ((l.length : Int) - 1) f84 rfl (xi64 (by omega) (by omega)) (kN0 (i := 9) hM (by decide) (by exact jD) (by exact rfl)))
 ·rintro D ρo wo nD eD cD jD aD ⟨f82, f85, _⟩
  refine go_plain (op_indexAddrD (E := segE) (xs := l) (l.length - 1) Tryd.underlying43 Tryd.sizeOf26 f82 h_l f85 (by omega) (by omega) (fun a241 o242 p243 => ?_))
  exact (kN0 (i := 10) hM (by decide) (by exact jD) (by exact ⟨_, _, rfl, p243⟩))
 ·rintro D ρo wo nD eD cD jD aD ⟨f86, _⟩
  obtain ⟨a244, o245, e246, p247⟩ := f86
  exact go_plain (op_fieldAddr (s := 0) Tryd.underlying26 rfl rfl Tryd.sizeOf2 e246 (kN0 (i := 11) hM (by decide) (by exact jD) (by exact ⟨_, _, rfl, (p247.drop 3)⟩)))
 ·rintro D ρo wo nD eD cD jD aD ⟨f87, _⟩
  have hst := jD.2.1 (not_yet nD (fun hm => (cD 15 12 hm (by kernel_rfl))))
  replace hst : St w0 wo [rowT 45 aggE vu (flatA (l.take i)), rowT 28 sampE vo (flatS (l.take i)), .blk g1 26 #[(iV 0), (iV 0), (iV 0), (iV 0), nS, nS]] := hst
  obtain ⟨a248, o249, e250, p251⟩ := f87
  exact go_plain (op_load1 (u := (iV ((gd l (l.length - 1)).d.To))) Tryd.isAgg2 e250 (p251.below hst.below) (kN0 (i := 12) hM (by decide) (by exact jD) (by exact rfl)))
 ·rintro D ρo wo nD eD cD jD aD ⟨f76, f77, f81, f88, _⟩
  exact go_plain (op_build (r := (.agg #[(iV nid), (iV k), (iV ((gd l 0).d.From)), (iV ((gd l (l.length - 1)).d.To)), nS, nS])) (evp_cons (v := (iV nid)) f76 (evp_cons (v := (iV k)) f77 (evp_cons (v := (iV ((gd l 0).d.From))) f81 (evp_cons (v := (iV ((gd l (l.length - 1)).d.To))) f88 evp_nil)))) (by simp [Instr.build, Instr.fill, Value.cells, Tryd.runUnderlying26, Tryd.zeroValue26]) (kN0 (i := 13) hM (by decide) (by exact jD) (by exact rfl)))
 ·rintro D ρo wo nD eD cD jD aD ⟨_⟩
  have hst := jD.2.1 (not_yet nD (fun hm => (cD 15 14 hm (by kernel_rfl))))
  replace hst : St w0 wo [rowT 45 aggE vu (flatA (l.take i)), rowT 28 sampE vo (flatS (l.take i)), .blk g1 26 #[(iV 0), (iV 0), (iV 0), (iV 0), nS, nS]] := hst
  have hst := St.start wo
  refine go_plain (op_alloc (cs := #[(iV 0), (iV 0), (iV 0), (iV 0), nS, nS]) hst Tryd.zeroValue26 rfl (fun g252 w253 hst _ => ?_))
  exact kN (i := 14) hM (by decide) hst.below (by exact ⟨(jD.1).ext hst.below, (fun x0 => (jD.2.1 x0).ext hst.below), (fun x0 => (jD.2.2 x0).ext hst.below)⟩) (by exact ⟨_, rfl, (fun y0 => (jD.2.1 y0).call hst), (fun y0 => absurd (show D 15 = true from y0) (by rw [(not_yet nD (fun hm => (cD 15 14 hm (by kernel_rfl))))]; decide))⟩)
 ·rintro D ρo wo nD eD cD jD aD ⟨f12, f89, _⟩
  obtain ⟨g254, e255, hh256⟩ := aD 14 12 (eD 14 (by kernel_rfl)) rfl
  have hst : St w0 wo [.blk g254 26 #[(iV 0), (iV 0), (iV 0), (iV 0), nS, nS], rowT 45 aggE vu (flatA (l.take i)), rowT 28 sampE vo (flatS (l.take i)), .blk g1 26 #[(iV 0), (iV 0), (iV 0), (iV 0), nS, nS]] := hh256.1 nD
  refine go_plain (op_storeAll hst 0 rfl Tryd.sizeOf26 e255 f89 rfl rfl (by simp [Value.oneCell']) (fun w257 hst => ?_))
  replace hst : St w0 w257 [.blk g254 26 #[(iV nid), (iV k), (iV ((gd l 0).d.From)), (iV ((gd l (l.length - 1)).d.To)), nS, nS], rowT 45 aggE vu (flatA (l.take i)), rowT 28 sampE vo (flatS (l.take i)), .blk g1 26 #[(iV 0), (iV 0), (iV 0), (iV 0), nS, nS]] := hst
  have hI258 : stabIXs 15 [14] D 0 [(kEq (iV nid)), (kEq (iV k)), (kEq v_l), (kPt0 w0 [(iV ((gd l 0).d.Id)), (iV ((gd l 0).d.Tier)), (iV ((gd l 0).d.From)), (iV ((gd l 0).d.To)), (gd l 0).sv.1, (gd l 0).av.1]), (kPt0 w0 [(iV ((gd l 0).d.From)), (iV ((gd l 0).d.To)), (gd l 0).sv.1, (gd l 0).av.1]), (kEq (iV ((gd l 0).d.From))), (kEq v_l), (kEq v_l), (kEq (iV (l.length : Int))), (kEq (iV ((l.length : Int) - 1))), (kPt0 w0 [(iV ((gd l (l.length - 1)).d.Id)), (iV ((gd l (l.length - 1)).d.Tier)), (iV ((gd l (l.length - 1)).d.From)), (iV ((gd l (l.length - 1)).d.To)), (gd l (l.length - 1)).sv.1, (gd l (l.length - 1)).av.1]), (kPt0 w0 [(iV ((gd l (l.length - 1)).d.To)), (gd l (l.length - 1)).sv.1, (gd l (l.length - 1)).av.1]), (kEq (iV ((gd l (l.length - 1)).d.To))), (kEq (.agg #[(iV nid), (iV k), (iV ((gd l 0).d.From)), (iV ((gd l (l.length - 1)).d.To)), nS, nS])), (fun (D : Nat → Bool) (v : Value) (w : World) => ∃ g226 : Nat, v = .pointer (some ⟨g226, 0, none⟩) ∧ (D 15 = false → St w0 w [.blk g226 26 #[(iV 0), (iV 0), (iV 0), (iV 0), nS, nS], rowT 45 aggE vu (flatA (l.take i)), rowT 28 sampE vo (flatS (l.take i)), .blk g1 26 #[(iV 0), (iV 0), (iV 0), (iV 0), nS, nS]]) ∧ (D 15 = true → St w0 w [.blk g226 26 #[(iV nid), (iV k), (iV ((gd l 0).d.From)), (iV ((gd l (l.length - 1)).d.To)), nS, nS], rowT 45 aggE vu (flatA (l.take i)), rowT 28 sampE vo (flatS (l.take i)), .blk g1 26 #[(iV 0), (iV 0), (iV 0), (iV 0), nS, nS]])), kAny] := ⟨Or.inr (Or.inr (Or.inr iEq)), Or.inr (Or.inr (Or.inr iEq)), Or.inr (Or.inr (Or.inr iEq)), Or.inr (Or.inr (Or.inr iPt0)), Or.inr (Or.inr (Or.inr iPt0)), Or.inr (Or.inr (Or.inr iEq)), Or.inr (Or.inr (Or.inr iEq)), Or.inr (Or.inr (Or.inr iEq)), Or.inr (Or.inr (Or.inr iEq)), Or.inr (Or.inr (Or.inr iEq)), Or.inr (Or.inr (Or.inr iPt0)), Or.inr (Or.inr (Or.inr iPt0)), Or.inr (Or.inr (Or.inr iEq)), Or.inr (Or.inr (Or.inr iEq)), Or.inr (Or.inl (by decide)), Or.inl rfl, trivial⟩
  refine ⟨by exact ⟨hst.sub (.cons _ (.cons_cons _ (.cons_cons _ (.cons_cons _ .slnil)))), (fun y0 => absurd y0 (fun h => Bool.noConfusion h)), (fun y0 => hst.sub (.cons _ (.cons_cons _ (.cons_cons _ (.cons_cons _ .slnil)))))⟩, by exact trivial, kX [14] hI258 ?_⟩
  intro j d hj hjd hDj h
  simp only [List.mem_cons, List.not_mem_nil, or_false] at hj
  subst hj
  obtain rfl : 12 = d := Option.some.inj hjd
  exact ⟨_, e255, (fun y0 => absurd y0 (fun h => Bool.noConfusion h)), (fun y0 => hst.sub (.cons_cons _ (.cons_cons _ (.cons_cons _ (.cons_cons _ .slnil)))))⟩
 intro ρ259 w260 Dw260 hallw260 hJw260 hRw260 hkw260
 obtain ⟨g261, uw260_12, hhw260⟩ := hRw260 14 12 rfl
 have hst : St w0 w260 [.blk g261 26 #[(iV nid), (iV k), (iV ((gd l 0).d.From)), (iV ((gd l (l.length - 1)).d.To)), nS, nS], rowT 45 aggE vu (flatA (l.take i)), rowT 28 sampE vo (flatS (l.take i)), .blk g1 26 #[(iV 0), (iV 0), (iV 0), (iV 0), nS, nS]] := hhw260.2 (hallw260 15 (show 15 < 16 from by decide))
 have uw260_0 : ρ259 0 = v_l := (hkw260 0 rfl).trans q32_0
 have uw260_1 : ρ259 1 = (iV nid) := (hkw260 1 rfl).trans q32_1
 have uw260_2 : ρ259 2 = (iV k) := (hkw260 2 rfl).trans q32_2
 have uw260_6 : ρ259 6 = (.pointer (some ⟨g1, 0, none⟩)) := (hkw260 6 rfl).trans q32_6
 have uw260_34 : ρ259 34 = v_l := (hkw260 34 rfl).trans q32_34
 have uw260_35 : ρ259 35 = (iV (l.length : Int)) := (hkw260 35 rfl).trans q32_35
 have uw260_8 : ρ259 8 = vo := (hkw260 8 rfl).trans q32_8
 have uw260_9 : ρ259 9 = vu := (hkw260 9 rfl).trans q32_9
 have uw260_36 : ρ259 36 = (iV (i : Int)) := (hkw260 36 rfl).trans q32_36
 have uw260_37 : ρ259 37 = (.bool (decide ((i : Int) < (l.length : Int)))) := (hkw260 37 rfl).trans rfl
 refine then_n (cE_seq (cE_region rfl (s_cons (op_assign (iV 0) rfl (s_nil (then_n (cE_seq (cE_seq ?_))))))))
 have hTL : l.take i = l := List.take_of_length_le (by omega)
 rw [hTL] at hfl
 replace hst : St w0 w260 [.blk g261 26 #[(iV nid), (iV k), (iV ((gd l 0).d.From)), (iV ((gd l (l.length - 1)).d.To)), nS, nS], rowT 45 aggE vu (flatA l), rowT 28 sampE vo (flatS l), .blk g1 26 #[(iV 0), (iV 0), (iV 0), (iV 0), nS, nS]] := by rw [hTL] at hst; exact hst
 refine cE_region rfl (s_cons (op_move (iV k) uw260_2 (s_cons (op_eql (k := .i64) (a := k) (b := 1) rfl rfl (s_nil (then_n ?_))))))
 rcases Bool.eq_false_or_eq_true (decide (k = 1)) with b262 | b262
 ·have c263 : k = 1 := of_decide_eq_true b262
  refine cE_cond true (congrArg Value.bool b262) (fun _ => ?_) (fun h => by cases h)
  refine cE_region rfl (s_cons (op_move vo uw260_8 (s_cons (op_move (iV k) uw260_2 (s_cons (op_call Tryd.call34 (evs_cons (v := vo) rfl (evs_cons (v := (iV k)) rfl evs_nil)) (c_Raw (w0 := w260) (v_l := vo) (l := (flatS l)) (h_l := (hst.sl 2 rfl)) (k := k) (hl := (flat_ok hso).1) (hn := (by omega)) (k0 := (by omega)) (k1 := (by omega))) ?_))))))
  rintro _ w265 ⟨r264, rfl, hcall⟩
  refine ⟨_, rfl, ?_⟩
  have hst : St w0 w265 [rowT 45 aggE r264 ((rawA (flatS l) k).1), .blk g261 26 #[(iV nid), (iV k), (iV ((gd l 0).d.From)), (iV ((gd l (l.length - 1)).d.To)), nS, nS], rowT 45 aggE vu (flatA l), rowT 28 sampE vo (flatS l), .blk g1 26 #[(iV 0), (iV 0), (iV 0), (iV 0), nS, nS]] := hst.call hcall
  refine s_cons (op_move (.tuple #[r264, (iV ((rawA (flatS l) k).2))]) rfl (s_cons (op_extract r264 rfl rfl (s_cons (op_extract (iV ((rawA (flatS l) k).2)) rfl rfl (s_cons (op_fieldAddr (s := 0) Tryd.underlying26 rfl rfl Tryd.sizeOf24 uw260_12 (s_cons0 (op_store1 hst 1 rfl Tryd.sizeOf24 rfl rfl (sl_one (show Sl _ aggE r264 ((rawA (flatS l) k).1) from (hst.sl 0 rfl))) (show 5 < 6 from by decide) (fun w266 hst => ?_))))))))))
  replace hst : St w0 w266 [rowT 45 aggE r264 ((rawA (flatS l) k).1), .blk g261 26 #[(iV nid), (iV k), (iV ((gd l 0).d.From)), (iV ((gd l (l.length - 1)).d.To)), nS, r264], rowT 45 aggE vu (flatA l), rowT 28 sampE vo (flatS l), .blk g1 26 #[(iV 0), (iV 0), (iV 0), (iV 0), nS, nS]] := hst
  refine s_cons (op_assign (iV ((rawA (flatS l) k).2)) rfl (s_nil (then_n (cE_seq (cE_block (cE_seq (cE_region rfl (s_cons (op_move (iV ((rawA (flatS l) k).2)) rfl (s_cons (op_neq (k := .i64) (a := (rawA (flatS l) k).2) (b := 0) rfl rfl (s_cons (op_assign (.bool (!decide (((rawA (flatS l) k).2) = 0))) rfl (s_nil (then_n ?_)))))))))))))))
  rcases Bool.eq_false_or_eq_true (decide (((rawA (flatS l) k).2) = 0)) with b267 | b267
  ·have c268 : ((rawA (flatS l) k).2) = 0 := of_decide_eq_true b267
   refine cE_cond false (congrArg Value.bool (congrArg (! ·) b267)) (fun h => by cases h) (fun _ => ?_)
   refine cE_seq (cE_region rfl (s_cons (op_fieldAddr (s := 0) Tryd.underlying26 rfl rfl Tryd.sizeOf24 uw260_12 (s_cons (op_load1 (u := r264) Tryd.isAgg24 rfl ((hst.cell 1 rfl).drop 5) (s_cons (op_len (E := aggE) (xs := (rawA (flatS l) k).1) Tryd.underlying24 rfl (hst.sl 0 rfl) (s_cons (op_gtr (k := .i64) (a := (((rawA (flatS l) k).1).length : Int)) (b := 64) rfl rfl (s_cons (op_assign (.bool (decide (64 < (((rawA (flatS l) k).1).length : Int)))) rfl ?_)))))))))))
   refine s_nil (then_n ?_)
   rcases Bool.eq_false_or_eq_true (decide (64 < (((rawA (flatS l) k).1).length : Int))) with b269 | b269
   ·have c270 : 64 < (((rawA (flatS l) k).1).length : Int) := of_decide_eq_true b269
    refine cE_cond true (congrArg Value.bool b269) (fun _ => ?_) (fun h => by cases h)
    refine cE_seq (cE_region rfl (s_cons (op_build (r := (.agg #[(iV 0), (iV 0), (iV 0), (iV 0), nS, nS])) evp_nil (by simp [Instr.build, Instr.fill, Value.cells, Tryd.runUnderlying26, Tryd.zeroValue26]) (s_cons0 (op_storeAll hst 4 rfl Tryd.sizeOf26 uw260_6 rfl rfl rfl (by simp [Value.oneCell']) (fun w271 hst => ?_))))))
    replace hst : St w0 w271 [rowT 45 aggE r264 ((rawA (flatS l) k).1), .blk g261 26 #[(iV nid), (iV k), (iV ((gd l 0).d.From)), (iV ((gd l (l.length - 1)).d.To)), nS, r264], rowT 45 aggE vu (flatA l), rowT 28 sampE vo (flatS l), .blk g1 26 #[(iV 0), (iV 0), (iV 0), (iV 0), nS, nS]] := hst
    refine s_cons (op_assign (iV 8) rfl (s_nil (then_n (cE_ret (block_r (then_r (scope_r (postG_r _ (rvN (cs := [(iV 0), (iV 0), (iV 0), (iV 0), nS, nS]) Tryd.isAgg26 Tryd.sizeOf26 uw260_6 (Pt.of (hst.cell 4 rfl) rfl) rfl (rvt (v := (iV 8)) rfl rvnil)) ?_))))))))
    replace hst : St w0 w271 [rowT 28 sampE nS ([]), rowT 45 aggE r264 ((rawA (flatS l) k).1), .blk g261 26 #[(iV nid), (iV k), (iV ((gd l 0).d.From)), (iV ((gd l (l.length - 1)).d.To)), nS, r264], rowT 45 aggE vu (flatA l), rowT 28 sampE vo (flatS l), .blk g1 26 #[(iV 0), (iV 0), (iV 0), (iV 0), nS, nS]] := hst.nilRow 28 sampE
    replace hst : St w0 w271 [rowT 45 aggE nS ([]), rowT 28 sampE nS ([]), rowT 45 aggE r264 ((rawA (flatS l) k).1), .blk g261 26 #[(iV nid), (iV k), (iV ((gd l 0).d.From)), (iV ((gd l (l.length - 1)).d.To)), nS, r264], rowT 45 aggE vu (flatA l), rowT 28 sampE vo (flatS l), .blk g1 26 #[(iV 0), (iV 0), (iV 0), (iV 0), nS, nS]] := hst.nilRow 45 aggE
    replace hst : St w0 w271 [rowT 28 sampE nS ([]), rowT 45 aggE nS ([]), rowT 45 aggE r264 ((rawA (flatS l) k).1), .blk g261 26 #[(iV nid), (iV k), (iV ((gd l 0).d.From)), (iV ((gd l (l.length - 1)).d.To)), nS, r264], rowT 45 aggE vu (flatA l), rowT 28 sampE vo (flatS l), .blk g1 26 #[(iV 0), (iV 0), (iV 0), (iV 0), nS, nS]] := hst.front 1 rfl
    exact ⟨(⟨⟨0, 0, 0, 0, [], []⟩, nilV, nilV⟩ : Seg), (retv2 rfl (congrArg iV (show 8 = (rollL l nid k).2 from by first | exact snd_of (rollL_out (by omega)) | exact snd_of (rollL_no (by omega) (chain_badG (i := i) (by omega) (by assumption))) | exact snd_of (rollL_bad (by omega) hC (by omega) (by first | (rw [if_pos (by omega)]; done) | (rw [if_neg (by omega)]; done)) (by assumption)) | exact snd_of (rollL_full (by omega) hC (by omega) (by first | (rw [if_pos (by omega)]; done) | (rw [if_neg (by omega)]; done)) (by omega) (by assumption)) | exact snd_of (rollL_ok (by omega) hC (by omega) (by first | (rw [if_pos (by omega)]; done) | (rw [if_neg (by omega)]; done)) (by omega) (by assumption))))), hst.sub (.cons_cons _ (.cons_cons _ (.cons _ (.cons _ (.cons _ (.cons _ (.cons _ .slnil))))))), (by first | exact fst_of (rollL_out (by omega)) | exact fst_of (rollL_no (by omega) (chain_badG (i := i) (by omega) (by assumption))) | exact fst_of (rollL_bad (by omega) hC (by omega) (by first | (rw [if_pos (by omega)]; done) | (rw [if_neg (by omega)]; done)) (by assumption)) | exact fst_of (rollL_full (by omega) hC (by omega) (by first | (rw [if_pos (by omega)]; done) | (rw [if_neg (by omega)]; done)) (by omega) (by assumption)) | exact fst_of (rollL_ok (by omega) hC (by omega) (by first | (rw [if_pos (by omega)]; done) | (rw [if_neg (by omega)]; done)) (by omega) (by assumption)))⟩
   have c272 : ¬ (64 < (((rawA (flatS l) k).1).length : Int)) := of_decide_eq_false b269
   refine cE_cond false (congrArg Value.bool b269) (fun h => by cases h) (fun _ => ?_)
   refine cE_skip (block_n (then_n (cE_seq (cE_region rfl (s_cons (op_loadN (cs := [(iV nid), (iV k), (iV ((gd l 0).d.From)), (iV ((gd l (l.length - 1)).d.To)), nS, r264]) Tryd.isAgg26 Tryd.sizeOf26 uw260_12 (Pt.of (hst.cell 1 rfl) rfl) rfl (s_cons0 (op_storeAll hst 4 rfl Tryd.sizeOf26 uw260_6 rfl rfl rfl (oneL_all (l := [(iV nid), (iV k), (iV ((gd l 0).d.From)), (iV ((gd l (l.length - 1)).d.To)), nS, r264]) ⟨rfl, rfl, rfl, rfl, rfl, (sl_one (show Sl _ aggE r264 ((rawA (flatS l) k).1) from (hst.sl 0 rfl))), trivial⟩) (fun w273 hst => ?_)))))))))
   replace hst : St w0 w273 [rowT 45 aggE r264 ((rawA (flatS l) k).1), .blk g261 26 #[(iV nid), (iV k), (iV ((gd l 0).d.From)), (iV ((gd l (l.length - 1)).d.To)), nS, r264], rowT 45 aggE vu (flatA l), rowT 28 sampE vo (flatS l), .blk g1 26 #[(iV nid), (iV k), (iV ((gd l 0).d.From)), (iV ((gd l (l.length - 1)).d.To)), nS, r264]] := hst
   refine s_cons (op_assign (iV 0) rfl (s_nil (then_n (cE_ret (scope_r (postG_r _ (rvN (cs := [(iV nid), (iV k), (iV ((gd l 0).d.From)), (iV ((gd l (l.length - 1)).d.To)), nS, r264]) Tryd.isAgg26 Tryd.sizeOf26 uw260_6 (Pt.of (hst.cell 4 rfl) rfl) rfl (rvt (v := (iV 0)) rfl rvnil)) ?_))))))
   have ho274 : r264.oneCell' = true := (sl_one (show Sl _ aggE r264 ((rawA (flatS l) k).1) from (hst.sl 0 rfl)))
   replace hst : St w0 w273 [rowT 28 sampE nS ([]), rowT 45 aggE r264 ((rawA (flatS l) k).1), .blk g261 26 #[(iV nid), (iV k), (iV ((gd l 0).d.From)), (iV ((gd l (l.length - 1)).d.To)), nS, r264], rowT 45 aggE vu (flatA l), rowT 28 sampE vo (flatS l), .blk g1 26 #[(iV nid), (iV k), (iV ((gd l 0).d.From)), (iV ((gd l (l.length - 1)).d.To)), nS, r264]] := hst.nilRow 28 sampE
   exact ⟨(⟨⟨nid, k, (gd l 0).d.From, (gd l (l.length - 1)).d.To, [], (rawA (flatS l) k).1⟩, nilV, ⟨r264, ho274⟩⟩ : Seg), (retv2 rfl (congrArg iV (show 0 = (rollL l nid k).2 from by first | exact snd_of (rollL_out (by omega)) | exact snd_of (rollL_no (by omega) (chain_badG (i := i) (by omega) (by assumption))) | exact snd_of (rollL_bad (by omega) hC (by omega) (by first | (rw [if_pos (by omega)]; done) | (rw [if_neg (by omega)]; done)) (by assumption)) | exact snd_of (rollL_full (by omega) hC (by omega) (by first | (rw [if_pos (by omega)]; done) | (rw [if_neg (by omega)]; done)) (by omega) (by assumption)) | exact snd_of (rollL_ok (by omega) hC (by omega) (by first | (rw [if_pos (by omega)]; done) | (rw [if_neg (by omega)]; done)) (by omega) (by assumption))))), hst.sub (.cons_cons _ (.cons_cons _ (.cons _ (.cons _ (.cons _ (.cons _ .slnil)))))), (by first | exact fst_of (rollL_out (by omega)) | exact fst_of (rollL_no (by omega) (chain_badG (i := i) (by omega) (by assumption))) | exact fst_of (rollL_bad (by omega) hC (by omega) (by first | (rw [if_pos (by omega)]; done) | (rw [if_neg (by omega)]; done)) (by assumption)) | exact fst_of (rollL_full (by omega) hC (by omega) (by first | (rw [if_pos (by omega)]; done) | (rw [if_neg (by omega)]; done)) (by omega) (by assumption)) | exact fst_of (rollL_ok (by omega) hC (by omega) (by first | (rw [if_pos (by omega)]; done) | (rw [if_neg (by omega)]; done)) (by omega) (by assumption)))⟩
  have c275 : ¬ (((rawA (flatS l) k).2) = 0) := of_decide_eq_false b267
  refine cE_cond true (congrArg Value.bool (congrArg (! ·) b267)) (fun _ => ?_) (fun h => by cases h)
  refine cE_seq (cE_region rfl (s_cons (op_build (r := (.agg #[(iV 0), (iV 0), (iV 0), (iV 0), nS, nS])) evp_nil (by simp [Instr.build, Instr.fill, Value.cells, Tryd.runUnderlying26, Tryd.zeroValue26]) (s_cons (op_move (iV ((rawA (flatS l) k).2)) rfl (s_cons0 (op_storeAll hst 4 rfl Tryd.sizeOf26 uw260_6 rfl rfl rfl (by simp [Value.oneCell']) (fun w276 hst => ?_))))))))
  replace hst : St w0 w276 [rowT 45 aggE r264 ((rawA (flatS l) k).1), .blk g261 26 #[(iV nid), (iV k), (iV ((gd l 0).d.From)), (iV ((gd l (l.length - 1)).d.To)), nS, r264], rowT 45 aggE vu (flatA l), rowT 28 sampE vo (flatS l), .blk g1 26 #[(iV 0), (iV 0), (iV 0), (iV 0), nS, nS]] := hst
  refine s_cons (op_assign (iV ((rawA (flatS l) k).2)) rfl (s_nil (then_n (cE_ret (block_r (then_r (scope_r (postG_r _ (rvN (cs := [(iV 0), (iV 0), (iV 0), (iV 0), nS, nS]) Tryd.isAgg26 Tryd.sizeOf26 uw260_6 (Pt.of (hst.cell 4 rfl) rfl) rfl (rvt (v := (iV ((rawA (flatS l) k).2))) rfl rvnil)) ?_))))))))
  replace hst : St w0 w276 [rowT 28 sampE nS ([]), rowT 45 aggE r264 ((rawA (flatS l) k).1), .blk g261 26 #[(iV nid), (iV k), (iV ((gd l 0).d.From)), (iV ((gd l (l.length - 1)).d.To)), nS, r264], rowT 45 aggE vu (flatA l), rowT 28 sampE vo (flatS l), .blk g1 26 #[(iV 0), (iV 0), (iV 0), (iV 0), nS, nS]] := hst.nilRow 28 sampE
  replace hst : St w0 w276 [rowT 45 aggE nS ([]), rowT 28 sampE nS ([]), rowT 45 aggE r264 ((rawA (flatS l) k).1), .blk g261 26 #[(iV nid), (iV k), (iV ((gd l 0).d.From)), (iV ((gd l (l.length - 1)).d.To)), nS, r264], rowT 45 aggE vu (flatA l), rowT 28 sampE vo (flatS l), .blk g1 26 #[(iV 0), (iV 0), (iV 0), (iV 0), nS, nS]] := hst.nilRow 45 aggE
  replace hst : St w0 w276 [rowT 28 sampE nS ([]), rowT 45 aggE nS ([]), rowT 45 aggE r264 ((rawA (flatS l) k).1), .blk g261 26 #[(iV nid), (iV k), (iV ((gd l 0).d.From)), (iV ((gd l (l.length - 1)).d.To)), nS, r264], rowT 45 aggE vu (flatA l), rowT 28 sampE vo (flatS l), .blk g1 26 #[(iV 0), (iV 0), (iV 0), (iV 0), nS, nS]] := hst.front 1 rfl
  exact ⟨(⟨⟨0, 0, 0, 0, [], []⟩, nilV, nilV⟩ : Seg), (retv2 rfl (congrArg iV (show (rawA (flatS l) k).2 = (rollL l nid k).2 from by first | exact snd_of (rollL_out (by omega)) | exact snd_of (rollL_no (by omega) (chain_badG (i := i) (by omega) (by assumption))) | exact snd_of (rollL_bad (by omega) hC (by omega) (by first | (rw [if_pos (by omega)]; done) | (rw [if_neg (by omega)]; done)) (by assumption)) | exact snd_of (rollL_full (by omega) hC (by omega) (by first | (rw [if_pos (by omega)]; done) | (rw [if_neg (by omega)]; done)) (by omega) (by assumption)) | exact snd_of (rollL_ok (by omega) hC (by omega) (by first | (rw [if_pos (by omega)]; done) | (rw [if_neg (by omega)]; done)) (by omega) (by assumption))))), hst.sub (.cons_cons _ (.cons_cons _ (.cons _ (.cons _ (.cons _ (.cons _ (.cons _ .slnil))))))), (by first | exact fst_of (rollL_out (by omega)) | exact fst_of (rollL_no (by omega) (chain_badG (i := i) (by omega) (by assumption))) | exact fst_of (rollL_bad (by omega) hC (by omega) (by first | (rw [if_pos (by omega)]; done) | (rw [if_neg (by omega)]; done)) (by assumption)) | exact fst_of (rollL_full (by omega) hC (by omega) (by first | (rw [if_pos (by omega)]; done) | (rw [if_neg (by omega)]; done)) (by omega) (by assumption)) | exact fst_of (rollL_ok (by omega) hC (by omega) (by first | (rw [if_pos (by omega)]; done) | (rw [if_neg (by omega)]; done)) (by omega) (by assumption)))⟩
 have c277 : ¬ (k = 1) := of_decide_eq_false b262
 refine cE_cond false (congrArg Value.bool b262) (fun h => by cases h) (fun _ => ?_)
 refine cE_seq (cE_region rfl (s_cons (op_move vu uw260_9 (s_cons (op_call Tryd.call35 (evs_cons (v := vu) rfl evs_nil) (c_joined (w0 := w260) (v_l := vu) (l := (flatA l)) (h_l := (hst.sl 1 rfl)) (hup := (flat_up (i := i) (by omega) hC (by omega) (by omega))) (hll := (by omega))) ?_)))))
 rintro _ w279 ⟨r278, rfl, hcall⟩
 refine ⟨_, rfl, ?_⟩
 have hst : St w0 w279 [rowT 45 aggE r278 (flatA l), .blk g261 26 #[(iV nid), (iV k), (iV ((gd l 0).d.From)), (iV ((gd l (l.length - 1)).d.To)), nS, nS], rowT 45 aggE vu (flatA l), rowT 28 sampE vo (flatS l), .blk g1 26 #[(iV 0), (iV 0), (iV 0), (iV 0), nS, nS]] := hst.call hcall
 refine s_cons (op_move (.tuple #[r278, (iV 0)]) rfl (s_cons (op_extract r278 rfl rfl (s_cons (op_extract (iV 0) rfl rfl (s_cons (op_assign r278 rfl (s_cons (op_assign (iV 0) rfl (s_nil (then_n (cE_seq (cE_region rfl (s_cons (op_move (iV 0) rfl (s_cons (op_eql (k := .i64) (a := 0) (b := 0) rfl rfl (s_nil (then_n (cE_cond true (congrArg Value.bool (show (decide (0 = 0)) = true from (decide_eq_true rfl))) (fun _ => ?_) (fun h => by cases h)))))))))))))))))))))
 refine cE_region rfl (s_cons (op_move r278 rfl (s_cons (op_move (iV k) uw260_2 (s_cons (op_call Tryd.call36 (evs_cons (v := r278) rfl (evs_cons (v := (iV k)) rfl evs_nil)) (c_Down (w0 := w279) (v_l := r278) (l := (flatA l)) (h_l := (hst.sl 0 rfl)) (k := k) (hl := (flat_ok hso).2) (hn := (by omega)) (k0 := (by omega)) (k1 := (by omega))) ?_))))))
 rintro _ w281 ⟨r280, rfl, hcall⟩
 refine ⟨_, rfl, ?_⟩
 have hst : St w0 w281 [rowT 45 aggE r280 ((downA (flatA l) k).1), rowT 45 aggE r278 (flatA l), .blk g261 26 #[(iV nid), (iV k), (iV ((gd l 0).d.From)), (iV ((gd l (l.length - 1)).d.To)), nS, nS], rowT 45 aggE vu (flatA l), rowT 28 sampE vo (flatS l), .blk g1 26 #[(iV 0), (iV 0), (iV 0), (iV 0), nS, nS]] := hst.call hcall
 refine s_cons (op_move (.tuple #[r280, (iV ((downA (flatA l) k).2))]) rfl (s_cons (op_extract r280 rfl rfl (s_cons (op_extract (iV ((downA (flatA l) k).2)) rfl rfl (s_cons (op_fieldAddr (s := 0) Tryd.underlying26 rfl rfl Tryd.sizeOf24 uw260_12 (s_cons0 (op_store1 hst 2 rfl Tryd.sizeOf24 rfl rfl (sl_one (show Sl _ aggE r280 ((downA (flatA l) k).1) from (hst.sl 0 rfl))) (show 5 < 6 from by decide) (fun w282 hst => ?_))))))))))
 replace hst : St w0 w282 [rowT 45 aggE r280 ((downA (flatA l) k).1), rowT 45 aggE r278 (flatA l), .blk g261 26 #[(iV nid), (iV k), (iV ((gd l 0).d.From)), (iV ((gd l (l.length - 1)).d.To)), nS, r280], rowT 45 aggE vu (flatA l), rowT 28 sampE vo (flatS l), .blk g1 26 #[(iV 0), (iV 0), (iV 0), (iV 0), nS, nS]] := hst
 refine s_cons (op_assign (iV ((downA (flatA l) k).2)) rfl (s_nil (then_n (cE_seq (cE_block (cE_seq (cE_region rfl (s_cons (op_move (iV ((downA (flatA l) k).2)) rfl (s_cons (op_neq (k := .i64) (a := (downA (flatA l) k).2) (b := 0) rfl rfl (s_cons (op_assign (.bool (!decide (((downA (flatA l) k).2) = 0))) rfl (s_nil (then_n ?_)))))))))))))))
 rcases Bool.eq_false_or_eq_true (decide (((downA (flatA l) k).2) = 0)) with b283 | b283
 ·have c284 : ((downA (flatA l) k).2) = 0 := of_decide_eq_true b283
  refine cE_cond false (congrArg Value.bool (congrArg (! ·) b283)) (fun h => by cases h) (fun _ => ?_)
  refine cE_seq (cE_region rfl (s_cons (op_fieldAddr (s := 0) Tryd.underlying26 rfl rfl Tryd.sizeOf24 uw260_12 (s_cons (op_load1 (u := r280) Tryd.isAgg24 rfl ((hst.cell 2 rfl).drop 5) (s_cons (op_len (E := aggE) (xs := (downA (flatA l) k).1) Tryd.underlying24 rfl (hst.sl 0 rfl) (s_cons (op_gtr (k := .i64) (a := (((downA (flatA l) k).1).length : Int)) (b := 64) rfl rfl (s_cons (op_assign (.bool (decide (64 < (((downA (flatA l) k).1).length : Int)))) rfl ?_)))))))))))
  refine s_nil (then_n ?_)
  rcases Bool.eq_false_or_eq_true (decide (64 < (((downA (flatA l) k).1).length : Int))) with b285 | b285
  ·have c286 : 64 < (((downA (flatA l) k).1).length : Int) := of_decide_eq_true b285
   refine cE_cond true (congrArg Value.bool b285) (fun _ => ?_) (fun h => by cases h)
   refine cE_seq (cE_region rfl (s_cons (op_build (r := (.agg #[(iV 0), (iV 0), (iV 0), (iV 0), nS, nS])) evp_nil (by simp [Instr.build, Instr.fill, Value.cells, Tryd.runUnderlying26, Tryd.zeroValue26]) (s_cons0 (op_storeAll hst 5 rfl Tryd.sizeOf26 uw260_6 rfl rfl rfl (by simp [Value.oneCell']) (fun w287 hst => ?_))))))
   replace hst : St w0 w287 [rowT 45 aggE r280 ((downA (flatA l) k).1), rowT 45 aggE r278 (flatA l), .blk g261 26 #[(iV nid), (iV k), (iV ((gd l 0).d.From)), (iV ((gd l (l.length - 1)).d.To)), nS, r280], rowT 45 aggE vu (flatA l), rowT 28 sampE vo (flatS l), .blk g1 26 #[(iV 0), (iV 0), (iV 0), (iV 0), nS, nS]] := hst
   refine s_cons (op_assign (iV 8) rfl (s_nil (then_n (cE_ret (block_r (then_r (scope_r (postG_r _ (rvN (cs := [(iV 0), (iV 0), (iV 0), (iV 0), nS, nS]) Tryd.isAgg26 Tryd.sizeOf26 uw260_6 (Pt.of (hst.cell 5 rfl) rfl) rfl (rvt (v := (iV 8)) rfl rvnil)) ?_))))))))
   replace hst : St w0 w287 [rowT 28 sampE nS ([]), rowT 45 aggE r280 ((downA (flatA l) k).1), rowT 45 aggE r278 (flatA l), .blk g261 26 #[(iV nid), (iV k), (iV ((gd l 0).d.From)), (iV ((gd l (l.length - 1)).d.To)), nS, r280], rowT 45 aggE vu (flatA l), rowT 28 sampE vo (flatS l), .blk g1 26 #[(iV 0), (iV 0), (iV 0), (iV 0), nS, nS]] := hst.nilRow 28 sampE
   replace hst : St w0 w287 [rowT 45 aggE nS ([]), rowT 28 sampE nS ([]), rowT 45 aggE r280 ((downA (flatA l) k).1), rowT 45 aggE r278 (flatA l), .blk g261 26 #[(iV nid), (iV k), (iV ((gd l 0).d.From)), (iV ((gd l (l.length - 1)).d.To)), nS, r280], rowT 45 aggE vu (flatA l), rowT 28 sampE vo (flatS l), .blk g1 26 #[(iV 0), (iV 0), (iV 0), (iV 0), nS, nS]] := hst.nilRow 45 aggE
   replace hst : St w0 w287 [rowT 28 sampE nS ([]), rowT 45 aggE nS ([]), rowT 45 aggE r280 ((downA (flatA l) k).1), rowT 45 aggE r278 (flatA l), .blk g261 26 #[(iV nid), (iV k), (iV ((gd l 0).d.From)), (iV ((gd l (l.length - 1)).d.To)), nS, r280], rowT 45 aggE vu (flatA l), rowT 28 sampE vo (flatS l), .blk g1 26 #[(iV 0), (iV 0), (iV 0), (iV 0), nS, nS]] := hst.front 1 rfl
   exact ⟨(⟨⟨0, 0, 0, 0, [], []⟩, nilV, nilV⟩ : Seg), (retv2 rfl (congrArg iV (show 8 = (rollL l nid k).2 from by first | exact snd_of (rollL_out (by omega)) | exact snd_of (rollL_no (by omega) (chain_badG (i := i) (by omega) (by assumption))) | exact snd_of (rollL_bad (by omega) hC (by omega) (by first | (rw [if_pos (by omega)]; done) | (rw [if_neg (by omega)]; done)) (by assumption)) | exact snd_of (rollL_full (by omega) hC (by omega) (by first | (rw [if_pos (by omega)]; done) | (rw [if_neg (by omega)]; done)) (by omega) (by assumption)) | exact snd_of (rollL_ok (by omega) hC (by omega) (by first | (rw [if_pos (by omega)]; done) | (rw [if_neg (by omega)]; done)) (by omega) (by assumption))))), hst.sub (.cons_cons _ (.cons_cons _ (.cons _ (.cons _ (.cons _ (.cons _ (.cons _ (.cons _ .slnil)))))))), (by first | exact fst_of (rollL_out (by omega)) | exact fst_of (rollL_no (by omega) (chain_badG (i := i) (by omega) (by assumption))) | exact fst_of (rollL_bad (by omega) hC (by omega) (by first | (rw [if_pos (by omega)]; done) | (rw [if_neg (by omega)]; done)) (by assumption)) | exact fst_of (rollL_full (by omega) hC (by omega) (by first | (rw [if_pos (by omega)]; done) | (rw [if_neg (by omega)]; done)) (by omega) (by assumption)) | exact fst_of (rollL_ok (by omega) hC (by omega) (by first | (rw [if_pos (by omega)]; done) | (rw [if_neg (by omega)]; done)) (by omega) (by assumption)))⟩
  have c288 : ¬ (64 < (((downA (flatA l) k).1).length : Int)) := of_decide_eq_false b285
  refine cE_cond false (congrArg Value.bool b285) (fun h => by cases h) (fun _ => ?_)
  refine cE_skip (block_n (then_n (cE_seq (cE_region rfl (s_cons (op_loadN (cs := [(iV nid), (iV k), (iV ((gd l 0).d.From)), (iV ((gd l (l.length - 1)).d.To)), nS, r280]) Tryd.isAgg26 Tryd.sizeOf26 uw260_12 (Pt.of (hst.cell 2 rfl) rfl) rfl (s_cons0 (op_storeAll hst 5 rfl Tryd.sizeOf26 uw260_6 rfl rfl rfl (oneL_all (l := [(iV nid), (iV k), (iV ((gd l 0).d.From)), (iV ((gd l (l.length - 1)).d.To)), nS, r280]) ⟨rfl, rfl, rfl, rfl, rfl, (sl_one (show Sl _ aggE r280 ((downA (flatA l) k).1) from (hst.sl 0 rfl))), trivial⟩) (fun w289 hst => ?_)))))))))
  replace hst : St w0 w289 [rowT 45 aggE r280 ((downA (flatA l) k).1), rowT 45 aggE r278 (flatA l), .blk g261 26 #[(iV nid), (iV k), (iV ((gd l 0).d.From)), (iV ((gd l (l.length - 1)).d.To)), nS, r280], rowT 45 aggE vu (flatA l), rowT 28 sampE vo (flatS l), .blk g1 26 #[(iV nid), (iV k), (iV ((gd l 0).d.From)), (iV ((gd l (l.length - 1)).d.To)), nS, r280]] := hst
  refine s_cons (op_assign (iV 0) rfl (s_nil (then_n (cE_ret (scope_r (postG_r _ (rvN (cs := [(iV nid), (iV k), (iV ((gd l 0).d.From)), (iV ((gd l (l.length - 1)).d.To)), nS, r280]) Tryd.isAgg26 Tryd.sizeOf26 uw260_6 (Pt.of (hst.cell 5 rfl) rfl) rfl (rvt (v := (iV 0)) rfl rvnil)) ?_))))))
  have ho290 : r280.oneCell' = true := (sl_one (show Sl _ aggE r280 ((downA (flatA l) k).1) from (hst.sl 0 rfl)))
  replace hst : St w0 w289 [rowT 28 sampE nS ([]), rowT 45 aggE r280 ((downA (flatA l) k).1), rowT 45 aggE r278 (flatA l), .blk g261 26 #[(iV nid), (iV k), (iV ((gd l 0).d.From)), (iV ((gd l (l.length - 1)).d.To)), nS, r280], rowT 45 aggE vu (flatA l), rowT 28 sampE vo (flatS l), .blk g1 26 #[(iV nid), (iV k), (iV ((gd l 0).d.From)), (iV ((gd l (l.length - 1)).d.To)), nS, r280]] := hst.nilRow 28 sampE
  exact ⟨(⟨⟨nid, k, (gd l 0).d.From, (gd l (l.length - 1)).d.To, [], (downA (flatA l) k).1⟩, nilV, ⟨r280, ho290⟩⟩ : Seg), (retv2 rfl (congrArg iV (show 0 = (rollL l nid k).2 from by first | exact snd_of (rollL_out (by omega)) | exact snd_of (rollL_no (by omega) (chain_badG (i := i) (by omega) (by assumption))) | exact snd_of (rollL_bad (by omega) hC (by omega) (by first | (rw [if_pos (by omega)]; done) | (rw [if_neg (by omega)]; done)) (by assumption)) | exact snd_of (rollL_full (by omega) hC (by omega) (by first | (rw [if_pos (by omega)]; done) | (rw [if_neg (by omega)]; done)) (by omega) (by assumption)) | exact snd_of (rollL_ok (by omega) hC (by omega) (by first | (rw [if_pos (by omega)]; done) | (rw [if_neg (by omega)]; done)) (by omega) (by assumption))))), hst.sub (.cons_cons _ (.cons_cons _ (.cons _ (.cons _ (.cons _ (.cons _ (.cons _ .slnil))))))), (by first | exact fst_of (rollL_out (by omega)) | exact fst_of (rollL_no (by omega) (chain_badG (i := i) (by omega) (by assumption))) | exact fst_of (rollL_bad (by omega) hC (by omega) (by first | (rw [if_pos (by omega)]; done) | (rw [if_neg (by omega)]; done)) (by assumption)) | exact fst_of (rollL_full (by omega) hC (by omega) (by first | (rw [if_pos (by omega)]; done) | (rw [if_neg (by omega)]; done)) (by omega) (by assumption)) | exact fst_of (rollL_ok (by omega) hC (by omega) (by first | (rw [if_pos (by omega)]; done) | (rw [if_neg (by omega)]; done)) (by omega) (by assumption)))⟩
 have c291 : ¬ (((downA (flatA l) k).2) = 0) := of_decide_eq_false b283
 refine cE_cond true (congrArg Value.bool (congrArg (! ·) b283)) (fun _ => ?_) (fun h => by cases h)
 refine cE_seq (cE_region rfl (s_cons (op_build (r := (.agg #[(iV 0), (iV 0), (iV 0), (iV 0), nS, nS])) evp_nil (by simp [Instr.build, Instr.fill, Value.cells, Tryd.runUnderlying26, Tryd.zeroValue26]) (s_cons (op_move (iV ((downA (flatA l) k).2)) rfl (s_cons0 (op_storeAll hst 5 rfl Tryd.sizeOf26 uw260_6 rfl rfl rfl (by simp [Value.oneCell']) (fun w292 hst => ?_))))))))
 replace hst : St w0 w292 [rowT 45 aggE r280 ((downA (flatA l) k).1), rowT 45 aggE r278 (flatA l), .blk g261 26 #[(iV nid), (iV k), (iV ((gd l 0).d.From)), (iV ((gd l (l.length - 1)).d.To)), nS, r280], rowT 45 aggE vu (flatA l), rowT 28 sampE vo (flatS l), .blk g1 26 #[(iV 0), (iV 0), (iV 0), (iV 0), nS, nS]] := hst
 refine s_cons (op_assign (iV ((downA (flatA l) k).2)) rfl (s_nil (then_n (cE_ret (block_r (then_r (scope_r (postG_r _ (rvN (cs := [(iV 0), (iV 0), (iV 0), (iV 0), nS, nS]) Tryd.isAgg26 Tryd.sizeOf26 uw260_6 (Pt.of (hst.cell 5 rfl) rfl) rfl (rvt (v := (iV ((downA (flatA l) k).2))) rfl rvnil)) ?_))))))))
 replace hst : St w0 w292 [rowT 28 sampE nS ([]), rowT 45 aggE r280 ((downA (flatA l) k).1), rowT 45 aggE r278 (flatA l), .blk g261 26 #[(iV nid), (iV k), (iV ((gd l 0).d.From)), (iV ((gd l (l.length - 1)).d.To)), nS, r280], rowT 45 aggE vu (flatA l), rowT 28 sampE vo (flatS l), .blk g1 26 #[(iV 0), (iV 0), (iV 0), (iV 0), nS, nS]] := hst.nilRow 28 sampE
 replace hst : St w0 w292 [rowT 45 aggE nS ([]), rowT 28 sampE nS ([]), rowT 45 aggE r280 ((downA (flatA l) k).1), rowT 45 aggE r278 (flatA l), .blk g261 26 #[(iV nid), (iV k), (iV ((gd l 0).d.From)), (iV ((gd l (l.length - 1)).d.To)), nS, r280], rowT 45 aggE vu (flatA l), rowT 28 sampE vo (flatS l), .blk g1 26 #[(iV 0), (iV 0), (iV 0), (iV 0), nS, nS]] := hst.nilRow 45 aggE
 replace hst : St w0 w292 [rowT 28 sampE nS ([]), rowT 45 aggE nS ([]), rowT 45 aggE r280 ((downA (flatA l) k).1), rowT 45 aggE r278 (flatA l), .blk g261 26 #[(iV nid), (iV k), (iV ((gd l 0).d.From)), (iV ((gd l (l.length - 1)).d.To)), nS, r280], rowT 45 aggE vu (flatA l), rowT 28 sampE vo (flatS l), .blk g1 26 #[(iV 0), (iV 0), (iV 0), (iV 0), nS, nS]] := hst.front 1 rfl
 exact ⟨(⟨⟨0, 0, 0, 0, [], []⟩, nilV, nilV⟩ : Seg), (retv2 rfl (congrArg iV (show (downA (flatA l) k).2 = (rollL l nid k).2 from by first | exact snd_of (rollL_out (by omega)) | exact snd_of (rollL_no (by omega) (chain_badG (i := i) (by omega) (by assumption))) | exact snd_of (rollL_bad (by omega) hC (by omega) (by first | (rw [if_pos (by omega)]; done) | (rw [if_neg (by omega)]; done)) (by assumption)) | exact snd_of (rollL_full (by omega) hC (by omega) (by first | (rw [if_pos (by omega)]; done) | (rw [if_neg (by omega)]; done)) (by omega) (by assumption)) | exact snd_of (rollL_ok (by omega) hC (by omega) (by first | (rw [if_pos (by omega)]; done) | (rw [if_neg (by omega)]; done)) (by omega) (by assumption))))), hst.sub (.cons_cons _ (.cons_cons _ (.cons _ (.cons _ (.cons _ (.cons _ (.cons _ (.cons _ .slnil)))))))), (by first | exact fst_of (rollL_out (by omega)) | exact fst_of (rollL_no (by omega) (chain_badG (i := i) (by omega) (by assumption))) | exact fst_of (rollL_bad (by omega) hC (by omega) (by first | (rw [if_pos (by omega)]; done) | (rw [if_neg (by omega)]; done)) (by assumption)) | exact fst_of (rollL_full (by omega) hC (by omega) (by first | (rw [if_pos (by omega)]; done) | (rw [if_neg (by omega)]; done)) (by omega) (by assumption)) | exact fst_of (rollL_ok (by omega) hC (by omega) (by first | (rw [if_pos (by omega)]; done) | (rw [if_neg (by omega)]; done)) (by omega) (by assumption)))⟩

end Go.Proofs.YtgibfidebdgffaaDoor
