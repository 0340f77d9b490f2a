/- segment.Get -/
import Derived.Test.YtgibfidebdgffaaDoorXLB
import Derived.Test.YtgibfidebdgffaaDoorXW52
import Derived.Test.YtgibfidebdgffaaDoorXW23
import Derived.Test.YtgibfidebdgffaaDoorXW26
import Derived.Test.YtgibfidebdgffaaDoorXW3
import Derived.Test.YtgibfidebdgffaaDoorXW1
namespace Go.Proofs.YtgibfidebdgffaaDoor
open Go.RowKit

set_option maxRecDepth 8000 in
set_option maxHeartbeats 8000000 in
theorem c_sGet (w0 : World) (v_b : Value) (b : List UInt8) (h_b : Sl w0 u8E v_b b) (hl : b.length ≤ 1000000000) :
  Calls Tryd.prog 12 #[v_b] w0 fun e w' => ∃ (s : Seg), ∃ (c : Int), e = .returned (.tuple #[(.agg #[(iV s.d.Id), (iV s.d.Tier), (iV s.d.From), (iV s.d.To), s.sv.1, s.av.1]), (iV c)]) ∧ St w0 w' [rowT 28 sampE s.sv.1 s.d.Samples, rowT 45 aggE s.av.1 s.d.Aggs] ∧ DecG b s.d c := by
 refine calls_G (n := 115) (rs := [.cell 2 26, .tmp 3]) Tryd.func12 rfl rfl rfl (by simp) ?_
 have hst := St.start w0
 refine cE_seq (cE_region rfl (s_cons (op_alloc (cs := #[(iV 0), (iV 0), (iV 0), (iV 0), nS, nS]) hst Tryd.zeroValue26 rfl (fun g1 w2 hst _ => ?_))))
 replace hst : St w0 w2 [.blk g1 26 #[(iV 0), (iV 0), (iV 0), (iV 0), nS, nS]] := hst
 refine s_cons (op_assign (iV 0) rfl (s_nil (then_n (cE_scope (cE_seq (cE_region rfl (s_cons (op_move v_b rfl (s_cons (op_len (E := u8E) (xs := b) Tryd.underlying29 rfl h_b (s_cons (op_sub (k := .i64) (a := (b.length : Int)) (b := 4) ((b.length : Int) - 4) rfl rfl (xi64 (by omega) (by omega)) (s_cons (op_assign (iV ((b.length : Int) - 4)) rfl (s_nil (then_n (cE_seq (cE_seq (cE_region rfl ?_)))))))))))))))))))
 refine s_cons (op_move (iV ((b.length : Int) - 4)) rfl (s_cons (op_lss (k := .i64) (a := ((b.length : Int) - 4)) (b := 2) rfl rfl (s_cons (op_move (.bool (decide (((b.length : Int) - 4) < 2))) rfl ?_)))))
 obtain ⟨g3, hg4⟩ : ∃ x : Bool, x = !(decide (((b.length : Int) - 4) < 2)) := ⟨_, rfl⟩
 refine s_lz 20 rfl ((gA_f rfl).trans hg4.symm) (Rlz g3 v_b w2) ?_ (fun hc5 => rlz_f hc5) ?_
 ·intro hc5
  refine op_move v_b rfl ?_
  exact rlz_t hc5
 rintro _ _ ⟨rfl, rfl⟩
 refine s_lz 20 rfl ((gA_f rfl).trans hg4.symm) (RlzP g3 w0 w2 [(.int .u8 ((gd b 0).toNat : Int))]) ?_ (fun hc6 => ⟨fun h => absurd (show _ = true from h) (by rw [hc6]; decide), rfl⟩) ?_
 ·intro hc6
  have c7 : ¬ (((b.length : Int) - 4) < 2) := of_decide_eq_false (not_t (hg4.symm.trans hc6))
  refine op_indexAddrD (E := u8E) (xs := b) 0 Tryd.underlying29 Tryd.sizeOf5 (gt hc6) h_b rfl (by omega) (by first | omega | (rw [List.length_take]; omega) | (simp; omega)) (fun a8 o9 p10 => ?_)
  exact ⟨fun _ => ⟨_, _, rfl, p10⟩, rfl⟩
 rintro v11 _ ⟨hp12, rfl⟩
 refine s_lz 20 rfl ((gA_f rfl).trans hg4.symm) (Rlz g3 (.int .u8 ((gd b 0).toNat : Int)) w2) ?_ (fun hc13 => rlz_f hc13) ?_
 ·intro hc13
  obtain ⟨a14, o15, e16, p17⟩ := hp12 hc13
  refine op_load1 (u := (.int .u8 ((gd b 0).toNat : Int))) Tryd.isAgg5 e16 (p17.below hst.below) ?_
  have hu18 := u8_lt (gd b 0)
  exact rlz_t hc13
 rintro _ _ ⟨rfl, rfl⟩
 refine s_lz 20 rfl ((gA_f rfl).trans hg4.symm) (Rlz g3 (.bool (!decide (((gd b 0).toNat : Int) = 84))) w2) ?_ (fun hc19 => rlz_f hc19) ?_
 ·intro hc19
  obtain ⟨a20, o21, e22, p23⟩ := hp12 hc19
  refine op_neq (k := .u8) (a := ((gd b 0).toNat : Int)) (b := 84) (gt hc19) rfl ?_
  exact rlz_t hc19
 rintro _ _ ⟨rfl, rfl⟩
 obtain ⟨g24, hg25⟩ : ∃ x : Bool, x = ((decide (((b.length : Int) - 4) < 2)) || (!decide (((gd b 0).toNat : Int) = 84))) := ⟨_, rfl⟩
 refine s_cons (op_pick_or rfl rfl rfl (fun hp => (hg4.trans (congrArg (! ·) hp))) (s_cons (op_move (.bool g24) (congrArg Value.bool hg25.symm) (s_lz 26 rfl (gA_f rfl) (Rlz (!g24) v_b w2) ?_ (fun hc26 => rlz_f hc26) ?_))))
 ·intro hc26
  obtain ⟨a27, o28, e29, p30⟩ := hp12 (hg4.trans (congrArg (! ·) (or_l (hg25.symm.trans (not_t hc26)))))
  refine op_move v_b rfl ?_
  exact rlz_t hc26
 rintro _ _ ⟨rfl, rfl⟩
 refine s_lz 26 rfl (gA_f rfl) (RlzP (!g24) w0 w2 [(.int .u8 ((gd b 1).toNat : Int))]) ?_ (fun hc31 => ⟨fun h => absurd (show _ = true from h) (by rw [hc31]; decide), rfl⟩) ?_
 ·intro hc31
  have c32 : ¬ (((b.length : Int) - 4) < 2) := of_decide_eq_false (or_l (hg25.symm.trans (not_t hc31)))
  have c33 : ((gd b 0).toNat : Int) = 84 := of_decide_eq_true (not_f (or_r (hg25.symm.trans (not_t hc31))))
  obtain ⟨a34, o35, e36, p37⟩ := hp12 (hg4.trans (congrArg (! ·) (or_l (hg25.symm.trans (not_t hc31)))))
  refine op_indexAddrD (E := u8E) (xs := b) 1 Tryd.underlying29 Tryd.sizeOf5 (gt (congrArg (! ·) (not_t hc31))) h_b rfl (by omega) (by first | omega | (rw [List.length_take]; omega) | (simp; omega)) (fun a38 o39 p40 => ?_)
  exact ⟨fun _ => ⟨_, _, rfl, p40⟩, rfl⟩
 rintro v41 _ ⟨hp42, rfl⟩
 refine s_lz 26 rfl (gA_f rfl) (Rlz (!g24) (.int .u8 ((gd b 1).toNat : Int)) w2) ?_ (fun hc43 => rlz_f hc43) ?_
 ·intro hc43
  obtain ⟨a44, o45, e46, p47⟩ := hp12 (hg4.trans (congrArg (! ·) (or_l (hg25.symm.trans (not_t hc43)))))
  obtain ⟨a48, o49, e50, p51⟩ := hp42 (congrArg (! ·) (not_t hc43))
  refine op_load1 (u := (.int .u8 ((gd b 1).toNat : Int))) Tryd.isAgg5 e50 (p51.below hst.below) ?_
  have hu52 := u8_lt (gd b 1)
  exact rlz_t hc43
 rintro _ _ ⟨rfl, rfl⟩
 refine s_lz 26 rfl (gA_f rfl) (Rlz (!g24) (.bool (!decide (((gd b 1).toNat : Int) = 75))) w2) ?_ (fun hc53 => rlz_f hc53) ?_
 ·intro hc53
  obtain ⟨a54, o55, e56, p57⟩ := hp12 (hg4.trans (congrArg (! ·) (or_l (hg25.symm.trans (not_t hc53)))))
  obtain ⟨a58, o59, e60, p61⟩ := hp42 (congrArg (! ·) (not_t hc53))
  refine op_neq (k := .u8) (a := ((gd b 1).toNat : Int)) (b := 75) (gt (congrArg (! ·) (not_t hc53))) rfl ?_
  exact rlz_t hc53
 rintro _ _ ⟨rfl, rfl⟩
 obtain ⟨g62, hg63⟩ : ∃ x : Bool, x = (g24 || (!decide (((gd b 1).toNat : Int) = 75))) := ⟨_, rfl⟩
 refine s_cons (op_pick_or rfl rfl rfl (fun hp => (congrArg (! ·) hp)) (s_nil (then_n ?_)))
 rcases Bool.eq_false_or_eq_true g62 with b64 | b64
 ·have c65 : ((((b.length : Int) - 4) < 2) ∨ (¬ (((gd b 0).toNat : Int) = 84))) ∨ (¬ (((gd b 1).toNat : Int) = 75)) := (pi_or (pi_name hg25 (pi_or pi_dec (pi_not pi_dec))) (pi_not pi_dec)).1 (hg63.symm.trans b64)
  refine cE_cond true ((congrArg Value.bool hg63.symm).trans (congrArg Value.bool b64)) (fun _ => ?_) (fun h => by cases h)
  refine cE_seq (cE_region rfl (s_cons (op_build (r := (.agg #[(iV 0), (iV 0), (iV 0), (iV 0), nS, nS])) evp_nil (by simp [Instr.build, Instr.fill, Value.cells, Tryd.runUnderlying26, Tryd.zeroValue26]) (s_cons0 (op_storeAll hst 0 rfl Tryd.sizeOf26 rfl rfl rfl rfl (by simp [Value.oneCell']) (fun w66 hst => ?_))))))
  replace hst : St w0 w66 [.blk g1 26 #[(iV 0), (iV 0), (iV 0), (iV 0), nS, nS]] := hst
  refine s_cons (op_assign (iV 2) rfl (s_nil (then_n (cE_ret (then_r (scope_r (postG_r _ (rvN (cs := [(iV 0), (iV 0), (iV 0), (iV 0), nS, nS]) Tryd.isAgg26 Tryd.sizeOf26 rfl (Pt.of (hst.cell 0 rfl) rfl) rfl (rvt (v := (iV 2)) rfl rvnil)) ?_)))))))
  have hno : ∀ d : SegD, d.ok → encG d ≠ (b, 0) := by first | exact GI_head (by assumption) | exact GI_bad hGI (by omega) rfl (Or.inl (by assumption)) | exact GI_bad hGI (by omega) rfl (Or.inr (by assumption)) | exact GI_rawF hGI hi4 (by assumption) rfl (Or.inl (by assumption)) | exact GI_rawF hGI hi4 (by assumption) rfl (Or.inr (by assumption)) | exact GI_upF hGI hi4 (by assumption) rfl (Or.inl (by assumption)) | exact GI_upF hGI hi4 (by assumption) rfl (Or.inr (by assumption))
  replace hst : St w0 w66 [rowT 28 sampE nS ([]), .blk g1 26 #[(iV 0), (iV 0), (iV 0), (iV 0), nS, nS]] := hst.nilRow 28 sampE
  replace hst : St w0 w66 [rowT 45 aggE nS ([]), rowT 28 sampE nS ([]), .blk g1 26 #[(iV 0), (iV 0), (iV 0), (iV 0), nS, nS]] := hst.nilRow 45 aggE
  replace hst : St w0 w66 [rowT 28 sampE nS ([]), rowT 45 aggE nS ([]), .blk g1 26 #[(iV 0), (iV 0), (iV 0), (iV 0), nS, nS]] := hst.front 1 rfl
  exact ⟨(⟨⟨0, 0, 0, 0, [], []⟩, nilV, nilV⟩ : Seg), 2, rfl, hst.sub (.cons_cons _ (.cons_cons _ (.cons _ .slnil))), (by first | exact Or.inr ⟨rfl, rfl, hno⟩ | exact Or.inl ⟨rfl, hsok, hyes⟩)⟩
 have c67 : ¬ (((b.length : Int) - 4) < 2) := of_decide_eq_false (or_l (hg25.symm.trans (or_l (hg63.symm.trans b64))))
 have c68 : ((gd b 0).toNat : Int) = 84 := of_decide_eq_true (not_f (or_r (hg25.symm.trans (or_l (hg63.symm.trans b64)))))
 have c69 : ((gd b 1).toNat : Int) = 75 := of_decide_eq_true (not_f (or_r (hg63.symm.trans b64)))
 refine cE_cond false ((congrArg Value.bool hg63.symm).trans (congrArg Value.bool b64)) (fun h => by cases h) (fun _ => ?_)
 refine cE_skip (then_n (cE_seq (cE_region rfl (s_cons (op_alloc (cs := #[(.int .u64 0), (.int .u64 0), (.int .u64 0), (.int .u64 0)]) hst Tryd.zeroValue67 rfl (fun g70 w71 hst _ => ?_))))))
 replace hst : St w0 w71 [.blk g70 67 #[(.int .u64 0), (.int .u64 0), (.int .u64 0), (.int .u64 0)], .blk g1 26 #[(iV 0), (iV 0), (iV 0), (iV 0), nS, nS]] := hst
 refine s_nil (then_n (cE_seq (cE_region rfl (s_cons (op_assign (iV 2) rfl (s_nil (then_n (cE_seq (cE_label (then_n (cE_seq (cE_seq (cE_region rfl (s_cons (op_move (iV 0) rfl (s_nil (then_n (cE_block (cE_loop (fun (m : Nat) (ρ : Env) (w : World) => ∃ (i : Nat) (at_ : Int) (x0 : Int) (x1 : Int) (x2 : Int) (x3 : Int), m = 4 - i ∧ ρ 0 = v_b ∧ ρ 2 = (.pointer (some ⟨g1, 0, none⟩)) ∧ ρ 4 = (iV ((b.length : Int) - 4)) ∧ ρ 5 = (.pointer (some ⟨g70, 0, none⟩)) ∧ ρ 33 = (iV (i : Int)) ∧ ρ 6 = (iV at_) ∧ St w0 w [.blk g70 67 #[(.int .u64 x0), (.int .u64 x1), (.int .u64 x2), (.int .u64 x3)], .blk g1 26 #[(iV 0), (iV 0), (iV 0), (iV 0), nS, nS]] ∧ (i ≤ 4) ∧ (GI b i at_ x0 x1 x2 x3)) id _ ⟨0, 2, 0, 0, 0, 0, rfl, rfl, rfl, rfl, rfl, (congrArg iV (show 0 = _ from by omega)), rfl, hst, (by omega), (by first | exact GI_start (by omega) | exact GI_step0 hGI (by omega) rfl (by assumption) | exact GI_step1 hGI (by omega) rfl (by assumption) | exact GI_step2 hGI (by omega) rfl (by assumption) | exact GI_step3 hGI (by omega) rfl (by assumption))⟩ ?_)))))))))))))))))))
 rintro m73 ρ74 w75 ⟨i, at_, x0, x1, x2, x3, hm73, q72_0, q72_2, q72_4, q72_5, q72_33, q72_6, hst, hi, hGI⟩
 have hGa := hGI.1
 have hGx := hGI.2.1
 have hblen := h_b.len
 refine cE_seq (cE_region rfl (s_cons (op_lss (k := .i64) (a := (i : Int)) (b := 4) q72_33 rfl (s_nil (then_n (cE_seq ?_))))))
 rcases Bool.eq_false_or_eq_true (decide ((i : Int) < 4)) with b76 | b76
 ·have c77 : (i : Int) < 4 := of_decide_eq_true b76
  refine cE_cond true (congrArg Value.bool b76) (fun _ => ?_) (fun h => by cases h)
  refine cE_skip (then_n (cE_seq (cE_block (cE_seq (cE_region rfl (s_cons (op_move (iV (i : Int)) q72_33 (s_cons (op_assign (iV (i : Int)) rfl (s_nil (then_n (cE_seq ?_))))))))))))
  have hgn := get_nn (b.take (b.length - 4)) at_
  refine cE_region rfl (s_cons (op_move v_b q72_0 (s_cons (op_move (iV ((b.length : Int) - 4)) q72_4 (s_cons (op_slice_toN (b.length - 4) (E := u8E) (xs := b) Tryd.underlying29 Tryd.sizeOf5 rfl h_b rfl (by omega) (by first | omega | (rw [List.length_take]; omega) | (simp; omega)) (fun v78 hs79 => ?_)))))))
  refine s_cons (op_move (iV at_) q72_6 (s_cons (op_call Tryd.call28 (evs_cons (v := v78) rfl (evs_cons (v := (iV at_)) rfl evs_nil)) (c_Get (w0 := w75) (v_b := v78) (b := (b.take (b.length - 4))) (h_b := (hs79.below hst.below)) (at_ := at_) (hl := (by rw [List.length_take]; omega))) ?_)))
  rintro _ w80 ⟨rfl, hcall⟩
  refine ⟨_, rfl, ?_⟩
  have hst : St w0 w80 [.blk g70 67 #[(.int .u64 x0), (.int .u64 x1), (.int .u64 x2), (.int .u64 x3)], .blk g1 26 #[(iV 0), (iV 0), (iV 0), (iV 0), nS, nS]] := hst.call hcall
  refine s_cons (op_move (.tuple #[(.int .u64 ((get (b.take (b.length - 4)) at_).1)), (iV ((get (b.take (b.length - 4)) at_).2.1)), (iV ((get (b.take (b.length - 4)) at_).2.2))]) rfl (s_cons (op_extract (.int .u64 ((get (b.take (b.length - 4)) at_).1)) rfl rfl (s_cons (op_extract (iV ((get (b.take (b.length - 4)) at_).2.1)) rfl rfl (s_cons (op_extract (iV ((get (b.take (b.length - 4)) at_).2.2)) rfl rfl ?_)))))))
  refine s_cons (op_assign (.int .u64 ((get (b.take (b.length - 4)) at_).1)) rfl (s_cons (op_assign (iV ((get (b.take (b.length - 4)) at_).2.1)) rfl (s_cons (op_assign (iV ((get (b.take (b.length - 4)) at_).2.2)) rfl (s_nil (then_n (cE_seq (cE_seq (cE_region rfl (s_cons (op_move (iV ((get (b.take (b.length - 4)) at_).2.2)) rfl (s_cons (op_neq (k := .i64) (a := (get (b.take (b.length - 4)) at_).2.2) (b := 0) rfl rfl ?_))))))))))))))
  refine s_cons (op_move (.bool (!decide (((get (b.take (b.length - 4)) at_).2.2) = 0))) rfl ?_)
  rcases Bool.eq_false_or_eq_true (decide (((get (b.take (b.length - 4)) at_).2.2) = 0)) with b81 | b81
  ·have c82 : ((get (b.take (b.length - 4)) at_).2.2) = 0 := of_decide_eq_true b81
   refine s_yes 47 rfl (congrArg Value.bool (congrArg (! ·) b81)) (op_move (.int .u64 ((get (b.take (b.length - 4)) at_).1)) rfl (s_yes 47 rfl (congrArg Value.bool (congrArg (! ·) b81)) (op_gtr (k := .u64) (a := (get (b.take (b.length - 4)) at_).1) (b := 1099511627776) rfl rfl (s_cons (op_pick_f (.bool (decide (1099511627776 < ((get (b.take (b.length - 4)) at_).1)))) (congrArg Value.bool (congrArg (! ·) b81)) rfl ?_)))))
   refine s_nil (then_n ?_)
   rcases Bool.eq_false_or_eq_true (decide (1099511627776 < ((get (b.take (b.length - 4)) at_).1))) with b83 | b83
   ·have c84 : 1099511627776 < ((get (b.take (b.length - 4)) at_).1) := of_decide_eq_true b83
    refine cE_cond true (congrArg Value.bool b83) (fun _ => ?_) (fun h => by cases h)
    refine cE_seq (cE_region rfl (s_cons (op_build (r := (.agg #[(iV 0), (iV 0), (iV 0), (iV 0), nS, nS])) evp_nil (by simp [Instr.build, Instr.fill, Value.cells, Tryd.runUnderlying26, Tryd.zeroValue26]) (s_cons0 (op_storeAll hst 1 rfl Tryd.sizeOf26 q72_2 rfl rfl rfl (by simp [Value.oneCell']) (fun w85 hst => ?_))))))
    replace hst : St w0 w85 [.blk g70 67 #[(.int .u64 x0), (.int .u64 x1), (.int .u64 x2), (.int .u64 x3)], .blk g1 26 #[(iV 0), (iV 0), (iV 0), (iV 0), nS, nS]] := hst
    refine s_cons (op_assign (iV 2) rfl (s_nil (then_n (cE_ret (then_r (block_r (then_r (then_r (block_r (then_r (scope_r (postG_r _ (rvN (cs := [(iV 0), (iV 0), (iV 0), (iV 0), nS, nS]) Tryd.isAgg26 Tryd.sizeOf26 q72_2 (Pt.of (hst.cell 1 rfl) rfl) rfl (rvt (v := (iV 2)) rfl rvnil)) ?_))))))))))))
    have hno : ∀ d : SegD, d.ok → encG d ≠ (b, 0) := by first | exact GI_head (by assumption) | exact GI_bad hGI (by omega) rfl (Or.inl (by assumption)) | exact GI_bad hGI (by omega) rfl (Or.inr (by assumption)) | exact GI_rawF hGI hi4 (by assumption) rfl (Or.inl (by assumption)) | exact GI_rawF hGI hi4 (by assumption) rfl (Or.inr (by assumption)) | exact GI_upF hGI hi4 (by assumption) rfl (Or.inl (by assumption)) | exact GI_upF hGI hi4 (by assumption) rfl (Or.inr (by assumption))
    replace hst : St w0 w85 [rowT 28 sampE nS ([]), .blk g70 67 #[(.int .u64 x0), (.int .u64 x1), (.int .u64 x2), (.int .u64 x3)], .blk g1 26 #[(iV 0), (iV 0), (iV 0), (iV 0), nS, nS]] := hst.nilRow 28 sampE
    replace hst : St w0 w85 [rowT 45 aggE nS ([]), rowT 28 sampE nS ([]), .blk g70 67 #[(.int .u64 x0), (.int .u64 x1), (.int .u64 x2), (.int .u64 x3)], .blk g1 26 #[(iV 0), (iV 0), (iV 0), (iV 0), nS, nS]] := hst.nilRow 45 aggE
    replace hst : St w0 w85 [rowT 28 sampE nS ([]), rowT 45 aggE nS ([]), .blk g70 67 #[(.int .u64 x0), (.int .u64 x1), (.int .u64 x2), (.int .u64 x3)], .blk g1 26 #[(iV 0), (iV 0), (iV 0), (iV 0), nS, nS]] := hst.front 1 rfl
    exact ⟨(⟨⟨0, 0, 0, 0, [], []⟩, nilV, nilV⟩ : Seg), 2, rfl, hst.sub (.cons_cons _ (.cons_cons _ (.cons _ (.cons _ .slnil)))), (by first | exact Or.inr ⟨rfl, rfl, hno⟩ | exact Or.inl ⟨rfl, hsok, hyes⟩)⟩
   have c86 : ¬ (1099511627776 < ((get (b.take (b.length - 4)) at_).1)) := of_decide_eq_false b83
   refine cE_cond false (congrArg Value.bool b83) (fun h => by cases h) (fun _ => ?_)
   refine cE_skip (then_n (cE_seq (cE_region rfl (s_cons (op_move (iV (i : Int)) rfl (s_cons (op_move (.int .u64 ((get (b.take (b.length - 4)) at_).1)) rfl (s_cons (op_move (iV ((get (b.take (b.length - 4)) at_).2.1)) rfl ?_)))))))))
   rcases Bool.eq_false_or_eq_true (decide ((i : Int) = 0)) with b87 | b87
   ·have c88 : (i : Int) = 0 := of_decide_eq_true b87
    refine s_cons (op_indexAddrA (N := 4) (b := g70) (off := 0) 0 Tryd.underlying67 Tryd.sizeOf54 q72_5 rfl (by omega) (by decide) (s_cons0 (op_store1 hst 0 rfl Tryd.sizeOf54 rfl rfl rfl (show 0 < 4 from by decide) (fun w89 hst => ?_))))
    replace hst : St w0 w89 [.blk g70 67 #[(.int .u64 ((get (b.take (b.length - 4)) at_).1)), (.int .u64 x1), (.int .u64 x2), (.int .u64 x3)], .blk g1 26 #[(iV 0), (iV 0), (iV 0), (iV 0), nS, nS]] := hst
    refine s_cons (op_assign (iV ((get (b.take (b.length - 4)) at_).2.1)) rfl (s_nil (then_n (cE_exit (block_hit (then_n (cE_region rfl (s_cons (op_add (k := .i64) (a := (i : Int)) (b := 1) ((i : Int) + 1) q72_33 rfl (xi64 (by omega) (by omega)) (s_cons (op_move (iV ((i : Int) + 1)) rfl (s_nil (then_n ?_)))))))))))))
    exact ⟨_, ⟨(i + 1), (get (b.take (b.length - 4)) at_).2.1, (get (b.take (b.length - 4)) at_).1, x1, x2, x3, rfl, q72_0, q72_2, q72_4, q72_5, (congrArg iV (show ((i : Int) + 1) = _ from by omega)), rfl, hst, (by omega), (by first | exact GI_start (by omega) | exact GI_step0 hGI (by omega) rfl (by assumption) | exact GI_step1 hGI (by omega) rfl (by assumption) | exact GI_step2 hGI (by omega) rfl (by assumption) | exact GI_step3 hGI (by omega) rfl (by assumption))⟩, (by simp only [id]; omega)⟩
   have c90 : ¬ ((i : Int) = 0) := of_decide_eq_false b87
   rcases Bool.eq_false_or_eq_true (decide ((i : Int) = 1)) with b91 | b91
   ·have c92 : (i : Int) = 1 := of_decide_eq_true b91
    refine s_cons (op_indexAddrA (N := 4) (b := g70) (off := 0) 1 Tryd.underlying67 Tryd.sizeOf54 q72_5 rfl (by omega) (by decide) (s_cons0 (op_store1 hst 0 rfl Tryd.sizeOf54 rfl rfl rfl (show 1 < 4 from by decide) (fun w93 hst => ?_))))
    replace hst : St w0 w93 [.blk g70 67 #[(.int .u64 x0), (.int .u64 ((get (b.take (b.length - 4)) at_).1)), (.int .u64 x2), (.int .u64 x3)], .blk g1 26 #[(iV 0), (iV 0), (iV 0), (iV 0), nS, nS]] := hst
    refine s_cons (op_assign (iV ((get (b.take (b.length - 4)) at_).2.1)) rfl (s_nil (then_n (cE_exit (block_hit (then_n (cE_region rfl (s_cons (op_add (k := .i64) (a := (i : Int)) (b := 1) ((i : Int) + 1) q72_33 rfl (xi64 (by omega) (by omega)) (s_cons (op_move (iV ((i : Int) + 1)) rfl (s_nil (then_n ?_)))))))))))))
    exact ⟨_, ⟨(i + 1), (get (b.take (b.length - 4)) at_).2.1, x0, (get (b.take (b.length - 4)) at_).1, x2, x3, rfl, q72_0, q72_2, q72_4, q72_5, (congrArg iV (show ((i : Int) + 1) = _ from by omega)), rfl, hst, (by omega), (by first | exact GI_start (by omega) | exact GI_step0 hGI (by omega) rfl (by assumption) | exact GI_step1 hGI (by omega) rfl (by assumption) | exact GI_step2 hGI (by omega) rfl (by assumption) | exact GI_step3 hGI (by omega) rfl (by assumption))⟩, (by simp only [id]; omega)⟩
   have c94 : ¬ ((i : Int) = 1) := of_decide_eq_false b91
   rcases Bool.eq_false_or_eq_true (decide ((i : Int) = 2)) with b95 | b95
   ·have c96 : (i : Int) = 2 := of_decide_eq_true b95
    refine s_cons (op_indexAddrA (N := 4) (b := g70) (off := 0) 2 Tryd.underlying67 Tryd.sizeOf54 q72_5 rfl (by omega) (by decide) (s_cons0 (op_store1 hst 0 rfl Tryd.sizeOf54 rfl rfl rfl (show 2 < 4 from by decide) (fun w97 hst => ?_))))
    replace hst : St w0 w97 [.blk g70 67 #[(.int .u64 x0), (.int .u64 x1), (.int .u64 ((get (b.take (b.length - 4)) at_).1)), (.int .u64 x3)], .blk g1 26 #[(iV 0), (iV 0), (iV 0), (iV 0), nS, nS]] := hst
    refine s_cons (op_assign (iV ((get (b.take (b.length - 4)) at_).2.1)) rfl (s_nil (then_n (cE_exit (block_hit (then_n (cE_region rfl (s_cons (op_add (k := .i64) (a := (i : Int)) (b := 1) ((i : Int) + 1) q72_33 rfl (xi64 (by omega) (by omega)) (s_cons (op_move (iV ((i : Int) + 1)) rfl (s_nil (then_n ?_)))))))))))))
    exact ⟨_, ⟨(i + 1), (get (b.take (b.length - 4)) at_).2.1, x0, x1, (get (b.take (b.length - 4)) at_).1, x3, rfl, q72_0, q72_2, q72_4, q72_5, (congrArg iV (show ((i : Int) + 1) = _ from by omega)), rfl, hst, (by omega), (by first | exact GI_start (by omega) | exact GI_step0 hGI (by omega) rfl (by assumption) | exact GI_step1 hGI (by omega) rfl (by assumption) | exact GI_step2 hGI (by omega) rfl (by assumption) | exact GI_step3 hGI (by omega) rfl (by assumption))⟩, (by simp only [id]; omega)⟩
   have c98 : ¬ ((i : Int) = 2) := of_decide_eq_false b95
   refine s_cons (op_indexAddrA (N := 4) (b := g70) (off := 0) 3 Tryd.underlying67 Tryd.sizeOf54 q72_5 rfl (by omega) (by decide) (s_cons0 (op_store1 hst 0 rfl Tryd.sizeOf54 rfl rfl rfl (show 3 < 4 from by decide) (fun w99 hst => ?_))))
   replace hst : St w0 w99 [.blk g70 67 #[(.int .u64 x0), (.int .u64 x1), (.int .u64 x2), (.int .u64 ((get (b.take (b.length - 4)) at_).1))], .blk g1 26 #[(iV 0), (iV 0), (iV 0), (iV 0), nS, nS]] := hst
   refine s_cons (op_assign (iV ((get (b.take (b.length - 4)) at_).2.1)) rfl (s_nil (then_n (cE_exit (block_hit (then_n (cE_region rfl (s_cons (op_add (k := .i64) (a := (i : Int)) (b := 1) ((i : Int) + 1) q72_33 rfl (xi64 (by omega) (by omega)) (s_cons (op_move (iV ((i : Int) + 1)) rfl (s_nil (then_n ?_)))))))))))))
   exact ⟨_, ⟨(i + 1), (get (b.take (b.length - 4)) at_).2.1, x0, x1, x2, (get (b.take (b.length - 4)) at_).1, rfl, q72_0, q72_2, q72_4, q72_5, (congrArg iV (show ((i : Int) + 1) = _ from by omega)), rfl, hst, (by omega), (by first | exact GI_start (by omega) | exact GI_step0 hGI (by omega) rfl (by assumption) | exact GI_step1 hGI (by omega) rfl (by assumption) | exact GI_step2 hGI (by omega) rfl (by assumption) | exact GI_step3 hGI (by omega) rfl (by assumption))⟩, (by simp only [id]; omega)⟩
  have c100 : ¬ (((get (b.take (b.length - 4)) at_).2.2) = 0) := of_decide_eq_false b81
  refine s_no 47 rfl (congrArg Value.bool (congrArg (! ·) b81)) (s_no 47 rfl (congrArg Value.bool (congrArg (! ·) b81)) (s_cons (op_pick_t (.bool true) (congrArg Value.bool (congrArg (! ·) b81)) rfl (s_nil (then_n (cE_cond true rfl (fun _ => ?_) (fun h => by cases h)))))))
  refine cE_seq (cE_region rfl (s_cons (op_build (r := (.agg #[(iV 0), (iV 0), (iV 0), (iV 0), nS, nS])) evp_nil (by simp [Instr.build, Instr.fill, Value.cells, Tryd.runUnderlying26, Tryd.zeroValue26]) (s_cons0 (op_storeAll hst 1 rfl Tryd.sizeOf26 q72_2 rfl rfl rfl (by simp [Value.oneCell']) (fun w101 hst => ?_))))))
  replace hst : St w0 w101 [.blk g70 67 #[(.int .u64 x0), (.int .u64 x1), (.int .u64 x2), (.int .u64 x3)], .blk g1 26 #[(iV 0), (iV 0), (iV 0), (iV 0), nS, nS]] := hst
  refine s_cons (op_assign (iV 2) rfl (s_nil (then_n (cE_ret (then_r (block_r (then_r (then_r (block_r (then_r (scope_r (postG_r _ (rvN (cs := [(iV 0), (iV 0), (iV 0), (iV 0), nS, nS]) Tryd.isAgg26 Tryd.sizeOf26 q72_2 (Pt.of (hst.cell 1 rfl) rfl) rfl (rvt (v := (iV 2)) rfl rvnil)) ?_))))))))))))
  have hno : ∀ d : SegD, d.ok → encG d ≠ (b, 0) := by first | exact GI_head (by assumption) | exact GI_bad hGI (by omega) rfl (Or.inl (by assumption)) | exact GI_bad hGI (by omega) rfl (Or.inr (by assumption)) | exact GI_rawF hGI hi4 (by assumption) rfl (Or.inl (by assumption)) | exact GI_rawF hGI hi4 (by assumption) rfl (Or.inr (by assumption)) | exact GI_upF hGI hi4 (by assumption) rfl (Or.inl (by assumption)) | exact GI_upF hGI hi4 (by assumption) rfl (Or.inr (by assumption))
  replace hst : St w0 w101 [rowT 28 sampE nS ([]), .blk g70 67 #[(.int .u64 x0), (.int .u64 x1), (.int .u64 x2), (.int .u64 x3)], .blk g1 26 #[(iV 0), (iV 0), (iV 0), (iV 0), nS, nS]] := hst.nilRow 28 sampE
  replace hst : St w0 w101 [rowT 45 aggE nS ([]), rowT 28 sampE nS ([]), .blk g70 67 #[(.int .u64 x0), (.int .u64 x1), (.int .u64 x2), (.int .u64 x3)], .blk g1 26 #[(iV 0), (iV 0), (iV 0), (iV 0), nS, nS]] := hst.nilRow 45 aggE
  replace hst : St w0 w101 [rowT 28 sampE nS ([]), rowT 45 aggE nS ([]), .blk g70 67 #[(.int .u64 x0), (.int .u64 x1), (.int .u64 x2), (.int .u64 x3)], .blk g1 26 #[(iV 0), (iV 0), (iV 0), (iV 0), nS, nS]] := hst.front 1 rfl
  exact ⟨(⟨⟨0, 0, 0, 0, [], []⟩, nilV, nilV⟩ : Seg), 2, rfl, hst.sub (.cons_cons _ (.cons_cons _ (.cons _ (.cons _ .slnil)))), (by first | exact Or.inr ⟨rfl, rfl, hno⟩ | exact Or.inl ⟨rfl, hsok, hyes⟩)⟩
 have c102 : ¬ ((i : Int) < 4) := of_decide_eq_false b76
 refine cE_cond false (congrArg Value.bool b76) (fun h => by cases h) (fun _ => ?_)
 refine cE_exit (then_x (then_x (block_hit (then_n (cE_seq ?_)))))
 have hi4 : i = 4 := by omega
 refine cE_region rfl (s_cons (op_indexAddrA (N := 4) (b := g70) (off := 0) 0 Tryd.underlying67 Tryd.sizeOf54 q72_5 rfl (by omega) (by decide) (s_cons (op_load1 (u := (.int .u64 x0)) Tryd.isAgg54 rfl (hst.cell 0 rfl) (s_cons (op_conv (k := .u64) (a := x0) x0 Tryd.underlying3 (by rw [Tryd.underlying54]; rfl) rfl (xi64 (by omega) (by omega)) (s_cons (op_indexAddrA (N := 4) (b := g70) (off := 0) 1 Tryd.underlying67 Tryd.sizeOf54 q72_5 rfl (by omega) (by decide) ?_))))))))
 refine s_cons (op_load1 (u := (.int .u64 x1)) Tryd.isAgg54 rfl ((hst.cell 0 rfl).drop 1) (s_cons (op_conv (k := .u64) (a := x1) x1 Tryd.underlying3 (by rw [Tryd.underlying54]; rfl) rfl (xi64 (by omega) (by omega)) (s_cons (op_indexAddrA (N := 4) (b := g70) (off := 0) 2 Tryd.underlying67 Tryd.sizeOf54 q72_5 rfl (by omega) (by decide) (s_cons (op_load1 (u := (.int .u64 x2)) Tryd.isAgg54 rfl ((hst.cell 0 rfl).drop 2) ?_)))))))
 refine s_cons (op_conv (k := .u64) (a := x2) x2 Tryd.underlying2 (by rw [Tryd.underlying54]; rfl) rfl (xi64 (by omega) (by omega)) (s_cons (op_indexAddrA (N := 4) (b := g70) (off := 0) 2 Tryd.underlying67 Tryd.sizeOf54 q72_5 rfl (by omega) (by decide) (s_cons (op_load1 (u := (.int .u64 x2)) Tryd.isAgg54 rfl ((hst.cell 0 rfl).drop 2) (s_cons (op_indexAddrA (N := 4) (b := g70) (off := 0) 3 Tryd.underlying67 Tryd.sizeOf54 q72_5 rfl (by omega) (by decide) ?_)))))))
 refine s_cons (op_load1 (u := (.int .u64 x3)) Tryd.isAgg54 rfl ((hst.cell 0 rfl).drop 3) (s_cons (op_add (k := .u64) (a := x2) (b := x3) (x2 + x3) rfl rfl (xu64 (by omega) (by omega)) (s_cons (op_conv (k := .u64) (a := (x2 + x3)) (x2 + x3) Tryd.underlying2 (by rw [Tryd.underlying54]; rfl) rfl (xi64 (by omega) (by omega)) (s_cons (op_build (r := (.agg #[(iV x0), (iV x1), (iV x2), (iV (x2 + x3)), nS, nS])) (evp_cons (v := (iV x0)) rfl (evp_cons (v := (iV x1)) rfl (evp_cons (v := (iV x2)) rfl (evp_cons (v := (iV (x2 + x3))) rfl evp_nil)))) (by simp [Instr.build, Instr.fill, Value.cells, Tryd.runUnderlying26, Tryd.zeroValue26]) ?_)))))))
 refine s_cons (op_alloc (cs := #[(iV 0), (iV 0), (iV 0), (iV 0), nS, nS]) hst Tryd.zeroValue26 rfl (fun g103 w104 hst _ => ?_))
 replace hst : St w0 w104 [.blk g103 26 #[(iV 0), (iV 0), (iV 0), (iV 0), nS, nS], .blk g70 67 #[(.int .u64 x0), (.int .u64 x1), (.int .u64 x2), (.int .u64 x3)], .blk g1 26 #[(iV 0), (iV 0), (iV 0), (iV 0), nS, nS]] := hst
 refine s_cons0 (op_storeAll hst 0 rfl Tryd.sizeOf26 rfl rfl rfl rfl (by simp [Value.oneCell']) (fun w105 hst => ?_))
 replace hst : St w0 w105 [.blk g103 26 #[(iV x0), (iV x1), (iV x2), (iV (x2 + x3)), nS, nS], .blk g70 67 #[(.int .u64 x0), (.int .u64 x1), (.int .u64 x2), (.int .u64 x3)], .blk g1 26 #[(iV 0), (iV 0), (iV 0), (iV 0), nS, nS]] := hst
 refine s_nil (then_n (cE_seq (cE_region rfl (s_cons (op_assign (iV 0) rfl (s_nil (then_n (cE_seq (cE_seq (cE_region rfl (s_cons (op_fieldAddr (s := 0) Tryd.underlying26 rfl rfl Tryd.sizeOf3 rfl (s_cons (op_load1 (u := (iV x1)) Tryd.isAgg3 rfl ((hst.cell 0 rfl).drop 1) (s_cons (op_eql (k := .i64) (a := x1) (b := 0) rfl rfl (s_nil (then_n ?_))))))))))))))))))
 rcases Bool.eq_false_or_eq_true (decide (x1 = 0)) with b106 | b106
 ·have c107 : x1 = 0 := of_decide_eq_true b106
  refine cE_cond true (congrArg Value.bool b106) (fun _ => ?_) (fun h => by cases h)
  refine cE_region rfl (s_cons (op_move v_b q72_0 (s_cons (op_move (iV at_) q72_6 (s_cons (op_move (iV ((b.length : Int) - 4)) q72_4 (s_cons (op_slice_bothN (Int.toNat at_) (b.length - 4) (E := u8E) (xs := b) Tryd.underlying29 Tryd.sizeOf5 rfl h_b rfl rfl (by omega) (by omega) (by omega) (by first | omega | (rw [List.length_take]; omega) | (simp; omega)) (fun v108 hs109 => ?_)))))))))
  refine s_cons (op_call Tryd.call29 (evs_cons (v := v108) rfl evs_nil) (c_kGet (w0 := w105) (v_b := v108) (b := ((b.take (b.length - 4)).drop (Int.toNat at_))) (h_b := (hs109.below hst.below)) (hl := (by rw [List.length_drop, List.length_take]; omega))) ?_)
  rintro _ w111 ⟨r110, rfl, hcall⟩
  refine ⟨_, rfl, ?_⟩
  have hst : St w0 w111 [rowT 28 sampE r110 ((decSf ((b.take (b.length - 4)).drop (Int.toNat at_))).1), .blk g103 26 #[(iV x0), (iV x1), (iV x2), (iV (x2 + x3)), nS, nS], .blk g70 67 #[(.int .u64 x0), (.int .u64 x1), (.int .u64 x2), (.int .u64 x3)], .blk g1 26 #[(iV 0), (iV 0), (iV 0), (iV 0), nS, nS]] := hst.call hcall
  refine s_cons (op_move (.tuple #[r110, (iV ((decSf ((b.take (b.length - 4)).drop (Int.toNat at_))).2))]) rfl (s_cons (op_extract r110 rfl rfl (s_cons (op_extract (iV ((decSf ((b.take (b.length - 4)).drop (Int.toNat at_))).2)) rfl rfl (s_cons (op_fieldAddr (s := 0) Tryd.underlying26 rfl rfl Tryd.sizeOf23 rfl (s_cons0 (op_store1 hst 1 rfl Tryd.sizeOf23 rfl rfl (sl_one (show Sl _ sampE r110 ((decSf ((b.take (b.length - 4)).drop (Int.toNat at_))).1) from (hst.sl 0 rfl))) (show 4 < 6 from by decide) (fun w112 hst => ?_))))))))))
  replace hst : St w0 w112 [rowT 28 sampE r110 ((decSf ((b.take (b.length - 4)).drop (Int.toNat at_))).1), .blk g103 26 #[(iV x0), (iV x1), (iV x2), (iV (x2 + x3)), r110, nS], .blk g70 67 #[(.int .u64 x0), (.int .u64 x1), (.int .u64 x2), (.int .u64 x3)], .blk g1 26 #[(iV 0), (iV 0), (iV 0), (iV 0), nS, nS]] := hst
  refine s_cons (op_assign (iV ((decSf ((b.take (b.length - 4)).drop (Int.toNat at_))).2)) rfl (s_nil (then_n (cE_seq ?_))))
  have ho113 : r110.oneCell' = true := (sl_one (show Sl _ sampE r110 ((decSf ((b.take (b.length - 4)).drop (Int.toNat at_))).1) from (hst.sl 0 rfl)))
  have hsok : ((⟨⟨x0, x1, x2, (x2 + x3), (decSf ((b.take (b.length - 4)).drop (Int.toNat at_))).1, []⟩, ⟨r110, ho113⟩, nilV⟩ : Seg).d).ok := by first | exact getG_okS hGI _ | exact getG_okA hGI _
  refine cE_region rfl (s_cons (op_loadN (cs := [(iV x0), (iV x1), (iV x2), (iV (x2 + x3)), r110, nS]) Tryd.isAgg26 Tryd.sizeOf26 rfl (Pt.of (hst.cell 1 rfl) rfl) rfl (s_cons (op_call Tryd.call8 (evs_cons (v := (.agg #[(iV x0), (iV x1), (iV x2), (iV (x2 + x3)), r110, nS])) rfl evs_nil) (c_sPut (w0 := w112) (s := (⟨⟨x0, x1, x2, (x2 + x3), (decSf ((b.take (b.length - 4)).drop (Int.toNat at_))).1, []⟩, ⟨r110, ho113⟩, nilV⟩ : Seg)) (h_s := ⟨(hst.sl 0 rfl), (Sl.nil aggE _)⟩) (hs := hsok)) ?_))))
  rintro _ w115 ⟨r114, rfl, hcall⟩
  refine ⟨_, rfl, ?_⟩
  have hst : St w0 w115 [rowT 5 u8E r114 ((encG (⟨⟨x0, x1, x2, (x2 + x3), (decSf ((b.take (b.length - 4)).drop (Int.toNat at_))).1, []⟩, ⟨r110, ho113⟩, nilV⟩ : Seg).d).1), rowT 28 sampE r110 ((decSf ((b.take (b.length - 4)).drop (Int.toNat at_))).1), .blk g103 26 #[(iV x0), (iV x1), (iV x2), (iV (x2 + x3)), r110, nS], .blk g70 67 #[(.int .u64 x0), (.int .u64 x1), (.int .u64 x2), (.int .u64 x3)], .blk g1 26 #[(iV 0), (iV 0), (iV 0), (iV 0), nS, nS]] := hst.call hcall
  refine s_cons (op_move (.tuple #[r114, (iV ((encG (⟨⟨x0, x1, x2, (x2 + x3), (decSf ((b.take (b.length - 4)).drop (Int.toNat at_))).1, []⟩, ⟨r110, ho113⟩, nilV⟩ : Seg).d).2))]) rfl (s_cons (op_extract r114 rfl rfl (s_cons (op_extract (iV ((encG (⟨⟨x0, x1, x2, (x2 + x3), (decSf ((b.take (b.length - 4)).drop (Int.toNat at_))).1, []⟩, ⟨r110, ho113⟩, nilV⟩ : Seg).d).2)) rfl rfl ?_)))))
  refine s_cons (op_assign r114 rfl (s_cons (op_assign (iV ((encG (⟨⟨x0, x1, x2, (x2 + x3), (decSf ((b.take (b.length - 4)).drop (Int.toNat at_))).1, []⟩, ⟨r110, ho113⟩, nilV⟩ : Seg).d).2)) rfl (s_nil (then_n (cE_seq (cE_seq (cE_region rfl (s_cons (op_move (iV ((decSf ((b.take (b.length - 4)).drop (Int.toNat at_))).2)) rfl (s_cons (op_neq (k := .i64) (a := (decSf ((b.take (b.length - 4)).drop (Int.toNat at_))).2) (b := 0) rfl rfl ?_))))))))))))
  refine s_cons (op_move (.bool (!decide (((decSf ((b.take (b.length - 4)).drop (Int.toNat at_))).2) = 0))) rfl ?_)
  obtain ⟨g116, hg117⟩ : ∃ x : Bool, x = !(!decide (((decSf ((b.take (b.length - 4)).drop (Int.toNat at_))).2) = 0)) := ⟨_, rfl⟩
  refine s_lz 103 rfl ((gA_f rfl).trans hg117.symm) (Rlz g116 (iV ((encG (⟨⟨x0, x1, x2, (x2 + x3), (decSf ((b.take (b.length - 4)).drop (Int.toNat at_))).1, []⟩, ⟨r110, ho113⟩, nilV⟩ : Seg).d).2)) w115) ?_ (fun hc118 => rlz_f hc118) ?_
  ·intro hc118
   refine op_move (iV ((encG (⟨⟨x0, x1, x2, (x2 + x3), (decSf ((b.take (b.length - 4)).drop (Int.toNat at_))).1, []⟩, ⟨r110, ho113⟩, nilV⟩ : Seg).d).2)) rfl ?_
   exact rlz_t hc118
  rintro _ _ ⟨rfl, rfl⟩
  refine s_lz 103 rfl ((gA_f rfl).trans hg117.symm) (Rlz g116 (.bool (!decide (((encG (⟨⟨x0, x1, x2, (x2 + x3), (decSf ((b.take (b.length - 4)).drop (Int.toNat at_))).1, []⟩, ⟨r110, ho113⟩, nilV⟩ : Seg).d).2) = 0))) w115) ?_ (fun hc119 => rlz_f hc119) ?_
  ·intro hc119
   refine op_neq (k := .i64) (a := (encG (⟨⟨x0, x1, x2, (x2 + x3), (decSf ((b.take (b.length - 4)).drop (Int.toNat at_))).1, []⟩, ⟨r110, ho113⟩, nilV⟩ : Seg).d).2) (b := 0) (gt hc119) rfl ?_
   exact rlz_t hc119
  rintro _ _ ⟨rfl, rfl⟩
  obtain ⟨g120, hg121⟩ : ∃ x : Bool, x = ((!decide (((decSf ((b.take (b.length - 4)).drop (Int.toNat at_))).2) = 0)) || (!decide (((encG (⟨⟨x0, x1, x2, (x2 + x3), (decSf ((b.take (b.length - 4)).drop (Int.toNat at_))).1, []⟩, ⟨r110, ho113⟩, nilV⟩ : Seg).d).2) = 0))) := ⟨_, rfl⟩
  refine s_cons (op_pick_or rfl rfl rfl (fun hp => (hg117.trans (congrArg (! ·) (congrArg (! ·) (not_f hp))))) (s_cons (op_move (.bool g120) (congrArg Value.bool hg121.symm) ?_)))
  rcases Bool.eq_false_or_eq_true g120 with b122 | b122
  ·have c123 : (¬ (((decSf ((b.take (b.length - 4)).drop (Int.toNat at_))).2) = 0)) ∨ (¬ (((encG (⟨⟨x0, x1, x2, (x2 + x3), (decSf ((b.take (b.length - 4)).drop (Int.toNat at_))).1, []⟩, ⟨r110, ho113⟩, nilV⟩ : Seg).d).2) = 0)) := (pi_or (pi_not pi_dec) (pi_not pi_dec)).1 (hg121.symm.trans b122)
   refine s_no 107 rfl (congrArg Value.bool b122) (s_no 107 rfl (congrArg Value.bool b122) (s_no 107 rfl (congrArg Value.bool b122) (s_no 107 rfl (congrArg Value.bool b122) (s_cons (op_pick_t (.bool true) (congrArg Value.bool b122) rfl (s_nil (then_n (cE_cond true rfl (fun _ => ?_) (fun h => by cases h)))))))))
   refine cE_seq (cE_region rfl (s_cons (op_build (r := (.agg #[(iV 0), (iV 0), (iV 0), (iV 0), nS, nS])) evp_nil (by simp [Instr.build, Instr.fill, Value.cells, Tryd.runUnderlying26, Tryd.zeroValue26]) (s_cons0 (op_storeAll hst 4 rfl Tryd.sizeOf26 q72_2 rfl rfl rfl (by simp [Value.oneCell']) (fun w124 hst => ?_))))))
   replace hst : St w0 w124 [rowT 5 u8E r114 ((encG (⟨⟨x0, x1, x2, (x2 + x3), (decSf ((b.take (b.length - 4)).drop (Int.toNat at_))).1, []⟩, ⟨r110, ho113⟩, nilV⟩ : Seg).d).1), rowT 28 sampE r110 ((decSf ((b.take (b.length - 4)).drop (Int.toNat at_))).1), .blk g103 26 #[(iV x0), (iV x1), (iV x2), (iV (x2 + x3)), r110, nS], .blk g70 67 #[(.int .u64 x0), (.int .u64 x1), (.int .u64 x2), (.int .u64 x3)], .blk g1 26 #[(iV 0), (iV 0), (iV 0), (iV 0), nS, nS]] := hst
   refine s_cons (op_assign (iV 2) rfl (s_nil (then_n (cE_ret (then_r (scope_r (postG_r _ (rvN (cs := [(iV 0), (iV 0), (iV 0), (iV 0), nS, nS]) Tryd.isAgg26 Tryd.sizeOf26 q72_2 (Pt.of (hst.cell 4 rfl) rfl) rfl (rvt (v := (iV 2)) rfl rvnil)) ?_)))))))
   have hno : ∀ d : SegD, d.ok → encG d ≠ (b, 0) := by first | exact GI_head (by assumption) | exact GI_bad hGI (by omega) rfl (Or.inl (by assumption)) | exact GI_bad hGI (by omega) rfl (Or.inr (by assumption)) | exact GI_rawF hGI hi4 (by assumption) rfl (Or.inl (by assumption)) | exact GI_rawF hGI hi4 (by assumption) rfl (Or.inr (by assumption)) | exact GI_upF hGI hi4 (by assumption) rfl (Or.inl (by assumption)) | exact GI_upF hGI hi4 (by assumption) rfl (Or.inr (by assumption))
   replace hst : St w0 w124 [rowT 28 sampE nS ([]), rowT 5 u8E r114 ((encG (⟨⟨x0, x1, x2, (x2 + x3), (decSf ((b.take (b.length - 4)).drop (Int.toNat at_))).1, []⟩, ⟨r110, ho113⟩, nilV⟩ : Seg).d).1), rowT 28 sampE r110 ((decSf ((b.take (b.length - 4)).drop (Int.toNat at_))).1), .blk g103 26 #[(iV x0), (iV x1), (iV x2), (iV (x2 + x3)), r110, nS], .blk g70 67 #[(.int .u64 x0), (.int .u64 x1), (.int .u64 x2), (.int .u64 x3)], .blk g1 26 #[(iV 0), (iV 0), (iV 0), (iV 0), nS, nS]] := hst.nilRow 28 sampE
   replace hst : St w0 w124 [rowT 45 aggE nS ([]), rowT 28 sampE nS ([]), rowT 5 u8E r114 ((encG (⟨⟨x0, x1, x2, (x2 + x3), (decSf ((b.take (b.length - 4)).drop (Int.toNat at_))).1, []⟩, ⟨r110, ho113⟩, nilV⟩ : Seg).d).1), rowT 28 sampE r110 ((decSf ((b.take (b.length - 4)).drop (Int.toNat at_))).1), .blk g103 26 #[(iV x0), (iV x1), (iV x2), (iV (x2 + x3)), r110, nS], .blk g70 67 #[(.int .u64 x0), (.int .u64 x1), (.int .u64 x2), (.int .u64 x3)], .blk g1 26 #[(iV 0), (iV 0), (iV 0), (iV 0), nS, nS]] := hst.nilRow 45 aggE
   replace hst : St w0 w124 [rowT 28 sampE nS ([]), rowT 45 aggE nS ([]), rowT 5 u8E r114 ((encG (⟨⟨x0, x1, x2, (x2 + x3), (decSf ((b.take (b.length - 4)).drop (Int.toNat at_))).1, []⟩, ⟨r110, ho113⟩, nilV⟩ : Seg).d).1), rowT 28 sampE r110 ((decSf ((b.take (b.length - 4)).drop (Int.toNat at_))).1), .blk g103 26 #[(iV x0), (iV x1), (iV x2), (iV (x2 + x3)), r110, nS], .blk g70 67 #[(.int .u64 x0), (.int .u64 x1), (.int .u64 x2), (.int .u64 x3)], .blk g1 26 #[(iV 0), (iV 0), (iV 0), (iV 0), nS, nS]] := hst.front 1 rfl
   exact ⟨(⟨⟨0, 0, 0, 0, [], []⟩, nilV, nilV⟩ : Seg), 2, rfl, hst.sub (.cons_cons _ (.cons_cons _ (.cons _ (.cons _ (.cons _ (.cons _ (.cons _ .slnil))))))), (by first | exact Or.inr ⟨rfl, rfl, hno⟩ | exact Or.inl ⟨rfl, hsok, hyes⟩)⟩
  have c125 : ((decSf ((b.take (b.length - 4)).drop (Int.toNat at_))).2) = 0 := of_decide_eq_true (not_f (or_l (hg121.symm.trans b122)))
  have c126 : ((encG (⟨⟨x0, x1, x2, (x2 + x3), (decSf ((b.take (b.length - 4)).drop (Int.toNat at_))).1, []⟩, ⟨r110, ho113⟩, nilV⟩ : Seg).d).2) = 0 := of_decide_eq_true (not_f (or_r (hg121.symm.trans b122)))
  refine s_yes 107 rfl (congrArg Value.bool b122) (op_move r114 rfl (s_yes 107 rfl (congrArg Value.bool b122) (op_move v_b q72_0 (s_yes 107 rfl (congrArg Value.bool b122) (op_call Tryd.call31 (evs_cons (v := r114) rfl (evs_cons (v := v_b) rfl evs_nil)) (c_bEqual (w0 := w115) (v_a := r114) (a := (encG (⟨⟨x0, x1, x2, (x2 + x3), (decSf ((b.take (b.length - 4)).drop (Int.toNat at_))).1, []⟩, ⟨r110, ho113⟩, nilV⟩ : Seg).d).1) (h_a := (hst.sl 0 rfl)) (v_b := v_b) (b := b) (h_b := (h_b.below hst.below))) ?_)))))
  rintro _ w127 ⟨rfl, hcall⟩
  refine ⟨_, rfl, ?_⟩
  have hst : St w0 w127 [rowT 5 u8E r114 ((encG (⟨⟨x0, x1, x2, (x2 + x3), (decSf ((b.take (b.length - 4)).drop (Int.toNat at_))).1, []⟩, ⟨r110, ho113⟩, nilV⟩ : Seg).d).1), rowT 28 sampE r110 ((decSf ((b.take (b.length - 4)).drop (Int.toNat at_))).1), .blk g103 26 #[(iV x0), (iV x1), (iV x2), (iV (x2 + x3)), r110, nS], .blk g70 67 #[(.int .u64 x0), (.int .u64 x1), (.int .u64 x2), (.int .u64 x3)], .blk g1 26 #[(iV 0), (iV 0), (iV 0), (iV 0), nS, nS]] := hst.call hcall
  refine s_yes 107 rfl (congrArg Value.bool b122) (op_not (b := decide ((encG (⟨⟨x0, x1, x2, (x2 + x3), (decSf ((b.take (b.length - 4)).drop (Int.toNat at_))).1, []⟩, ⟨r110, ho113⟩, nilV⟩ : Seg).d).1 = b)) rfl (s_cons (op_pick_f (.bool (!(decide ((encG (⟨⟨x0, x1, x2, (x2 + x3), (decSf ((b.take (b.length - 4)).drop (Int.toNat at_))).1, []⟩, ⟨r110, ho113⟩, nilV⟩ : Seg).d).1 = b)))) (congrArg Value.bool b122) rfl ?_)))
  refine s_nil (then_n ?_)
  rcases Bool.eq_false_or_eq_true (decide ((encG (⟨⟨x0, x1, x2, (x2 + x3), (decSf ((b.take (b.length - 4)).drop (Int.toNat at_))).1, []⟩, ⟨r110, ho113⟩, nilV⟩ : Seg).d).1 = b)) with b128 | b128
  ·have c129 : (encG (⟨⟨x0, x1, x2, (x2 + x3), (decSf ((b.take (b.length - 4)).drop (Int.toNat at_))).1, []⟩, ⟨r110, ho113⟩, nilV⟩ : Seg).d).1 = b := of_decide_eq_true b128
   refine cE_cond false (congrArg Value.bool (congrArg (! ·) b128)) (fun h => by cases h) (fun _ => ?_)
   refine cE_skip (then_n (cE_seq (cE_region rfl (s_cons (op_loadN (cs := [(iV x0), (iV x1), (iV x2), (iV (x2 + x3)), r110, nS]) Tryd.isAgg26 Tryd.sizeOf26 rfl (Pt.of (hst.cell 2 rfl) rfl) rfl (s_cons0 (op_storeAll hst 4 rfl Tryd.sizeOf26 q72_2 rfl rfl rfl (oneL_all (l := [(iV x0), (iV x1), (iV x2), (iV (x2 + x3)), r110, nS]) ⟨rfl, rfl, rfl, rfl, (sl_one (show Sl _ sampE r110 ((decSf ((b.take (b.length - 4)).drop (Int.toNat at_))).1) from (hst.sl 1 rfl))), rfl, trivial⟩) (fun w130 hst => ?_))))))))
   replace hst : St w0 w130 [rowT 5 u8E r114 ((encG (⟨⟨x0, x1, x2, (x2 + x3), (decSf ((b.take (b.length - 4)).drop (Int.toNat at_))).1, []⟩, ⟨r110, ho113⟩, nilV⟩ : Seg).d).1), rowT 28 sampE r110 ((decSf ((b.take (b.length - 4)).drop (Int.toNat at_))).1), .blk g103 26 #[(iV x0), (iV x1), (iV x2), (iV (x2 + x3)), r110, nS], .blk g70 67 #[(.int .u64 x0), (.int .u64 x1), (.int .u64 x2), (.int .u64 x3)], .blk g1 26 #[(iV x0), (iV x1), (iV x2), (iV (x2 + x3)), r110, nS]] := hst
   refine s_cons (op_assign (iV 0) rfl (s_nil (then_n (cE_ret (scope_r (postG_r _ (rvN (cs := [(iV x0), (iV x1), (iV x2), (iV (x2 + x3)), r110, nS]) Tryd.isAgg26 Tryd.sizeOf26 q72_2 (Pt.of (hst.cell 4 rfl) rfl) rfl (rvt (v := (iV 0)) rfl rvnil)) ?_))))))
   have hyes : encG ((⟨⟨x0, x1, x2, (x2 + x3), (decSf ((b.take (b.length - 4)).drop (Int.toNat at_))).1, []⟩, ⟨r110, ho113⟩, nilV⟩ : Seg).d) = (b, 0) := by first | exact Prod.ext (by assumption) (by assumption) | exact getG_yes (by assumption)
   replace hst : St w0 w130 [rowT 45 aggE nS ([]), rowT 5 u8E r114 ((encG (⟨⟨x0, x1, x2, (x2 + x3), (decSf ((b.take (b.length - 4)).drop (Int.toNat at_))).1, []⟩, ⟨r110, ho113⟩, nilV⟩ : Seg).d).1), rowT 28 sampE r110 ((decSf ((b.take (b.length - 4)).drop (Int.toNat at_))).1), .blk g103 26 #[(iV x0), (iV x1), (iV x2), (iV (x2 + x3)), r110, nS], .blk g70 67 #[(.int .u64 x0), (.int .u64 x1), (.int .u64 x2), (.int .u64 x3)], .blk g1 26 #[(iV x0), (iV x1), (iV x2), (iV (x2 + x3)), r110, nS]] := hst.nilRow 45 aggE
   replace hst : St w0 w130 [rowT 28 sampE r110 ((decSf ((b.take (b.length - 4)).drop (Int.toNat at_))).1), rowT 45 aggE nS ([]), rowT 5 u8E r114 ((encG (⟨⟨x0, x1, x2, (x2 + x3), (decSf ((b.take (b.length - 4)).drop (Int.toNat at_))).1, []⟩, ⟨r110, ho113⟩, nilV⟩ : Seg).d).1), .blk g103 26 #[(iV x0), (iV x1), (iV x2), (iV (x2 + x3)), r110, nS], .blk g70 67 #[(.int .u64 x0), (.int .u64 x1), (.int .u64 x2), (.int .u64 x3)], .blk g1 26 #[(iV x0), (iV x1), (iV x2), (iV (x2 + x3)), r110, nS]] := hst.front 2 rfl
   exact ⟨(⟨⟨x0, x1, x2, (x2 + x3), (decSf ((b.take (b.length - 4)).drop (Int.toNat at_))).1, []⟩, ⟨r110, ho113⟩, nilV⟩ : Seg), 0, rfl, hst.sub (.cons_cons _ (.cons_cons _ (.cons _ (.cons _ (.cons _ (.cons _ .slnil)))))), (by first | exact Or.inr ⟨rfl, rfl, hno⟩ | exact Or.inl ⟨rfl, hsok, hyes⟩)⟩
  have c131 : ¬ ((encG (⟨⟨x0, x1, x2, (x2 + x3), (decSf ((b.take (b.length - 4)).drop (Int.toNat at_))).1, []⟩, ⟨r110, ho113⟩, nilV⟩ : Seg).d).1 = b) := of_decide_eq_false b128
  refine cE_cond true (congrArg Value.bool (congrArg (! ·) b128)) (fun _ => ?_) (fun h => by cases h)
  refine cE_seq (cE_region rfl (s_cons (op_build (r := (.agg #[(iV 0), (iV 0), (iV 0), (iV 0), nS, nS])) evp_nil (by simp [Instr.build, Instr.fill, Value.cells, Tryd.runUnderlying26, Tryd.zeroValue26]) (s_cons0 (op_storeAll hst 4 rfl Tryd.sizeOf26 q72_2 rfl rfl rfl (by simp [Value.oneCell']) (fun w132 hst => ?_))))))
  replace hst : St w0 w132 [rowT 5 u8E r114 ((encG (⟨⟨x0, x1, x2, (x2 + x3), (decSf ((b.take (b.length - 4)).drop (Int.toNat at_))).1, []⟩, ⟨r110, ho113⟩, nilV⟩ : Seg).d).1), rowT 28 sampE r110 ((decSf ((b.take (b.length - 4)).drop (Int.toNat at_))).1), .blk g103 26 #[(iV x0), (iV x1), (iV x2), (iV (x2 + x3)), r110, nS], .blk g70 67 #[(.int .u64 x0), (.int .u64 x1), (.int .u64 x2), (.int .u64 x3)], .blk g1 26 #[(iV 0), (iV 0), (iV 0), (iV 0), nS, nS]] := hst
  refine s_cons (op_assign (iV 2) rfl (s_nil (then_n (cE_ret (then_r (scope_r (postG_r _ (rvN (cs := [(iV 0), (iV 0), (iV 0), (iV 0), nS, nS]) Tryd.isAgg26 Tryd.sizeOf26 q72_2 (Pt.of (hst.cell 4 rfl) rfl) rfl (rvt (v := (iV 2)) rfl rvnil)) ?_)))))))
  have hno : ∀ d : SegD, d.ok → encG d ≠ (b, 0) := by first | exact GI_head (by assumption) | exact GI_bad hGI (by omega) rfl (Or.inl (by assumption)) | exact GI_bad hGI (by omega) rfl (Or.inr (by assumption)) | exact GI_rawF hGI hi4 (by assumption) rfl (Or.inl (by assumption)) | exact GI_rawF hGI hi4 (by assumption) rfl (Or.inr (by assumption)) | exact GI_upF hGI hi4 (by assumption) rfl (Or.inl (by assumption)) | exact GI_upF hGI hi4 (by assumption) rfl (Or.inr (by assumption))
  replace hst : St w0 w132 [rowT 28 sampE nS ([]), rowT 5 u8E r114 ((encG (⟨⟨x0, x1, x2, (x2 + x3), (decSf ((b.take (b.length - 4)).drop (Int.toNat at_))).1, []⟩, ⟨r110, ho113⟩, nilV⟩ : Seg).d).1), rowT 28 sampE r110 ((decSf ((b.take (b.length - 4)).drop (Int.toNat at_))).1), .blk g103 26 #[(iV x0), (iV x1), (iV x2), (iV (x2 + x3)), r110, nS], .blk g70 67 #[(.int .u64 x0), (.int .u64 x1), (.int .u64 x2), (.int .u64 x3)], .blk g1 26 #[(iV 0), (iV 0), (iV 0), (iV 0), nS, nS]] := hst.nilRow 28 sampE
  replace hst : St w0 w132 [rowT 45 aggE nS ([]), rowT 28 sampE nS ([]), rowT 5 u8E r114 ((encG (⟨⟨x0, x1, x2, (x2 + x3), (decSf ((b.take (b.length - 4)).drop (Int.toNat at_))).1, []⟩, ⟨r110, ho113⟩, nilV⟩ : Seg).d).1), rowT 28 sampE r110 ((decSf ((b.take (b.length - 4)).drop (Int.toNat at_))).1), .blk g103 26 #[(iV x0), (iV x1), (iV x2), (iV (x2 + x3)), r110, nS], .blk g70 67 #[(.int .u64 x0), (.int .u64 x1), (.int .u64 x2), (.int .u64 x3)], .blk g1 26 #[(iV 0), (iV 0), (iV 0), (iV 0), nS, nS]] := hst.nilRow 45 aggE
  replace hst : St w0 w132 [rowT 28 sampE nS ([]), rowT 45 aggE nS ([]), rowT 5 u8E r114 ((encG (⟨⟨x0, x1, x2, (x2 + x3), (decSf ((b.take (b.length - 4)).drop (Int.toNat at_))).1, []⟩, ⟨r110, ho113⟩, nilV⟩ : Seg).d).1), rowT 28 sampE r110 ((decSf ((b.take (b.length - 4)).drop (Int.toNat at_))).1), .blk g103 26 #[(iV x0), (iV x1), (iV x2), (iV (x2 + x3)), r110, nS], .blk g70 67 #[(.int .u64 x0), (.int .u64 x1), (.int .u64 x2), (.int .u64 x3)], .blk g1 26 #[(iV 0), (iV 0), (iV 0), (iV 0), nS, nS]] := hst.front 1 rfl
  exact ⟨(⟨⟨0, 0, 0, 0, [], []⟩, nilV, nilV⟩ : Seg), 2, rfl, hst.sub (.cons_cons _ (.cons_cons _ (.cons _ (.cons _ (.cons _ (.cons _ (.cons _ .slnil))))))), (by first | exact Or.inr ⟨rfl, rfl, hno⟩ | exact Or.inl ⟨rfl, hsok, hyes⟩)⟩
 have c133 : ¬ (x1 = 0) := of_decide_eq_false b106
 refine cE_cond false (congrArg Value.bool b106) (fun h => by cases h) (fun _ => ?_)
 refine cE_regionM (fun (D : Nat → Bool) (w : World) => St w0 w [.blk g70 67 #[(.int .u64 x0), (.int .u64 x1), (.int .u64 x2), (.int .u64 x3)], .blk g1 26 #[(iV 0), (iV 0), (iV 0), (iV 0), nS, nS]] ∧ (D 6 = false → St w0 w [.blk g103 26 #[(iV x0), (iV x1), (iV x2), (iV (x2 + x3)), nS, nS], .blk g70 67 #[(.int .u64 x0), (.int .u64 x1), (.int .u64 x2), (.int .u64 x3)], .blk g1 26 #[(iV 0), (iV 0), (iV 0), (iV 0), nS, nS]])) [[(0, none)], [(6, none)], [(4, none)], [(86, some 0), (87, some 1), (88, some 2)], [(11, none)], [(90, some 4)], [(89, some 3), (91, some 5)], [(92, some 6)], [(85, some 7)], [(85, some 7)], [(11, none)], [(95, some 10), (93, some 8)], [(94, some 9)]] [6, 11] [(kEq v_b), (kEq (iV at_)), (kEq (iV ((b.length : Int) - 4))), (kSl0 w0 u8E ((b.take (b.length - 4)).drop (Int.toNat at_))), (kEq (.pointer (some ⟨g103, (0 + 1), none⟩))), (kEq (iV x1)), (fun (D : Nat → Bool) (v : Value) (w : World) => ∃ r136 : Value, v = (.tuple #[r136, (iV ((decAf x1 ((b.take (b.length - 4)).drop (Int.toNat at_))).2))]) ∧ (D 6 = true → D 11 = false → St w0 w [rowT 45 aggE r136 ((decAf x1 ((b.take (b.length - 4)).drop (Int.toNat at_))).1), .blk g103 26 #[(iV x0), (iV x1), (iV x2), (iV (x2 + x3)), nS, nS], .blk g70 67 #[(.int .u64 x0), (.int .u64 x1), (.int .u64 x2), (.int .u64 x3)], .blk g1 26 #[(iV 0), (iV 0), (iV 0), (iV 0), nS, nS]])), (fun (D : Nat → Bool) (v : Value) (w : World) => ∃ r136 : Value, v = (.tuple #[r136, (iV ((decAf x1 ((b.take (b.length - 4)).drop (Int.toNat at_))).2))]) ∧ (D 6 = true → D 11 = false → St w0 w [rowT 45 aggE r136 ((decAf x1 ((b.take (b.length - 4)).drop (Int.toNat at_))).1), .blk g103 26 #[(iV x0), (iV x1), (iV x2), (iV (x2 + x3)), nS, nS], .blk g70 67 #[(.int .u64 x0), (.int .u64 x1), (.int .u64 x2), (.int .u64 x3)], .blk g1 26 #[(iV 0), (iV 0), (iV 0), (iV 0), nS, nS]])), (fun (D : Nat → Bool) (r136 : Value) (w : World) => (D 6 = true → D 11 = false → St w0 w [rowT 45 aggE r136 ((decAf x1 ((b.take (b.length - 4)).drop (Int.toNat at_))).1), .blk g103 26 #[(iV x0), (iV x1), (iV x2), (iV (x2 + x3)), nS, nS], .blk g70 67 #[(.int .u64 x0), (.int .u64 x1), (.int .u64 x2), (.int .u64 x3)], .blk g1 26 #[(iV 0), (iV 0), (iV 0), (iV 0), nS, nS]]) ∧ (D 11 = true → St w0 w [rowT 45 aggE r136 ((decAf x1 ((b.take (b.length - 4)).drop (Int.toNat at_))).1), .blk g103 26 #[(iV x0), (iV x1), (iV x2), (iV (x2 + x3)), nS, r136], .blk g70 67 #[(.int .u64 x0), (.int .u64 x1), (.int .u64 x2), (.int .u64 x3)], .blk g1 26 #[(iV 0), (iV 0), (iV 0), (iV 0), nS, nS]])), (kEq (iV ((decAf x1 ((b.take (b.length - 4)).drop (Int.toNat at_))).2))), (kEq (.pointer (some ⟨g103, (0 + 5), none⟩))), kAny, (kEq (iV ((decAf x1 ((b.take (b.length - 4)).drop (Int.toNat at_))).2)))] ⟨mEq, mEq, mEq, mSl0, mEq, mEq, (fun D D' v w w' hD hb ⟨g, h1, h2⟩ => ⟨g, h1, (fun x0 x1 => (h2 ((hD 6 (by decide)).symm.trans x0) ((hD 11 (by decide)).symm.trans x1)).ext hb)⟩), (fun D D' v w w' hD hb ⟨g, h1, h2⟩ => ⟨g, h1, (fun x0 x1 => (h2 ((hD 6 (by decide)).symm.trans x0) ((hD 11 (by decide)).symm.trans x1)).ext hb)⟩), (fun D D' v w w' hD hb h2 => ⟨(fun x0 x1 => (h2.1 ((hD 6 (by decide)).symm.trans x0) ((hD 11 (by decide)).symm.trans x1)).ext hb), (fun x0 => (h2.2 ((hD 11 (by decide)).symm.trans x0)).ext hb)⟩), mEq, mEq, mAny, mEq, trivial⟩ (by kernel_rfl) rfl (by kernel_rfl) ⟨hst.drewW.sub (.cons _ (.cons_cons _ (.cons_cons _ .slnil))), (fun _ => hst.drewW)⟩ (fun hM => ⟨?_, ?_, ?_, ?_, ?_, ?_, ?_, ?_, ?_, ?_, ?_, ?_, ?_, trivial⟩) ?_
 ·rintro D ρo wo nD eD cD jD aD ⟨f0, _⟩
  exact go_plain (op_move v_b (f0.trans q72_0) (kN0 (i := 0) hM (by decide) (by exact jD) (by exact rfl)))
 ·rintro D ρo wo nD eD cD jD aD ⟨f6, _⟩
  exact go_plain (op_move (iV at_) (f6.trans q72_6) (kN0 (i := 1) hM (by decide) (by exact jD) (by exact rfl)))
 ·rintro D ρo wo nD eD cD jD aD ⟨f4, _⟩
  exact go_plain (op_move (iV ((b.length : Int) - 4)) (f4.trans q72_4) (kN0 (i := 2) hM (by decide) (by exact jD) (by exact rfl)))
 ·rintro D ρo wo nD eD cD jD aD ⟨f86, f87, f88, _⟩
  refine go_plain (op_slice_bothN (Int.toNat at_) (b.length - 4) (E := u8E) (xs := b) Tryd.underlying29 Tryd.sizeOf5 f86 h_b f87 f88 (by omega) (by omega) (by omega) (by first | omega | (rw [List.length_take]; omega) | (simp; omega)) (fun v140 hs141 => ?_))
  exact (kN0 (i := 3) hM (by decide) (by exact jD) (by exact hs141))
 ·rintro D ρo wo nD eD cD jD aD ⟨f11, _⟩
  exact go_plain (op_fieldAddr (s := 0) Tryd.underlying26 rfl rfl Tryd.sizeOf3 (f11.trans rfl) (kN0 (i := 4) hM (by decide) (by exact jD) (by exact rfl)))
 ·rintro D ρo wo nD eD cD jD aD ⟨f90, _⟩
  have hst := jD.2 (not_yet nD (fun hm => (cD 6 5 hm (by kernel_rfl))))
  replace hst : St w0 wo [.blk g103 26 #[(iV x0), (iV x1), (iV x2), (iV (x2 + x3)), nS, nS], .blk g70 67 #[(.int .u64 x0), (.int .u64 x1), (.int .u64 x2), (.int .u64 x3)], .blk g1 26 #[(iV 0), (iV 0), (iV 0), (iV 0), nS, nS]] := hst
  exact go_plain (op_load1 (u := (iV x1)) Tryd.isAgg3 f90 ((hst.cell 0 rfl).drop 1) (kN0 (i := 5) hM (by decide) (by exact jD) (by exact rfl)))
 ·rintro D ρo wo nD eD cD jD aD ⟨f89, f91, _⟩
  have hst := jD.2 nD
  replace hst : St w0 wo [.blk g103 26 #[(iV x0), (iV x1), (iV x2), (iV (x2 + x3)), nS, nS], .blk g70 67 #[(.int .u64 x0), (.int .u64 x1), (.int .u64 x2), (.int .u64 x3)], .blk g1 26 #[(iV 0), (iV 0), (iV 0), (iV 0), nS, nS]] := hst
  obtain ⟨v143, e144⟩ : ∃ x, ρo 89 = x := ⟨_, rfl⟩
  have hs142 := f89
  replace hs142 : Sl w0 u8E v143 ((b.take (b.length - 4)).drop (Int.toNat at_)) := e144 ▸ hs142
  refine go_plain (op_call Tryd.call30 (evs_cons (v := v143) e144 (evs_cons (v := (iV x1)) f91 evs_nil)) (c_kGetAggs (w0 := wo) (v_b := v143) (b := ((b.take (b.length - 4)).drop (Int.toNat at_))) (h_b := (hs142.below hst.below)) (k := x1) (hl := (by rw [List.length_drop, List.length_take]; omega)) (k0 := (by omega)) (k1 := (by omega))) ?_)
  rintro _ w146 ⟨r145, rfl, hcall⟩
  refine ⟨_, rfl, ?_⟩
  have hst : St w0 w146 [rowT 45 aggE r145 ((decAf x1 ((b.take (b.length - 4)).drop (Int.toNat at_))).1), .blk g103 26 #[(iV x0), (iV x1), (iV x2), (iV (x2 + x3)), nS, nS], .blk g70 67 #[(.int .u64 x0), (.int .u64 x1), (.int .u64 x2), (.int .u64 x3)], .blk g1 26 #[(iV 0), (iV 0), (iV 0), (iV 0), nS, nS]] := hst.call hcall
  have hI147 : stabIXs 6 [] D 0 [(kEq v_b), (kEq (iV at_)), (kEq (iV ((b.length : Int) - 4))), (kSl0 w0 u8E ((b.take (b.length - 4)).drop (Int.toNat at_))), (kEq (.pointer (some ⟨g103, (0 + 1), none⟩))), (kEq (iV x1)), (fun (D : Nat → Bool) (v : Value) (w : World) => ∃ r136 : Value, v = (.tuple #[r136, (iV ((decAf x1 ((b.take (b.length - 4)).drop (Int.toNat at_))).2))]) ∧ (D 6 = true → D 11 = false → St w0 w [rowT 45 aggE r136 ((decAf x1 ((b.take (b.length - 4)).drop (Int.toNat at_))).1), .blk g103 26 #[(iV x0), (iV x1), (iV x2), (iV (x2 + x3)), nS, nS], .blk g70 67 #[(.int .u64 x0), (.int .u64 x1), (.int .u64 x2), (.int .u64 x3)], .blk g1 26 #[(iV 0), (iV 0), (iV 0), (iV 0), nS, nS]])), (fun (D : Nat → Bool) (v : Value) (w : World) => ∃ r136 : Value, v = (.tuple #[r136, (iV ((decAf x1 ((b.take (b.length - 4)).drop (Int.toNat at_))).2))]) ∧ (D 6 = true → D 11 = false → St w0 w [rowT 45 aggE r136 ((decAf x1 ((b.take (b.length - 4)).drop (Int.toNat at_))).1), .blk g103 26 #[(iV x0), (iV x1), (iV x2), (iV (x2 + x3)), nS, nS], .blk g70 67 #[(.int .u64 x0), (.int .u64 x1), (.int .u64 x2), (.int .u64 x3)], .blk g1 26 #[(iV 0), (iV 0), (iV 0), (iV 0), nS, nS]])), (fun (D : Nat → Bool) (r136 : Value) (w : World) => (D 6 = true → D 11 = false → St w0 w [rowT 45 aggE r136 ((decAf x1 ((b.take (b.length - 4)).drop (Int.toNat at_))).1), .blk g103 26 #[(iV x0), (iV x1), (iV x2), (iV (x2 + x3)), nS, nS], .blk g70 67 #[(.int .u64 x0), (.int .u64 x1), (.int .u64 x2), (.int .u64 x3)], .blk g1 26 #[(iV 0), (iV 0), (iV 0), (iV 0), nS, nS]]) ∧ (D 11 = true → St w0 w [rowT 45 aggE r136 ((decAf x1 ((b.take (b.length - 4)).drop (Int.toNat at_))).1), .blk g103 26 #[(iV x0), (iV x1), (iV x2), (iV (x2 + x3)), nS, r136], .blk g70 67 #[(.int .u64 x0), (.int .u64 x1), (.int .u64 x2), (.int .u64 x3)], .blk g1 26 #[(iV 0), (iV 0), (iV 0), (iV 0), nS, nS]])), (kEq (iV ((decAf x1 ((b.take (b.length - 4)).drop (Int.toNat at_))).2))), (kEq (.pointer (some ⟨g103, (0 + 5), none⟩))), kAny, (kEq (iV ((decAf x1 ((b.take (b.length - 4)).drop (Int.toNat at_))).2)))] := ⟨Or.inr (Or.inr (Or.inr iEq)), Or.inr (Or.inr (Or.inr iEq)), Or.inr (Or.inr (Or.inr iEq)), Or.inr (Or.inr (Or.inr iSl0)), Or.inr (Or.inr (Or.inr iEq)), Or.inr (Or.inr (Or.inr iEq)), Or.inl rfl, Or.inr (Or.inr (Or.inl (not_yet nD (fun hm => (cD 7 6 hm (by kernel_rfl)))))), Or.inr (Or.inr (Or.inl (not_yet nD (fun hm => (cD 7 6 (cD 8 7 hm (by kernel_rfl)) (by kernel_rfl)))))), Or.inr (Or.inr (Or.inl (not_yet nD (fun hm => (cD 7 6 (cD 9 7 hm (by kernel_rfl)) (by kernel_rfl)))))), Or.inr (Or.inr (Or.inl (not_yet nD (fun hm => (cD 10 6 hm (by kernel_rfl)))))), Or.inr (Or.inr (Or.inl (not_yet nD (fun hm => (cD 11 6 hm (by kernel_rfl)))))), Or.inr (Or.inr (Or.inl (not_yet nD (fun hm => (cD 12 6 hm (by kernel_rfl)))))), trivial⟩
  refine ⟨by exact ⟨hst.sub (.cons _ (.cons _ (.cons_cons _ (.cons_cons _ .slnil)))), (fun y0 => absurd y0 (fun h => Bool.noConfusion h))⟩, by exact ⟨_, rfl, (fun y0 y1 => hst.sub (.cons_cons _ (.cons_cons _ (.cons_cons _ (.cons_cons _ .slnil)))))⟩, kX [] hI147 ?_⟩
  intro j d hj; cases hj
 ·rintro D ρo wo nD eD cD jD aD ⟨f92, _⟩
  obtain ⟨v148, e149, hh150⟩ := aD 6 92 (eD 6 (by kernel_rfl)) rfl
  have hst : St w0 wo [rowT 45 aggE v148 ((decAf x1 ((b.take (b.length - 4)).drop (Int.toNat at_))).1), .blk g103 26 #[(iV x0), (iV x1), (iV x2), (iV (x2 + x3)), nS, nS], .blk g70 67 #[(.int .u64 x0), (.int .u64 x1), (.int .u64 x2), (.int .u64 x3)], .blk g1 26 #[(iV 0), (iV 0), (iV 0), (iV 0), nS, nS]] := hh150 (eD 6 (by kernel_rfl)) (not_yet nD (fun hm => (cD 11 7 hm (by kernel_rfl))))
  exact go_plain (op_move _ rfl (kN0 (i := 7) hM (by decide) (by exact jD) (by exact f92)))
 ·rintro D ρo wo nD eD cD jD aD ⟨f85, _⟩
  obtain ⟨v151, e152, hh153⟩ := aD 7 85 (eD 7 (by kernel_rfl)) rfl
  have hst : St w0 wo [rowT 45 aggE v151 ((decAf x1 ((b.take (b.length - 4)).drop (Int.toNat at_))).1), .blk g103 26 #[(iV x0), (iV x1), (iV x2), (iV (x2 + x3)), nS, nS], .blk g70 67 #[(.int .u64 x0), (.int .u64 x1), (.int .u64 x2), (.int .u64 x3)], .blk g1 26 #[(iV 0), (iV 0), (iV 0), (iV 0), nS, nS]] := hh153 (cD 7 6 (eD 7 (by kernel_rfl)) (by kernel_rfl)) (not_yet nD (fun hm => (cD 11 8 hm (by kernel_rfl))))
  exact go_plain (op_extract v151 e152 rfl (kN0 (i := 8) hM (by decide) (by exact jD) (by exact ⟨hh153, (fun y0 => absurd (show D 11 = true from y0) (by rw [(not_yet nD (fun hm => (cD 11 8 hm (by kernel_rfl))))]; decide))⟩)))
 ·rintro D ρo wo nD eD cD jD aD ⟨f85, _⟩
  obtain ⟨v154, e155, hh156⟩ := f85
  exact go_plain (op_extract (iV ((decAf x1 ((b.take (b.length - 4)).drop (Int.toNat at_))).2)) e155 rfl (kN0 (i := 9) hM (by decide) (by exact jD) (by exact rfl)))
 ·rintro D ρo wo nD eD cD jD aD ⟨f11, _⟩
  obtain ⟨v157, e158⟩ : ∃ x, ρo 93 = x := ⟨_, rfl⟩
  have hh159 := aD 8 93 (eD 8 (by kernel_rfl)) rfl
  have hst : St w0 wo [rowT 45 aggE v157 ((decAf x1 ((b.take (b.length - 4)).drop (Int.toNat at_))).1), .blk g103 26 #[(iV x0), (iV x1), (iV x2), (iV (x2 + x3)), nS, nS], .blk g70 67 #[(.int .u64 x0), (.int .u64 x1), (.int .u64 x2), (.int .u64 x3)], .blk g1 26 #[(iV 0), (iV 0), (iV 0), (iV 0), nS, nS]] := by have h := hh159.1 (eD 6 (by kernel_rfl)) (not_yet nD (fun hm => (cD 11 10 hm (by kernel_rfl)))); rw [e158] at h; exact h
  exact go_plain (op_fieldAddr (s := 0) Tryd.underlying26 rfl rfl Tryd.sizeOf24 (f11.trans rfl) (kN0 (i := 10) hM (by decide) (by exact jD) (by exact rfl)))
 ·rintro D ρo wo nD eD cD jD aD ⟨f95, f93, _⟩
  obtain ⟨v160, e161⟩ : ∃ x, ρo 93 = x := ⟨_, rfl⟩
  have hh162 := aD 8 93 (eD 8 (by kernel_rfl)) rfl
  have hst : St w0 wo [rowT 45 aggE v160 ((decAf x1 ((b.take (b.length - 4)).drop (Int.toNat at_))).1), .blk g103 26 #[(iV x0), (iV x1), (iV x2), (iV (x2 + x3)), nS, nS], .blk g70 67 #[(.int .u64 x0), (.int .u64 x1), (.int .u64 x2), (.int .u64 x3)], .blk g1 26 #[(iV 0), (iV 0), (iV 0), (iV 0), nS, nS]] := by have h := hh162.1 (eD 6 (by kernel_rfl)) nD; rw [e161] at h; exact h
  refine go_plain (op_store1 hst 1 rfl Tryd.sizeOf24 f95 e161 (sl_one (show Sl _ aggE v160 ((decAf x1 ((b.take (b.length - 4)).drop (Int.toNat at_))).1) from (hst.sl 0 rfl))) (show 5 < 6 from by decide) (fun w163 hst => ?_))
  replace hst : St w0 w163 [rowT 45 aggE v160 ((decAf x1 ((b.take (b.length - 4)).drop (Int.toNat at_))).1), .blk g103 26 #[(iV x0), (iV x1), (iV x2), (iV (x2 + x3)), nS, v160], .blk g70 67 #[(.int .u64 x0), (.int .u64 x1), (.int .u64 x2), (.int .u64 x3)], .blk g1 26 #[(iV 0), (iV 0), (iV 0), (iV 0), nS, nS]] := hst
  have hI164 : stabIXs 11 [6, 7, 8] D 0 [(kEq v_b), (kEq (iV at_)), (kEq (iV ((b.length : Int) - 4))), (kSl0 w0 u8E ((b.take (b.length - 4)).drop (Int.toNat at_))), (kEq (.pointer (some ⟨g103, (0 + 1), none⟩))), (kEq (iV x1)), (fun (D : Nat → Bool) (v : Value) (w : World) => ∃ r136 : Value, v = (.tuple #[r136, (iV ((decAf x1 ((b.take (b.length - 4)).drop (Int.toNat at_))).2))]) ∧ (D 6 = true → D 11 = false → St w0 w [rowT 45 aggE r136 ((decAf x1 ((b.take (b.length - 4)).drop (Int.toNat at_))).1), .blk g103 26 #[(iV x0), (iV x1), (iV x2), (iV (x2 + x3)), nS, nS], .blk g70 67 #[(.int .u64 x0), (.int .u64 x1), (.int .u64 x2), (.int .u64 x3)], .blk g1 26 #[(iV 0), (iV 0), (iV 0), (iV 0), nS, nS]])), (fun (D : Nat → Bool) (v : Value) (w : World) => ∃ r136 : Value, v = (.tuple #[r136, (iV ((decAf x1 ((b.take (b.length - 4)).drop (Int.toNat at_))).2))]) ∧ (D 6 = true → D 11 = false → St w0 w [rowT 45 aggE r136 ((decAf x1 ((b.take (b.length - 4)).drop (Int.toNat at_))).1), .blk g103 26 #[(iV x0), (iV x1), (iV x2), (iV (x2 + x3)), nS, nS], .blk g70 67 #[(.int .u64 x0), (.int .u64 x1), (.int .u64 x2), (.int .u64 x3)], .blk g1 26 #[(iV 0), (iV 0), (iV 0), (iV 0), nS, nS]])), (fun (D : Nat → Bool) (r136 : Value) (w : World) => (D 6 = true → D 11 = false → St w0 w [rowT 45 aggE r136 ((decAf x1 ((b.take (b.length - 4)).drop (Int.toNat at_))).1), .blk g103 26 #[(iV x0), (iV x1), (iV x2), (iV (x2 + x3)), nS, nS], .blk g70 67 #[(.int .u64 x0), (.int .u64 x1), (.int .u64 x2), (.int .u64 x3)], .blk g1 26 #[(iV 0), (iV 0), (iV 0), (iV 0), nS, nS]]) ∧ (D 11 = true → St w0 w [rowT 45 aggE r136 ((decAf x1 ((b.take (b.length - 4)).drop (Int.toNat at_))).1), .blk g103 26 #[(iV x0), (iV x1), (iV x2), (iV (x2 + x3)), nS, r136], .blk g70 67 #[(.int .u64 x0), (.int .u64 x1), (.int .u64 x2), (.int .u64 x3)], .blk g1 26 #[(iV 0), (iV 0), (iV 0), (iV 0), nS, nS]])), (kEq (iV ((decAf x1 ((b.take (b.length - 4)).drop (Int.toNat at_))).2))), (kEq (.pointer (some ⟨g103, (0 + 5), none⟩))), kAny, (kEq (iV ((decAf x1 ((b.take (b.length - 4)).drop (Int.toNat at_))).2)))] := ⟨Or.inr (Or.inr (Or.inr iEq)), Or.inr (Or.inr (Or.inr iEq)), Or.inr (Or.inr (Or.inr iEq)), Or.inr (Or.inr (Or.inr iSl0)), Or.inr (Or.inr (Or.inr iEq)), Or.inr (Or.inr (Or.inr iEq)), Or.inr (Or.inl (by decide)), Or.inr (Or.inl (by decide)), Or.inr (Or.inl (by decide)), Or.inr (Or.inr (Or.inr iEq)), Or.inr (Or.inr (Or.inr iEq)), Or.inl rfl, Or.inr (Or.inr (Or.inl (not_yet nD (fun hm => (cD 12 11 hm (by kernel_rfl)))))), trivial⟩
  refine ⟨by exact ⟨hst.sub (.cons _ (.cons _ (.cons_cons _ (.cons_cons _ .slnil)))), (fun y0 => absurd (show D 6 = false from y0) (by rw [(eD 6 (by kernel_rfl))]; decide))⟩, by exact trivial, kX [6, 7, 8] hI164 ?_⟩
  intro j d hj hjd hDj h
  simp only [List.mem_cons, List.not_mem_nil, or_false] at hj
  rcases hj with rfl | rfl | rfl
  ·obtain rfl : 92 = d := Option.some.inj hjd
   exact (match h with | ⟨g, e, _⟩ => ⟨g, e, (fun y0 y1 => absurd y1 (fun h => Bool.noConfusion h))⟩)
  ·obtain rfl : 85 = d := Option.some.inj hjd
   exact (match h with | ⟨g, e, _⟩ => ⟨g, e, (fun y0 y1 => absurd y1 (fun h => Bool.noConfusion h))⟩)
  ·obtain rfl : 93 = d := Option.some.inj hjd
   exact (by rw [e161]; exact ⟨(fun y0 y1 => absurd y1 (fun h => Bool.noConfusion h)), (fun y0 => hst.sub (.cons_cons _ (.cons_cons _ (.cons_cons _ (.cons_cons _ .slnil)))))⟩)
 ·rintro D ρo wo nD eD cD jD aD ⟨f94, _⟩
  obtain ⟨v165, e166⟩ : ∃ x, ρo 93 = x := ⟨_, rfl⟩
  have hh167 := aD 8 93 (eD 8 (by kernel_rfl)) rfl
  have hst : St w0 wo [rowT 45 aggE v165 ((decAf x1 ((b.take (b.length - 4)).drop (Int.toNat at_))).1), .blk g103 26 #[(iV x0), (iV x1), (iV x2), (iV (x2 + x3)), nS, v165], .blk g70 67 #[(.int .u64 x0), (.int .u64 x1), (.int .u64 x2), (.int .u64 x3)], .blk g1 26 #[(iV 0), (iV 0), (iV 0), (iV 0), nS, nS]] := by have h := hh167.2 (eD 11 (by kernel_rfl)); rw [e166] at h; exact h
  exact go_plain (op_assign (iV ((decAf x1 ((b.take (b.length - 4)).drop (Int.toNat at_))).2)) f94 (kN0 (i := 12) hM (by decide) (by exact jD) (by exact rfl)))
 intro ρ168 w169 Dw169 hallw169 hJw169 hRw169 hkw169
 obtain ⟨v170, uw169_93⟩ : ∃ x, ρ168 93 = x := ⟨_, rfl⟩
 have hst : St w0 w169 [rowT 45 aggE v170 ((decAf x1 ((b.take (b.length - 4)).drop (Int.toNat at_))).1), .blk g103 26 #[(iV x0), (iV x1), (iV x2), (iV (x2 + x3)), nS, v170], .blk g70 67 #[(.int .u64 x0), (.int .u64 x1), (.int .u64 x2), (.int .u64 x3)], .blk g1 26 #[(iV 0), (iV 0), (iV 0), (iV 0), nS, nS]] := by have h := hRw169 8 93 rfl; rw [uw169_93] at h; exact (h.2 (hallw169 11 (show 11 < 13 from by decide)))
 have uw169_0 : ρ168 0 = v_b := (hkw169 0 rfl).trans q72_0
 have uw169_2 : ρ168 2 = (.pointer (some ⟨g1, 0, none⟩)) := (hkw169 2 rfl).trans q72_2
 have uw169_4 : ρ168 4 = (iV ((b.length : Int) - 4)) := (hkw169 4 rfl).trans q72_4
 have uw169_5 : ρ168 5 = (.pointer (some ⟨g70, 0, none⟩)) := (hkw169 5 rfl).trans q72_5
 have uw169_33 : ρ168 33 = (iV (i : Int)) := (hkw169 33 rfl).trans q72_33
 have uw169_6 : ρ168 6 = (iV at_) := (hkw169 6 rfl).trans q72_6
 have uw169_34 : ρ168 34 = (.bool (decide ((i : Int) < 4))) := (hkw169 34 rfl).trans rfl
 have uw169_57 : ρ168 57 = (.pointer (some ⟨g70, (0 + 0), none⟩)) := (hkw169 57 rfl).trans rfl
 have uw169_58 : ρ168 58 = (.int .u64 x0) := (hkw169 58 rfl).trans rfl
 have uw169_59 : ρ168 59 = (iV x0) := (hkw169 59 rfl).trans rfl
 have uw169_60 : ρ168 60 = (.pointer (some ⟨g70, (0 + 1), none⟩)) := (hkw169 60 rfl).trans rfl
 have uw169_61 : ρ168 61 = (.int .u64 x1) := (hkw169 61 rfl).trans rfl
 have uw169_62 : ρ168 62 = (iV x1) := (hkw169 62 rfl).trans rfl
 have uw169_63 : ρ168 63 = (.pointer (some ⟨g70, (0 + 2), none⟩)) := (hkw169 63 rfl).trans rfl
 have uw169_64 : ρ168 64 = (.int .u64 x2) := (hkw169 64 rfl).trans rfl
 have uw169_65 : ρ168 65 = (iV x2) := (hkw169 65 rfl).trans rfl
 have uw169_66 : ρ168 66 = (.pointer (some ⟨g70, (0 + 2), none⟩)) := (hkw169 66 rfl).trans rfl
 have uw169_67 : ρ168 67 = (.int .u64 x2) := (hkw169 67 rfl).trans rfl
 have uw169_68 : ρ168 68 = (.pointer (some ⟨g70, (0 + 3), none⟩)) := (hkw169 68 rfl).trans rfl
 have uw169_69 : ρ168 69 = (.int .u64 x3) := (hkw169 69 rfl).trans rfl
 have uw169_70 : ρ168 70 = (.int .u64 (x2 + x3)) := (hkw169 70 rfl).trans rfl
 have uw169_71 : ρ168 71 = (iV (x2 + x3)) := (hkw169 71 rfl).trans rfl
 have uw169_72 : ρ168 72 = (.agg #[(iV x0), (iV x1), (iV x2), (iV (x2 + x3)), nS, nS]) := (hkw169 72 rfl).trans rfl
 have uw169_11 : ρ168 11 = (.pointer (some ⟨g103, 0, none⟩)) := (hkw169 11 rfl).trans rfl
 have uw169_73 : ρ168 73 = (.pointer (some ⟨g103, (0 + 1), none⟩)) := (hkw169 73 rfl).trans rfl
 have uw169_74 : ρ168 74 = (iV x1) := (hkw169 74 rfl).trans rfl
 have uw169_75 : ρ168 75 = (.bool (decide (x1 = 0))) := (hkw169 75 rfl).trans rfl
 have uw169_12 : ρ168 12 = (iV ((decAf x1 ((b.take (b.length - 4)).drop (Int.toNat at_))).2)) := hRw169 12 12 rfl
 refine then_n (cE_seq ?_)
 have ho171 : v170.oneCell' = true := (sl_one (show Sl _ aggE v170 ((decAf x1 ((b.take (b.length - 4)).drop (Int.toNat at_))).1) from (hst.sl 0 rfl)))
 have hsok : ((⟨⟨x0, x1, x2, (x2 + x3), [], (decAf x1 ((b.take (b.length - 4)).drop (Int.toNat at_))).1⟩, nilV, ⟨v170, ho171⟩⟩ : Seg).d).ok := by first | exact getG_okS hGI _ | exact getG_okA hGI _
 refine cE_region rfl (s_cons (op_loadN (cs := [(iV x0), (iV x1), (iV x2), (iV (x2 + x3)), nS, v170]) Tryd.isAgg26 Tryd.sizeOf26 uw169_11 (Pt.of (hst.cell 1 rfl) rfl) rfl (s_cons (op_call Tryd.call8 (evs_cons (v := (.agg #[(iV x0), (iV x1), (iV x2), (iV (x2 + x3)), nS, v170])) rfl evs_nil) (c_sPut (w0 := w169) (s := (⟨⟨x0, x1, x2, (x2 + x3), [], (decAf x1 ((b.take (b.length - 4)).drop (Int.toNat at_))).1⟩, nilV, ⟨v170, ho171⟩⟩ : Seg)) (h_s := ⟨(Sl.nil sampE _), (hst.sl 0 rfl)⟩) (hs := hsok)) ?_))))
 rintro _ w173 ⟨r172, rfl, hcall⟩
 refine ⟨_, rfl, ?_⟩
 have hst : St w0 w173 [rowT 5 u8E r172 ((encG (⟨⟨x0, x1, x2, (x2 + x3), [], (decAf x1 ((b.take (b.length - 4)).drop (Int.toNat at_))).1⟩, nilV, ⟨v170, ho171⟩⟩ : Seg).d).1), rowT 45 aggE v170 ((decAf x1 ((b.take (b.length - 4)).drop (Int.toNat at_))).1), .blk g103 26 #[(iV x0), (iV x1), (iV x2), (iV (x2 + x3)), nS, v170], .blk g70 67 #[(.int .u64 x0), (.int .u64 x1), (.int .u64 x2), (.int .u64 x3)], .blk g1 26 #[(iV 0), (iV 0), (iV 0), (iV 0), nS, nS]] := hst.call hcall
 refine s_cons (op_move (.tuple #[r172, (iV ((encG (⟨⟨x0, x1, x2, (x2 + x3), [], (decAf x1 ((b.take (b.length - 4)).drop (Int.toNat at_))).1⟩, nilV, ⟨v170, ho171⟩⟩ : Seg).d).2))]) rfl (s_cons (op_extract r172 rfl rfl (s_cons (op_extract (iV ((encG (⟨⟨x0, x1, x2, (x2 + x3), [], (decAf x1 ((b.take (b.length - 4)).drop (Int.toNat at_))).1⟩, nilV, ⟨v170, ho171⟩⟩ : Seg).d).2)) rfl rfl ?_)))))
 refine s_cons (op_assign r172 rfl (s_cons (op_assign (iV ((encG (⟨⟨x0, x1, x2, (x2 + x3), [], (decAf x1 ((b.take (b.length - 4)).drop (Int.toNat at_))).1⟩, nilV, ⟨v170, ho171⟩⟩ : Seg).d).2)) rfl (s_nil (then_n (cE_seq (cE_seq (cE_region rfl (s_cons (op_move (iV ((decAf x1 ((b.take (b.length - 4)).drop (Int.toNat at_))).2)) uw169_12 (s_cons (op_neq (k := .i64) (a := (decAf x1 ((b.take (b.length - 4)).drop (Int.toNat at_))).2) (b := 0) rfl rfl ?_))))))))))))
 refine s_cons (op_move (.bool (!decide (((decAf x1 ((b.take (b.length - 4)).drop (Int.toNat at_))).2) = 0))) rfl ?_)
 obtain ⟨g174, hg175⟩ : ∃ x : Bool, x = !(!decide (((decAf x1 ((b.take (b.length - 4)).drop (Int.toNat at_))).2) = 0)) := ⟨_, rfl⟩
 refine s_lz 103 rfl ((gA_f rfl).trans hg175.symm) (Rlz g174 (iV ((encG (⟨⟨x0, x1, x2, (x2 + x3), [], (decAf x1 ((b.take (b.length - 4)).drop (Int.toNat at_))).1⟩, nilV, ⟨v170, ho171⟩⟩ : Seg).d).2)) w173) ?_ (fun hc176 => rlz_f hc176) ?_
 ·intro hc176
  refine op_move (iV ((encG (⟨⟨x0, x1, x2, (x2 + x3), [], (decAf x1 ((b.take (b.length - 4)).drop (Int.toNat at_))).1⟩, nilV, ⟨v170, ho171⟩⟩ : Seg).d).2)) rfl ?_
  exact rlz_t hc176
 rintro _ _ ⟨rfl, rfl⟩
 refine s_lz 103 rfl ((gA_f rfl).trans hg175.symm) (Rlz g174 (.bool (!decide (((encG (⟨⟨x0, x1, x2, (x2 + x3), [], (decAf x1 ((b.take (b.length - 4)).drop (Int.toNat at_))).1⟩, nilV, ⟨v170, ho171⟩⟩ : Seg).d).2) = 0))) w173) ?_ (fun hc177 => rlz_f hc177) ?_
 ·intro hc177
  refine op_neq (k := .i64) (a := (encG (⟨⟨x0, x1, x2, (x2 + x3), [], (decAf x1 ((b.take (b.length - 4)).drop (Int.toNat at_))).1⟩, nilV, ⟨v170, ho171⟩⟩ : Seg).d).2) (b := 0) (gt hc177) rfl ?_
  exact rlz_t hc177
 rintro _ _ ⟨rfl, rfl⟩
 obtain ⟨g178, hg179⟩ : ∃ x : Bool, x = ((!decide (((decAf x1 ((b.take (b.length - 4)).drop (Int.toNat at_))).2) = 0)) || (!decide (((encG (⟨⟨x0, x1, x2, (x2 + x3), [], (decAf x1 ((b.take (b.length - 4)).drop (Int.toNat at_))).1⟩, nilV, ⟨v170, ho171⟩⟩ : Seg).d).2) = 0))) := ⟨_, rfl⟩
 refine s_cons (op_pick_or rfl rfl rfl (fun hp => (hg175.trans (congrArg (! ·) (congrArg (! ·) (not_f hp))))) (s_cons (op_move (.bool g178) (congrArg Value.bool hg179.symm) ?_)))
 rcases Bool.eq_false_or_eq_true g178 with b180 | b180
 ·have c181 : (¬ (((decAf x1 ((b.take (b.length - 4)).drop (Int.toNat at_))).2) = 0)) ∨ (¬ (((encG (⟨⟨x0, x1, x2, (x2 + x3), [], (decAf x1 ((b.take (b.length - 4)).drop (Int.toNat at_))).1⟩, nilV, ⟨v170, ho171⟩⟩ : Seg).d).2) = 0)) := (pi_or (pi_not pi_dec) (pi_not pi_dec)).1 (hg179.symm.trans b180)
  refine s_no 107 rfl (congrArg Value.bool b180) (s_no 107 rfl (congrArg Value.bool b180) (s_no 107 rfl (congrArg Value.bool b180) (s_no 107 rfl (congrArg Value.bool b180) (s_cons (op_pick_t (.bool true) (congrArg Value.bool b180) rfl (s_nil (then_n (cE_cond true rfl (fun _ => ?_) (fun h => by cases h)))))))))
  refine cE_seq (cE_region rfl (s_cons (op_build (r := (.agg #[(iV 0), (iV 0), (iV 0), (iV 0), nS, nS])) evp_nil (by simp [Instr.build, Instr.fill, Value.cells, Tryd.runUnderlying26, Tryd.zeroValue26]) (s_cons0 (op_storeAll hst 4 rfl Tryd.sizeOf26 uw169_2 rfl rfl rfl (by simp [Value.oneCell']) (fun w182 hst => ?_))))))
  replace hst : St w0 w182 [rowT 5 u8E r172 ((encG (⟨⟨x0, x1, x2, (x2 + x3), [], (decAf x1 ((b.take (b.length - 4)).drop (Int.toNat at_))).1⟩, nilV, ⟨v170, ho171⟩⟩ : Seg).d).1), rowT 45 aggE v170 ((decAf x1 ((b.take (b.length - 4)).drop (Int.toNat at_))).1), .blk g103 26 #[(iV x0), (iV x1), (iV x2), (iV (x2 + x3)), nS, v170], .blk g70 67 #[(.int .u64 x0), (.int .u64 x1), (.int .u64 x2), (.int .u64 x3)], .blk g1 26 #[(iV 0), (iV 0), (iV 0), (iV 0), nS, nS]] := hst
  refine s_cons (op_assign (iV 2) rfl (s_nil (then_n (cE_ret (then_r (scope_r (postG_r _ (rvN (cs := [(iV 0), (iV 0), (iV 0), (iV 0), nS, nS]) Tryd.isAgg26 Tryd.sizeOf26 uw169_2 (Pt.of (hst.cell 4 rfl) rfl) rfl (rvt (v := (iV 2)) rfl rvnil)) ?_)))))))
  have hno : ∀ d : SegD, d.ok → encG d ≠ (b, 0) := by first | exact GI_head (by assumption) | exact GI_bad hGI (by omega) rfl (Or.inl (by assumption)) | exact GI_bad hGI (by omega) rfl (Or.inr (by assumption)) | exact GI_rawF hGI hi4 (by assumption) rfl (Or.inl (by assumption)) | exact GI_rawF hGI hi4 (by assumption) rfl (Or.inr (by assumption)) | exact GI_upF hGI hi4 (by assumption) rfl (Or.inl (by assumption)) | exact GI_upF hGI hi4 (by assumption) rfl (Or.inr (by assumption))
  replace hst : St w0 w182 [rowT 28 sampE nS ([]), rowT 5 u8E r172 ((encG (⟨⟨x0, x1, x2, (x2 + x3), [], (decAf x1 ((b.take (b.length - 4)).drop (Int.toNat at_))).1⟩, nilV, ⟨v170, ho171⟩⟩ : Seg).d).1), rowT 45 aggE v170 ((decAf x1 ((b.take (b.length - 4)).drop (Int.toNat at_))).1), .blk g103 26 #[(iV x0), (iV x1), (iV x2), (iV (x2 + x3)), nS, v170], .blk g70 67 #[(.int .u64 x0), (.int .u64 x1), (.int .u64 x2), (.int .u64 x3)], .blk g1 26 #[(iV 0), (iV 0), (iV 0), (iV 0), nS, nS]] := hst.nilRow 28 sampE
  replace hst : St w0 w182 [rowT 45 aggE nS ([]), rowT 28 sampE nS ([]), rowT 5 u8E r172 ((encG (⟨⟨x0, x1, x2, (x2 + x3), [], (decAf x1 ((b.take (b.length - 4)).drop (Int.toNat at_))).1⟩, nilV, ⟨v170, ho171⟩⟩ : Seg).d).1), rowT 45 aggE v170 ((decAf x1 ((b.take (b.length - 4)).drop (Int.toNat at_))).1), .blk g103 26 #[(iV x0), (iV x1), (iV x2), (iV (x2 + x3)), nS, v170], .blk g70 67 #[(.int .u64 x0), (.int .u64 x1), (.int .u64 x2), (.int .u64 x3)], .blk g1 26 #[(iV 0), (iV 0), (iV 0), (iV 0), nS, nS]] := hst.nilRow 45 aggE
  replace hst : St w0 w182 [rowT 28 sampE nS ([]), rowT 45 aggE nS ([]), rowT 5 u8E r172 ((encG (⟨⟨x0, x1, x2, (x2 + x3), [], (decAf x1 ((b.take (b.length - 4)).drop (Int.toNat at_))).1⟩, nilV, ⟨v170, ho171⟩⟩ : Seg).d).1), rowT 45 aggE v170 ((decAf x1 ((b.take (b.length - 4)).drop (Int.toNat at_))).1), .blk g103 26 #[(iV x0), (iV x1), (iV x2), (iV (x2 + x3)), nS, v170], .blk g70 67 #[(.int .u64 x0), (.int .u64 x1), (.int .u64 x2), (.int .u64 x3)], .blk g1 26 #[(iV 0), (iV 0), (iV 0), (iV 0), nS, nS]] := hst.front 1 rfl
  exact ⟨(⟨⟨0, 0, 0, 0, [], []⟩, nilV, nilV⟩ : Seg), 2, rfl, hst.sub (.cons_cons _ (.cons_cons _ (.cons _ (.cons _ (.cons _ (.cons _ (.cons _ .slnil))))))), (by first | exact Or.inr ⟨rfl, rfl, hno⟩ | exact Or.inl ⟨rfl, hsok, hyes⟩)⟩
 have c183 : ((decAf x1 ((b.take (b.length - 4)).drop (Int.toNat at_))).2) = 0 := of_decide_eq_true (not_f (or_l (hg179.symm.trans b180)))
 have c184 : ((encG (⟨⟨x0, x1, x2, (x2 + x3), [], (decAf x1 ((b.take (b.length - 4)).drop (Int.toNat at_))).1⟩, nilV, ⟨v170, ho171⟩⟩ : Seg).d).2) = 0 := of_decide_eq_true (not_f (or_r (hg179.symm.trans b180)))
 refine s_yes 107 rfl (congrArg Value.bool b180) (op_move r172 rfl (s_yes 107 rfl (congrArg Value.bool b180) (op_move v_b uw169_0 (s_yes 107 rfl (congrArg Value.bool b180) (op_call Tryd.call31 (evs_cons (v := r172) rfl (evs_cons (v := v_b) rfl evs_nil)) (c_bEqual (w0 := w173) (v_a := r172) (a := (encG (⟨⟨x0, x1, x2, (x2 + x3), [], (decAf x1 ((b.take (b.length - 4)).drop (Int.toNat at_))).1⟩, nilV, ⟨v170, ho171⟩⟩ : Seg).d).1) (h_a := (hst.sl 0 rfl)) (v_b := v_b) (b := b) (h_b := (h_b.below hst.below))) ?_)))))
 rintro _ w185 ⟨rfl, hcall⟩
 refine ⟨_, rfl, ?_⟩
 have hst : St w0 w185 [rowT 5 u8E r172 ((encG (⟨⟨x0, x1, x2, (x2 + x3), [], (decAf x1 ((b.take (b.length - 4)).drop (Int.toNat at_))).1⟩, nilV, ⟨v170, ho171⟩⟩ : Seg).d).1), rowT 45 aggE v170 ((decAf x1 ((b.take (b.length - 4)).drop (Int.toNat at_))).1), .blk g103 26 #[(iV x0), (iV x1), (iV x2), (iV (x2 + x3)), nS, v170], .blk g70 67 #[(.int .u64 x0), (.int .u64 x1), (.int .u64 x2), (.int .u64 x3)], .blk g1 26 #[(iV 0), (iV 0), (iV 0), (iV 0), nS, nS]] := hst.call hcall
 refine s_yes 107 rfl (congrArg Value.bool b180) (op_not (b := decide ((encG (⟨⟨x0, x1, x2, (x2 + x3), [], (decAf x1 ((b.take (b.length - 4)).drop (Int.toNat at_))).1⟩, nilV, ⟨v170, ho171⟩⟩ : Seg).d).1 = b)) rfl (s_cons (op_pick_f (.bool (!(decide ((encG (⟨⟨x0, x1, x2, (x2 + x3), [], (decAf x1 ((b.take (b.length - 4)).drop (Int.toNat at_))).1⟩, nilV, ⟨v170, ho171⟩⟩ : Seg).d).1 = b)))) (congrArg Value.bool b180) rfl ?_)))
 refine s_nil (then_n ?_)
 rcases Bool.eq_false_or_eq_true (decide ((encG (⟨⟨x0, x1, x2, (x2 + x3), [], (decAf x1 ((b.take (b.length - 4)).drop (Int.toNat at_))).1⟩, nilV, ⟨v170, ho171⟩⟩ : Seg).d).1 = b)) with b186 | b186
 ·have c187 : (encG (⟨⟨x0, x1, x2, (x2 + x3), [], (decAf x1 ((b.take (b.length - 4)).drop (Int.toNat at_))).1⟩, nilV, ⟨v170, ho171⟩⟩ : Seg).d).1 = b := of_decide_eq_true b186
  refine cE_cond false (congrArg Value.bool (congrArg (! ·) b186)) (fun h => by cases h) (fun _ => ?_)
  refine cE_skip (then_n (cE_seq (cE_region rfl (s_cons (op_loadN (cs := [(iV x0), (iV x1), (iV x2), (iV (x2 + x3)), nS, v170]) Tryd.isAgg26 Tryd.sizeOf26 uw169_11 (Pt.of (hst.cell 2 rfl) rfl) rfl (s_cons0 (op_storeAll hst 4 rfl Tryd.sizeOf26 uw169_2 rfl rfl rfl (oneL_all (l := [(iV x0), (iV x1), (iV x2), (iV (x2 + x3)), nS, v170]) ⟨rfl, rfl, rfl, rfl, rfl, (sl_one (show Sl _ aggE v170 ((decAf x1 ((b.take (b.length - 4)).drop (Int.toNat at_))).1) from (hst.sl 1 rfl))), trivial⟩) (fun w188 hst => ?_))))))))
  replace hst : St w0 w188 [rowT 5 u8E r172 ((encG (⟨⟨x0, x1, x2, (x2 + x3), [], (decAf x1 ((b.take (b.length - 4)).drop (Int.toNat at_))).1⟩, nilV, ⟨v170, ho171⟩⟩ : Seg).d).1), rowT 45 aggE v170 ((decAf x1 ((b.take (b.length - 4)).drop (Int.toNat at_))).1), .blk g103 26 #[(iV x0), (iV x1), (iV x2), (iV (x2 + x3)), nS, v170], .blk g70 67 #[(.int .u64 x0), (.int .u64 x1), (.int .u64 x2), (.int .u64 x3)], .blk g1 26 #[(iV x0), (iV x1), (iV x2), (iV (x2 + x3)), nS, v170]] := hst
  refine s_cons (op_assign (iV 0) rfl (s_nil (then_n (cE_ret (scope_r (postG_r _ (rvN (cs := [(iV x0), (iV x1), (iV x2), (iV (x2 + x3)), nS, v170]) Tryd.isAgg26 Tryd.sizeOf26 uw169_2 (Pt.of (hst.cell 4 rfl) rfl) rfl (rvt (v := (iV 0)) rfl rvnil)) ?_))))))
  have hyes : encG ((⟨⟨x0, x1, x2, (x2 + x3), [], (decAf x1 ((b.take (b.length - 4)).drop (Int.toNat at_))).1⟩, nilV, ⟨v170, ho171⟩⟩ : Seg).d) = (b, 0) := by first | exact Prod.ext (by assumption) (by assumption) | exact getG_yes (by assumption)
  replace hst : St w0 w188 [rowT 28 sampE nS ([]), rowT 5 u8E r172 ((encG (⟨⟨x0, x1, x2, (x2 + x3), [], (decAf x1 ((b.take (b.length - 4)).drop (Int.toNat at_))).1⟩, nilV, ⟨v170, ho171⟩⟩ : Seg).d).1), rowT 45 aggE v170 ((decAf x1 ((b.take (b.length - 4)).drop (Int.toNat at_))).1), .blk g103 26 #[(iV x0), (iV x1), (iV x2), (iV (x2 + x3)), nS, v170], .blk g70 67 #[(.int .u64 x0), (.int .u64 x1), (.int .u64 x2), (.int .u64 x3)], .blk g1 26 #[(iV x0), (iV x1), (iV x2), (iV (x2 + x3)), nS, v170]] := hst.nilRow 28 sampE
  exact ⟨(⟨⟨x0, x1, x2, (x2 + x3), [], (decAf x1 ((b.take (b.length - 4)).drop (Int.toNat at_))).1⟩, nilV, ⟨v170, ho171⟩⟩ : Seg), 0, rfl, hst.sub (.cons_cons _ (.cons _ (.cons_cons _ (.cons _ (.cons _ (.cons _ .slnil)))))), (by first | exact Or.inr ⟨rfl, rfl, hno⟩ | exact Or.inl ⟨rfl, hsok, hyes⟩)⟩
 have c189 : ¬ ((encG (⟨⟨x0, x1, x2, (x2 + x3), [], (decAf x1 ((b.take (b.length - 4)).drop (Int.toNat at_))).1⟩, nilV, ⟨v170, ho171⟩⟩ : Seg).d).1 = b) := of_decide_eq_false b186
 refine cE_cond true (congrArg Value.bool (congrArg (! ·) b186)) (fun _ => ?_) (fun h => by cases h)
 refine cE_seq (cE_region rfl (s_cons (op_build (r := (.agg #[(iV 0), (iV 0), (iV 0), (iV 0), nS, nS])) evp_nil (by simp [Instr.build, Instr.fill, Value.cells, Tryd.runUnderlying26, Tryd.zeroValue26]) (s_cons0 (op_storeAll hst 4 rfl Tryd.sizeOf26 uw169_2 rfl rfl rfl (by simp [Value.oneCell']) (fun w190 hst => ?_))))))
 replace hst : St w0 w190 [rowT 5 u8E r172 ((encG (⟨⟨x0, x1, x2, (x2 + x3), [], (decAf x1 ((b.take (b.length - 4)).drop (Int.toNat at_))).1⟩, nilV, ⟨v170, ho171⟩⟩ : Seg).d).1), rowT 45 aggE v170 ((decAf x1 ((b.take (b.length - 4)).drop (Int.toNat at_))).1), .blk g103 26 #[(iV x0), (iV x1), (iV x2), (iV (x2 + x3)), nS, v170], .blk g70 67 #[(.int .u64 x0), (.int .u64 x1), (.int .u64 x2), (.int .u64 x3)], .blk g1 26 #[(iV 0), (iV 0), (iV 0), (iV 0), nS, nS]] := hst
 refine s_cons (op_assign (iV 2) rfl (s_nil (then_n (cE_ret (then_r (scope_r (postG_r _ (rvN (cs := [(iV 0), (iV 0), (iV 0), (iV 0), nS, nS]) Tryd.isAgg26 Tryd.sizeOf26 uw169_2 (Pt.of (hst.cell 4 rfl) rfl) rfl (rvt (v := (iV 2)) rfl rvnil)) ?_)))))))
 have hno : ∀ d : SegD, d.ok → encG d ≠ (b, 0) := by first | exact GI_head (by assumption) | exact GI_bad hGI (by omega) rfl (Or.inl (by assumption)) | exact GI_bad hGI (by omega) rfl (Or.inr (by assumption)) | exact GI_rawF hGI hi4 (by assumption) rfl (Or.inl (by assumption)) | exact GI_rawF hGI hi4 (by assumption) rfl (Or.inr (by assumption)) | exact GI_upF hGI hi4 (by assumption) rfl (Or.inl (by assumption)) | exact GI_upF hGI hi4 (by assumption) rfl (Or.inr (by assumption))
 replace hst : St w0 w190 [rowT 28 sampE nS ([]), rowT 5 u8E r172 ((encG (⟨⟨x0, x1, x2, (x2 + x3), [], (decAf x1 ((b.take (b.length - 4)).drop (Int.toNat at_))).1⟩, nilV, ⟨v170, ho171⟩⟩ : Seg).d).1), rowT 45 aggE v170 ((decAf x1 ((b.take (b.length - 4)).drop (Int.toNat at_))).1), .blk g103 26 #[(iV x0), (iV x1), (iV x2), (iV (x2 + x3)), nS, v170], .blk g70 67 #[(.int .u64 x0), (.int .u64 x1), (.int .u64 x2), (.int .u64 x3)], .blk g1 26 #[(iV 0), (iV 0), (iV 0), (iV 0), nS, nS]] := hst.nilRow 28 sampE
 replace hst : St w0 w190 [rowT 45 aggE nS ([]), rowT 28 sampE nS ([]), rowT 5 u8E r172 ((encG (⟨⟨x0, x1, x2, (x2 + x3), [], (decAf x1 ((b.take (b.length - 4)).drop (Int.toNat at_))).1⟩, nilV, ⟨v170, ho171⟩⟩ : Seg).d).1), rowT 45 aggE v170 ((decAf x1 ((b.take (b.length - 4)).drop (Int.toNat at_))).1), .blk g103 26 #[(iV x0), (iV x1), (iV x2), (iV (x2 + x3)), nS, v170], .blk g70 67 #[(.int .u64 x0), (.int .u64 x1), (.int .u64 x2), (.int .u64 x3)], .blk g1 26 #[(iV 0), (iV 0), (iV 0), (iV 0), nS, nS]] := hst.nilRow 45 aggE
 replace hst : St w0 w190 [rowT 28 sampE nS ([]), rowT 45 aggE nS ([]), rowT 5 u8E r172 ((encG (⟨⟨x0, x1, x2, (x2 + x3), [], (decAf x1 ((b.take (b.length - 4)).drop (Int.toNat at_))).1⟩, nilV, ⟨v170, ho171⟩⟩ : Seg).d).1), rowT 45 aggE v170 ((decAf x1 ((b.take (b.length - 4)).drop (Int.toNat at_))).1), .blk g103 26 #[(iV x0), (iV x1), (iV x2), (iV (x2 + x3)), nS, v170], .blk g70 67 #[(.int .u64 x0), (.int .u64 x1), (.int .u64 x2), (.int .u64 x3)], .blk g1 26 #[(iV 0), (iV 0), (iV 0), (iV 0), nS, nS]] := hst.front 1 rfl
 exact ⟨(⟨⟨0, 0, 0, 0, [], []⟩, nilV, nilV⟩ : Seg), 2, rfl, hst.sub (.cons_cons _ (.cons_cons _ (.cons _ (.cons _ (.cons _ (.cons _ (.cons _ .slnil))))))), (by first | exact Or.inr ⟨rfl, rfl, hno⟩ | exact Or.inl ⟨rfl, hsok, hyes⟩)⟩

end Go.Proofs.YtgibfidebdgffaaDoor
