/- block.GetAggs -/
import Derived.Test.YtgibfidebdgffaaDoorXLB
import Derived.Test.YtgibfidebdgffaaDoorXW25
import Derived.Test.YtgibfidebdgffaaDoorXW24
import Derived.Test.YtgibfidebdgffaaDoorXW20
import Derived.Test.YtgibfidebdgffaaDoorXW3
namespace Go.Proofs.YtgibfidebdgffaaDoor
open Go.RowKit

section
attribute [local irreducible] get rbad zag cntV cntBad widthA
set_option maxRecDepth 8000 in
set_option maxHeartbeats 8000000 in
theorem c_kGetAggs (w0 : World) (v_b : Value) (b : List UInt8) (h_b : Sl w0 u8E v_b b) (k : Int) (hl : b.length ≤ 1000000000) (k0 : -9223372036854775808 ≤ k) (k1 : k ≤ 9223372036854775807) :
  Calls Tryd.prog 30 #[v_b, (iV k)] w0 fun e w' => ∃ (r : Value), e = .returned (.tuple #[r, (iV ((decAf k b).2))]) ∧ St w0 w' [rowT 45 aggE r ((decAf k b).1)] := by
 refine calls_E (n := 116) (ts := [4, 5]) Tryd.func30 rfl rfl rfl (by simp) ?_
 have hst := St.start w0
 refine cE_seq (cE_region rfl (s_cons (op_assign nS rfl (s_cons (op_assign (iV 0) rfl (s_nil (then_n (cE_scope (cE_seq (cE_seq (cE_region rfl (s_cons (op_move (iV k) rfl (s_cons (op_lss (k := .i64) (a := k) (b := 1) rfl rfl (s_cons (op_move (.bool (decide (k < 1))) rfl ?_)))))))))))))))))
 rcases Bool.eq_false_or_eq_true (decide (k < 1)) with b1 | b1
 ·have c2 : k < 1 := of_decide_eq_true b1
  refine s_no 14 rfl (congrArg Value.bool b1) (s_no 14 rfl (congrArg Value.bool b1) (s_cons (op_pick_t (.bool true) (congrArg Value.bool b1) rfl (s_nil (then_n (cE_cond true rfl (fun _ => ?_) (fun h => by cases h)))))))
  refine cE_seq (cE_region rfl (s_cons (op_assign nS rfl (s_cons (op_assign (iV 1) rfl (s_nil (then_n (cE_ret (then_r (scope_r (post_r _ (res2 (v := nS) rfl (x := (iV 1)) rfl) ?_)))))))))))
  have hd : DecA k b [] 1 := CA_out (coarse_no (by omega))
  have hdf := decAf_is hd
  replace hst : St w0 w0 [rowT 45 aggE nS ([])] := hst.nilRow 45 aggE
  have e3 : [] = (decAf k b).1 := by first | exact (congrArg Prod.fst hdf).symm | exact (congrArg Prod.snd hdf).symm
  replace hst : St w0 w0 [rowT 45 aggE nS ((decAf k b).1)] := by rw [congrArg (fun l => rowT 45 aggE nS l) e3] at hst; exact hst
  exact ⟨nS, (retv2 rfl (congrArg iV (show 1 = (decAf k b).2 from by first | exact (congrArg Prod.fst hdf).symm | exact (congrArg Prod.snd hdf).symm))), hst.sub (.cons_cons _ .slnil)⟩
 have c4 : ¬ (k < 1) := of_decide_eq_false b1
 refine s_yes 14 rfl (congrArg Value.bool b1) (op_move (iV k) rfl (s_yes 14 rfl (congrArg Value.bool b1) (op_geq (k := .i64) (a := k) (b := 4) rfl rfl (s_cons (op_pick_f (.bool (decide (4 ≤ k))) (congrArg Value.bool b1) rfl (s_nil (then_n ?_)))))))
 rcases Bool.eq_false_or_eq_true (decide (4 ≤ k)) with b5 | b5
 ·have c6 : 4 ≤ k := of_decide_eq_true b5
  refine cE_cond true (congrArg Value.bool b5) (fun _ => ?_) (fun h => by cases h)
  refine cE_seq (cE_region rfl (s_cons (op_assign nS rfl (s_cons (op_assign (iV 1) rfl (s_nil (then_n (cE_ret (then_r (scope_r (post_r _ (res2 (v := nS) rfl (x := (iV 1)) rfl) ?_)))))))))))
  have hd : DecA k b [] 1 := CA_out (coarse_no (by omega))
  have hdf := decAf_is hd
  replace hst : St w0 w0 [rowT 45 aggE nS ([])] := hst.nilRow 45 aggE
  have e7 : [] = (decAf k b).1 := by first | exact (congrArg Prod.fst hdf).symm | exact (congrArg Prod.snd hdf).symm
  replace hst : St w0 w0 [rowT 45 aggE nS ((decAf k b).1)] := by rw [congrArg (fun l => rowT 45 aggE nS l) e7] at hst; exact hst
  exact ⟨nS, (retv2 rfl (congrArg iV (show 1 = (decAf k b).2 from by first | exact (congrArg Prod.fst hdf).symm | exact (congrArg Prod.snd hdf).symm))), hst.sub (.cons_cons _ .slnil)⟩
 have c8 : ¬ (4 ≤ k) := of_decide_eq_false b5
 refine cE_cond false (congrArg Value.bool b5) (fun h => by cases h) (fun _ => ?_)
 refine cE_skip (then_n (cE_seq ?_))
 have hco := coarse_yes (k := k) (by omega) (by omega)
 refine cE_region rfl (s_cons (op_move v_b rfl (s_cons (op_build (r := (.agg #[v_b, (iV 0), (.bool false)])) (evp_cons (v := v_b) rfl evp_nil) (by simp [Instr.build, Instr.fill, cells_int, cells_bool, cells_str, cells_agg, cells_nil, sl_cells (show Sl _ u8E v_b b from h_b), Tryd.runUnderlying88, Tryd.zeroValue88]) (s_cons (op_box (v := (.agg #[v_b, (iV 0), (.bool false)])) (cs := #[v_b, (iV 0), (.bool false)]) hst rfl rfl (fun g9 w10 hst _ => ?_)))))))
 replace hst : St w0 w10 [.blk g9 88 #[v_b, (iV 0), (.bool false)]] := hst
 refine s_cons (op_assign (.pointer (some ⟨g9, 0, none⟩)) rfl (s_nil (then_n (cE_seq (cE_region rfl (s_cons (op_assign nS rfl (s_nil (then_n (cE_seq (cE_region rfl (s_cons (op_assign (iV (-1)) rfl (s_nil (then_n (cE_seq (cE_label (then_n (cE_seq (cE_seq (cE_region rfl (s_cons (op_move (.pointer (some ⟨g9, 0, none⟩)) rfl (s_cons (op_call Tryd.call46 (evs_cons (v := (.pointer (some ⟨g9, 0, none⟩))) rfl (evs_cons (v := (iV 64)) rfl evs_nil)) (c_kCount (g_r := g9) (v_b := v_b) (b := b) (h_b := h_b) (at_ := 0) (bad := false) (most := 64) (hl := hl) (m0 := (by omega)) (m1 := (by omega)) (hst := hst)) ?_)))))))))))))))))))))))))
 rintro _ w11 ⟨rfl, hcall⟩
 refine ⟨_, rfl, ?_⟩
 have hst : St w0 w11 [.blk g9 88 #[v_b, (iV ((get b 0).2.1)), (.bool (cntBad false b 0 64))]] := hcall
 refine s_cons (op_move (iV 0) rfl (s_nil (then_n (cE_block ?_))))
 replace hst : St w0 w11 [rowT 45 aggE nS ([]), .blk g9 88 #[v_b, (iV ((get b 0).2.1)), (.bool (cntBad false b 0 64))]] := hst.nilRow 45 aggE
 refine cE_loop (fun (m : Nat) (ρ : Env) (w : World) => ∃ (vo : Value) (out : List Agg) (i : Nat) (p : Int) (bad : Bool) (at_ : Int), m = 65 - i ∧ ρ 0 = v_b ∧ ρ 1 = (iV k) ∧ ρ 4 = nS ∧ ρ 5 = (iV 0) ∧ ρ 6 = (.pointer (some ⟨g9, 0, none⟩)) ∧ ρ 22 = (iV (cntV b 0 64)) ∧ ρ 7 = vo ∧ ρ 8 = (iV at_) ∧ ρ 23 = (iV (i : Int)) ∧ St w0 w [rowT 45 aggE vo out, .blk g9 88 #[v_b, (iV p), (.bool bad)]] ∧ (CA b k (cntV b 0 64) out i p bad at_) ∧ ((i : Int) ≤ cntV b 0 64)) id _ ⟨nS, [], 0, (get b 0).2.1, (cntBad false b 0 64), (-1), rfl, rfl, rfl, rfl, rfl, rfl, rfl, rfl, rfl, (congrArg iV (show 0 = _ from by omega)), hst, (by first | exact CA_start | exact CA_oneE hCA (by omega) (by assumption) (by assumption) (by assumption) (by assumption) (by assumption) (by assumption) (by assumption) (by assumption) (by assumption) hFe (by assumption) | exact CA_manyE hCA (by omega) (by assumption) (by assumption) (by assumption) (by assumption) (by assumption) (by assumption) (by assumption) (by assumption) (by assumption) (by first | assumption | rfl) (by first | assumption | rfl) (by first | assumption | rfl) (by first | assumption | rfl) (by first | assumption | rfl) (by first | assumption | rfl) (by first | assumption | rfl) (by first | assumption | rfl) (by first | assumption | rfl) (by first | assumption | rfl) (by first | assumption | rfl) (by first | assumption | rfl) hFe (by assumption)), (by first | exact (cntV_r (by omega)).1 | omega)⟩ ?_
 rintro m13 ρ14 w15 ⟨vo, out, i, p, bad, at_, hm13, q12_0, q12_1, q12_4, q12_5, q12_6, q12_22, q12_7, q12_8, q12_23, hst, hCA, hi⟩
 have hcr := cntV_r (b := b) (p := 0) (most := 64) (by omega)
 have hol := hCA.2.2.1
 have hor := hCA.2.2.2.1
 refine cE_seq (cE_region rfl (s_cons (op_lss (k := .i64) (a := (i : Int)) (b := (cntV b 0 64)) q12_23 q12_22 (s_nil (then_n (cE_seq ?_))))))
 rcases Bool.eq_false_or_eq_true (decide ((i : Int) < (cntV b 0 64))) with b16 | b16
 ·have c17 : (i : Int) < (cntV b 0 64) := of_decide_eq_true b16
  refine cE_cond true (congrArg Value.bool b16) (fun _ => ?_) (fun h => by cases h)
  refine cE_skip (then_n (cE_seq (cE_block (cE_seq (cE_seq (cE_region rfl (s_cons (op_move (.pointer (some ⟨g9, 0, none⟩)) q12_6 (s_cons (op_nilCheck rfl (s_cons (op_fieldAddr (s := 0) Tryd.underlying88 rfl rfl Tryd.sizeOf4 rfl (s_cons (op_load1 (u := (.bool bad)) Tryd.isAgg4 rfl ((hst.cell 1 rfl).drop 2) (s_nil (then_n ?_))))))))))))))))
  rcases Bool.eq_false_or_eq_true bad with b18 | b18
  ·refine cE_cond true (congrArg Value.bool b18) (fun _ => ?_) (fun h => by cases h)
   refine cE_exit (then_x (block_miss (by decide) (then_x (then_x (block_hit (then_n (cE_seq (cE_region rfl (s_cons (op_move vo q12_7 (s_cons (op_move (iV k) q12_1 (s_cons (op_call Tryd.call18 (evs_cons (v := vo) rfl (evs_cons (v := (iV k)) rfl evs_nil)) (c_kPutAggs (w0 := w15) (v_l := vo) (l := out) (h_l := (hst.sl 0 rfl)) (k := k) (hl := hor) (k0 := (by omega)) (k1 := (by omega))) ?_))))))))))))))
   rintro _ w20 ⟨r19, rfl, hcall⟩
   refine ⟨_, rfl, ?_⟩
   have hst : St w0 w20 [rowT 5 u8E r19 ((encA k out).1), rowT 45 aggE vo out, .blk g9 88 #[v_b, (iV p), (.bool bad)]] := hst.call hcall
   refine s_cons (op_move (.tuple #[r19, (iV ((encA k out).2))]) rfl (s_cons (op_extract r19 rfl rfl (s_cons (op_extract (iV ((encA k out).2)) rfl rfl (s_cons (op_assign r19 rfl (s_cons (op_assign (iV ((encA k out).2)) rfl (s_nil (then_n (cE_seq (cE_seq (cE_region rfl (s_cons (op_move (.pointer (some ⟨g9, 0, none⟩)) q12_6 (s_cons (op_nilCheck rfl (s_cons (op_fieldAddr (s := 0) Tryd.underlying88 rfl rfl Tryd.sizeOf4 rfl ?_))))))))))))))))))))
   refine s_cons (op_load1 (u := (.bool bad)) Tryd.isAgg4 rfl ((hst.cell 2 rfl).drop 2) (s_cons (op_move (.bool bad) rfl (s_no 105 rfl (congrArg Value.bool b18) (s_no 105 rfl (congrArg Value.bool b18) (s_cons (op_pick_t (.bool true) (congrArg Value.bool b18) rfl (s_cons (op_move (.bool true) rfl (s_no 109 rfl rfl (s_no 109 rfl rfl (s_no 109 rfl rfl (s_no 109 rfl rfl (s_cons (op_pick_t (.bool true) rfl rfl ?_)))))))))))))))
   refine s_nil (then_n (cE_cond true rfl (fun _ => ?_) (fun h => by cases h)))
   refine cE_seq (cE_region rfl (s_cons (op_assign nS rfl (s_cons (op_assign (iV 2) rfl (s_nil (then_n (cE_ret (then_r (scope_r (post_r _ (res2 (v := nS) rfl (x := (iV 2)) rfl) ?_)))))))))))
   have hd : DecA k b [] 2 := by first | exact CA_no hCA hco (Or.inl (by assumption)) | exact CA_no hCA hco (Or.inr ⟨by omega, Or.inl (by assumption)⟩) | exact CA_no hCA hco (Or.inr ⟨by omega, Or.inr (by assumption)⟩)
   have hdf := decAf_is hd
   replace hst : St w0 w20 [rowT 45 aggE nS ([]), rowT 5 u8E r19 ((encA k out).1), rowT 45 aggE vo out, .blk g9 88 #[v_b, (iV p), (.bool bad)]] := hst.nilRow 45 aggE
   have e21 : [] = (decAf k b).1 := by first | exact (congrArg Prod.fst hdf).symm | exact (congrArg Prod.snd hdf).symm
   replace hst : St w0 w20 [rowT 45 aggE nS ((decAf k b).1), rowT 5 u8E r19 ((encA k out).1), rowT 45 aggE vo out, .blk g9 88 #[v_b, (iV p), (.bool bad)]] := by rw [congrArg (fun l => rowT 45 aggE nS l) e21] at hst; exact hst
   exact ⟨nS, (retv2 rfl (congrArg iV (show 2 = (decAf k b).2 from by first | exact (congrArg Prod.fst hdf).symm | exact (congrArg Prod.snd hdf).symm))), hst.sub (.cons_cons _ (.cons _ (.cons _ (.cons _ .slnil))))⟩
  refine cE_cond false (congrArg Value.bool b18) (fun h => by cases h) (fun _ => ?_)
  refine cE_skip (then_n (cE_seq (cE_region rfl (s_cons (op_move (iV at_) q12_8 (s_cons (op_add (k := .i64) (a := at_) (b := 1) (wr (at_ + 1)) rfl rfl rfl (s_cons (op_move (.pointer (some ⟨g9, 0, none⟩)) q12_6 ?_)))))))))
  replace hst : St w0 w15 [.blk g9 88 #[v_b, (iV p), (.bool bad)], rowT 45 aggE vo out] := hst.front 1 rfl
  refine s_cons (op_call Tryd.call47 (evs_cons (v := (.pointer (some ⟨g9, 0, none⟩))) rfl evs_nil) (c_kNextE (g_r := g9) (v_b := v_b) (b := b) (h_b := h_b) (at_ := p) (bad := bad) (hl := hl) (hst := hst)) ?_)
  rintro _ w25 ⟨r22, r23, r24, rfl, hcall, kNextE_hn, kNextE_hp, kNextE_hd⟩
  refine ⟨_, rfl, ?_⟩
  have hst : St w0 w25 [.blk g9 88 #[v_b, (iV r23), (.bool r24)], rowT 45 aggE vo out] := hcall
  refine s_cons (op_conv (k := .u64) (a := r22) (wr (r22)) Tryd.underlying2 (by rw [Tryd.underlying54]; rfl) rfl rfl (s_cons (op_add (k := .i64) (a := (wr (at_ + 1))) (b := (wr (r22))) (wr ((wr (at_ + 1)) + (wr (r22)))) rfl rfl rfl (s_cons (op_assign (iV (wr ((wr (at_ + 1)) + (wr (r22))))) rfl (s_nil (then_n (cE_seq (cE_region rfl (s_cons (op_move (iV (wr ((wr (at_ + 1)) + (wr (r22))))) rfl ?_)))))))))))
  refine s_cons (op_move (iV k) q12_1 (s_cons (op_call Tryd.call39 (evs_cons (v := (iV k)) rfl evs_nil) (c_Width (w0 := w25) (k := k) (k0 := (by omega)) (k1 := (by omega))) ?_)))
  rintro _ w26 ⟨rfl, hcall⟩
  refine ⟨_, rfl, ?_⟩
  have hst : St w0 w26 [.blk g9 88 #[v_b, (iV r23), (.bool r24)], rowT 45 aggE vo out] := hst.call hcall
  obtain ⟨F, hFe⟩ : ∃ x, wr ((wr ((wr (at_ + 1)) + (wr (r22)))) * (widthA k)) = x := ⟨_, rfl⟩
  refine s_cons (op_mul (k := .i64) (a := (wr ((wr (at_ + 1)) + (wr (r22))))) (b := (widthA k)) F rfl rfl hFe (s_cons (op_move (.pointer (some ⟨g9, 0, none⟩)) q12_6 (s_cons (op_call Tryd.call47 (evs_cons (v := (.pointer (some ⟨g9, 0, none⟩))) rfl evs_nil) (c_kNextE (g_r := g9) (v_b := v_b) (b := b) (h_b := h_b) (at_ := r23) (bad := r24) (hl := hl) (hst := hst)) ?_)))))
  rintro _ w30 ⟨r27, r28, r29, rfl, hcall, kNextE_hn, kNextE_hp, kNextE_hd⟩
  refine ⟨_, rfl, ?_⟩
  have hst : St w0 w30 [.blk g9 88 #[v_b, (iV r28), (.bool r29)], rowT 45 aggE vo out] := hcall
  refine s_cons (op_conv (k := .u64) (a := r27) (wr (r27)) Tryd.underlying2 (by rw [Tryd.underlying54]; rfl) rfl rfl (s_cons (op_add (k := .i64) (a := (wr (r27))) (b := 1) (wr ((wr (r27)) + 1)) rfl rfl rfl (s_cons (op_move (.pointer (some ⟨g9, 0, none⟩)) q12_6 (s_cons (op_call Tryd.call47 (evs_cons (v := (.pointer (some ⟨g9, 0, none⟩))) rfl evs_nil) (c_kNextE (g_r := g9) (v_b := v_b) (b := b) (h_b := h_b) (at_ := r28) (bad := r29) (hl := hl) (hst := hst)) ?_)))))))
  rintro _ w34 ⟨r31, r32, r33, rfl, hcall, kNextE_hn, kNextE_hp, kNextE_hd⟩
  refine ⟨_, rfl, ?_⟩
  have hst : St w0 w34 [.blk g9 88 #[v_b, (iV r32), (.bool r33)], rowT 45 aggE vo out] := hcall
  refine s_cons (op_call Tryd.call48 (evs_cons (v := (.int .u64 r31)) rfl evs_nil) (c_Zag (w0 := w34) (n := r31) (h0 := (gnE (by assumption)).1) (h1 := (gnE (by assumption)).2)) ?_)
  rintro _ w35 ⟨rfl, hcall⟩
  refine ⟨_, rfl, ?_⟩
  have hst : St w0 w35 [.blk g9 88 #[v_b, (iV r32), (.bool r33)], rowT 45 aggE vo out] := hst.call hcall
  refine s_cons (op_build (r := (.agg #[(iV F), (iV (wr ((wr (r27)) + 1))), (iV 0), (iV (zag r31)), (iV 0), (iV 0), (iV 0)])) (evp_cons (v := (iV F)) rfl (evp_cons (v := (iV (wr ((wr (r27)) + 1)))) rfl (evp_cons (v := (iV (zag r31))) rfl evp_nil))) (by simp [Instr.build, Instr.fill, Value.cells, Tryd.runUnderlying45, Tryd.zeroValue45]) (s_cons (op_alloc (cs := #[(iV 0), (iV 0), (iV 0), (iV 0), (iV 0), (iV 0), (iV 0)]) hst Tryd.zeroValue45 rfl (fun g36 w37 hst _ => ?_))))
  replace hst : St w0 w37 [.blk g36 45 #[(iV 0), (iV 0), (iV 0), (iV 0), (iV 0), (iV 0), (iV 0)], .blk g9 88 #[v_b, (iV r32), (.bool r33)], rowT 45 aggE vo out] := hst
  refine s_cons0 (op_storeAll hst 0 rfl Tryd.sizeOf45 rfl rfl rfl rfl (by simp [Value.oneCell']) (fun w38 hst => ?_))
  replace hst : St w0 w38 [.blk g36 45 #[(iV F), (iV (wr ((wr (r27)) + 1))), (iV 0), (iV (zag r31)), (iV 0), (iV 0), (iV 0)], .blk g9 88 #[v_b, (iV r32), (.bool r33)], rowT 45 aggE vo out] := hst
  refine s_nil (then_n (cE_seq (cE_region rfl (s_cons (op_fieldAddr (s := 0) Tryd.underlying45 rfl rfl Tryd.sizeOf2 rfl (s_cons (op_load1 (u := (iV (zag r31))) Tryd.isAgg2 rfl ((hst.cell 0 rfl).drop 3) (s_cons (op_fieldAddr (s := 0) Tryd.underlying45 rfl rfl Tryd.sizeOf2 rfl (s_cons (op_load1 (u := (iV (zag r31))) Tryd.isAgg2 rfl ((hst.cell 0 rfl).drop 3) (s_cons (op_fieldAddr (s := 0) Tryd.underlying45 rfl rfl Tryd.sizeOf2 rfl ?_)))))))))))))
  refine s_cons (op_load1 (u := (iV (zag r31))) Tryd.isAgg2 rfl ((hst.cell 0 rfl).drop 3) (s_cons (op_fieldAddr (s := 0) Tryd.underlying45 rfl rfl Tryd.sizeOf2 rfl (s_cons (op_load1 (u := (iV (zag r31))) Tryd.isAgg2 rfl ((hst.cell 0 rfl).drop 3) (s_cons (op_fieldAddr (s := 0) Tryd.underlying45 rfl rfl Tryd.sizeOf2 rfl (s_cons0 (op_store1 hst 0 rfl Tryd.sizeOf2 rfl rfl rfl (show 2 < 7 from by decide) (fun w39 hst => ?_))))))))))
  replace hst : St w0 w39 [.blk g36 45 #[(iV F), (iV (wr ((wr (r27)) + 1))), (iV (zag r31)), (iV (zag r31)), (iV 0), (iV 0), (iV 0)], .blk g9 88 #[v_b, (iV r32), (.bool r33)], rowT 45 aggE vo out] := hst
  refine s_cons (op_fieldAddr (s := 0) Tryd.underlying45 rfl rfl Tryd.sizeOf2 rfl (s_cons0 (op_store1 hst 0 rfl Tryd.sizeOf2 rfl rfl rfl (show 4 < 7 from by decide) (fun w40 hst => ?_))))
  replace hst : St w0 w40 [.blk g36 45 #[(iV F), (iV (wr ((wr (r27)) + 1))), (iV (zag r31)), (iV (zag r31)), (iV (zag r31)), (iV 0), (iV 0)], .blk g9 88 #[v_b, (iV r32), (.bool r33)], rowT 45 aggE vo out] := hst
  refine s_cons (op_fieldAddr (s := 0) Tryd.underlying45 rfl rfl Tryd.sizeOf2 rfl (s_cons0 (op_store1 hst 0 rfl Tryd.sizeOf2 rfl rfl rfl (show 5 < 7 from by decide) (fun w41 hst => ?_))))
  replace hst : St w0 w41 [.blk g36 45 #[(iV F), (iV (wr ((wr (r27)) + 1))), (iV (zag r31)), (iV (zag r31)), (iV (zag r31)), (iV (zag r31)), (iV 0)], .blk g9 88 #[v_b, (iV r32), (.bool r33)], rowT 45 aggE vo out] := hst
  refine s_cons (op_fieldAddr (s := 0) Tryd.underlying45 rfl rfl Tryd.sizeOf2 rfl (s_cons0 (op_store1 hst 0 rfl Tryd.sizeOf2 rfl rfl rfl (show 6 < 7 from by decide) (fun w42 hst => ?_))))
  replace hst : St w0 w42 [.blk g36 45 #[(iV F), (iV (wr ((wr (r27)) + 1))), (iV (zag r31)), (iV (zag r31)), (iV (zag r31)), (iV (zag r31)), (iV (zag r31))], .blk g9 88 #[v_b, (iV r32), (.bool r33)], rowT 45 aggE vo out] := hst
  refine s_nil (then_n (cE_seq (cE_seq (cE_region rfl (s_cons (op_fieldAddr (s := 0) Tryd.underlying45 rfl rfl Tryd.sizeOf2 rfl (s_cons (op_load1 (u := (iV (wr ((wr (r27)) + 1)))) Tryd.isAgg2 rfl ((hst.cell 0 rfl).drop 1) (s_cons (op_neq (k := .i64) (a := (wr ((wr (r27)) + 1))) (b := 1) rfl rfl (s_nil (then_n ?_))))))))))))
  rcases Bool.eq_false_or_eq_true (decide ((wr ((wr (r27)) + 1)) = 1)) with b43 | b43
  ·have c44 : (wr ((wr (r27)) + 1)) = 1 := of_decide_eq_true b43
   refine cE_cond false (congrArg Value.bool (congrArg (! ·) b43)) (fun h => by cases h) (fun _ => ?_)
   refine cE_skip (then_n (cE_region rfl (s_cons (op_move vo q12_7 (s_cons (op_loadN (cs := [(iV F), (iV (wr ((wr (r27)) + 1))), (iV (zag r31)), (iV (zag r31)), (iV (zag r31)), (iV (zag r31)), (iV (zag r31))]) Tryd.isAgg45 Tryd.sizeOf45 rfl (Pt.of (hst.cell 0 rfl) rfl) rfl (s_cons (op_buildSlice (E := aggE) [(⟨F, (wr ((wr (r27)) + 1)), (zag r31), (zag r31), (zag r31), (zag r31), (zag r31)⟩ : Agg)] hst Tryd.underlying24 Tryd.sizeOf45 Tryd.zeroValue45 (evp_cons (v := (.agg #[(iV F), (iV (wr ((wr (r27)) + 1))), (iV (zag r31)), (iV (zag r31)), (iV (zag r31)), (iV (zag r31)), (iV (zag r31))])) rfl evp_nil) (parts_cons rfl parts_nil) rfl (by decide) (fun v45 w46 hst => ?_)))))))))
   replace hst : St w0 w46 [rowT 45 aggE v45 ([(⟨F, (wr ((wr (r27)) + 1)), (zag r31), (zag r31), (zag r31), (zag r31), (zag r31)⟩ : Agg)]), .blk g36 45 #[(iV F), (iV (wr ((wr (r27)) + 1))), (iV (zag r31)), (iV (zag r31)), (iV (zag r31)), (iV (zag r31)), (iV (zag r31))], .blk g9 88 #[v_b, (iV r32), (.bool r33)], rowT 45 aggE vo out] := hst
   refine s_cons (op_append (E := aggE) (xs := out) (ys := [(⟨F, (wr ((wr (r27)) + 1)), (zag r31), (zag r31), (zag r31), (zag r31), (zag r31)⟩ : Agg)]) (z := (.agg #[(iV 0), (iV 0), (iV 0), (iV 0), (iV 0), (iV 0), (iV 0)])) (bytes := 56) hst 3 rfl Tryd.underlying24 (by kernel_rfl) rfl rfl rfl (hst.sl 0 rfl) (by first | omega | (simp; omega) | (simp; done)) (by first | omega | (simp; omega) | (simp; done)) (fun v47 w48 hst => ?_))
   replace hst : St w0 w48 [rowT 45 aggE v45 ([(⟨F, (wr ((wr (r27)) + 1)), (zag r31), (zag r31), (zag r31), (zag r31), (zag r31)⟩ : Agg)]), .blk g36 45 #[(iV F), (iV (wr ((wr (r27)) + 1))), (iV (zag r31)), (iV (zag r31)), (iV (zag r31)), (iV (zag r31)), (iV (zag r31))], .blk g9 88 #[v_b, (iV r32), (.bool r33)], rowT 45 aggE v47 (out ++ ([(⟨F, (wr ((wr (r27)) + 1)), (zag r31), (zag r31), (zag r31), (zag r31), (zag r31)⟩ : Agg)]))] := hst
   refine s_cons (op_assign v47 rfl (s_nil (block_n (then_n (cE_region rfl (s_cons (op_add (k := .i64) (a := (i : Int)) (b := 1) ((i : Int) + 1) q12_23 rfl (xi64 (by omega) (by omega)) (s_cons (op_move (iV ((i : Int) + 1)) rfl (s_nil (then_n ?_)))))))))))
   replace hst : St w0 w48 [.blk g9 88 #[v_b, (iV r32), (.bool r33)], rowT 45 aggE v45 ([(⟨F, (wr ((wr (r27)) + 1)), (zag r31), (zag r31), (zag r31), (zag r31), (zag r31)⟩ : Agg)]), .blk g36 45 #[(iV F), (iV (wr ((wr (r27)) + 1))), (iV (zag r31)), (iV (zag r31)), (iV (zag r31)), (iV (zag r31)), (iV (zag r31))], rowT 45 aggE v47 (out ++ ([(⟨F, (wr ((wr (r27)) + 1)), (zag r31), (zag r31), (zag r31), (zag r31), (zag r31)⟩ : Agg)]))] := hst.front 2 rfl
   replace hst : St w0 w48 [rowT 45 aggE v47 (out ++ ([(⟨F, (wr ((wr (r27)) + 1)), (zag r31), (zag r31), (zag r31), (zag r31), (zag r31)⟩ : Agg)])), .blk g9 88 #[v_b, (iV r32), (.bool r33)], rowT 45 aggE v45 ([(⟨F, (wr ((wr (r27)) + 1)), (zag r31), (zag r31), (zag r31), (zag r31), (zag r31)⟩ : Agg)]), .blk g36 45 #[(iV F), (iV (wr ((wr (r27)) + 1))), (iV (zag r31)), (iV (zag r31)), (iV (zag r31)), (iV (zag r31)), (iV (zag r31))]] := hst.front 3 rfl
   exact ⟨_, ⟨v47, (out ++ ([(⟨F, (wr ((wr (r27)) + 1)), (zag r31), (zag r31), (zag r31), (zag r31), (zag r31)⟩ : Agg)])), (i + 1), r32, r33, (wr ((wr (at_ + 1)) + (wr (r22)))), rfl, q12_0, q12_1, q12_4, q12_5, q12_6, q12_22, rfl, rfl, (congrArg iV (show ((i : Int) + 1) = _ from by omega)), (hst.sub (.cons_cons _ (.cons_cons _ (.cons _ (.cons _ .slnil))))), (by first | exact CA_start | exact CA_oneE hCA (by omega) (by assumption) (by assumption) (by assumption) (by assumption) (by assumption) (by assumption) (by assumption) (by assumption) (by assumption) hFe (by assumption) | exact CA_manyE hCA (by omega) (by assumption) (by assumption) (by assumption) (by assumption) (by assumption) (by assumption) (by assumption) (by assumption) (by assumption) (by first | assumption | rfl) (by first | assumption | rfl) (by first | assumption | rfl) (by first | assumption | rfl) (by first | assumption | rfl) (by first | assumption | rfl) (by first | assumption | rfl) (by first | assumption | rfl) (by first | assumption | rfl) (by first | assumption | rfl) (by first | assumption | rfl) (by first | assumption | rfl) hFe (by assumption)), (by first | exact (cntV_r (by omega)).1 | omega)⟩, (by simp only [id]; omega)⟩
  have c49 : ¬ ((wr ((wr (r27)) + 1)) = 1) := of_decide_eq_false b43
  refine cE_cond true (congrArg Value.bool (congrArg (! ·) b43)) (fun _ => ?_) (fun h => by cases h)
  refine cE_seq (cE_regionM (fun (D : Nat → Bool) (w : World) => St w0 w [rowT 45 aggE vo out] ∧ (D 4 = false → St w0 w [.blk g36 45 #[(iV F), (iV (wr ((wr (r27)) + 1))), (iV (zag r31)), (iV (zag r31)), (iV (zag r31)), (iV (zag r31)), (iV (zag r31))], .blk g9 88 #[v_b, (iV r32), (.bool r33)], rowT 45 aggE vo out]) ∧ (D 4 = true → D 8 = false → St w0 w [.blk g36 45 #[(iV F), (iV (wr ((wr (r27)) + 1))), (iV (zag r31)), (iV (zag r31)), (iV (zag r31)), (iV (zag r31)), (iV (zag r31))], .blk g9 88 #[v_b, (iV ((get b r32).2.1)), (.bool (rbad r33 b r32))], rowT 45 aggE vo out]) ∧ (D 8 = true → St w0 w [.blk g36 45 #[(iV F), (iV (wr ((wr (r27)) + 1))), (iV (zag r31)), (iV (zag r31)), (iV (wr (((((zag r31) % 18446744073709551616) + (get b r32).1) % 18446744073709551616)))), (iV (zag r31)), (iV (zag r31))], .blk g9 88 #[v_b, (iV ((get b r32).2.1)), (.bool (rbad r33 b r32))], rowT 45 aggE vo out])) [[(9, none)], [(62, some 0)], [(63, some 1)], [(6, none)], [(65, some 3)], [(64, some 2), (66, some 4)], [(67, some 5)], [(9, none)], [(69, some 7), (68, some 6)]] [4, 8] [(kEq (.pointer (some ⟨g36, (0 + 3), none⟩))), (kEq (iV (zag r31))), (kEq (.int .u64 ((zag r31) % 18446744073709551616))), (kEq (.pointer (some ⟨g9, 0, none⟩))), (kEq (.int .u64 ((get b r32).1))), (kEq (.int .u64 ((((zag r31) % 18446744073709551616) + (get b r32).1) % 18446744073709551616))), (kEq (iV (wr (((((zag r31) % 18446744073709551616) + (get b r32).1) % 18446744073709551616))))), (kEq (.pointer (some ⟨g36, (0 + 4), none⟩))), kAny] ⟨mEq, mEq, mEq, mEq, mEq, mEq, mEq, mEq, mAny, trivial⟩ (by kernel_rfl) rfl (by kernel_rfl) ⟨hst.drewW.sub (.cons _ (.cons _ (.cons_cons _ .slnil))), (fun _ => hst.drewW), (fun h => absurd h Bool.false_ne_true), (fun h => absurd h Bool.false_ne_true)⟩ (fun hM => ⟨?_, ?_, ?_, ?_, ?_, ?_, ?_, ?_, ?_, trivial⟩) ?_)
  ·rintro D ρo wo nD eD cD jD aD ⟨f9, _⟩
   exact go_plain (op_fieldAddr (s := 0) Tryd.underlying45 rfl rfl Tryd.sizeOf2 (f9.trans rfl) (kN0 (i := 0) hM (by decide) (by exact jD) (by exact rfl)))
  ·rintro D ρo wo nD eD cD jD aD ⟨f62, _⟩
   rcases Bool.eq_false_or_eq_true (D 4) with hY53 | hY53
   ·have hst := jD.2.2.1 hY53 (not_yet nD (fun hm => (cD 8 1 hm (by kernel_rfl))))
    replace hst : St w0 wo [.blk g36 45 #[(iV F), (iV (wr ((wr (r27)) + 1))), (iV (zag r31)), (iV (zag r31)), (iV (zag r31)), (iV (zag r31)), (iV (zag r31))], .blk g9 88 #[v_b, (iV ((get b r32).2.1)), (.bool (rbad r33 b r32))], rowT 45 aggE vo out] := hst
    exact go_plain (op_load1 (u := (iV (zag r31))) Tryd.isAgg2 f62 ((hst.cell 0 rfl).drop 3) (kN0 (i := 1) hM (by decide) (by exact jD) (by exact rfl)))
   ·have hst := jD.2.1 hY53
    replace hst : St w0 wo [.blk g36 45 #[(iV F), (iV (wr ((wr (r27)) + 1))), (iV (zag r31)), (iV (zag r31)), (iV (zag r31)), (iV (zag r31)), (iV (zag r31))], .blk g9 88 #[v_b, (iV r32), (.bool r33)], rowT 45 aggE vo out] := hst
    exact go_plain (op_load1 (u := (iV (zag r31))) Tryd.isAgg2 f62 ((hst.cell 0 rfl).drop 3) (kN0 (i := 1) hM (by decide) (by exact jD) (by exact rfl)))
  ·rintro D ρo wo nD eD cD jD aD ⟨f63, _⟩
   exact go_plain (op_conv (k := .i64) (a := (zag r31)) ((zag r31) % 18446744073709551616) Tryd.underlying54 (by rw [Tryd.underlying2]; rfl) f63 (IntKind.wrap_u64 _) (kN0 (i := 2) hM (by decide) (by exact jD) (by exact rfl)))
  ·rintro D ρo wo nD eD cD jD aD ⟨f6, _⟩
   exact go_plain (op_move (.pointer (some ⟨g9, 0, none⟩)) (f6.trans q12_6) (kN0 (i := 3) hM (by decide) (by exact jD) (by exact rfl)))
  ·rintro D ρo wo nD eD cD jD aD ⟨f65, _⟩
   have hst := jD.2.1 nD
   replace hst : St w0 wo [.blk g36 45 #[(iV F), (iV (wr ((wr (r27)) + 1))), (iV (zag r31)), (iV (zag r31)), (iV (zag r31)), (iV (zag r31)), (iV (zag r31))], .blk g9 88 #[v_b, (iV r32), (.bool r33)], rowT 45 aggE vo out] := hst
   replace hst : St w0 wo [.blk g9 88 #[v_b, (iV r32), (.bool r33)], .blk g36 45 #[(iV F), (iV (wr ((wr (r27)) + 1))), (iV (zag r31)), (iV (zag r31)), (iV (zag r31)), (iV (zag r31)), (iV (zag r31))], rowT 45 aggE vo out] := hst.front 1 rfl
   refine go_plain (op_call Tryd.call47 (evs_cons (v := (.pointer (some ⟨g9, 0, none⟩))) f65 evs_nil) (c_kNext (g_r := g9) (v_b := v_b) (b := b) (h_b := h_b) (at_ := r32) (bad := r33) (hl := hl) (hst := hst)) ?_)
   rintro _ w54 ⟨rfl, hcall⟩
   refine ⟨_, rfl, ?_⟩
   have hst : St w0 w54 [.blk g9 88 #[v_b, (iV ((get b r32).2.1)), (.bool (rbad r33 b r32))], .blk g36 45 #[(iV F), (iV (wr ((wr (r27)) + 1))), (iV (zag r31)), (iV (zag r31)), (iV (zag r31)), (iV (zag r31)), (iV (zag r31))], rowT 45 aggE vo out] := hcall
   replace hst : St w0 w54 [rowT 45 aggE vo out, .blk g9 88 #[v_b, (iV ((get b r32).2.1)), (.bool (rbad r33 b r32))], .blk g36 45 #[(iV F), (iV (wr ((wr (r27)) + 1))), (iV (zag r31)), (iV (zag r31)), (iV (zag r31)), (iV (zag r31)), (iV (zag r31))]] := hst.front 2 rfl
   replace hst : St w0 w54 [.blk g9 88 #[v_b, (iV ((get b r32).2.1)), (.bool (rbad r33 b r32))], rowT 45 aggE vo out, .blk g36 45 #[(iV F), (iV (wr ((wr (r27)) + 1))), (iV (zag r31)), (iV (zag r31)), (iV (zag r31)), (iV (zag r31)), (iV (zag r31))]] := hst.front 1 rfl
   replace hst : St w0 w54 [.blk g36 45 #[(iV F), (iV (wr ((wr (r27)) + 1))), (iV (zag r31)), (iV (zag r31)), (iV (zag r31)), (iV (zag r31)), (iV (zag r31))], .blk g9 88 #[v_b, (iV ((get b r32).2.1)), (.bool (rbad r33 b r32))], rowT 45 aggE vo out] := hst.front 2 rfl
   have hI55 : stabIXs 4 [] D 0 [(kEq (.pointer (some ⟨g36, (0 + 3), none⟩))), (kEq (iV (zag r31))), (kEq (.int .u64 ((zag r31) % 18446744073709551616))), (kEq (.pointer (some ⟨g9, 0, none⟩))), (kEq (.int .u64 ((get b r32).1))), (kEq (.int .u64 ((((zag r31) % 18446744073709551616) + (get b r32).1) % 18446744073709551616))), (kEq (iV (wr (((((zag r31) % 18446744073709551616) + (get b r32).1) % 18446744073709551616))))), (kEq (.pointer (some ⟨g36, (0 + 4), none⟩))), kAny] := ⟨Or.inr (Or.inr (Or.inr iEq)), Or.inr (Or.inr (Or.inr iEq)), Or.inr (Or.inr (Or.inr iEq)), Or.inr (Or.inr (Or.inr iEq)), Or.inl rfl, Or.inr (Or.inr (Or.inl (not_yet nD (fun hm => (cD 5 4 hm (by kernel_rfl)))))), Or.inr (Or.inr (Or.inl (not_yet nD (fun hm => (cD 5 4 (cD 6 5 hm (by kernel_rfl)) (by kernel_rfl)))))), Or.inr (Or.inr (Or.inl (not_yet nD (fun hm => (cD 7 4 hm (by kernel_rfl)))))), Or.inr (Or.inr (Or.inl (not_yet nD (fun hm => (cD 8 4 hm (by kernel_rfl)))))), trivial⟩
   refine ⟨by exact ⟨hst.sub (.cons _ (.cons _ (.cons_cons _ .slnil))), (fun y0 => absurd y0 (fun h => Bool.noConfusion h)), (fun y0 y1 => hst.sub (.cons_cons _ (.cons_cons _ (.cons_cons _ .slnil)))), (fun y0 => absurd (show D 8 = true from y0) (by rw [(not_yet nD (fun hm => (cD 8 4 hm (by kernel_rfl))))]; decide))⟩, by exact rfl, kX [] hI55 ?_⟩
   intro j d hj; cases hj
  ·rintro D ρo wo nD eD cD jD aD ⟨f64, f66, _⟩
   exact go_plain (op_add (k := .u64) (a := ((zag r31) % 18446744073709551616)) (b := (get b r32).1) ((((zag r31) % 18446744073709551616) + (get b r32).1) % 18446744073709551616) f64 f66 (IntKind.wrap_u64 _) (kN0 (i := 5) hM (by decide) (by exact jD) (by exact rfl)))
  ·rintro D ρo wo nD eD cD jD aD ⟨f67, _⟩
   exact go_plain (op_conv (k := .u64) (a := ((((zag r31) % 18446744073709551616) + (get b r32).1) % 18446744073709551616)) (wr (((((zag r31) % 18446744073709551616) + (get b r32).1) % 18446744073709551616))) Tryd.underlying2 (by rw [Tryd.underlying54]; rfl) f67 rfl (kN0 (i := 6) hM (by decide) (by exact jD) (by exact rfl)))
  ·rintro D ρo wo nD eD cD jD aD ⟨f9, _⟩
   exact go_plain (op_fieldAddr (s := 0) Tryd.underlying45 rfl rfl Tryd.sizeOf2 (f9.trans rfl) (kN0 (i := 7) hM (by decide) (by exact jD) (by exact rfl)))
  ·rintro D ρo wo nD eD cD jD aD ⟨f69, f68, _⟩
   have hst := jD.2.2.1 (eD 4 (by kernel_rfl)) nD
   replace hst : St w0 wo [.blk g36 45 #[(iV F), (iV (wr ((wr (r27)) + 1))), (iV (zag r31)), (iV (zag r31)), (iV (zag r31)), (iV (zag r31)), (iV (zag r31))], .blk g9 88 #[v_b, (iV ((get b r32).2.1)), (.bool (rbad r33 b r32))], rowT 45 aggE vo out] := hst
   refine go_plain (op_store1 hst 0 rfl Tryd.sizeOf2 f69 f68 rfl (show 4 < 7 from by decide) (fun w56 hst => ?_))
   replace hst : St w0 w56 [.blk g36 45 #[(iV F), (iV (wr ((wr (r27)) + 1))), (iV (zag r31)), (iV (zag r31)), (iV (wr (((((zag r31) % 18446744073709551616) + (get b r32).1) % 18446744073709551616)))), (iV (zag r31)), (iV (zag r31))], .blk g9 88 #[v_b, (iV ((get b r32).2.1)), (.bool (rbad r33 b r32))], rowT 45 aggE vo out] := hst
   have hI57 : stabIXs 8 [] D 0 [(kEq (.pointer (some ⟨g36, (0 + 3), none⟩))), (kEq (iV (zag r31))), (kEq (.int .u64 ((zag r31) % 18446744073709551616))), (kEq (.pointer (some ⟨g9, 0, none⟩))), (kEq (.int .u64 ((get b r32).1))), (kEq (.int .u64 ((((zag r31) % 18446744073709551616) + (get b r32).1) % 18446744073709551616))), (kEq (iV (wr (((((zag r31) % 18446744073709551616) + (get b r32).1) % 18446744073709551616))))), (kEq (.pointer (some ⟨g36, (0 + 4), none⟩))), kAny] := ⟨Or.inr (Or.inr (Or.inr iEq)), Or.inr (Or.inr (Or.inr iEq)), Or.inr (Or.inr (Or.inr iEq)), Or.inr (Or.inr (Or.inr iEq)), Or.inr (Or.inr (Or.inr iEq)), Or.inr (Or.inr (Or.inr iEq)), Or.inr (Or.inr (Or.inr iEq)), Or.inr (Or.inr (Or.inr iEq)), Or.inl rfl, trivial⟩
   refine ⟨by exact ⟨hst.sub (.cons _ (.cons _ (.cons_cons _ .slnil))), (fun y0 => absurd (show D 4 = false from y0) (by rw [(eD 4 (by kernel_rfl))]; decide)), (fun y0 y1 => absurd y1 (fun h => Bool.noConfusion h)), (fun y0 => hst.sub (.cons_cons _ (.cons_cons _ (.cons_cons _ .slnil))))⟩, by exact trivial, kX [] hI57 ?_⟩
   intro j d hj; cases hj
  intro ρ58 w59 Dw59 hallw59 hJw59 hRw59 hkw59
  have hst : St w0 w59 [.blk g36 45 #[(iV F), (iV (wr ((wr (r27)) + 1))), (iV (zag r31)), (iV (zag r31)), (iV (wr (((((zag r31) % 18446744073709551616) + (get b r32).1) % 18446744073709551616)))), (iV (zag r31)), (iV (zag r31))], .blk g9 88 #[v_b, (iV ((get b r32).2.1)), (.bool (rbad r33 b r32))], rowT 45 aggE vo out] := hJw59.2.2.2 (hallw59 8 (show 8 < 9 from by decide))
  have uw59_0 : ρ58 0 = v_b := (hkw59 0 rfl).trans q12_0
  have uw59_1 : ρ58 1 = (iV k) := (hkw59 1 rfl).trans q12_1
  have uw59_4 : ρ58 4 = nS := (hkw59 4 rfl).trans q12_4
  have uw59_5 : ρ58 5 = (iV 0) := (hkw59 5 rfl).trans q12_5
  have uw59_6 : ρ58 6 = (.pointer (some ⟨g9, 0, none⟩)) := (hkw59 6 rfl).trans q12_6
  have uw59_22 : ρ58 22 = (iV (cntV b 0 64)) := (hkw59 22 rfl).trans q12_22
  have uw59_7 : ρ58 7 = vo := (hkw59 7 rfl).trans q12_7
  have uw59_8 : ρ58 8 = (iV (wr ((wr (at_ + 1)) + (wr (r22))))) := (hkw59 8 rfl).trans rfl
  have uw59_23 : ρ58 23 = (iV (i : Int)) := (hkw59 23 rfl).trans q12_23
  have uw59_24 : ρ58 24 = (.bool (decide ((i : Int) < (cntV b 0 64)))) := (hkw59 24 rfl).trans rfl
  have uw59_25 : ρ58 25 = (.pointer (some ⟨g9, 0, none⟩)) := (hkw59 25 rfl).trans rfl
  have uw59_26 : ρ58 26 = (.pointer (some ⟨g9, 0, none⟩)) := (hkw59 26 rfl).trans rfl
  have uw59_27 : ρ58 27 = (.pointer (some ⟨g9, (0 + 2), none⟩)) := (hkw59 27 rfl).trans rfl
  have uw59_28 : ρ58 28 = (.bool bad) := (hkw59 28 rfl).trans rfl
  have uw59_29 : ρ58 29 = (iV at_) := (hkw59 29 rfl).trans rfl
  have uw59_30 : ρ58 30 = (iV (wr (at_ + 1))) := (hkw59 30 rfl).trans rfl
  have uw59_31 : ρ58 31 = (.pointer (some ⟨g9, 0, none⟩)) := (hkw59 31 rfl).trans rfl
  have uw59_32 : ρ58 32 = (.int .u64 r22) := (hkw59 32 rfl).trans rfl
  have uw59_33 : ρ58 33 = (iV (wr (r22))) := (hkw59 33 rfl).trans rfl
  have uw59_34 : ρ58 34 = (iV (wr ((wr (at_ + 1)) + (wr (r22))))) := (hkw59 34 rfl).trans rfl
  have uw59_35 : ρ58 35 = (iV (wr ((wr (at_ + 1)) + (wr (r22))))) := (hkw59 35 rfl).trans rfl
  have uw59_36 : ρ58 36 = (iV k) := (hkw59 36 rfl).trans rfl
  have uw59_37 : ρ58 37 = (iV (widthA k)) := (hkw59 37 rfl).trans rfl
  have uw59_38 : ρ58 38 = (iV F) := (hkw59 38 rfl).trans rfl
  have uw59_39 : ρ58 39 = (.pointer (some ⟨g9, 0, none⟩)) := (hkw59 39 rfl).trans rfl
  have uw59_40 : ρ58 40 = (.int .u64 r27) := (hkw59 40 rfl).trans rfl
  have uw59_41 : ρ58 41 = (iV (wr (r27))) := (hkw59 41 rfl).trans rfl
  have uw59_42 : ρ58 42 = (iV (wr ((wr (r27)) + 1))) := (hkw59 42 rfl).trans rfl
  have uw59_43 : ρ58 43 = (.pointer (some ⟨g9, 0, none⟩)) := (hkw59 43 rfl).trans rfl
  have uw59_44 : ρ58 44 = (.int .u64 r31) := (hkw59 44 rfl).trans rfl
  have uw59_45 : ρ58 45 = (iV (zag r31)) := (hkw59 45 rfl).trans rfl
  have uw59_46 : ρ58 46 = (.agg #[(iV F), (iV (wr ((wr (r27)) + 1))), (iV 0), (iV (zag r31)), (iV 0), (iV 0), (iV 0)]) := (hkw59 46 rfl).trans rfl
  have uw59_9 : ρ58 9 = (.pointer (some ⟨g36, 0, none⟩)) := (hkw59 9 rfl).trans rfl
  have uw59_47 : ρ58 47 = (.pointer (some ⟨g36, (0 + 3), none⟩)) := (hkw59 47 rfl).trans rfl
  have uw59_48 : ρ58 48 = (iV (zag r31)) := (hkw59 48 rfl).trans rfl
  have uw59_49 : ρ58 49 = (.pointer (some ⟨g36, (0 + 3), none⟩)) := (hkw59 49 rfl).trans rfl
  have uw59_50 : ρ58 50 = (iV (zag r31)) := (hkw59 50 rfl).trans rfl
  have uw59_51 : ρ58 51 = (.pointer (some ⟨g36, (0 + 3), none⟩)) := (hkw59 51 rfl).trans rfl
  have uw59_52 : ρ58 52 = (iV (zag r31)) := (hkw59 52 rfl).trans rfl
  have uw59_53 : ρ58 53 = (.pointer (some ⟨g36, (0 + 3), none⟩)) := (hkw59 53 rfl).trans rfl
  have uw59_54 : ρ58 54 = (iV (zag r31)) := (hkw59 54 rfl).trans rfl
  have uw59_55 : ρ58 55 = (.pointer (some ⟨g36, (0 + 2), none⟩)) := (hkw59 55 rfl).trans rfl
  have uw59_56 : ρ58 56 = (.pointer (some ⟨g36, (0 + 4), none⟩)) := (hkw59 56 rfl).trans rfl
  have uw59_57 : ρ58 57 = (.pointer (some ⟨g36, (0 + 5), none⟩)) := (hkw59 57 rfl).trans rfl
  have uw59_58 : ρ58 58 = (.pointer (some ⟨g36, (0 + 6), none⟩)) := (hkw59 58 rfl).trans rfl
  have uw59_59 : ρ58 59 = (.pointer (some ⟨g36, (0 + 1), none⟩)) := (hkw59 59 rfl).trans rfl
  have uw59_60 : ρ58 60 = (iV (wr ((wr (r27)) + 1))) := (hkw59 60 rfl).trans rfl
  have uw59_61 : ρ58 61 = (.bool (!decide ((wr ((wr (r27)) + 1)) = 1))) := (hkw59 61 rfl).trans rfl
  refine then_n (cE_seq (cE_region rfl (s_cons (op_move (.pointer (some ⟨g9, 0, none⟩)) uw59_6 ?_))))
  replace hst : St w0 w59 [.blk g9 88 #[v_b, (iV ((get b r32).2.1)), (.bool (rbad r33 b r32))], .blk g36 45 #[(iV F), (iV (wr ((wr (r27)) + 1))), (iV (zag r31)), (iV (zag r31)), (iV (wr (((((zag r31) % 18446744073709551616) + (get b r32).1) % 18446744073709551616)))), (iV (zag r31)), (iV (zag r31))], rowT 45 aggE vo out] := hst.front 1 rfl
  refine s_cons (op_call Tryd.call47 (evs_cons (v := (.pointer (some ⟨g9, 0, none⟩))) rfl evs_nil) (c_kNextE (g_r := g9) (v_b := v_b) (b := b) (h_b := h_b) (at_ := (get b r32).2.1) (bad := (rbad r33 b r32)) (hl := hl) (hst := hst)) ?_)
  rintro _ w63 ⟨r60, r61, r62, rfl, hcall, kNextE_hn, kNextE_hp, kNextE_hd⟩
  refine ⟨_, rfl, ?_⟩
  have hst : St w0 w63 [.blk g9 88 #[v_b, (iV r61), (.bool r62)], .blk g36 45 #[(iV F), (iV (wr ((wr (r27)) + 1))), (iV (zag r31)), (iV (zag r31)), (iV (wr (((((zag r31) % 18446744073709551616) + (get b r32).1) % 18446744073709551616)))), (iV (zag r31)), (iV (zag r31))], rowT 45 aggE vo out] := hcall
  refine s_cons (op_call Tryd.call48 (evs_cons (v := (.int .u64 r60)) rfl evs_nil) (c_Zag (w0 := w63) (n := r60) (h0 := (gnE (by assumption)).1) (h1 := (gnE (by assumption)).2)) ?_)
  rintro _ w64 ⟨rfl, hcall⟩
  refine ⟨_, rfl, ?_⟩
  have hst : St w0 w64 [.blk g9 88 #[v_b, (iV r61), (.bool r62)], .blk g36 45 #[(iV F), (iV (wr ((wr (r27)) + 1))), (iV (zag r31)), (iV (zag r31)), (iV (wr (((((zag r31) % 18446744073709551616) + (get b r32).1) % 18446744073709551616)))), (iV (zag r31)), (iV (zag r31))], rowT 45 aggE vo out] := hst.call hcall
  refine s_cons (op_fieldAddr (s := 0) Tryd.underlying45 rfl rfl Tryd.sizeOf2 uw59_9 (s_cons0 (op_store1 hst 1 rfl Tryd.sizeOf2 rfl rfl rfl (show 2 < 7 from by decide) (fun w65 hst => ?_))))
  replace hst : St w0 w65 [.blk g9 88 #[v_b, (iV r61), (.bool r62)], .blk g36 45 #[(iV F), (iV (wr ((wr (r27)) + 1))), (iV (zag r60)), (iV (zag r31)), (iV (wr (((((zag r31) % 18446744073709551616) + (get b r32).1) % 18446744073709551616)))), (iV (zag r31)), (iV (zag r31))], rowT 45 aggE vo out] := hst
  refine s_nil (then_n (cE_seq (cE_regionM (fun (D : Nat → Bool) (w : World) => St w0 w [rowT 45 aggE vo out] ∧ (D 4 = false → St w0 w [.blk g9 88 #[v_b, (iV r61), (.bool r62)], .blk g36 45 #[(iV F), (iV (wr ((wr (r27)) + 1))), (iV (zag r60)), (iV (zag r31)), (iV (wr (((((zag r31) % 18446744073709551616) + (get b r32).1) % 18446744073709551616)))), (iV (zag r31)), (iV (zag r31))], rowT 45 aggE vo out]) ∧ (D 4 = true → D 8 = false → St w0 w [.blk g9 88 #[v_b, (iV ((get b r61).2.1)), (.bool (rbad r62 b r61))], .blk g36 45 #[(iV F), (iV (wr ((wr (r27)) + 1))), (iV (zag r60)), (iV (zag r31)), (iV (wr (((((zag r31) % 18446744073709551616) + (get b r32).1) % 18446744073709551616)))), (iV (zag r31)), (iV (zag r31))], rowT 45 aggE vo out]) ∧ (D 8 = true → St w0 w [.blk g9 88 #[v_b, (iV ((get b r61).2.1)), (.bool (rbad r62 b r61))], .blk g36 45 #[(iV F), (iV (wr ((wr (r27)) + 1))), (iV (zag r60)), (iV (zag r31)), (iV (wr (((((zag r31) % 18446744073709551616) + (get b r32).1) % 18446744073709551616)))), (iV (wr (((((zag r31) % 18446744073709551616) + (get b r61).1) % 18446744073709551616)))), (iV (zag r31))], rowT 45 aggE vo out])) [[(9, none)], [(74, some 0)], [(75, some 1)], [(6, none)], [(77, some 3)], [(76, some 2), (78, some 4)], [(79, some 5)], [(9, none)], [(81, some 7), (80, some 6)]] [4, 8] [(kEq (.pointer (some ⟨g36, (0 + 3), none⟩))), (kEq (iV (zag r31))), (kEq (.int .u64 ((zag r31) % 18446744073709551616))), (kEq (.pointer (some ⟨g9, 0, none⟩))), (kEq (.int .u64 ((get b r61).1))), (kEq (.int .u64 ((((zag r31) % 18446744073709551616) + (get b r61).1) % 18446744073709551616))), (kEq (iV (wr (((((zag r31) % 18446744073709551616) + (get b r61).1) % 18446744073709551616))))), (kEq (.pointer (some ⟨g36, (0 + 5), none⟩))), kAny] ⟨mEq, mEq, mEq, mEq, mEq, mEq, mEq, mEq, mAny, trivial⟩ (by kernel_rfl) rfl (by kernel_rfl) ⟨hst.drewW.sub (.cons _ (.cons _ (.cons_cons _ .slnil))), (fun _ => hst.drewW), (fun h => absurd h Bool.false_ne_true), (fun h => absurd h Bool.false_ne_true)⟩ (fun hM => ⟨?_, ?_, ?_, ?_, ?_, ?_, ?_, ?_, ?_, trivial⟩) ?_)))
  ·rintro D ρo wo nD eD cD jD aD ⟨f9, _⟩
   exact go_plain (op_fieldAddr (s := 0) Tryd.underlying45 rfl rfl Tryd.sizeOf2 (f9.trans uw59_9) (kN0 (i := 0) hM (by decide) (by exact jD) (by exact rfl)))
  ·rintro D ρo wo nD eD cD jD aD ⟨f74, _⟩
   rcases Bool.eq_false_or_eq_true (D 4) with hY69 | hY69
   ·have hst := jD.2.2.1 hY69 (not_yet nD (fun hm => (cD 8 1 hm (by kernel_rfl))))
    replace hst : St w0 wo [.blk g9 88 #[v_b, (iV ((get b r61).2.1)), (.bool (rbad r62 b r61))], .blk g36 45 #[(iV F), (iV (wr ((wr (r27)) + 1))), (iV (zag r60)), (iV (zag r31)), (iV (wr (((((zag r31) % 18446744073709551616) + (get b r32).1) % 18446744073709551616)))), (iV (zag r31)), (iV (zag r31))], rowT 45 aggE vo out] := hst
    exact go_plain (op_load1 (u := (iV (zag r31))) Tryd.isAgg2 f74 ((hst.cell 1 rfl).drop 3) (kN0 (i := 1) hM (by decide) (by exact jD) (by exact rfl)))
   ·have hst := jD.2.1 hY69
    replace hst : St w0 wo [.blk g9 88 #[v_b, (iV r61), (.bool r62)], .blk g36 45 #[(iV F), (iV (wr ((wr (r27)) + 1))), (iV (zag r60)), (iV (zag r31)), (iV (wr (((((zag r31) % 18446744073709551616) + (get b r32).1) % 18446744073709551616)))), (iV (zag r31)), (iV (zag r31))], rowT 45 aggE vo out] := hst
    exact go_plain (op_load1 (u := (iV (zag r31))) Tryd.isAgg2 f74 ((hst.cell 1 rfl).drop 3) (kN0 (i := 1) hM (by decide) (by exact jD) (by exact rfl)))
  ·rintro D ρo wo nD eD cD jD aD ⟨f75, _⟩
   exact go_plain (op_conv (k := .i64) (a := (zag r31)) ((zag r31) % 18446744073709551616) Tryd.underlying54 (by rw [Tryd.underlying2]; rfl) f75 (IntKind.wrap_u64 _) (kN0 (i := 2) hM (by decide) (by exact jD) (by exact rfl)))
  ·rintro D ρo wo nD eD cD jD aD ⟨f6, _⟩
   exact go_plain (op_move (.pointer (some ⟨g9, 0, none⟩)) (f6.trans uw59_6) (kN0 (i := 3) hM (by decide) (by exact jD) (by exact rfl)))
  ·rintro D ρo wo nD eD cD jD aD ⟨f77, _⟩
   have hst := jD.2.1 nD
   replace hst : St w0 wo [.blk g9 88 #[v_b, (iV r61), (.bool r62)], .blk g36 45 #[(iV F), (iV (wr ((wr (r27)) + 1))), (iV (zag r60)), (iV (zag r31)), (iV (wr (((((zag r31) % 18446744073709551616) + (get b r32).1) % 18446744073709551616)))), (iV (zag r31)), (iV (zag r31))], rowT 45 aggE vo out] := hst
   refine go_plain (op_call Tryd.call47 (evs_cons (v := (.pointer (some ⟨g9, 0, none⟩))) f77 evs_nil) (c_kNext (g_r := g9) (v_b := v_b) (b := b) (h_b := h_b) (at_ := r61) (bad := r62) (hl := hl) (hst := hst)) ?_)
   rintro _ w70 ⟨rfl, hcall⟩
   refine ⟨_, rfl, ?_⟩
   have hst : St w0 w70 [.blk g9 88 #[v_b, (iV ((get b r61).2.1)), (.bool (rbad r62 b r61))], .blk g36 45 #[(iV F), (iV (wr ((wr (r27)) + 1))), (iV (zag r60)), (iV (zag r31)), (iV (wr (((((zag r31) % 18446744073709551616) + (get b r32).1) % 18446744073709551616)))), (iV (zag r31)), (iV (zag r31))], rowT 45 aggE vo out] := hcall
   have hI71 : stabIXs 4 [] D 0 [(kEq (.pointer (some ⟨g36, (0 + 3), none⟩))), (kEq (iV (zag r31))), (kEq (.int .u64 ((zag r31) % 18446744073709551616))), (kEq (.pointer (some ⟨g9, 0, none⟩))), (kEq (.int .u64 ((get b r61).1))), (kEq (.int .u64 ((((zag r31) % 18446744073709551616) + (get b r61).1) % 18446744073709551616))), (kEq (iV (wr (((((zag r31) % 18446744073709551616) + (get b r61).1) % 18446744073709551616))))), (kEq (.pointer (some ⟨g36, (0 + 5), none⟩))), kAny] := ⟨Or.inr (Or.inr (Or.inr iEq)), Or.inr (Or.inr (Or.inr iEq)), Or.inr (Or.inr (Or.inr iEq)), Or.inr (Or.inr (Or.inr iEq)), Or.inl rfl, Or.inr (Or.inr (Or.inl (not_yet nD (fun hm => (cD 5 4 hm (by kernel_rfl)))))), Or.inr (Or.inr (Or.inl (not_yet nD (fun hm => (cD 5 4 (cD 6 5 hm (by kernel_rfl)) (by kernel_rfl)))))), Or.inr (Or.inr (Or.inl (not_yet nD (fun hm => (cD 7 4 hm (by kernel_rfl)))))), Or.inr (Or.inr (Or.inl (not_yet nD (fun hm => (cD 8 4 hm (by kernel_rfl)))))), trivial⟩
   refine ⟨by exact ⟨hst.sub (.cons _ (.cons _ (.cons_cons _ .slnil))), (fun y0 => absurd y0 (fun h => Bool.noConfusion h)), (fun y0 y1 => hst.sub (.cons_cons _ (.cons_cons _ (.cons_cons _ .slnil)))), (fun y0 => absurd (show D 8 = true from y0) (by rw [(not_yet nD (fun hm => (cD 8 4 hm (by kernel_rfl))))]; decide))⟩, by exact rfl, kX [] hI71 ?_⟩
   intro j d hj; cases hj
  ·rintro D ρo wo nD eD cD jD aD ⟨f76, f78, _⟩
   exact go_plain (op_add (k := .u64) (a := ((zag r31) % 18446744073709551616)) (b := (get b r61).1) ((((zag r31) % 18446744073709551616) + (get b r61).1) % 18446744073709551616) f76 f78 (IntKind.wrap_u64 _) (kN0 (i := 5) hM (by decide) (by exact jD) (by exact rfl)))
  ·rintro D ρo wo nD eD cD jD aD ⟨f79, _⟩
   exact go_plain (op_conv (k := .u64) (a := ((((zag r31) % 18446744073709551616) + (get b r61).1) % 18446744073709551616)) (wr (((((zag r31) % 18446744073709551616) + (get b r61).1) % 18446744073709551616))) Tryd.underlying2 (by rw [Tryd.underlying54]; rfl) f79 rfl (kN0 (i := 6) hM (by decide) (by exact jD) (by exact rfl)))
  ·rintro D ρo wo nD eD cD jD aD ⟨f9, _⟩
   exact go_plain (op_fieldAddr (s := 0) Tryd.underlying45 rfl rfl Tryd.sizeOf2 (f9.trans uw59_9) (kN0 (i := 7) hM (by decide) (by exact jD) (by exact rfl)))
  ·rintro D ρo wo nD eD cD jD aD ⟨f81, f80, _⟩
   have hst := jD.2.2.1 (eD 4 (by kernel_rfl)) nD
   replace hst : St w0 wo [.blk g9 88 #[v_b, (iV ((get b r61).2.1)), (.bool (rbad r62 b r61))], .blk g36 45 #[(iV F), (iV (wr ((wr (r27)) + 1))), (iV (zag r60)), (iV (zag r31)), (iV (wr (((((zag r31) % 18446744073709551616) + (get b r32).1) % 18446744073709551616)))), (iV (zag r31)), (iV (zag r31))], rowT 45 aggE vo out] := hst
   refine go_plain (op_store1 hst 1 rfl Tryd.sizeOf2 f81 f80 rfl (show 5 < 7 from by decide) (fun w72 hst => ?_))
   replace hst : St w0 w72 [.blk g9 88 #[v_b, (iV ((get b r61).2.1)), (.bool (rbad r62 b r61))], .blk g36 45 #[(iV F), (iV (wr ((wr (r27)) + 1))), (iV (zag r60)), (iV (zag r31)), (iV (wr (((((zag r31) % 18446744073709551616) + (get b r32).1) % 18446744073709551616)))), (iV (wr (((((zag r31) % 18446744073709551616) + (get b r61).1) % 18446744073709551616)))), (iV (zag r31))], rowT 45 aggE vo out] := hst
   have hI73 : stabIXs 8 [] D 0 [(kEq (.pointer (some ⟨g36, (0 + 3), none⟩))), (kEq (iV (zag r31))), (kEq (.int .u64 ((zag r31) % 18446744073709551616))), (kEq (.pointer (some ⟨g9, 0, none⟩))), (kEq (.int .u64 ((get b r61).1))), (kEq (.int .u64 ((((zag r31) % 18446744073709551616) + (get b r61).1) % 18446744073709551616))), (kEq (iV (wr (((((zag r31) % 18446744073709551616) + (get b r61).1) % 18446744073709551616))))), (kEq (.pointer (some ⟨g36, (0 + 5), none⟩))), kAny] := ⟨Or.inr (Or.inr (Or.inr iEq)), Or.inr (Or.inr (Or.inr iEq)), Or.inr (Or.inr (Or.inr iEq)), Or.inr (Or.inr (Or.inr iEq)), Or.inr (Or.inr (Or.inr iEq)), Or.inr (Or.inr (Or.inr iEq)), Or.inr (Or.inr (Or.inr iEq)), Or.inr (Or.inr (Or.inr iEq)), Or.inl rfl, trivial⟩
   refine ⟨by exact ⟨hst.sub (.cons _ (.cons _ (.cons_cons _ .slnil))), (fun y0 => absurd (show D 4 = false from y0) (by rw [(eD 4 (by kernel_rfl))]; decide)), (fun y0 y1 => absurd y1 (fun h => Bool.noConfusion h)), (fun y0 => hst.sub (.cons_cons _ (.cons_cons _ (.cons_cons _ .slnil))))⟩, by exact trivial, kX [] hI73 ?_⟩
   intro j d hj; cases hj
  intro ρ74 w75 Dw75 hallw75 hJw75 hRw75 hkw75
  have hst : St w0 w75 [.blk g9 88 #[v_b, (iV ((get b r61).2.1)), (.bool (rbad r62 b r61))], .blk g36 45 #[(iV F), (iV (wr ((wr (r27)) + 1))), (iV (zag r60)), (iV (zag r31)), (iV (wr (((((zag r31) % 18446744073709551616) + (get b r32).1) % 18446744073709551616)))), (iV (wr (((((zag r31) % 18446744073709551616) + (get b r61).1) % 18446744073709551616)))), (iV (zag r31))], rowT 45 aggE vo out] := hJw75.2.2.2 (hallw75 8 (show 8 < 9 from by decide))
  have uw75_0 : ρ74 0 = v_b := (hkw75 0 rfl).trans uw59_0
  have uw75_1 : ρ74 1 = (iV k) := (hkw75 1 rfl).trans uw59_1
  have uw75_4 : ρ74 4 = nS := (hkw75 4 rfl).trans uw59_4
  have uw75_5 : ρ74 5 = (iV 0) := (hkw75 5 rfl).trans uw59_5
  have uw75_6 : ρ74 6 = (.pointer (some ⟨g9, 0, none⟩)) := (hkw75 6 rfl).trans uw59_6
  have uw75_22 : ρ74 22 = (iV (cntV b 0 64)) := (hkw75 22 rfl).trans uw59_22
  have uw75_7 : ρ74 7 = vo := (hkw75 7 rfl).trans uw59_7
  have uw75_8 : ρ74 8 = (iV (wr ((wr (at_ + 1)) + (wr (r22))))) := (hkw75 8 rfl).trans uw59_8
  have uw75_23 : ρ74 23 = (iV (i : Int)) := (hkw75 23 rfl).trans uw59_23
  have uw75_24 : ρ74 24 = (.bool (decide ((i : Int) < (cntV b 0 64)))) := (hkw75 24 rfl).trans uw59_24
  have uw75_25 : ρ74 25 = (.pointer (some ⟨g9, 0, none⟩)) := (hkw75 25 rfl).trans uw59_25
  have uw75_26 : ρ74 26 = (.pointer (some ⟨g9, 0, none⟩)) := (hkw75 26 rfl).trans uw59_26
  have uw75_27 : ρ74 27 = (.pointer (some ⟨g9, (0 + 2), none⟩)) := (hkw75 27 rfl).trans uw59_27
  have uw75_28 : ρ74 28 = (.bool bad) := (hkw75 28 rfl).trans uw59_28
  have uw75_29 : ρ74 29 = (iV at_) := (hkw75 29 rfl).trans uw59_29
  have uw75_30 : ρ74 30 = (iV (wr (at_ + 1))) := (hkw75 30 rfl).trans uw59_30
  have uw75_31 : ρ74 31 = (.pointer (some ⟨g9, 0, none⟩)) := (hkw75 31 rfl).trans uw59_31
  have uw75_32 : ρ74 32 = (.int .u64 r22) := (hkw75 32 rfl).trans uw59_32
  have uw75_33 : ρ74 33 = (iV (wr (r22))) := (hkw75 33 rfl).trans uw59_33
  have uw75_34 : ρ74 34 = (iV (wr ((wr (at_ + 1)) + (wr (r22))))) := (hkw75 34 rfl).trans uw59_34
  have uw75_35 : ρ74 35 = (iV (wr ((wr (at_ + 1)) + (wr (r22))))) := (hkw75 35 rfl).trans uw59_35
  have uw75_36 : ρ74 36 = (iV k) := (hkw75 36 rfl).trans uw59_36
  have uw75_37 : ρ74 37 = (iV (widthA k)) := (hkw75 37 rfl).trans uw59_37
  have uw75_38 : ρ74 38 = (iV F) := (hkw75 38 rfl).trans uw59_38
  have uw75_39 : ρ74 39 = (.pointer (some ⟨g9, 0, none⟩)) := (hkw75 39 rfl).trans uw59_39
  have uw75_40 : ρ74 40 = (.int .u64 r27) := (hkw75 40 rfl).trans uw59_40
  have uw75_41 : ρ74 41 = (iV (wr (r27))) := (hkw75 41 rfl).trans uw59_41
  have uw75_42 : ρ74 42 = (iV (wr ((wr (r27)) + 1))) := (hkw75 42 rfl).trans uw59_42
  have uw75_43 : ρ74 43 = (.pointer (some ⟨g9, 0, none⟩)) := (hkw75 43 rfl).trans uw59_43
  have uw75_44 : ρ74 44 = (.int .u64 r31) := (hkw75 44 rfl).trans uw59_44
  have uw75_45 : ρ74 45 = (iV (zag r31)) := (hkw75 45 rfl).trans uw59_45
  have uw75_46 : ρ74 46 = (.agg #[(iV F), (iV (wr ((wr (r27)) + 1))), (iV 0), (iV (zag r31)), (iV 0), (iV 0), (iV 0)]) := (hkw75 46 rfl).trans uw59_46
  have uw75_9 : ρ74 9 = (.pointer (some ⟨g36, 0, none⟩)) := (hkw75 9 rfl).trans uw59_9
  have uw75_47 : ρ74 47 = (.pointer (some ⟨g36, (0 + 3), none⟩)) := (hkw75 47 rfl).trans uw59_47
  have uw75_48 : ρ74 48 = (iV (zag r31)) := (hkw75 48 rfl).trans uw59_48
  have uw75_49 : ρ74 49 = (.pointer (some ⟨g36, (0 + 3), none⟩)) := (hkw75 49 rfl).trans uw59_49
  have uw75_50 : ρ74 50 = (iV (zag r31)) := (hkw75 50 rfl).trans uw59_50
  have uw75_51 : ρ74 51 = (.pointer (some ⟨g36, (0 + 3), none⟩)) := (hkw75 51 rfl).trans uw59_51
  have uw75_52 : ρ74 52 = (iV (zag r31)) := (hkw75 52 rfl).trans uw59_52
  have uw75_53 : ρ74 53 = (.pointer (some ⟨g36, (0 + 3), none⟩)) := (hkw75 53 rfl).trans uw59_53
  have uw75_54 : ρ74 54 = (iV (zag r31)) := (hkw75 54 rfl).trans uw59_54
  have uw75_55 : ρ74 55 = (.pointer (some ⟨g36, (0 + 2), none⟩)) := (hkw75 55 rfl).trans uw59_55
  have uw75_56 : ρ74 56 = (.pointer (some ⟨g36, (0 + 4), none⟩)) := (hkw75 56 rfl).trans uw59_56
  have uw75_57 : ρ74 57 = (.pointer (some ⟨g36, (0 + 5), none⟩)) := (hkw75 57 rfl).trans uw59_57
  have uw75_58 : ρ74 58 = (.pointer (some ⟨g36, (0 + 6), none⟩)) := (hkw75 58 rfl).trans uw59_58
  have uw75_59 : ρ74 59 = (.pointer (some ⟨g36, (0 + 1), none⟩)) := (hkw75 59 rfl).trans uw59_59
  have uw75_60 : ρ74 60 = (iV (wr ((wr (r27)) + 1))) := (hkw75 60 rfl).trans uw59_60
  have uw75_61 : ρ74 61 = (.bool (!decide ((wr ((wr (r27)) + 1)) = 1))) := (hkw75 61 rfl).trans uw59_61
  have uw75_70 : ρ74 70 = (.pointer (some ⟨g9, 0, none⟩)) := (hkw75 70 rfl).trans rfl
  have uw75_71 : ρ74 71 = (.int .u64 r60) := (hkw75 71 rfl).trans rfl
  have uw75_72 : ρ74 72 = (iV (zag r60)) := (hkw75 72 rfl).trans rfl
  have uw75_73 : ρ74 73 = (.pointer (some ⟨g36, (0 + 2), none⟩)) := (hkw75 73 rfl).trans rfl
  refine then_n (cE_regionM (fun (D : Nat → Bool) (w : World) => St w0 w [rowT 45 aggE vo out] ∧ (D 4 = false → St w0 w [.blk g9 88 #[v_b, (iV ((get b r61).2.1)), (.bool (rbad r62 b r61))], .blk g36 45 #[(iV F), (iV (wr ((wr (r27)) + 1))), (iV (zag r60)), (iV (zag r31)), (iV (wr (((((zag r31) % 18446744073709551616) + (get b r32).1) % 18446744073709551616)))), (iV (wr (((((zag r31) % 18446744073709551616) + (get b r61).1) % 18446744073709551616)))), (iV (zag r31))], rowT 45 aggE vo out]) ∧ (D 4 = true → D 8 = false → St w0 w [.blk g9 88 #[v_b, (iV ((get b ((get b r61).2.1)).2.1)), (.bool (rbad (rbad r62 b r61) b ((get b r61).2.1)))], .blk g36 45 #[(iV F), (iV (wr ((wr (r27)) + 1))), (iV (zag r60)), (iV (zag r31)), (iV (wr (((((zag r31) % 18446744073709551616) + (get b r32).1) % 18446744073709551616)))), (iV (wr (((((zag r31) % 18446744073709551616) + (get b r61).1) % 18446744073709551616)))), (iV (zag r31))], rowT 45 aggE vo out]) ∧ (D 8 = true → St w0 w [.blk g9 88 #[v_b, (iV ((get b ((get b r61).2.1)).2.1)), (.bool (rbad (rbad r62 b r61) b ((get b r61).2.1)))], .blk g36 45 #[(iV F), (iV (wr ((wr (r27)) + 1))), (iV (zag r60)), (iV (zag r31)), (iV (wr (((((zag r31) % 18446744073709551616) + (get b r32).1) % 18446744073709551616)))), (iV (wr (((((zag r31) % 18446744073709551616) + (get b r61).1) % 18446744073709551616)))), (iV (wr (((((zag r31) % 18446744073709551616) + (get b ((get b r61).2.1)).1) % 18446744073709551616))))], rowT 45 aggE vo out])) [[(9, none)], [(82, some 0)], [(83, some 1)], [(6, none)], [(85, some 3)], [(84, some 2), (86, some 4)], [(87, some 5)], [(9, none)], [(89, some 7), (88, some 6)]] [4, 8] [(kEq (.pointer (some ⟨g36, (0 + 3), none⟩))), (kEq (iV (zag r31))), (kEq (.int .u64 ((zag r31) % 18446744073709551616))), (kEq (.pointer (some ⟨g9, 0, none⟩))), (kEq (.int .u64 ((get b ((get b r61).2.1)).1))), (kEq (.int .u64 ((((zag r31) % 18446744073709551616) + (get b ((get b r61).2.1)).1) % 18446744073709551616))), (kEq (iV (wr (((((zag r31) % 18446744073709551616) + (get b ((get b r61).2.1)).1) % 18446744073709551616))))), (kEq (.pointer (some ⟨g36, (0 + 6), none⟩))), kAny] ⟨mEq, mEq, mEq, mEq, mEq, mEq, mEq, mEq, mAny, trivial⟩ (by kernel_rfl) rfl (by kernel_rfl) ⟨hst.drewW.sub (.cons _ (.cons _ (.cons_cons _ .slnil))), (fun _ => hst.drewW), (fun h => absurd h Bool.false_ne_true), (fun h => absurd h Bool.false_ne_true)⟩ (fun hM => ⟨?_, ?_, ?_, ?_, ?_, ?_, ?_, ?_, ?_, trivial⟩) ?_)
  ·rintro D ρo wo nD eD cD jD aD ⟨f9, _⟩
   exact go_plain (op_fieldAddr (s := 0) Tryd.underlying45 rfl rfl Tryd.sizeOf2 (f9.trans uw75_9) (kN0 (i := 0) hM (by decide) (by exact jD) (by exact rfl)))
  ·rintro D ρo wo nD eD cD jD aD ⟨f82, _⟩
   rcases Bool.eq_false_or_eq_true (D 4) with hY79 | hY79
   ·have hst := jD.2.2.1 hY79 (not_yet nD (fun hm => (cD 8 1 hm (by kernel_rfl))))
    replace hst : St w0 wo [.blk g9 88 #[v_b, (iV ((get b ((get b r61).2.1)).2.1)), (.bool (rbad (rbad r62 b r61) b ((get b r61).2.1)))], .blk g36 45 #[(iV F), (iV (wr ((wr (r27)) + 1))), (iV (zag r60)), (iV (zag r31)), (iV (wr (((((zag r31) % 18446744073709551616) + (get b r32).1) % 18446744073709551616)))), (iV (wr (((((zag r31) % 18446744073709551616) + (get b r61).1) % 18446744073709551616)))), (iV (zag r31))], rowT 45 aggE vo out] := hst
    exact go_plain (op_load1 (u := (iV (zag r31))) Tryd.isAgg2 f82 ((hst.cell 1 rfl).drop 3) (kN0 (i := 1) hM (by decide) (by exact jD) (by exact rfl)))
   ·have hst := jD.2.1 hY79
    replace hst : St w0 wo [.blk g9 88 #[v_b, (iV ((get b r61).2.1)), (.bool (rbad r62 b r61))], .blk g36 45 #[(iV F), (iV (wr ((wr (r27)) + 1))), (iV (zag r60)), (iV (zag r31)), (iV (wr (((((zag r31) % 18446744073709551616) + (get b r32).1) % 18446744073709551616)))), (iV (wr (((((zag r31) % 18446744073709551616) + (get b r61).1) % 18446744073709551616)))), (iV (zag r31))], rowT 45 aggE vo out] := hst
    exact go_plain (op_load1 (u := (iV (zag r31))) Tryd.isAgg2 f82 ((hst.cell 1 rfl).drop 3) (kN0 (i := 1) hM (by decide) (by exact jD) (by exact rfl)))
  ·rintro D ρo wo nD eD cD jD aD ⟨f83, _⟩
   exact go_plain (op_conv (k := .i64) (a := (zag r31)) ((zag r31) % 18446744073709551616) Tryd.underlying54 (by rw [Tryd.underlying2]; rfl) f83 (IntKind.wrap_u64 _) (kN0 (i := 2) hM (by decide) (by exact jD) (by exact rfl)))
  ·rintro D ρo wo nD eD cD jD aD ⟨f6, _⟩
   exact go_plain (op_move (.pointer (some ⟨g9, 0, none⟩)) (f6.trans uw75_6) (kN0 (i := 3) hM (by decide) (by exact jD) (by exact rfl)))
  ·rintro D ρo wo nD eD cD jD aD ⟨f85, _⟩
   have hst := jD.2.1 nD
   replace hst : St w0 wo [.blk g9 88 #[v_b, (iV ((get b r61).2.1)), (.bool (rbad r62 b r61))], .blk g36 45 #[(iV F), (iV (wr ((wr (r27)) + 1))), (iV (zag r60)), (iV (zag r31)), (iV (wr (((((zag r31) % 18446744073709551616) + (get b r32).1) % 18446744073709551616)))), (iV (wr (((((zag r31) % 18446744073709551616) + (get b r61).1) % 18446744073709551616)))), (iV (zag r31))], rowT 45 aggE vo out] := hst
   refine go_plain (op_call Tryd.call47 (evs_cons (v := (.pointer (some ⟨g9, 0, none⟩))) f85 evs_nil) (c_kNext (g_r := g9) (v_b := v_b) (b := b) (h_b := h_b) (at_ := (get b r61).2.1) (bad := (rbad r62 b r61)) (hl := hl) (hst := hst)) ?_)
   rintro _ w80 ⟨rfl, hcall⟩
   refine ⟨_, rfl, ?_⟩
   have hst : St w0 w80 [.blk g9 88 #[v_b, (iV ((get b ((get b r61).2.1)).2.1)), (.bool (rbad (rbad r62 b r61) b ((get b r61).2.1)))], .blk g36 45 #[(iV F), (iV (wr ((wr (r27)) + 1))), (iV (zag r60)), (iV (zag r31)), (iV (wr (((((zag r31) % 18446744073709551616) + (get b r32).1) % 18446744073709551616)))), (iV (wr (((((zag r31) % 18446744073709551616) + (get b r61).1) % 18446744073709551616)))), (iV (zag r31))], rowT 45 aggE vo out] := hcall
   have hI81 : stabIXs 4 [] D 0 [(kEq (.pointer (some ⟨g36, (0 + 3), none⟩))), (kEq (iV (zag r31))), (kEq (.int .u64 ((zag r31) % 18446744073709551616))), (kEq (.pointer (some ⟨g9, 0, none⟩))), (kEq (.int .u64 ((get b ((get b r61).2.1)).1))), (kEq (.int .u64 ((((zag r31) % 18446744073709551616) + (get b ((get b r61).2.1)).1) % 18446744073709551616))), (kEq (iV (wr (((((zag r31) % 18446744073709551616) + (get b ((get b r61).2.1)).1) % 18446744073709551616))))), (kEq (.pointer (some ⟨g36, (0 + 6), none⟩))), kAny] := ⟨Or.inr (Or.inr (Or.inr iEq)), Or.inr (Or.inr (Or.inr iEq)), Or.inr (Or.inr (Or.inr iEq)), Or.inr (Or.inr (Or.inr iEq)), Or.inl rfl, Or.inr (Or.inr (Or.inl (not_yet nD (fun hm => (cD 5 4 hm (by kernel_rfl)))))), Or.inr (Or.inr (Or.inl (not_yet nD (fun hm => (cD 5 4 (cD 6 5 hm (by kernel_rfl)) (by kernel_rfl)))))), Or.inr (Or.inr (Or.inl (not_yet nD (fun hm => (cD 7 4 hm (by kernel_rfl)))))), Or.inr (Or.inr (Or.inl (not_yet nD (fun hm => (cD 8 4 hm (by kernel_rfl)))))), trivial⟩
   refine ⟨by exact ⟨hst.sub (.cons _ (.cons _ (.cons_cons _ .slnil))), (fun y0 => absurd y0 (fun h => Bool.noConfusion h)), (fun y0 y1 => hst.sub (.cons_cons _ (.cons_cons _ (.cons_cons _ .slnil)))), (fun y0 => absurd (show D 8 = true from y0) (by rw [(not_yet nD (fun hm => (cD 8 4 hm (by kernel_rfl))))]; decide))⟩, by exact rfl, kX [] hI81 ?_⟩
   intro j d hj; cases hj
  ·rintro D ρo wo nD eD cD jD aD ⟨f84, f86, _⟩
   exact go_plain (op_add (k := .u64) (a := ((zag r31) % 18446744073709551616)) (b := (get b ((get b r61).2.1)).1) ((((zag r31) % 18446744073709551616) + (get b ((get b r61).2.1)).1) % 18446744073709551616) f84 f86 (IntKind.wrap_u64 _) (kN0 (i := 5) hM (by decide) (by exact jD) (by exact rfl)))
  ·rintro D ρo wo nD eD cD jD aD ⟨f87, _⟩
   exact go_plain (op_conv (k := .u64) (a := ((((zag r31) % 18446744073709551616) + (get b ((get b r61).2.1)).1) % 18446744073709551616)) (wr (((((zag r31) % 18446744073709551616) + (get b ((get b r61).2.1)).1) % 18446744073709551616))) Tryd.underlying2 (by rw [Tryd.underlying54]; rfl) f87 rfl (kN0 (i := 6) hM (by decide) (by exact jD) (by exact rfl)))
  ·rintro D ρo wo nD eD cD jD aD ⟨f9, _⟩
   exact go_plain (op_fieldAddr (s := 0) Tryd.underlying45 rfl rfl Tryd.sizeOf2 (f9.trans uw75_9) (kN0 (i := 7) hM (by decide) (by exact jD) (by exact rfl)))
  ·rintro D ρo wo nD eD cD jD aD ⟨f89, f88, _⟩
   have hst := jD.2.2.1 (eD 4 (by kernel_rfl)) nD
   replace hst : St w0 wo [.blk g9 88 #[v_b, (iV ((get b ((get b r61).2.1)).2.1)), (.bool (rbad (rbad r62 b r61) b ((get b r61).2.1)))], .blk g36 45 #[(iV F), (iV (wr ((wr (r27)) + 1))), (iV (zag r60)), (iV (zag r31)), (iV (wr (((((zag r31) % 18446744073709551616) + (get b r32).1) % 18446744073709551616)))), (iV (wr (((((zag r31) % 18446744073709551616) + (get b r61).1) % 18446744073709551616)))), (iV (zag r31))], rowT 45 aggE vo out] := hst
   refine go_plain (op_store1 hst 1 rfl Tryd.sizeOf2 f89 f88 rfl (show 6 < 7 from by decide) (fun w82 hst => ?_))
   replace hst : St w0 w82 [.blk g9 88 #[v_b, (iV ((get b ((get b r61).2.1)).2.1)), (.bool (rbad (rbad r62 b r61) b ((get b r61).2.1)))], .blk g36 45 #[(iV F), (iV (wr ((wr (r27)) + 1))), (iV (zag r60)), (iV (zag r31)), (iV (wr (((((zag r31) % 18446744073709551616) + (get b r32).1) % 18446744073709551616)))), (iV (wr (((((zag r31) % 18446744073709551616) + (get b r61).1) % 18446744073709551616)))), (iV (wr (((((zag r31) % 18446744073709551616) + (get b ((get b r61).2.1)).1) % 18446744073709551616))))], rowT 45 aggE vo out] := hst
   have hI83 : stabIXs 8 [] D 0 [(kEq (.pointer (some ⟨g36, (0 + 3), none⟩))), (kEq (iV (zag r31))), (kEq (.int .u64 ((zag r31) % 18446744073709551616))), (kEq (.pointer (some ⟨g9, 0, none⟩))), (kEq (.int .u64 ((get b ((get b r61).2.1)).1))), (kEq (.int .u64 ((((zag r31) % 18446744073709551616) + (get b ((get b r61).2.1)).1) % 18446744073709551616))), (kEq (iV (wr (((((zag r31) % 18446744073709551616) + (get b ((get b r61).2.1)).1) % 18446744073709551616))))), (kEq (.pointer (some ⟨g36, (0 + 6), none⟩))), kAny] := ⟨Or.inr (Or.inr (Or.inr iEq)), Or.inr (Or.inr (Or.inr iEq)), Or.inr (Or.inr (Or.inr iEq)), Or.inr (Or.inr (Or.inr iEq)), Or.inr (Or.inr (Or.inr iEq)), Or.inr (Or.inr (Or.inr iEq)), Or.inr (Or.inr (Or.inr iEq)), Or.inr (Or.inr (Or.inr iEq)), Or.inl rfl, trivial⟩
   refine ⟨by exact ⟨hst.sub (.cons _ (.cons _ (.cons_cons _ .slnil))), (fun y0 => absurd (show D 4 = false from y0) (by rw [(eD 4 (by kernel_rfl))]; decide)), (fun y0 y1 => absurd y1 (fun h => Bool.noConfusion h)), (fun y0 => hst.sub (.cons_cons _ (.cons_cons _ (.cons_cons _ .slnil))))⟩, by exact trivial, kX [] hI83 ?_⟩
   intro j d hj; cases hj
  intro ρ84 w85 Dw85 hallw85 hJw85 hRw85 hkw85
  have hst : St w0 w85 [.blk g9 88 #[v_b, (iV ((get b ((get b r61).2.1)).2.1)), (.bool (rbad (rbad r62 b r61) b ((get b r61).2.1)))], .blk g36 45 #[(iV F), (iV (wr ((wr (r27)) + 1))), (iV (zag r60)), (iV (zag r31)), (iV (wr (((((zag r31) % 18446744073709551616) + (get b r32).1) % 18446744073709551616)))), (iV (wr (((((zag r31) % 18446744073709551616) + (get b r61).1) % 18446744073709551616)))), (iV (wr (((((zag r31) % 18446744073709551616) + (get b ((get b r61).2.1)).1) % 18446744073709551616))))], rowT 45 aggE vo out] := hJw85.2.2.2 (hallw85 8 (show 8 < 9 from by decide))
  have uw85_0 : ρ84 0 = v_b := (hkw85 0 rfl).trans uw75_0
  have uw85_1 : ρ84 1 = (iV k) := (hkw85 1 rfl).trans uw75_1
  have uw85_4 : ρ84 4 = nS := (hkw85 4 rfl).trans uw75_4
  have uw85_5 : ρ84 5 = (iV 0) := (hkw85 5 rfl).trans uw75_5
  have uw85_6 : ρ84 6 = (.pointer (some ⟨g9, 0, none⟩)) := (hkw85 6 rfl).trans uw75_6
  have uw85_22 : ρ84 22 = (iV (cntV b 0 64)) := (hkw85 22 rfl).trans uw75_22
  have uw85_7 : ρ84 7 = vo := (hkw85 7 rfl).trans uw75_7
  have uw85_8 : ρ84 8 = (iV (wr ((wr (at_ + 1)) + (wr (r22))))) := (hkw85 8 rfl).trans uw75_8
  have uw85_23 : ρ84 23 = (iV (i : Int)) := (hkw85 23 rfl).trans uw75_23
  have uw85_24 : ρ84 24 = (.bool (decide ((i : Int) < (cntV b 0 64)))) := (hkw85 24 rfl).trans uw75_24
  have uw85_25 : ρ84 25 = (.pointer (some ⟨g9, 0, none⟩)) := (hkw85 25 rfl).trans uw75_25
  have uw85_26 : ρ84 26 = (.pointer (some ⟨g9, 0, none⟩)) := (hkw85 26 rfl).trans uw75_26
  have uw85_27 : ρ84 27 = (.pointer (some ⟨g9, (0 + 2), none⟩)) := (hkw85 27 rfl).trans uw75_27
  have uw85_28 : ρ84 28 = (.bool bad) := (hkw85 28 rfl).trans uw75_28
  have uw85_29 : ρ84 29 = (iV at_) := (hkw85 29 rfl).trans uw75_29
  have uw85_30 : ρ84 30 = (iV (wr (at_ + 1))) := (hkw85 30 rfl).trans uw75_30
  have uw85_31 : ρ84 31 = (.pointer (some ⟨g9, 0, none⟩)) := (hkw85 31 rfl).trans uw75_31
  have uw85_32 : ρ84 32 = (.int .u64 r22) := (hkw85 32 rfl).trans uw75_32
  have uw85_33 : ρ84 33 = (iV (wr (r22))) := (hkw85 33 rfl).trans uw75_33
  have uw85_34 : ρ84 34 = (iV (wr ((wr (at_ + 1)) + (wr (r22))))) := (hkw85 34 rfl).trans uw75_34
  have uw85_35 : ρ84 35 = (iV (wr ((wr (at_ + 1)) + (wr (r22))))) := (hkw85 35 rfl).trans uw75_35
  have uw85_36 : ρ84 36 = (iV k) := (hkw85 36 rfl).trans uw75_36
  have uw85_37 : ρ84 37 = (iV (widthA k)) := (hkw85 37 rfl).trans uw75_37
  have uw85_38 : ρ84 38 = (iV F) := (hkw85 38 rfl).trans uw75_38
  have uw85_39 : ρ84 39 = (.pointer (some ⟨g9, 0, none⟩)) := (hkw85 39 rfl).trans uw75_39
  have uw85_40 : ρ84 40 = (.int .u64 r27) := (hkw85 40 rfl).trans uw75_40
  have uw85_41 : ρ84 41 = (iV (wr (r27))) := (hkw85 41 rfl).trans uw75_41
  have uw85_42 : ρ84 42 = (iV (wr ((wr (r27)) + 1))) := (hkw85 42 rfl).trans uw75_42
  have uw85_43 : ρ84 43 = (.pointer (some ⟨g9, 0, none⟩)) := (hkw85 43 rfl).trans uw75_43
  have uw85_44 : ρ84 44 = (.int .u64 r31) := (hkw85 44 rfl).trans uw75_44
  have uw85_45 : ρ84 45 = (iV (zag r31)) := (hkw85 45 rfl).trans uw75_45
  have uw85_46 : ρ84 46 = (.agg #[(iV F), (iV (wr ((wr (r27)) + 1))), (iV 0), (iV (zag r31)), (iV 0), (iV 0), (iV 0)]) := (hkw85 46 rfl).trans uw75_46
  have uw85_9 : ρ84 9 = (.pointer (some ⟨g36, 0, none⟩)) := (hkw85 9 rfl).trans uw75_9
  have uw85_47 : ρ84 47 = (.pointer (some ⟨g36, (0 + 3), none⟩)) := (hkw85 47 rfl).trans uw75_47
  have uw85_48 : ρ84 48 = (iV (zag r31)) := (hkw85 48 rfl).trans uw75_48
  have uw85_49 : ρ84 49 = (.pointer (some ⟨g36, (0 + 3), none⟩)) := (hkw85 49 rfl).trans uw75_49
  have uw85_50 : ρ84 50 = (iV (zag r31)) := (hkw85 50 rfl).trans uw75_50
  have uw85_51 : ρ84 51 = (.pointer (some ⟨g36, (0 + 3), none⟩)) := (hkw85 51 rfl).trans uw75_51
  have uw85_52 : ρ84 52 = (iV (zag r31)) := (hkw85 52 rfl).trans uw75_52
  have uw85_53 : ρ84 53 = (.pointer (some ⟨g36, (0 + 3), none⟩)) := (hkw85 53 rfl).trans uw75_53
  have uw85_54 : ρ84 54 = (iV (zag r31)) := (hkw85 54 rfl).trans uw75_54
  have uw85_55 : ρ84 55 = (.pointer (some ⟨g36, (0 + 2), none⟩)) := (hkw85 55 rfl).trans uw75_55
  have uw85_56 : ρ84 56 = (.pointer (some ⟨g36, (0 + 4), none⟩)) := (hkw85 56 rfl).trans uw75_56
  have uw85_57 : ρ84 57 = (.pointer (some ⟨g36, (0 + 5), none⟩)) := (hkw85 57 rfl).trans uw75_57
  have uw85_58 : ρ84 58 = (.pointer (some ⟨g36, (0 + 6), none⟩)) := (hkw85 58 rfl).trans uw75_58
  have uw85_59 : ρ84 59 = (.pointer (some ⟨g36, (0 + 1), none⟩)) := (hkw85 59 rfl).trans uw75_59
  have uw85_60 : ρ84 60 = (iV (wr ((wr (r27)) + 1))) := (hkw85 60 rfl).trans uw75_60
  have uw85_61 : ρ84 61 = (.bool (!decide ((wr ((wr (r27)) + 1)) = 1))) := (hkw85 61 rfl).trans uw75_61
  have uw85_70 : ρ84 70 = (.pointer (some ⟨g9, 0, none⟩)) := (hkw85 70 rfl).trans uw75_70
  have uw85_71 : ρ84 71 = (.int .u64 r60) := (hkw85 71 rfl).trans uw75_71
  have uw85_72 : ρ84 72 = (iV (zag r60)) := (hkw85 72 rfl).trans uw75_72
  have uw85_73 : ρ84 73 = (.pointer (some ⟨g36, (0 + 2), none⟩)) := (hkw85 73 rfl).trans uw75_73
  refine then_n (cE_region rfl (s_cons (op_move vo uw85_7 (s_cons (op_loadN (cs := [(iV F), (iV (wr ((wr (r27)) + 1))), (iV (zag r60)), (iV (zag r31)), (iV (wr (((((zag r31) % 18446744073709551616) + (get b r32).1) % 18446744073709551616)))), (iV (wr (((((zag r31) % 18446744073709551616) + (get b r61).1) % 18446744073709551616)))), (iV (wr (((((zag r31) % 18446744073709551616) + (get b ((get b r61).2.1)).1) % 18446744073709551616))))]) Tryd.isAgg45 Tryd.sizeOf45 uw85_9 (Pt.of (hst.cell 1 rfl) rfl) rfl ?_)))))
  refine s_cons (op_buildSlice (E := aggE) [(⟨F, (wr ((wr (r27)) + 1)), (zag r60), (zag r31), (wr (((((zag r31) % 18446744073709551616) + (get b r32).1) % 18446744073709551616))), (wr (((((zag r31) % 18446744073709551616) + (get b r61).1) % 18446744073709551616))), (wr (((((zag r31) % 18446744073709551616) + (get b ((get b r61).2.1)).1) % 18446744073709551616)))⟩ : Agg)] hst Tryd.underlying24 Tryd.sizeOf45 Tryd.zeroValue45 (evp_cons (v := (.agg #[(iV F), (iV (wr ((wr (r27)) + 1))), (iV (zag r60)), (iV (zag r31)), (iV (wr (((((zag r31) % 18446744073709551616) + (get b r32).1) % 18446744073709551616)))), (iV (wr (((((zag r31) % 18446744073709551616) + (get b r61).1) % 18446744073709551616)))), (iV (wr (((((zag r31) % 18446744073709551616) + (get b ((get b r61).2.1)).1) % 18446744073709551616))))])) rfl evp_nil) (parts_cons rfl parts_nil) rfl (by decide) (fun v86 w87 hst => ?_))
  replace hst : St w0 w87 [rowT 45 aggE v86 ([(⟨F, (wr ((wr (r27)) + 1)), (zag r60), (zag r31), (wr (((((zag r31) % 18446744073709551616) + (get b r32).1) % 18446744073709551616))), (wr (((((zag r31) % 18446744073709551616) + (get b r61).1) % 18446744073709551616))), (wr (((((zag r31) % 18446744073709551616) + (get b ((get b r61).2.1)).1) % 18446744073709551616)))⟩ : Agg)]), .blk g9 88 #[v_b, (iV ((get b ((get b r61).2.1)).2.1)), (.bool (rbad (rbad r62 b r61) b ((get b r61).2.1)))], .blk g36 45 #[(iV F), (iV (wr ((wr (r27)) + 1))), (iV (zag r60)), (iV (zag r31)), (iV (wr (((((zag r31) % 18446744073709551616) + (get b r32).1) % 18446744073709551616)))), (iV (wr (((((zag r31) % 18446744073709551616) + (get b r61).1) % 18446744073709551616)))), (iV (wr (((((zag r31) % 18446744073709551616) + (get b ((get b r61).2.1)).1) % 18446744073709551616))))], rowT 45 aggE vo out] := hst
  refine s_cons (op_append (E := aggE) (xs := out) (ys := [(⟨F, (wr ((wr (r27)) + 1)), (zag r60), (zag r31), (wr (((((zag r31) % 18446744073709551616) + (get b r32).1) % 18446744073709551616))), (wr (((((zag r31) % 18446744073709551616) + (get b r61).1) % 18446744073709551616))), (wr (((((zag r31) % 18446744073709551616) + (get b ((get b r61).2.1)).1) % 18446744073709551616)))⟩ : Agg)]) (z := (.agg #[(iV 0), (iV 0), (iV 0), (iV 0), (iV 0), (iV 0), (iV 0)])) (bytes := 56) hst 3 rfl Tryd.underlying24 (by kernel_rfl) rfl rfl rfl (hst.sl 0 rfl) (by first | omega | (simp; omega) | (simp; done)) (by first | omega | (simp; omega) | (simp; done)) (fun v88 w89 hst => ?_))
  replace hst : St w0 w89 [rowT 45 aggE v86 ([(⟨F, (wr ((wr (r27)) + 1)), (zag r60), (zag r31), (wr (((((zag r31) % 18446744073709551616) + (get b r32).1) % 18446744073709551616))), (wr (((((zag r31) % 18446744073709551616) + (get b r61).1) % 18446744073709551616))), (wr (((((zag r31) % 18446744073709551616) + (get b ((get b r61).2.1)).1) % 18446744073709551616)))⟩ : Agg)]), .blk g9 88 #[v_b, (iV ((get b ((get b r61).2.1)).2.1)), (.bool (rbad (rbad r62 b r61) b ((get b r61).2.1)))], .blk g36 45 #[(iV F), (iV (wr ((wr (r27)) + 1))), (iV (zag r60)), (iV (zag r31)), (iV (wr (((((zag r31) % 18446744073709551616) + (get b r32).1) % 18446744073709551616)))), (iV (wr (((((zag r31) % 18446744073709551616) + (get b r61).1) % 18446744073709551616)))), (iV (wr (((((zag r31) % 18446744073709551616) + (get b ((get b r61).2.1)).1) % 18446744073709551616))))], rowT 45 aggE v88 (out ++ ([(⟨F, (wr ((wr (r27)) + 1)), (zag r60), (zag r31), (wr (((((zag r31) % 18446744073709551616) + (get b r32).1) % 18446744073709551616))), (wr (((((zag r31) % 18446744073709551616) + (get b r61).1) % 18446744073709551616))), (wr (((((zag r31) % 18446744073709551616) + (get b ((get b r61).2.1)).1) % 18446744073709551616)))⟩ : Agg)]))] := hst
  refine s_cons (op_assign v88 rfl (s_nil (block_n (then_n (cE_region rfl (s_cons (op_add (k := .i64) (a := (i : Int)) (b := 1) ((i : Int) + 1) uw85_23 rfl (xi64 (by omega) (by omega)) (s_cons (op_move (iV ((i : Int) + 1)) rfl (s_nil (then_n ?_)))))))))))
  replace hst : St w0 w89 [.blk g9 88 #[v_b, (iV ((get b ((get b r61).2.1)).2.1)), (.bool (rbad (rbad r62 b r61) b ((get b r61).2.1)))], rowT 45 aggE v86 ([(⟨F, (wr ((wr (r27)) + 1)), (zag r60), (zag r31), (wr (((((zag r31) % 18446744073709551616) + (get b r32).1) % 18446744073709551616))), (wr (((((zag r31) % 18446744073709551616) + (get b r61).1) % 18446744073709551616))), (wr (((((zag r31) % 18446744073709551616) + (get b ((get b r61).2.1)).1) % 18446744073709551616)))⟩ : Agg)]), .blk g36 45 #[(iV F), (iV (wr ((wr (r27)) + 1))), (iV (zag r60)), (iV (zag r31)), (iV (wr (((((zag r31) % 18446744073709551616) + (get b r32).1) % 18446744073709551616)))), (iV (wr (((((zag r31) % 18446744073709551616) + (get b r61).1) % 18446744073709551616)))), (iV (wr (((((zag r31) % 18446744073709551616) + (get b ((get b r61).2.1)).1) % 18446744073709551616))))], rowT 45 aggE v88 (out ++ ([(⟨F, (wr ((wr (r27)) + 1)), (zag r60), (zag r31), (wr (((((zag r31) % 18446744073709551616) + (get b r32).1) % 18446744073709551616))), (wr (((((zag r31) % 18446744073709551616) + (get b r61).1) % 18446744073709551616))), (wr (((((zag r31) % 18446744073709551616) + (get b ((get b r61).2.1)).1) % 18446744073709551616)))⟩ : Agg)]))] := hst.front 1 rfl
  replace hst : St w0 w89 [rowT 45 aggE v88 (out ++ ([(⟨F, (wr ((wr (r27)) + 1)), (zag r60), (zag r31), (wr (((((zag r31) % 18446744073709551616) + (get b r32).1) % 18446744073709551616))), (wr (((((zag r31) % 18446744073709551616) + (get b r61).1) % 18446744073709551616))), (wr (((((zag r31) % 18446744073709551616) + (get b ((get b r61).2.1)).1) % 18446744073709551616)))⟩ : Agg)])), .blk g9 88 #[v_b, (iV ((get b ((get b r61).2.1)).2.1)), (.bool (rbad (rbad r62 b r61) b ((get b r61).2.1)))], rowT 45 aggE v86 ([(⟨F, (wr ((wr (r27)) + 1)), (zag r60), (zag r31), (wr (((((zag r31) % 18446744073709551616) + (get b r32).1) % 18446744073709551616))), (wr (((((zag r31) % 18446744073709551616) + (get b r61).1) % 18446744073709551616))), (wr (((((zag r31) % 18446744073709551616) + (get b ((get b r61).2.1)).1) % 18446744073709551616)))⟩ : Agg)]), .blk g36 45 #[(iV F), (iV (wr ((wr (r27)) + 1))), (iV (zag r60)), (iV (zag r31)), (iV (wr (((((zag r31) % 18446744073709551616) + (get b r32).1) % 18446744073709551616)))), (iV (wr (((((zag r31) % 18446744073709551616) + (get b r61).1) % 18446744073709551616)))), (iV (wr (((((zag r31) % 18446744073709551616) + (get b ((get b r61).2.1)).1) % 18446744073709551616))))]] := hst.front 3 rfl
  exact ⟨_, ⟨v88, (out ++ ([(⟨F, (wr ((wr (r27)) + 1)), (zag r60), (zag r31), (wr (((((zag r31) % 18446744073709551616) + (get b r32).1) % 18446744073709551616))), (wr (((((zag r31) % 18446744073709551616) + (get b r61).1) % 18446744073709551616))), (wr (((((zag r31) % 18446744073709551616) + (get b ((get b r61).2.1)).1) % 18446744073709551616)))⟩ : Agg)])), (i + 1), (get b ((get b r61).2.1)).2.1, (rbad (rbad r62 b r61) b ((get b r61).2.1)), (wr ((wr (at_ + 1)) + (wr (r22)))), rfl, uw85_0, uw85_1, uw85_4, uw85_5, uw85_6, uw85_22, rfl, uw85_8, (congrArg iV (show ((i : Int) + 1) = _ from by omega)), (hst.sub (.cons_cons _ (.cons_cons _ (.cons _ (.cons _ .slnil))))), (by first | exact CA_start | exact CA_oneE hCA (by omega) (by assumption) (by assumption) (by assumption) (by assumption) (by assumption) (by assumption) (by assumption) (by assumption) (by assumption) hFe (by assumption) | exact CA_manyE hCA (by omega) (by assumption) (by assumption) (by assumption) (by assumption) (by assumption) (by assumption) (by assumption) (by assumption) (by assumption) (by first | assumption | rfl) (by first | assumption | rfl) (by first | assumption | rfl) (by first | assumption | rfl) (by first | assumption | rfl) (by first | assumption | rfl) (by first | assumption | rfl) (by first | assumption | rfl) (by first | assumption | rfl) (by first | assumption | rfl) (by first | assumption | rfl) (by first | assumption | rfl) hFe (by assumption)), (by first | exact (cntV_r (by omega)).1 | omega)⟩, (by simp only [id]; omega)⟩
 have c90 : ¬ ((i : Int) < (cntV b 0 64)) := of_decide_eq_false b16
 refine cE_cond false (congrArg Value.bool b16) (fun h => by cases h) (fun _ => ?_)
 refine cE_exit (then_x (then_x (block_hit (then_n (cE_seq (cE_region rfl (s_cons (op_move vo q12_7 (s_cons (op_move (iV k) q12_1 (s_cons (op_call Tryd.call18 (evs_cons (v := vo) rfl (evs_cons (v := (iV k)) rfl evs_nil)) (c_kPutAggs (w0 := w15) (v_l := vo) (l := out) (h_l := (hst.sl 0 rfl)) (k := k) (hl := hor) (k0 := (by omega)) (k1 := (by omega))) ?_))))))))))))
 rintro _ w92 ⟨r91, rfl, hcall⟩
 refine ⟨_, rfl, ?_⟩
 have hst : St w0 w92 [rowT 5 u8E r91 ((encA k out).1), rowT 45 aggE vo out, .blk g9 88 #[v_b, (iV p), (.bool bad)]] := hst.call hcall
 refine s_cons (op_move (.tuple #[r91, (iV ((encA k out).2))]) rfl (s_cons (op_extract r91 rfl rfl (s_cons (op_extract (iV ((encA k out).2)) rfl rfl (s_cons (op_assign r91 rfl (s_cons (op_assign (iV ((encA k out).2)) rfl (s_nil (then_n (cE_seq (cE_seq (cE_region rfl (s_cons (op_move (.pointer (some ⟨g9, 0, none⟩)) q12_6 (s_cons (op_nilCheck rfl (s_cons (op_fieldAddr (s := 0) Tryd.underlying88 rfl rfl Tryd.sizeOf4 rfl ?_))))))))))))))))))))
 refine s_cons (op_load1 (u := (.bool bad)) Tryd.isAgg4 rfl ((hst.cell 2 rfl).drop 2) (s_cons (op_move (.bool bad) rfl ?_)))
 rcases Bool.eq_false_or_eq_true bad with b93 | b93
 ·refine s_no 105 rfl (congrArg Value.bool b93) (s_no 105 rfl (congrArg Value.bool b93) (s_cons (op_pick_t (.bool true) (congrArg Value.bool b93) rfl (s_cons (op_move (.bool true) rfl (s_no 109 rfl rfl (s_no 109 rfl rfl (s_no 109 rfl rfl (s_no 109 rfl rfl (s_cons (op_pick_t (.bool true) rfl rfl (s_nil (then_n (cE_cond true rfl (fun _ => ?_) (fun h => by cases h)))))))))))))))
  refine cE_seq (cE_region rfl (s_cons (op_assign nS rfl (s_cons (op_assign (iV 2) rfl (s_nil (then_n (cE_ret (then_r (scope_r (post_r _ (res2 (v := nS) rfl (x := (iV 2)) rfl) ?_)))))))))))
  have hd : DecA k b [] 2 := by first | exact CA_no hCA hco (Or.inl (by assumption)) | exact CA_no hCA hco (Or.inr ⟨by omega, Or.inl (by assumption)⟩) | exact CA_no hCA hco (Or.inr ⟨by omega, Or.inr (by assumption)⟩)
  have hdf := decAf_is hd
  replace hst : St w0 w92 [rowT 45 aggE nS ([]), rowT 5 u8E r91 ((encA k out).1), rowT 45 aggE vo out, .blk g9 88 #[v_b, (iV p), (.bool bad)]] := hst.nilRow 45 aggE
  have e94 : [] = (decAf k b).1 := by first | exact (congrArg Prod.fst hdf).symm | exact (congrArg Prod.snd hdf).symm
  replace hst : St w0 w92 [rowT 45 aggE nS ((decAf k b).1), rowT 5 u8E r91 ((encA k out).1), rowT 45 aggE vo out, .blk g9 88 #[v_b, (iV p), (.bool bad)]] := by rw [congrArg (fun l => rowT 45 aggE nS l) e94] at hst; exact hst
  exact ⟨nS, (retv2 rfl (congrArg iV (show 2 = (decAf k b).2 from by first | exact (congrArg Prod.fst hdf).symm | exact (congrArg Prod.snd hdf).symm))), hst.sub (.cons_cons _ (.cons _ (.cons _ (.cons _ .slnil))))⟩
 refine s_yes 105 rfl (congrArg Value.bool b93) (op_move (iV ((encA k out).2)) rfl (s_yes 105 rfl (congrArg Value.bool b93) (op_neq (k := .i64) (a := (encA k out).2) (b := 0) rfl rfl (s_cons (op_pick_f (.bool (!decide (((encA k out).2) = 0))) (congrArg Value.bool b93) rfl (s_cons (op_move (.bool (!decide (((encA k out).2) = 0))) rfl ?_)))))))
 rcases Bool.eq_false_or_eq_true (decide (((encA k out).2) = 0)) with b95 | b95
 ·have c96 : ((encA k out).2) = 0 := of_decide_eq_true b95
  refine s_yes 109 rfl (congrArg Value.bool (congrArg (! ·) b95)) (op_move r91 rfl (s_yes 109 rfl (congrArg Value.bool (congrArg (! ·) b95)) (op_move v_b q12_0 (s_yes 109 rfl (congrArg Value.bool (congrArg (! ·) b95)) (op_call Tryd.call31 (evs_cons (v := r91) rfl (evs_cons (v := v_b) rfl evs_nil)) (c_bEqual (w0 := w92) (v_a := r91) (a := (encA k out).1) (h_a := (hst.sl 0 rfl)) (v_b := v_b) (b := b) (h_b := (h_b.below hst.below))) ?_)))))
  rintro _ w97 ⟨rfl, hcall⟩
  refine ⟨_, rfl, ?_⟩
  have hst : St w0 w97 [rowT 5 u8E r91 ((encA k out).1), rowT 45 aggE vo out, .blk g9 88 #[v_b, (iV p), (.bool bad)]] := hst.call hcall
  refine s_yes 109 rfl (congrArg Value.bool (congrArg (! ·) b95)) (op_not (b := decide ((encA k out).1 = b)) rfl (s_cons (op_pick_f (.bool (!(decide ((encA k out).1 = b)))) (congrArg Value.bool (congrArg (! ·) b95)) rfl (s_nil (then_n ?_)))))
  rcases Bool.eq_false_or_eq_true (decide ((encA k out).1 = b)) with b98 | b98
  ·have c99 : (encA k out).1 = b := of_decide_eq_true b98
   refine cE_cond false (congrArg Value.bool (congrArg (! ·) b98)) (fun h => by cases h) (fun _ => ?_)
   refine cE_skip (then_n (cE_seq (cE_region rfl (s_cons (op_move vo q12_7 (s_cons (op_assign vo rfl (s_cons (op_assign (iV 0) rfl (s_nil (then_n (cE_ret (scope_r (post_r _ (res2 (v := vo) rfl (x := (iV 0)) rfl) ?_))))))))))))))
   have hd : DecA k b out 0 := CA_yes hCA hco (by assumption) (by assumption)
   have hdf := decAf_is hd
   have e100 : out = (decAf k b).1 := by first | exact (congrArg Prod.fst hdf).symm | exact (congrArg Prod.snd hdf).symm
   replace hst : St w0 w97 [rowT 5 u8E r91 ((encA k out).1), rowT 45 aggE vo ((decAf k b).1), .blk g9 88 #[v_b, (iV p), (.bool bad)]] := by rw [congrArg (fun l => rowT 45 aggE vo l) e100] at hst; exact hst
   exact ⟨vo, (retv2 rfl (congrArg iV (show 0 = (decAf k b).2 from by first | exact (congrArg Prod.fst hdf).symm | exact (congrArg Prod.snd hdf).symm))), hst.sub (.cons _ (.cons_cons _ (.cons _ .slnil)))⟩
  have c101 : ¬ ((encA k out).1 = b) := of_decide_eq_false b98
  refine cE_cond true (congrArg Value.bool (congrArg (! ·) b98)) (fun _ => ?_) (fun h => by cases h)
  refine cE_seq (cE_region rfl (s_cons (op_assign nS rfl (s_cons (op_assign (iV 2) rfl (s_nil (then_n (cE_ret (then_r (scope_r (post_r _ (res2 (v := nS) rfl (x := (iV 2)) rfl) ?_)))))))))))
  have hd : DecA k b [] 2 := by first | exact CA_no hCA hco (Or.inl (by assumption)) | exact CA_no hCA hco (Or.inr ⟨by omega, Or.inl (by assumption)⟩) | exact CA_no hCA hco (Or.inr ⟨by omega, Or.inr (by assumption)⟩)
  have hdf := decAf_is hd
  replace hst : St w0 w97 [rowT 45 aggE nS ([]), rowT 5 u8E r91 ((encA k out).1), rowT 45 aggE vo out, .blk g9 88 #[v_b, (iV p), (.bool bad)]] := hst.nilRow 45 aggE
  have e102 : [] = (decAf k b).1 := by first | exact (congrArg Prod.fst hdf).symm | exact (congrArg Prod.snd hdf).symm
  replace hst : St w0 w97 [rowT 45 aggE nS ((decAf k b).1), rowT 5 u8E r91 ((encA k out).1), rowT 45 aggE vo out, .blk g9 88 #[v_b, (iV p), (.bool bad)]] := by rw [congrArg (fun l => rowT 45 aggE nS l) e102] at hst; exact hst
  exact ⟨nS, (retv2 rfl (congrArg iV (show 2 = (decAf k b).2 from by first | exact (congrArg Prod.fst hdf).symm | exact (congrArg Prod.snd hdf).symm))), hst.sub (.cons_cons _ (.cons _ (.cons _ (.cons _ .slnil))))⟩
 have c103 : ¬ (((encA k out).2) = 0) := of_decide_eq_false b95
 refine s_no 109 rfl (congrArg Value.bool (congrArg (! ·) b95)) (s_no 109 rfl (congrArg Value.bool (congrArg (! ·) b95)) (s_no 109 rfl (congrArg Value.bool (congrArg (! ·) b95)) (s_no 109 rfl (congrArg Value.bool (congrArg (! ·) b95)) (s_cons (op_pick_t (.bool true) (congrArg Value.bool (congrArg (! ·) b95)) rfl (s_nil (then_n (cE_cond true rfl (fun _ => ?_) (fun h => by cases h)))))))))
 refine cE_seq (cE_region rfl (s_cons (op_assign nS rfl (s_cons (op_assign (iV 2) rfl (s_nil (then_n (cE_ret (then_r (scope_r (post_r _ (res2 (v := nS) rfl (x := (iV 2)) rfl) ?_)))))))))))
 have hd : DecA k b [] 2 := by first | exact CA_no hCA hco (Or.inl (by assumption)) | exact CA_no hCA hco (Or.inr ⟨by omega, Or.inl (by assumption)⟩) | exact CA_no hCA hco (Or.inr ⟨by omega, Or.inr (by assumption)⟩)
 have hdf := decAf_is hd
 replace hst : St w0 w92 [rowT 45 aggE nS ([]), rowT 5 u8E r91 ((encA k out).1), rowT 45 aggE vo out, .blk g9 88 #[v_b, (iV p), (.bool bad)]] := hst.nilRow 45 aggE
 have e104 : [] = (decAf k b).1 := by first | exact (congrArg Prod.fst hdf).symm | exact (congrArg Prod.snd hdf).symm
 replace hst : St w0 w92 [rowT 45 aggE nS ((decAf k b).1), rowT 5 u8E r91 ((encA k out).1), rowT 45 aggE vo out, .blk g9 88 #[v_b, (iV p), (.bool bad)]] := by rw [congrArg (fun l => rowT 45 aggE nS l) e104] at hst; exact hst
 exact ⟨nS, (retv2 rfl (congrArg iV (show 2 = (decAf k b).2 from by first | exact (congrArg Prod.fst hdf).symm | exact (congrArg Prod.snd hdf).symm))), hst.sub (.cons_cons _ (.cons _ (.cons _ (.cons _ .slnil))))⟩
end

end Go.Proofs.YtgibfidebdgffaaDoor
