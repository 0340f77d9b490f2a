/- ask.Range -/
import Derived.Test.YtldfnkhccaglmaaXW31
import Derived.Test.YtldfnkhccaglmaaXLA
import Derived.Test.YtldfnkhccaglmaaXW26
import Derived.Test.YtldfnkhccaglmaaXW5
namespace Go.Proofs.Ytldfnkhccaglmaa
open Go.RowKit

set_option maxRecDepth 8000 in
set_option maxHeartbeats 8000000 in
theorem c_Range (w0 : World) (v_segs : Value) (segs : List Seg) (h_segs : Sl w0 segE v_segs segs) (v_head : Value) (head : List Sample) (h_head : Sl w0 sampE v_head head) (fr : Int) (to : Int) (hsg : SegsIn w0 segs) (hso : ∀ s ∈ segs, s.d.ok) (hho : ∀ s ∈ head, s.ok) (fr0 : -9223372036854775808 ≤ fr) (to0 : -9223372036854775808 ≤ to) (fr1 : fr ≤ 9223372036854775807) (to1 : to ≤ 9223372036854775807) (hll : segs.length ≤ 1000) (hhl : head.length ≤ 1000000) (hbl : (bestP (infosOf (ds segs))).length ≤ 12) :
  Calls Try.prog 19 #[v_segs, v_head, (iV fr), (iV to)] w0 fun e w' => ∃ (v : Value), e = .returned (.tuple #[v, (iV ((rangeW (ds segs) head fr to).2))]) ∧ St w0 w' [rowT 33 winE v ((rangeW (ds segs) head fr to).1)] := by
 refine calls_E (n := 98) (ts := [8, 9]) Try.func19 rfl rfl rfl (by simp) ?_
 have hst := St.start w0
 refine cE_seq (cE_region rfl (s_cons (op_assign nS rfl (s_cons (op_assign (iV 0) rfl (s_nil (then_n (cE_seq (cE_region rfl (s_cons (op_move v_segs rfl (s_cons (op_move v_head rfl (s_cons (op_call Try.call36 (evs_cons (v := v_segs) rfl (evs_cons (v := v_head) rfl evs_nil)) (c_picked (w0 := w0) (v_segs := v_segs) (segs := segs) (h_segs := (h_segs.below hst.below)) (v_head := v_head) (head := head) (h_head := (h_head.below hst.below)) (hsg := (SegsIn.below hsg hst.below)) (hso := hso) (hll := (by omega)) (hbl := hbl)) ?_)))))))))))))))
 rintro _ w4 ⟨r1, r2, r3, rfl, hcall, picked_hok, picked_hout, picked_hsub⟩
 refine ⟨_, rfl, ?_⟩
 have hst := hst.call hcall
 refine s_cons (op_move (.tuple #[r1, (.bool r3)]) rfl (s_cons (op_extract r1 rfl rfl (s_cons (op_extract (.bool r3) rfl rfl (s_cons (op_assign r1 rfl (s_cons (op_assign (.bool r3) rfl (s_nil (then_n (cE_seq (cE_block (cE_seq (cE_region rfl (s_cons (op_move (.bool r3) rfl (s_cons (op_not (b := r3) rfl (s_cons (op_assign (.bool (!r3)) rfl (s_nil (then_n ?_)))))))))))))))))))))))
 rcases Bool.eq_false_or_eq_true r3 with b5 | b5
 ·refine cE_cond false (congrArg Value.bool (congrArg (! ·) b5)) (fun h => by cases h) (fun _ => ?_)
  refine cE_seq (cE_region rfl (s_cons (op_move (iV fr) rfl (s_cons (op_lss (k := .i64) (a := fr) (b := 0) rfl rfl (s_cons (op_move (.bool (decide (fr < 0))) rfl (s_lz 30 rfl (gA_f rfl) (Rlz (!(decide (fr < 0))) (iV fr) w4) ?_ (fun hc6 => rlz_f hc6) ?_))))))))
  ·intro hc6
   refine op_move (iV fr) rfl ?_
   exact rlz_t hc6
  rintro _ _ ⟨rfl, rfl⟩
  refine s_lz 30 rfl (gA_f rfl) (Rlz (!(decide (fr < 0))) (iV to) w4) ?_ (fun hc7 => rlz_f hc7) ?_
  ·intro hc7
   refine op_move (iV to) rfl ?_
   exact rlz_t hc7
  rintro _ _ ⟨rfl, rfl⟩
  refine s_lz 30 rfl (gA_f rfl) (Rlz (!(decide (fr < 0))) (.bool (decide (to ≤ fr))) w4) ?_ (fun hc8 => rlz_f hc8) ?_
  ·intro hc8
   refine op_geq (k := .i64) (a := fr) (b := to) (gt (congrArg (! ·) (not_t hc8))) (gt (congrArg (! ·) (not_t hc8))) ?_
   exact rlz_t hc8
  rintro _ _ ⟨rfl, rfl⟩
  obtain ⟨g9, hg10⟩ : ∃ x : Bool, x = ((decide (fr < 0)) || (decide (to ≤ fr))) := ⟨_, rfl⟩
  refine s_cons (op_pick_or rfl rfl rfl (fun hp => (congrArg (! ·) hp)) (s_cons (op_move (.bool g9) (congrArg Value.bool hg10.symm) (s_lz 35 rfl (gA_f rfl) (Rlz (!g9) (iV to) w4) ?_ (fun hc11 => rlz_f hc11) ?_))))
  ·intro hc11
   refine op_move (iV to) rfl ?_
   exact rlz_t hc11
  rintro _ _ ⟨rfl, rfl⟩
  refine s_lz 35 rfl (gA_f rfl) (Rlz (!g9) (.bool (decide (1099511627776 < to))) w4) ?_ (fun hc12 => rlz_f hc12) ?_
  ·intro hc12
   refine op_gtr (k := .i64) (a := to) (b := 1099511627776) (gt (congrArg (! ·) (not_t hc12))) rfl ?_
   exact rlz_t hc12
  rintro _ _ ⟨rfl, rfl⟩
  obtain ⟨g13, hg14⟩ : ∃ x : Bool, x = (g9 || (decide (1099511627776 < to))) := ⟨_, rfl⟩
  refine s_cons (op_pick_or rfl rfl rfl (fun hp => (congrArg (! ·) hp)) (s_cons (op_assign (.bool g13) (congrArg Value.bool hg14.symm) (s_nil (then_n ?_)))))
  rcases Bool.eq_false_or_eq_true g13 with b15 | b15
  ·have c16 : ((fr < 0) ∨ (to ≤ fr)) ∨ (1099511627776 < to) := (pi_or (pi_name hg10 (pi_or pi_dec pi_dec)) pi_dec).1 (hg14.symm.trans b15)
   refine cE_cond true (congrArg Value.bool b15) (fun _ => ?_) (fun h => by cases h)
   refine cE_seq (cE_region rfl (s_cons (op_assign nS rfl (s_cons (op_assign (iV 5) rfl (s_nil (then_n (cE_ret (block_r (then_r (post_r _ (res2 (v := nS) rfl (x := (iV 5)) rfl) ?_)))))))))))
   replace hst := hst.nilRow 33 winE
   have e17 : [] = (rangeW (ds segs) head fr to).1 := by exact fst_of (range_out (picked_hok.symm.trans (by assumption)) (by omega))
   replace hst : St w0 w4 [rowT 33 winE nS ((rangeW (ds segs) head fr to).1), rowT 76 segE r1 r2] := by rw [congrArg (fun l => rowT 33 winE nS l) e17] at hst; exact hst
   exact ⟨nS, (retv2 rfl (congrArg iV (show 5 = (rangeW (ds segs) head fr to).2 from by exact snd_of (range_out (picked_hok.symm.trans (by assumption)) (by omega))))), hst.sub (.cons_cons _ (.cons _ .slnil))⟩
  have c18 : ¬ (fr < 0) := of_decide_eq_false (or_l (hg10.symm.trans (or_l (hg14.symm.trans b15))))
  have c19 : ¬ (to ≤ fr) := of_decide_eq_false (or_r (hg10.symm.trans (or_l (hg14.symm.trans b15))))
  have c20 : ¬ (1099511627776 < to) := of_decide_eq_false (or_r (hg14.symm.trans b15))
  refine cE_cond false (congrArg Value.bool b15) (fun h => by cases h) (fun _ => ?_)
  refine cE_skip (block_n (then_n (cE_seq (cE_region rfl (s_cons (op_assign nS rfl (s_nil (then_n (cE_seq (cE_seq ?_))))))))))
  have hsr : SegsIn w0 r2 := fun s h => hsg s (picked_hsub s h)
  have hkR : okR (ds segs) head = true := picked_hok.symm.trans (by assumption)
  have hQ : r2.map Seg.d = (pickS (ds segs)) := picked_hout (by assumption)
  have hQl : r2.length = (pickS (ds segs)).length := by rw [← hQ, List.length_map]
  have hQm : ∀ s ∈ (pickS (ds segs)), mayS s = true := by rw [← hQ]; intro s h; obtain ⟨q, hq, rfl⟩ := List.mem_map.1 h; exact okR_may hkR _ (List.mem_map_of_mem (picked_hsub q hq))
  have hpl := pickS_len (ds segs)
  have hpi := pickI_len (infosOf (ds segs))
  have hil := infos_len (ds segs)
  have hdl := ds_len segs
  refine cE_region rfl (s_cons (op_move r1 rfl (s_cons (op_len (E := segE) (xs := r2) Try.underlying44 rfl (hst.sl 0 rfl) (s_cons (op_move (iV 0) rfl (s_nil (then_n (cE_block ?_)))))))))
  replace hst := hst.nilRow 33 winE
  refine cE_loop (fun (m : Nat) (ρ : Env) (w : World) => ∃ (vo : Value) (ys : List Win) (i : Nat), m = r2.length - i ∧ ρ 0 = v_segs ∧ ρ 1 = v_head ∧ ρ 2 = (iV fr) ∧ ρ 3 = (iV to) ∧ ρ 8 = nS ∧ ρ 9 = (iV 0) ∧ ρ 10 = r1 ∧ ρ 11 = (.bool r3) ∧ ρ 39 = r1 ∧ ρ 40 = (iV (r2.length : Int)) ∧ ρ 12 = vo ∧ ρ 41 = (iV (i : Int)) ∧ St w0 w [rowT 33 winE vo ys, rowT 76 segE r1 r2] ∧ (i ≤ r2.length) ∧ (ys = ((pickS (ds segs)).take i).flatMap fun s => segW s fr to)) id _ ⟨nS, [], 0, rfl, rfl, rfl, rfl, rfl, rfl, rfl, rfl, rfl, rfl, rfl, rfl, (congrArg iV (show 0 = _ from by omega)), hst, (by omega), (by rfl)⟩ ?_
  rintro m22 ρ23 w24 ⟨vo, ys, i, hm22, q21_0, q21_1, q21_2, q21_3, q21_8, q21_9, q21_10, q21_11, q21_39, q21_40, q21_12, q21_41, hst, hi, hI⟩
  have hyl : ys.length ≤ 64 * i := by rw [hI]; exact segs_len (by omega) hQm
  refine cE_seq (cE_region rfl (s_cons (op_lss (k := .i64) (a := (i : Int)) (b := (r2.length : Int)) q21_41 q21_40 (s_nil (then_n (cE_seq ?_))))))
  rcases Bool.eq_false_or_eq_true (decide ((i : Int) < (r2.length : Int))) with b25 | b25
  ·have c26 := of_decide_eq_true b25
   refine cE_cond true (congrArg Value.bool b25) (fun _ => ?_) (fun h => by cases h)
   refine cE_skip (then_n (cE_seq (cE_block (cE_seq (cE_region rfl (s_cons (op_indexAddrN (E := segE) (xs := r2) i Try.underlying44 Try.sizeOf76 q21_39 (hst.sl 1 rfl) q21_41 (by omega) (by omega) (fun a27 o28 p29 => ?_))))))))
   refine s_cons (op_loadN (cs := [(iV ((r2[i]'(by omega)).d.Id)), (iV ((r2[i]'(by omega)).d.Tier)), (iV ((r2[i]'(by omega)).d.From)), (iV ((r2[i]'(by omega)).d.To)), (r2[i]'(by omega)).sv.1, (r2[i]'(by omega)).av.1]) Try.isAgg76 Try.sizeOf76 rfl (Pt.of p29 rfl) rfl (s_cons (op_alloc (cs := #[(iV 0), (iV 0), (iV 0), (iV 0), nS, nS]) hst Try.zeroValue76 rfl (fun g30 w31 hst _ => ?_))))
   refine s_cons0 (op_storeAll hst 0 rfl Try.sizeOf76 rfl rfl rfl rfl (oneL_all (l := [(iV ((r2[i]'(by omega)).d.Id)), (iV ((r2[i]'(by omega)).d.Tier)), (iV ((r2[i]'(by omega)).d.From)), (iV ((r2[i]'(by omega)).d.To)), (r2[i]'(by omega)).sv.1, (r2[i]'(by omega)).av.1]) ⟨rfl, rfl, rfl, rfl, (r2[i]'(by omega)).sv.2, (r2[i]'(by omega)).av.2, trivial⟩) (fun w32 hst => ?_))
   refine s_nil (then_n (cE_scope (cE_seq ?_)))
   have hsl := segS_len (seg_of hkR picked_hsub (show i < r2.length by omega))
   have hrl := rawW_len (r2[i]'(by omega)).d.Samples fr to
   refine cE_region rfl (s_cons (op_move vo q21_12 (s_cons (op_fieldAddr (s := 0) Try.underlying76 rfl rfl Try.sizeOf23 rfl (s_cons (op_load1 (u := (r2[i]'(by omega)).sv.1) Try.isAgg23 rfl ((hst.cell 0 rfl).drop 4) (s_cons (op_move (iV fr) q21_2 (s_cons (op_move (iV to) q21_3 (s_cons (op_call Try.call37 (evs_cons (v := (r2[i]'(by omega)).sv.1) rfl (evs_cons (v := (iV fr)) rfl (evs_cons (v := (iV to)) rfl evs_nil))) (c_samples (w0 := w32) (v_l := (r2[i]'(by omega)).sv.1) (l := (r2[i]'(by omega)).d.Samples) (h_l := ((hsr (r2[i]'(by omega)) (List.getElem_mem _)).1.below hst.below)) (fr := fr) (to := to) (hl := (hso _ (picked_hsub _ (List.getElem_mem _))).2.2.2.2.1) (fr0 := (by omega)) (to0 := (by omega)) (fr1 := (by omega)) (to1 := (by omega)) (hll := (by have := segS_len (seg_of hkR picked_hsub (show i < _ by omega)); omega))) ?_))))))))))))
   rintro _ w34 ⟨r33, rfl, hcall⟩
   refine ⟨_, rfl, ?_⟩
   have hst := hst.call hcall
   refine s_cons (op_append (E := winE) (xs := ys) (ys := (rawW ((r2[i]'(by omega)).d.Samples) fr to)) (z := (.agg #[(iV 0), (iV 0), (iV 0), (iV 0), (iV 0), (iV 0), (iV 0), (iV 0), (iV 0), (iV 0)])) (bytes := 80) hst 2 rfl Try.underlying27 (by kernel_rfl) rfl rfl rfl (hst.sl 0 rfl) (by omega) (by omega) (fun v35 w36 hst => ?_))
   refine s_cons (op_assign v35 rfl (s_nil (then_n (cE_seq (cE_label (then_n (cE_seq (cE_region rfl (s_cons (op_fieldAddr (s := 0) Try.underlying76 rfl rfl Try.sizeOf74 rfl (s_cons (op_load1 (u := (r2[i]'(by omega)).av.1) Try.isAgg74 rfl ((hst.cell 1 rfl).drop 5) (s_cons (op_len (E := aggE) (xs := (r2[i]'(by omega)).d.Aggs) Try.underlying74 rfl (hsr (r2[i]'(by omega)) (List.getElem_mem _)).2 ?_))))))))))))))
   refine s_cons (op_move (iV 0) rfl (s_nil (then_n (cE_block ?_))))
   replace hst := hst.front 3 rfl
   replace hst := hst.front 2 rfl
   replace hst := hst.front 3 rfl
   refine cE_loop (fun (m : Nat) (ρ : Env) (w : World) => ∃ (vz : Value) (zs : List Win) (j : Nat), m = (r2[i]'(by omega)).d.Aggs.length - j ∧ ρ 0 = v_segs ∧ ρ 1 = v_head ∧ ρ 2 = (iV fr) ∧ ρ 3 = (iV to) ∧ ρ 8 = nS ∧ ρ 9 = (iV 0) ∧ ρ 10 = r1 ∧ ρ 11 = (.bool r3) ∧ ρ 39 = r1 ∧ ρ 40 = (iV (r2.length : Int)) ∧ ρ 41 = (iV (i : Int)) ∧ ρ 14 = (.pointer (some ⟨g30, 0, none⟩)) ∧ ρ 53 = (r2[i]'(by omega)).av.1 ∧ ρ 54 = (iV (((r2[i]'(by omega)).d.Aggs).length : Int)) ∧ ρ 12 = vz ∧ ρ 55 = (iV (j : Int)) ∧ St w0 w [rowT 33 winE vz zs, .blk g30 76 #[(iV ((r2[i]'(by omega)).d.Id)), (iV ((r2[i]'(by omega)).d.Tier)), (iV ((r2[i]'(by omega)).d.From)), (iV ((r2[i]'(by omega)).d.To)), (r2[i]'(by omega)).sv.1, (r2[i]'(by omega)).av.1], rowT 76 segE r1 r2] ∧ (j ≤ (r2[i]'(by omega)).d.Aggs.length) ∧ (zs = (ys ++ rawW (r2[i]'(by omega)).d.Samples fr to) ++ aggW (r2[i]'(by omega)).d ((r2[i]'(by omega)).d.Aggs.take j) fr to)) id _ ⟨v35, (ys ++ (rawW ((r2[i]'(by omega)).d.Samples) fr to)), 0, rfl, q21_0, q21_1, q21_2, q21_3, q21_8, q21_9, q21_10, q21_11, q21_39, q21_40, q21_41, rfl, rfl, rfl, rfl, (congrArg iV (show 0 = _ from by omega)), (hst.sub (.cons_cons _ (.cons_cons _ (.cons_cons _ (.cons _ .slnil))))), (by omega), (by exact agg_start)⟩ ?_
   rintro m38 ρ39 w40 ⟨vz, zs, j, hm38, q37_0, q37_1, q37_2, q37_3, q37_8, q37_9, q37_10, q37_11, q37_39, q37_40, q37_41, q37_14, q37_53, q37_54, q37_12, q37_55, hst, hj, hJ⟩
   have hms : mayS (r2[i]'(by omega)).d = true := seg_of hkR picked_hsub (by omega)
   have hzl : zs.length ≤ 64 * i + 1000 := by rw [hJ, List.length_append, List.length_append]; have h1 := rawW_len (r2[i]'(by omega)).d.Samples fr to; have h2 := aggW_len (r2[i]'(by omega)).d ((r2[i]'(by omega)).d.Aggs.take j) fr to; have h3 := segS_len hms; simp only [List.length_take] at h2; omega
   refine cE_seq (cE_region rfl (s_cons (op_lss (k := .i64) (a := (j : Int)) (b := (((r2[i]'(by omega)).d.Aggs).length : Int)) q37_55 q37_54 (s_nil (then_n (cE_seq ?_))))))
   rcases Bool.eq_false_or_eq_true (decide ((j : Int) < (((r2[i]'(by omega)).d.Aggs).length : Int))) with b41 | b41
   ·have c42 := of_decide_eq_true b41
    refine cE_cond true (congrArg Value.bool b41) (fun _ => ?_) (fun h => by cases h)
    refine cE_skip (then_n (cE_seq (cE_block (cE_seq (cE_region rfl (s_cons (op_indexAddrN (E := aggE) (xs := (r2[i]'(by omega)).d.Aggs) j Try.underlying74 Try.sizeOf29 q37_53 (hsr (r2[i]'(by omega)) (List.getElem_mem _)).2 q37_55 (by omega) (by omega) (fun a43 o44 p45 => ?_))))))))
    refine s_cons (op_loadN (cs := (aggC (((r2[i]'(by omega)).d.Aggs)[j]'(by omega)))) Try.isAgg29 Try.sizeOf29 rfl (Pt.of (p45.below hst.below) rfl) rfl (s_cons (op_alloc (cs := #[(iV 0), (iV 0), (iV 0), (iV 0), (iV 0), (iV 0), (iV 0)]) hst Try.zeroValue29 rfl (fun g46 w47 hst _ => ?_))))
    refine s_cons0 (op_storeAll hst 0 rfl Try.sizeOf29 rfl rfl rfl rfl (by simp [Value.oneCell']) (fun w48 hst => ?_))
    refine s_nil (then_n (cE_seq ?_))
    have hsa := seg_agg hms (List.getElem_mem (show j < (r2[i]'(by omega)).d.Aggs.length by omega))
    refine cE_regionM (fun (D : Nat → Bool) (w : World) => St w0 w [.blk g46 29 (aggA (((r2[i]'(by omega)).d.Aggs)[j]'(by omega))), rowT 33 winE vz zs, .blk g30 76 #[(iV ((r2[i]'(by omega)).d.Id)), (iV ((r2[i]'(by omega)).d.Tier)), (iV ((r2[i]'(by omega)).d.From)), (iV ((r2[i]'(by omega)).d.To)), (r2[i]'(by omega)).sv.1, (r2[i]'(by omega)).av.1], rowT 76 segE r1 r2] ∧ (D 19 = false → St w0 w [.blk g46 29 (aggA (((r2[i]'(by omega)).d.Aggs)[j]'(by omega))), rowT 33 winE vz zs, .blk g30 76 #[(iV ((r2[i]'(by omega)).d.Id)), (iV ((r2[i]'(by omega)).d.Tier)), (iV ((r2[i]'(by omega)).d.From)), (iV ((r2[i]'(by omega)).d.To)), (r2[i]'(by omega)).sv.1, (r2[i]'(by omega)).av.1], rowT 76 segE r1 r2]) ∧ (D 19 = true → St w0 w [.blk g46 29 (aggA (((r2[i]'(by omega)).d.Aggs)[j]'(by omega))), rowT 33 winE vz zs, .blk g30 76 #[(iV ((r2[i]'(by omega)).d.Id)), (iV ((r2[i]'(by omega)).d.Tier)), (iV ((r2[i]'(by omega)).d.From)), (iV ((r2[i]'(by omega)).d.To)), (r2[i]'(by omega)).sv.1, (r2[i]'(by omega)).av.1], rowT 76 segE r1 r2])) [[(14, none)], [(59, some 0)], [(16, none)], [(61, some 2)], [(14, none)], [(63, some 4)], [(62, some 3), (64, some 5)], [(16, none)], [(66, some 7)], [(14, none)], [(68, some 9)], [(69, some 10)], [(67, some 8), (70, some 11)], [(14, none)], [(72, some 13)], [(71, some 12), (73, some 14)], [(16, none)], [(60, some 1), (65, some 6), (74, some 15), (75, some 16)], [], [(17, some 18), (76, some 17)]] [19] [(kEq (.pointer (some ⟨g30, (0 + 1), none⟩))), (kEq (iV ((r2[i]'(by omega)).d.Tier))), (kEq (.pointer (some ⟨g46, (0 + 0), none⟩))), (kEq (iV ((((r2[i]'(by omega)).d.Aggs)[j]'(by omega)).From))), (kEq (.pointer (some ⟨g30, (0 + 2), none⟩))), (kEq (iV ((r2[i]'(by omega)).d.From))), (kEq (iV (max ((((r2[i]'(by omega)).d.Aggs)[j]'(by omega)).From) ((r2[i]'(by omega)).d.From)))), (kEq (.pointer (some ⟨g46, (0 + 0), none⟩))), (kEq (iV ((((r2[i]'(by omega)).d.Aggs)[j]'(by omega)).From))), (kEq (.pointer (some ⟨g30, (0 + 1), none⟩))), (kEq (iV ((r2[i]'(by omega)).d.Tier))), (kEq (iV (widthA ((r2[i]'(by omega)).d.Tier)))), (kEq (iV (((((r2[i]'(by omega)).d.Aggs)[j]'(by omega)).From) + (widthA ((r2[i]'(by omega)).d.Tier))))), (kEq (.pointer (some ⟨g30, (0 + 3), none⟩))), (kEq (iV ((r2[i]'(by omega)).d.To))), (kEq (iV (min (((((r2[i]'(by omega)).d.Aggs)[j]'(by omega)).From) + (widthA ((r2[i]'(by omega)).d.Tier))) ((r2[i]'(by omega)).d.To)))), (kEq (.agg (aggA (((r2[i]'(by omega)).d.Aggs)[j]'(by omega))))), (kEq (.agg #[(iV ((r2[i]'(by omega)).d.Tier)), (iV (max ((((r2[i]'(by omega)).d.Aggs)[j]'(by omega)).From) ((r2[i]'(by omega)).d.From))), (iV (min (((((r2[i]'(by omega)).d.Aggs)[j]'(by omega)).From) + (widthA ((r2[i]'(by omega)).d.Tier))) ((r2[i]'(by omega)).d.To))), (iV ((((r2[i]'(by omega)).d.Aggs)[j]'(by omega)).From)), (iV ((((r2[i]'(by omega)).d.Aggs)[j]'(by omega)).Count)), (iV ((((r2[i]'(by omega)).d.Aggs)[j]'(by omega)).Sum)), (iV ((((r2[i]'(by omega)).d.Aggs)[j]'(by omega)).Min)), (iV ((((r2[i]'(by omega)).d.Aggs)[j]'(by omega)).Max)), (iV ((((r2[i]'(by omega)).d.Aggs)[j]'(by omega)).First)), (iV ((((r2[i]'(by omega)).d.Aggs)[j]'(by omega)).Last))])), (fun (D : Nat → Bool) (v : Value) (w : World) => ∃ g50 : Nat, v = .pointer (some ⟨g50, 0, none⟩) ∧ (D 19 = false → St w0 w [.blk g50 33 #[(iV 0), (iV 0), (iV 0), (iV 0), (iV 0), (iV 0), (iV 0), (iV 0), (iV 0), (iV 0)], .blk g46 29 (aggA (((r2[i]'(by omega)).d.Aggs)[j]'(by omega))), rowT 33 winE vz zs, .blk g30 76 #[(iV ((r2[i]'(by omega)).d.Id)), (iV ((r2[i]'(by omega)).d.Tier)), (iV ((r2[i]'(by omega)).d.From)), (iV ((r2[i]'(by omega)).d.To)), (r2[i]'(by omega)).sv.1, (r2[i]'(by omega)).av.1], rowT 76 segE r1 r2]) ∧ (D 19 = true → St w0 w [.blk g50 33 #[(iV ((r2[i]'(by omega)).d.Tier)), (iV (max ((((r2[i]'(by omega)).d.Aggs)[j]'(by omega)).From) ((r2[i]'(by omega)).d.From))), (iV (min (((((r2[i]'(by omega)).d.Aggs)[j]'(by omega)).From) + (widthA ((r2[i]'(by omega)).d.Tier))) ((r2[i]'(by omega)).d.To))), (iV ((((r2[i]'(by omega)).d.Aggs)[j]'(by omega)).From)), (iV ((((r2[i]'(by omega)).d.Aggs)[j]'(by omega)).Count)), (iV ((((r2[i]'(by omega)).d.Aggs)[j]'(by omega)).Sum)), (iV ((((r2[i]'(by omega)).d.Aggs)[j]'(by omega)).Min)), (iV ((((r2[i]'(by omega)).d.Aggs)[j]'(by omega)).Max)), (iV ((((r2[i]'(by omega)).d.Aggs)[j]'(by omega)).First)), (iV ((((r2[i]'(by omega)).d.Aggs)[j]'(by omega)).Last))], .blk g46 29 (aggA (((r2[i]'(by omega)).d.Aggs)[j]'(by omega))), rowT 33 winE vz zs, .blk g30 76 #[(iV ((r2[i]'(by omega)).d.Id)), (iV ((r2[i]'(by omega)).d.Tier)), (iV ((r2[i]'(by omega)).d.From)), (iV ((r2[i]'(by omega)).d.To)), (r2[i]'(by omega)).sv.1, (r2[i]'(by omega)).av.1], rowT 76 segE r1 r2])), kAny] ⟨mEq, mEq, mEq, mEq, mEq, mEq, mEq, mEq, mEq, mEq, mEq, mEq, mEq, mEq, mEq, mEq, mEq, mEq, (fun D D' v w w' hD hb ⟨g, h1, h2⟩ => ⟨g, h1, (fun x0 => (h2.1 ((hD 19 (by decide)).symm.trans x0)).ext hb), (fun x0 => (h2.2 ((hD 19 (by decide)).symm.trans x0)).ext hb)⟩), mAny, trivial⟩ (by kernel_rfl) rfl (by kernel_rfl) ⟨hst.drewW.sub (.cons_cons _ (.cons_cons _ (.cons_cons _ (.cons_cons _ .slnil)))), (fun _ => hst.drewW), (fun h => absurd h Bool.false_ne_true)⟩ (fun hM => ⟨?_, ?_, ?_, ?_, ?_, ?_, ?_, ?_, ?_, ?_, ?_, ?_, ?_, ?_, ?_, ?_, ?_, ?_, ?_, ?_, trivial⟩) ?_
    ·rintro D ρo wo nD eD cD jD aD ⟨f14, _⟩
     exact go_plain (op_fieldAddr (s := 0) Try.underlying76 rfl rfl Try.sizeOf3 (f14.trans q37_14) (kN0 (i := 0) hM (by decide) (by exact jD) (by exact rfl)))
    ·rintro D ρo wo nD eD cD jD aD ⟨f59, _⟩
     have hst := jD.2.1 (not_yet nD (fun hm => (cD 19 1 hm (by kernel_rfl))))
     exact go_plain (op_load1 (u := (iV ((r2[i]'(by omega)).d.Tier))) Try.isAgg3 f59 ((hst.cell 2 rfl).drop 1) (kN0 (i := 1) hM (by decide) (by exact jD) (by exact rfl)))
    ·rintro D ρo wo nD eD cD jD aD ⟨f16, _⟩
     exact go_plain (op_fieldAddr (s := 0) Try.underlying29 rfl rfl Try.sizeOf2 (f16.trans rfl) (kN0 (i := 2) hM (by decide) (by exact jD) (by exact rfl)))
    ·rintro D ρo wo nD eD cD jD aD ⟨f61, _⟩
     have hst := jD.2.1 (not_yet nD (fun hm => (cD 19 3 hm (by kernel_rfl))))
     exact go_plain (op_load1 (u := (iV ((((r2[i]'(by omega)).d.Aggs)[j]'(by omega)).From))) Try.isAgg2 f61 (hst.cell 0 rfl) (kN0 (i := 3) hM (by decide) (by exact jD) (by exact rfl)))
    ·rintro D ρo wo nD eD cD jD aD ⟨f14, _⟩
     exact go_plain (op_fieldAddr (s := 0) Try.underlying76 rfl rfl Try.sizeOf2 (f14.trans q37_14) (kN0 (i := 4) hM (by decide) (by exact jD) (by exact rfl)))
    ·rintro D ρo wo nD eD cD jD aD ⟨f63, _⟩
     have hst := jD.2.1 (not_yet nD (fun hm => (cD 19 5 hm (by kernel_rfl))))
     exact go_plain (op_load1 (u := (iV ((r2[i]'(by omega)).d.From))) Try.isAgg2 f63 ((hst.cell 2 rfl).drop 2) (kN0 (i := 5) hM (by decide) (by exact jD) (by exact rfl)))
    ·rintro D ρo wo nD eD cD jD aD ⟨f62, f64, _⟩
     exact go_plain (op_max2 (k := .i64) (a := (((r2[i]'(by omega)).d.Aggs)[j]'(by omega)).From) (b := (r2[i]'(by omega)).d.From) f62 f64 (kN0 (i := 6) hM (by decide) (by exact jD) (by exact rfl)))
    ·rintro D ρo wo nD eD cD jD aD ⟨f16, _⟩
     exact go_plain (op_fieldAddr (s := 0) Try.underlying29 rfl rfl Try.sizeOf2 (f16.trans rfl) (kN0 (i := 7) hM (by decide) (by exact jD) (by exact rfl)))
    ·rintro D ρo wo nD eD cD jD aD ⟨f66, _⟩
     have hst := jD.2.1 (not_yet nD (fun hm => (cD 19 8 hm (by kernel_rfl))))
     exact go_plain (op_load1 (u := (iV ((((r2[i]'(by omega)).d.Aggs)[j]'(by omega)).From))) Try.isAgg2 f66 (hst.cell 0 rfl) (kN0 (i := 8) hM (by decide) (by exact jD) (by exact rfl)))
    ·rintro D ρo wo nD eD cD jD aD ⟨f14, _⟩
     exact go_plain (op_fieldAddr (s := 0) Try.underlying76 rfl rfl Try.sizeOf3 (f14.trans q37_14) (kN0 (i := 9) hM (by decide) (by exact jD) (by exact rfl)))
    ·rintro D ρo wo nD eD cD jD aD ⟨f68, _⟩
     have hst := jD.2.1 (not_yet nD (fun hm => (cD 19 10 hm (by kernel_rfl))))
     exact go_plain (op_load1 (u := (iV ((r2[i]'(by omega)).d.Tier))) Try.isAgg3 f68 ((hst.cell 2 rfl).drop 1) (kN0 (i := 10) hM (by decide) (by exact jD) (by exact rfl)))
    ·rintro D ρo wo nD eD cD jD aD ⟨f69, _⟩
     refine go_plain (op_call Try.call38 (evs_cons (v := (iV ((r2[i]'(by omega)).d.Tier))) f69 evs_nil) (c_Width (w0 := wo) (k := (r2[i]'(by omega)).d.Tier) (k0 := (by omega)) (k1 := (by omega))) ?_)
     rintro _ w54 ⟨rfl, hcall⟩
     refine ⟨_, rfl, ?_⟩
     exact kN (i := 11) hM (by decide) hcall.below (by exact ⟨(jD.1).ext hcall.below, (fun x0 => (jD.2.1 x0).ext hcall.below), (fun x0 => (jD.2.2 x0).ext hcall.below)⟩) (by exact rfl)
    ·rintro D ρo wo nD eD cD jD aD ⟨f67, f70, _⟩
     exact go_plain (op_add (k := .i64) (a := (((r2[i]'(by omega)).d.Aggs)[j]'(by omega)).From) (b := (widthA ((r2[i]'(by omega)).d.Tier))) (((((r2[i]'(by omega)).d.Aggs)[j]'(by omega)).From) + (widthA ((r2[i]'(by omega)).d.Tier))) f67 f70 (xi64 (by omega) (by omega)) (kN0 (i := 12) hM (by decide) (by exact jD) (by exact rfl)))
    ·rintro D ρo wo nD eD cD jD aD ⟨f14, _⟩
     exact go_plain (op_fieldAddr (s := 0) Try.underlying76 rfl rfl Try.sizeOf2 (f14.trans q37_14) (kN0 (i := 13) hM (by decide) (by exact jD) (by exact rfl)))
    ·rintro D ρo wo nD eD cD jD aD ⟨f72, _⟩
     have hst := jD.2.1 (not_yet nD (fun hm => (cD 19 14 hm (by kernel_rfl))))
     exact go_plain (op_load1 (u := (iV ((r2[i]'(by omega)).d.To))) Try.isAgg2 f72 ((hst.cell 2 rfl).drop 3) (kN0 (i := 14) hM (by decide) (by exact jD) (by exact rfl)))
    ·rintro D ρo wo nD eD cD jD aD ⟨f71, f73, _⟩
     exact go_plain (op_min2 (k := .i64) (a := (((((r2[i]'(by omega)).d.Aggs)[j]'(by omega)).From) + (widthA ((r2[i]'(by omega)).d.Tier)))) (b := (r2[i]'(by omega)).d.To) f71 f73 (kN0 (i := 15) hM (by decide) (by exact jD) (by exact rfl)))
    ·rintro D ρo wo nD eD cD jD aD ⟨f16, _⟩
     have hst := jD.2.1 (not_yet nD (fun hm => (cD 19 16 hm (by kernel_rfl))))
     exact go_plain (op_loadN (cs := (aggC (((r2[i]'(by omega)).d.Aggs)[j]'(by omega)))) Try.isAgg29 Try.sizeOf29 (f16.trans rfl) (Pt.of (hst.cell 0 rfl) rfl) rfl (kN0 (i := 16) hM (by decide) (by exact jD) (by exact rfl)))
    ·rintro D ρo wo nD eD cD jD aD ⟨f60, f65, f74, f75, _⟩
     exact go_plain (op_build (r := (.agg #[(iV ((r2[i]'(by omega)).d.Tier)), (iV (max ((((r2[i]'(by omega)).d.Aggs)[j]'(by omega)).From) ((r2[i]'(by omega)).d.From))), (iV (min (((((r2[i]'(by omega)).d.Aggs)[j]'(by omega)).From) + (widthA ((r2[i]'(by omega)).d.Tier))) ((r2[i]'(by omega)).d.To))), (iV ((((r2[i]'(by omega)).d.Aggs)[j]'(by omega)).From)), (iV ((((r2[i]'(by omega)).d.Aggs)[j]'(by omega)).Count)), (iV ((((r2[i]'(by omega)).d.Aggs)[j]'(by omega)).Sum)), (iV ((((r2[i]'(by omega)).d.Aggs)[j]'(by omega)).Min)), (iV ((((r2[i]'(by omega)).d.Aggs)[j]'(by omega)).Max)), (iV ((((r2[i]'(by omega)).d.Aggs)[j]'(by omega)).First)), (iV ((((r2[i]'(by omega)).d.Aggs)[j]'(by omega)).Last))])) (evp_cons (v := (iV ((r2[i]'(by omega)).d.Tier))) f60 (evp_cons (v := (iV (max ((((r2[i]'(by omega)).d.Aggs)[j]'(by omega)).From) ((r2[i]'(by omega)).d.From)))) f65 (evp_cons (v := (iV (min (((((r2[i]'(by omega)).d.Aggs)[j]'(by omega)).From) + (widthA ((r2[i]'(by omega)).d.Tier))) ((r2[i]'(by omega)).d.To)))) f74 (evp_cons (v := (.agg (aggA (((r2[i]'(by omega)).d.Aggs)[j]'(by omega))))) f75 evp_nil)))) (by simp [Instr.build, Instr.fill, Value.cells, Try.runUnderlying33, Try.zeroValue33]) (kN0 (i := 17) hM (by decide) (by exact jD) (by exact rfl)))
    ·rintro D ρo wo nD eD cD jD aD ⟨_⟩
     have hst := jD.2.1 (not_yet nD (fun hm => (cD 19 18 hm (by kernel_rfl))))
     have hst := St.start wo
     refine go_plain (op_alloc (cs := #[(iV 0), (iV 0), (iV 0), (iV 0), (iV 0), (iV 0), (iV 0), (iV 0), (iV 0), (iV 0)]) hst Try.zeroValue33 rfl (fun g55 w56 hst _ => ?_))
     exact kN (i := 18) hM (by decide) hst.below (by exact ⟨(jD.1).ext hst.below, (fun x0 => (jD.2.1 x0).ext hst.below), (fun x0 => (jD.2.2 x0).ext hst.below)⟩) (by exact ⟨_, rfl, (fun y0 => (jD.2.1 y0).call hst), (fun y0 => absurd (show D 19 = true from y0) (by rw [(not_yet nD (fun hm => (cD 19 18 hm (by kernel_rfl))))]; decide))⟩)
    ·rintro D ρo wo nD eD cD jD aD ⟨f17, f76, _⟩
     obtain ⟨g57, e58, hh59⟩ := aD 18 17 (eD 18 (by kernel_rfl)) rfl
     have hst : St w0 wo [.blk g57 33 #[(iV 0), (iV 0), (iV 0), (iV 0), (iV 0), (iV 0), (iV 0), (iV 0), (iV 0), (iV 0)], .blk g46 29 (aggA (((r2[i]'(by omega)).d.Aggs)[j]'(by omega))), rowT 33 winE vz zs, .blk g30 76 #[(iV ((r2[i]'(by omega)).d.Id)), (iV ((r2[i]'(by omega)).d.Tier)), (iV ((r2[i]'(by omega)).d.From)), (iV ((r2[i]'(by omega)).d.To)), (r2[i]'(by omega)).sv.1, (r2[i]'(by omega)).av.1], rowT 76 segE r1 r2] := hh59.1 nD
     refine go_plain (op_storeAll hst 0 rfl Try.sizeOf33 e58 f76 rfl rfl (by simp [Value.oneCell']) (fun w60 hst => ?_))
     refine ⟨by exact ⟨hst.sub (.cons _ (.cons_cons _ (.cons_cons _ (.cons_cons _ (.cons_cons _ .slnil))))), (fun y0 => absurd y0 (fun h => Bool.noConfusion h)), (fun y0 => hst.sub (.cons _ (.cons_cons _ (.cons_cons _ (.cons_cons _ (.cons_cons _ .slnil))))))⟩, by exact trivial, kX [18] (by exact ⟨Or.inr (Or.inr (Or.inr iEq)), Or.inr (Or.inr (Or.inr iEq)), Or.inr (Or.inr (Or.inr iEq)), Or.inr (Or.inr (Or.inr iEq)), Or.inr (Or.inr (Or.inr iEq)), Or.inr (Or.inr (Or.inr iEq)), Or.inr (Or.inr (Or.inr iEq)), Or.inr (Or.inr (Or.inr iEq)), Or.inr (Or.inr (Or.inr iEq)), Or.inr (Or.inr (Or.inr iEq)), Or.inr (Or.inr (Or.inr iEq)), Or.inr (Or.inr (Or.inr iEq)), Or.inr (Or.inr (Or.inr iEq)), Or.inr (Or.inr (Or.inr iEq)), Or.inr (Or.inr (Or.inr iEq)), Or.inr (Or.inr (Or.inr iEq)), Or.inr (Or.inr (Or.inr iEq)), Or.inr (Or.inr (Or.inr iEq)), Or.inr (Or.inl (by decide)), Or.inl rfl, trivial⟩) ?_⟩
     intro j d hj hjd hDj h
     simp only [List.mem_cons, List.not_mem_nil, or_false] at hj
     subst hj
     obtain rfl : 17 = d := Option.some.inj hjd
     exact ⟨_, e58, (fun y0 => absurd y0 (fun h => Bool.noConfusion h)), (fun y0 => hst.sub (.cons_cons _ (.cons_cons _ (.cons_cons _ (.cons_cons _ (.cons_cons _ .slnil))))))⟩
    intro ρ62 w63 Dw63 hallw63 hJw63 hRw63 hkw63
    obtain ⟨g64, uw63_17, hhw63⟩ := hRw63 18 17 rfl
    have hst : St w0 w63 [.blk g64 33 #[(iV ((r2[i]'(by omega)).d.Tier)), (iV (max ((((r2[i]'(by omega)).d.Aggs)[j]'(by omega)).From) ((r2[i]'(by omega)).d.From))), (iV (min (((((r2[i]'(by omega)).d.Aggs)[j]'(by omega)).From) + (widthA ((r2[i]'(by omega)).d.Tier))) ((r2[i]'(by omega)).d.To))), (iV ((((r2[i]'(by omega)).d.Aggs)[j]'(by omega)).From)), (iV ((((r2[i]'(by omega)).d.Aggs)[j]'(by omega)).Count)), (iV ((((r2[i]'(by omega)).d.Aggs)[j]'(by omega)).Sum)), (iV ((((r2[i]'(by omega)).d.Aggs)[j]'(by omega)).Min)), (iV ((((r2[i]'(by omega)).d.Aggs)[j]'(by omega)).Max)), (iV ((((r2[i]'(by omega)).d.Aggs)[j]'(by omega)).First)), (iV ((((r2[i]'(by omega)).d.Aggs)[j]'(by omega)).Last))], .blk g46 29 (aggA (((r2[i]'(by omega)).d.Aggs)[j]'(by omega))), rowT 33 winE vz zs, .blk g30 76 #[(iV ((r2[i]'(by omega)).d.Id)), (iV ((r2[i]'(by omega)).d.Tier)), (iV ((r2[i]'(by omega)).d.From)), (iV ((r2[i]'(by omega)).d.To)), (r2[i]'(by omega)).sv.1, (r2[i]'(by omega)).av.1], rowT 76 segE r1 r2] := hhw63.2 (hallw63 19 (show 19 < 20 from by decide))
    have uw63_0 := (hkw63 0 rfl).trans q37_0
    have uw63_1 := (hkw63 1 rfl).trans q37_1
    have uw63_2 := (hkw63 2 rfl).trans q37_2
    have uw63_3 := (hkw63 3 rfl).trans q37_3
    have uw63_8 := (hkw63 8 rfl).trans q37_8
    have uw63_9 := (hkw63 9 rfl).trans q37_9
    have uw63_10 := (hkw63 10 rfl).trans q37_10
    have uw63_11 := (hkw63 11 rfl).trans q37_11
    have uw63_39 := (hkw63 39 rfl).trans q37_39
    have uw63_40 := (hkw63 40 rfl).trans q37_40
    have uw63_41 := (hkw63 41 rfl).trans q37_41
    have uw63_14 := (hkw63 14 rfl).trans q37_14
    have uw63_53 := (hkw63 53 rfl).trans q37_53
    have uw63_54 := (hkw63 54 rfl).trans q37_54
    have uw63_12 := (hkw63 12 rfl).trans q37_12
    have uw63_55 := (hkw63 55 rfl).trans q37_55
    refine then_n (cE_seq (cE_seq (cE_region rfl (s_cons (op_fieldAddr (s := 0) Try.underlying33 rfl rfl Try.sizeOf2 uw63_17 (s_cons (op_load1 (u := (iV (max ((((r2[i]'(by omega)).d.Aggs)[j]'(by omega)).From) ((r2[i]'(by omega)).d.From)))) Try.isAgg2 rfl ((hst.cell 0 rfl).drop 1) (s_cons (op_move (iV fr) uw63_2 (s_cons (op_max2 (k := .i64) (a := (max ((((r2[i]'(by omega)).d.Aggs)[j]'(by omega)).From) ((r2[i]'(by omega)).d.From))) (b := fr) rfl rfl ?_)))))))))))
    refine s_cons (op_fieldAddr (s := 0) Try.underlying33 rfl rfl Try.sizeOf2 uw63_17 (s_cons (op_load1 (u := (iV (min (((((r2[i]'(by omega)).d.Aggs)[j]'(by omega)).From) + (widthA ((r2[i]'(by omega)).d.Tier))) ((r2[i]'(by omega)).d.To)))) Try.isAgg2 rfl ((hst.cell 0 rfl).drop 2) (s_cons (op_move (iV to) uw63_3 (s_cons (op_min2 (k := .i64) (a := (min (((((r2[i]'(by omega)).d.Aggs)[j]'(by omega)).From) + (widthA ((r2[i]'(by omega)).d.Tier))) ((r2[i]'(by omega)).d.To))) (b := to) rfl rfl ?_)))))))
    refine s_cons (op_geq (k := .i64) (a := (max (max ((((r2[i]'(by omega)).d.Aggs)[j]'(by omega)).From) ((r2[i]'(by omega)).d.From)) fr)) (b := (min (min (((((r2[i]'(by omega)).d.Aggs)[j]'(by omega)).From) + (widthA ((r2[i]'(by omega)).d.Tier))) ((r2[i]'(by omega)).d.To)) to)) rfl rfl (s_nil (then_n ?_)))
    rcases Bool.eq_false_or_eq_true (decide ((min (min (((((r2[i]'(by omega)).d.Aggs)[j]'(by omega)).From) + (widthA ((r2[i]'(by omega)).d.Tier))) ((r2[i]'(by omega)).d.To)) to) ≤ (max (max ((((r2[i]'(by omega)).d.Aggs)[j]'(by omega)).From) ((r2[i]'(by omega)).d.From)) fr))) with b65 | b65
    ·have c66 := of_decide_eq_true b65
     refine cE_cond true (congrArg Value.bool b65) (fun _ => ?_) (fun h => by cases h)
     refine cE_exit (then_x (block_hit (then_n (cE_region rfl (s_cons (op_add (k := .i64) (a := (j : Int)) (b := 1) ((j : Int) + 1) uw63_55 rfl (xi64 (by omega) (by omega)) (s_cons (op_move (iV ((j : Int) + 1)) rfl (s_nil (then_n ?_))))))))))
     exact ⟨_, ⟨vz, zs, (j + 1), rfl, uw63_0, uw63_1, uw63_2, uw63_3, uw63_8, uw63_9, uw63_10, uw63_11, uw63_39, uw63_40, uw63_41, uw63_14, uw63_53, uw63_54, uw63_12, (congrArg iV (show ((j : Int) + 1) = _ from by omega)), (hst.sub (.cons _ (.cons _ (.cons_cons _ (.cons_cons _ (.cons_cons _ .slnil)))))), (by omega), (by exact agg_no (by omega) hJ (win_skip hms (List.getElem_mem _) (by omega) (by assumption)))⟩, (by simp only [id]; omega)⟩
    have c67 := of_decide_eq_false b65
    refine cE_cond false (congrArg Value.bool b65) (fun h => by cases h) (fun _ => ?_)
    refine cE_skip (then_n (cE_region rfl (s_cons (op_move vz uw63_12 (s_cons (op_loadN (cs := [(iV ((r2[i]'(by omega)).d.Tier)), (iV (max ((((r2[i]'(by omega)).d.Aggs)[j]'(by omega)).From) ((r2[i]'(by omega)).d.From))), (iV (min (((((r2[i]'(by omega)).d.Aggs)[j]'(by omega)).From) + (widthA ((r2[i]'(by omega)).d.Tier))) ((r2[i]'(by omega)).d.To))), (iV ((((r2[i]'(by omega)).d.Aggs)[j]'(by omega)).From)), (iV ((((r2[i]'(by omega)).d.Aggs)[j]'(by omega)).Count)), (iV ((((r2[i]'(by omega)).d.Aggs)[j]'(by omega)).Sum)), (iV ((((r2[i]'(by omega)).d.Aggs)[j]'(by omega)).Min)), (iV ((((r2[i]'(by omega)).d.Aggs)[j]'(by omega)).Max)), (iV ((((r2[i]'(by omega)).d.Aggs)[j]'(by omega)).First)), (iV ((((r2[i]'(by omega)).d.Aggs)[j]'(by omega)).Last))]) Try.isAgg33 Try.sizeOf33 uw63_17 (Pt.of (hst.cell 0 rfl) rfl) rfl ?_))))))
    refine s_cons (op_buildSlice (E := winE) [(⟨(r2[i]'(by omega)).d.Tier, (max ((((r2[i]'(by omega)).d.Aggs)[j]'(by omega)).From) ((r2[i]'(by omega)).d.From)), (min (((((r2[i]'(by omega)).d.Aggs)[j]'(by omega)).From) + (widthA ((r2[i]'(by omega)).d.Tier))) ((r2[i]'(by omega)).d.To)), (((r2[i]'(by omega)).d.Aggs)[j]'(by omega))⟩ : Win)] hst Try.underlying27 Try.sizeOf33 Try.zeroValue33 (evp_cons (v := (.agg #[(iV ((r2[i]'(by omega)).d.Tier)), (iV (max ((((r2[i]'(by omega)).d.Aggs)[j]'(by omega)).From) ((r2[i]'(by omega)).d.From))), (iV (min (((((r2[i]'(by omega)).d.Aggs)[j]'(by omega)).From) + (widthA ((r2[i]'(by omega)).d.Tier))) ((r2[i]'(by omega)).d.To))), (iV ((((r2[i]'(by omega)).d.Aggs)[j]'(by omega)).From)), (iV ((((r2[i]'(by omega)).d.Aggs)[j]'(by omega)).Count)), (iV ((((r2[i]'(by omega)).d.Aggs)[j]'(by omega)).Sum)), (iV ((((r2[i]'(by omega)).d.Aggs)[j]'(by omega)).Min)), (iV ((((r2[i]'(by omega)).d.Aggs)[j]'(by omega)).Max)), (iV ((((r2[i]'(by omega)).d.Aggs)[j]'(by omega)).First)), (iV ((((r2[i]'(by omega)).d.Aggs)[j]'(by omega)).Last))])) rfl evp_nil) (parts_cons rfl parts_nil) rfl (by decide) (fun v68 w69 hst => ?_))
    refine s_cons (op_append (E := winE) (xs := zs) (ys := [(⟨(r2[i]'(by omega)).d.Tier, (max ((((r2[i]'(by omega)).d.Aggs)[j]'(by omega)).From) ((r2[i]'(by omega)).d.From)), (min (((((r2[i]'(by omega)).d.Aggs)[j]'(by omega)).From) + (widthA ((r2[i]'(by omega)).d.Tier))) ((r2[i]'(by omega)).d.To)), (((r2[i]'(by omega)).d.Aggs)[j]'(by omega))⟩ : Win)]) (z := (.agg #[(iV 0), (iV 0), (iV 0), (iV 0), (iV 0), (iV 0), (iV 0), (iV 0), (iV 0), (iV 0)])) (bytes := 80) hst 3 rfl Try.underlying27 (by kernel_rfl) rfl rfl rfl (hst.sl 0 rfl) (by (simp; omega)) (by (simp; omega)) (fun v70 w71 hst => ?_))
    refine s_cons (op_assign v70 rfl (s_nil (block_n (then_n (cE_region rfl (s_cons (op_add (k := .i64) (a := (j : Int)) (b := 1) ((j : Int) + 1) uw63_55 rfl (xi64 (by omega) (by omega)) (s_cons (op_move (iV ((j : Int) + 1)) rfl (s_nil (then_n ?_)))))))))))
    exact ⟨_, ⟨v70, (zs ++ ([(⟨(r2[i]'(by omega)).d.Tier, (max ((((r2[i]'(by omega)).d.Aggs)[j]'(by omega)).From) ((r2[i]'(by omega)).d.From)), (min (((((r2[i]'(by omega)).d.Aggs)[j]'(by omega)).From) + (widthA ((r2[i]'(by omega)).d.Tier))) ((r2[i]'(by omega)).d.To)), (((r2[i]'(by omega)).d.Aggs)[j]'(by omega))⟩ : Win)])), (j + 1), rfl, uw63_0, uw63_1, uw63_2, uw63_3, uw63_8, uw63_9, uw63_10, uw63_11, uw63_39, uw63_40, uw63_41, uw63_14, uw63_53, uw63_54, rfl, (congrArg iV (show ((j : Int) + 1) = _ from by omega)), (hst.sub (.cons _ (.cons _ (.cons _ (.cons_cons _ (.cons_cons _ (.cons_cons _ .slnil))))))), (by omega), (by exact agg_go (by omega) hJ (win_keep hms (List.getElem_mem _) (by omega) (by assumption)))⟩, (by simp only [id]; omega)⟩
   have c72 := of_decide_eq_false b41
   refine cE_cond false (congrArg Value.bool b41) (fun h => by cases h) (fun _ => ?_)
   refine cE_exit (then_x (then_x (block_hit (scope_n (block_n (then_n (cE_region rfl (s_cons (op_add (k := .i64) (a := (i : Int)) (b := 1) ((i : Int) + 1) q37_41 rfl (xi64 (by omega) (by omega)) (s_cons (op_move (iV ((i : Int) + 1)) rfl (s_nil (then_n ?_)))))))))))))
   exact ⟨_, ⟨vz, zs, (i + 1), rfl, q37_0, q37_1, q37_2, q37_3, q37_8, q37_9, q37_10, q37_11, q37_39, q37_40, q37_12, (congrArg iV (show ((i : Int) + 1) = _ from by omega)), (hst.sub (.cons_cons _ (.cons _ (.cons_cons _ .slnil)))), (by omega), (by exact seg_step (by omega) hQ hI hJ (by omega))⟩, (by simp only [id]; omega)⟩
  have c73 := of_decide_eq_false b25
  refine cE_cond false (congrArg Value.bool b25) (fun h => by cases h) (fun _ => ?_)
  refine cE_exit (then_x (then_x (block_hit (then_n (cE_seq ?_)))))
  have hyA := seg_all hI (by omega)
  have hrl := rawW_len head fr to
  refine cE_region rfl (s_cons (op_move vo q21_12 (s_cons (op_move v_head q21_1 (s_cons (op_move (iV fr) q21_2 (s_cons (op_move (iV to) q21_3 (s_cons (op_call Try.call37 (evs_cons (v := v_head) rfl (evs_cons (v := (iV fr)) rfl (evs_cons (v := (iV to)) rfl evs_nil))) (c_samples (w0 := w24) (v_l := v_head) (l := head) (h_l := (h_head.below hst.below)) (fr := fr) (to := to) (hl := hho) (fr0 := (by omega)) (to0 := (by omega)) (fr1 := (by omega)) (to1 := (by omega)) (hll := (by omega))) ?_))))))))))
  rintro _ w75 ⟨r74, rfl, hcall⟩
  refine ⟨_, rfl, ?_⟩
  have hst := hst.call hcall
  refine s_cons (op_append (E := winE) (xs := ys) (ys := (rawW head fr to)) (z := (.agg #[(iV 0), (iV 0), (iV 0), (iV 0), (iV 0), (iV 0), (iV 0), (iV 0), (iV 0), (iV 0)])) (bytes := 80) hst 1 rfl Try.underlying27 (by kernel_rfl) rfl rfl rfl (hst.sl 0 rfl) (by omega) (by omega) (fun v76 w77 hst => ?_))
  refine s_cons (op_assign v76 rfl (s_cons (op_assign (iV 0) rfl (s_nil (then_n (cE_ret (post_r _ (res2 (v := v76) rfl (x := (iV 0)) rfl) ?_)))))))
  have e78 : (ys ++ (rawW head fr to)) = (rangeW (ds segs) head fr to).1 := by (rw [hyA]; exact fst_of (range_yes hkR (by omega)))
  replace hst : St w0 w77 [rowT 33 winE r74 (rawW head fr to), rowT 33 winE v76 ((rangeW (ds segs) head fr to).1), rowT 76 segE r1 r2] := by rw [congrArg (fun l => rowT 33 winE v76 l) e78] at hst; exact hst
  exact ⟨v76, (retv2 rfl (congrArg iV (show 0 = (rangeW (ds segs) head fr to).2 from by exact snd_of (range_yes hkR (by omega))))), hst.sub (.cons _ (.cons_cons _ (.cons _ .slnil)))⟩
 refine cE_cond true (congrArg Value.bool (congrArg (! ·) b5)) (fun _ => ?_) (fun h => by cases h)
 refine cE_seq (cE_region rfl (s_cons (op_assign nS rfl (s_cons (op_assign (iV 1) rfl (s_nil (then_n (cE_ret (block_r (then_r (post_r _ (res2 (v := nS) rfl (x := (iV 1)) rfl) ?_)))))))))))
 replace hst := hst.nilRow 33 winE
 have e79 : [] = (rangeW (ds segs) head fr to).1 := by exact fst_of (range_no (picked_hok.symm.trans (by assumption)))
 replace hst : St w0 w4 [rowT 33 winE nS ((rangeW (ds segs) head fr to).1), rowT 76 segE r1 r2] := by rw [congrArg (fun l => rowT 33 winE nS l) e79] at hst; exact hst
 exact ⟨nS, (retv2 rfl (congrArg iV (show 1 = (rangeW (ds segs) head fr to).2 from by exact snd_of (range_no (picked_hok.symm.trans (by assumption)))))), hst.sub (.cons_cons _ (.cons _ .slnil))⟩

end Go.Proofs.Ytldfnkhccaglmaa
