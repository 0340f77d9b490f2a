/- twinkeeplaw8.SegmentRolls -/
import Derived.Test.YtgibfidebdgffaaDoorXLB
import Derived.Test.YtgibfidebdgffaaDoorXW57
import Derived.Test.YtgibfidebdgffaaDoorXW41
namespace Go.Proofs.YtgibfidebdgffaaDoor
open Go.RowKit

set_option maxRecDepth 8000 in
set_option maxHeartbeats 8000000 in
theorem c_SegmentRolls (w0 : World) (nid : Int) (fr_ : Int) (v_steps : Value) (steps : List Int) (h_steps : Sl w0 (intE .i64) v_steps steps) (v_values : Value) (values : List Int) (h_values : Sl w0 (intE .i64) v_values values) (hv : ∀ v ∈ values, i64R v) (hst_ : ∀ v ∈ steps, i64R v) (hsl : steps.length * 8 ≤ 140737488351232) (nid0 : -9223372036854775808 ≤ nid) (fr_0 : -9223372036854775808 ≤ fr_) (nid1 : nid ≤ 9223372036854775807) (fr_1 : fr_ ≤ 9223372036854775807) :
  Calls Tryd.prog 5 #[(iV nid), (iV fr_), v_steps, v_values] w0 fun e w' => e = .returned (.bool true) ∧ St w0 w' [] := by
 refine calls_E (n := 125) (ts := [8]) Tryd.func5 rfl rfl rfl (by simp) ?_
 have hst := St.start w0
 refine cE_seq (cE_region rfl (s_cons (op_assign (.bool false) rfl (s_nil (then_n (cE_seq (cE_region rfl (s_cons (op_move (iV nid) rfl (s_cons (op_move (iV fr_) rfl (s_cons (op_conv (k := .i64) (a := fr_) (fr_ % 18446744073709551616) Tryd.underlying22 (by rw [Tryd.underlying3]; rfl) rfl (IntKind.wrap_u64 _) ?_)))))))))))))
 obtain ⟨f, hf, hfl⟩ := rem_nat (a := (fr_ % 18446744073709551616)) (b := 100000) (by omega) (by omega)
 refine s_cons (op_rem (k := .u64) (a := (fr_ % 18446744073709551616)) (b := 100000) (f : Int) rfl rfl (by omega) hf (s_cons (op_conv (k := .u64) (a := (f : Int)) (f : Int) Tryd.underlying2 (by rw [Tryd.underlying22]; rfl) rfl (xi64 (by omega) (by omega)) (s_cons (op_move v_steps rfl (s_cons (op_move v_values rfl (s_cons (op_call Tryd.call11 (evs_cons (v := (iV nid)) rfl (evs_cons (v := (iV (f : Int))) rfl (evs_cons (v := v_steps) rfl (evs_cons (v := v_values) rfl evs_nil)))) (c_Make (w0 := w0) (nid := nid) (fr := (f : Int)) (v_steps := v_steps) (steps := steps) (h_steps := (h_steps.below hst.below)) (v_values := v_values) (values := values) (h_values := (h_values.below hst.below)) (hv := hv) (hs := hst_) (hf0 := (by omega)) (hf1 := (by omega)) (hsl := (by omega)) (nid0 := (by omega)) (nid1 := (by omega))) ?_)))))))))
 rintro _ w2 ⟨r1, rfl, hcall, Make_hd⟩
 refine ⟨_, rfl, ?_⟩
 have hst : St w0 w2 [rowT 28 sampE r1.sv.1 r1.d.Samples, rowT 45 aggE r1.av.1 r1.d.Aggs] := hst.call hcall
 refine s_cons (op_alloc (cs := #[(iV 0), (iV 0), (iV 0), (iV 0), nS, nS]) hst Tryd.zeroValue26 rfl (fun g3 w4 hst _ => ?_))
 replace hst : St w0 w4 [.blk g3 26 #[(iV 0), (iV 0), (iV 0), (iV 0), nS, nS], rowT 28 sampE r1.sv.1 r1.d.Samples, rowT 45 aggE r1.av.1 r1.d.Aggs] := hst
 refine s_cons0 (op_storeAll hst 0 rfl Tryd.sizeOf26 rfl rfl rfl rfl (oneL_all (l := [(iV r1.d.Id), (iV r1.d.Tier), (iV r1.d.From), (iV r1.d.To), r1.sv.1, r1.av.1]) ⟨rfl, rfl, rfl, rfl, r1.sv.2, r1.av.2, trivial⟩) (fun w5 hst => ?_))
 replace hst : St w0 w5 [.blk g3 26 #[(iV r1.d.Id), (iV r1.d.Tier), (iV r1.d.From), (iV r1.d.To), r1.sv.1, r1.av.1], rowT 28 sampE r1.sv.1 r1.d.Samples, rowT 45 aggE r1.av.1 r1.d.Aggs] := hst
 refine s_nil (then_n (cE_seq ?_))
 obtain ⟨hm, ho, ht, hc, hbl, hf, hs, hn, hto, ha, hid⟩ := make_facts Make_hd (by omega) (by omega) hv
 refine cE_region rfl (s_cons (op_assign (iV 0) rfl (s_nil (then_n (cE_seq (cE_seq (cE_region rfl (s_cons (op_assign (iV 0) rfl (s_nil (then_n (cE_block (cE_loop (fun (m : Nat) (ρ : Env) (w : World) => ∃ (i : Nat), m = r1.d.Samples.length - i ∧ ρ 0 = (iV nid) ∧ ρ 1 = (iV fr_) ∧ ρ 2 = v_steps ∧ ρ 3 = v_values ∧ ρ 8 = (.bool false) ∧ ρ 9 = (.pointer (some ⟨g3, 0, none⟩)) ∧ ρ 10 = (iV (sumS (r1.d.Samples.take i))) ∧ ρ 11 = (iV (i : Int)) ∧ St w0 w [.blk g3 26 #[(iV r1.d.Id), (iV r1.d.Tier), (iV r1.d.From), (iV r1.d.To), r1.sv.1, r1.av.1], rowT 28 sampE r1.sv.1 r1.d.Samples, rowT 45 aggE r1.av.1 r1.d.Aggs] ∧ (i ≤ r1.d.Samples.length)) id _ ⟨0, rfl, rfl, rfl, rfl, rfl, rfl, rfl, (congrArg iV (show 0 = _ from by first | rfl | exact (sumS_succ (by omega)).symm)), (congrArg iV (show 0 = _ from by omega)), hst, (by omega)⟩ ?_)))))))))))))
 rintro m7 ρ8 w9 ⟨i, hm7, q6_0, q6_1, q6_2, q6_3, q6_8, q6_9, q6_10, q6_11, hst, hi⟩
 have hsb := sumS_bound (r1.d.Samples.take i) (fun x hx => hs x (List.mem_of_mem_take hx))
 rw [List.length_take] at hsb
 refine cE_seq (cE_seq (cE_region rfl (s_cons (op_move (iV (i : Int)) q6_11 (s_cons (op_fieldAddr (s := 0) Tryd.underlying26 rfl rfl Tryd.sizeOf23 q6_9 (s_cons (op_load1 (u := r1.sv.1) Tryd.isAgg23 rfl ((hst.cell 0 rfl).drop 4) (s_cons (op_len (E := sampE) (xs := r1.d.Samples) Tryd.underlying23 rfl (hst.sl 1 rfl) (s_cons (op_lss (k := .i64) (a := (i : Int)) (b := (r1.d.Samples.length : Int)) rfl rfl ?_))))))))))))
 refine s_nil (then_n ?_)
 rcases Bool.eq_false_or_eq_true (decide ((i : Int) < (r1.d.Samples.length : Int))) with b10 | b10
 ·have c11 : (i : Int) < (r1.d.Samples.length : Int) := of_decide_eq_true b10
  refine cE_cond true (congrArg Value.bool b10) (fun _ => ?_) (fun h => by cases h)
  refine cE_skip (then_n (cE_seq (cE_block ?_)))
  have hss := hs _ (List.getElem_mem (show i < r1.d.Samples.length by omega))
  unfold smallS at hss
  refine cE_region rfl (s_cons (op_move (iV (sumS (r1.d.Samples.take i))) q6_10 (s_cons (op_fieldAddr (s := 0) Tryd.underlying26 rfl rfl Tryd.sizeOf23 q6_9 (s_cons (op_load1 (u := r1.sv.1) Tryd.isAgg23 rfl ((hst.cell 0 rfl).drop 4) (s_cons (op_move (iV (i : Int)) q6_11 (s_cons (op_indexAddrN (E := sampE) (xs := r1.d.Samples) i Tryd.underlying23 Tryd.sizeOf28 rfl (hst.sl 1 rfl) rfl (by omega) (by omega) (fun a12 o13 p14 => ?_)))))))))))
  refine s_cons (op_fieldAddr (s := 0) Tryd.underlying28 rfl rfl Tryd.sizeOf2 rfl (s_cons (op_load1 (u := (iV ((r1.d.Samples[i]'(by omega)).V))) Tryd.isAgg2 rfl (p14.drop 1) (s_cons (op_add (k := .i64) (a := (sumS (r1.d.Samples.take i))) (b := (r1.d.Samples[i]'(by omega)).V) ((sumS (r1.d.Samples.take i)) + ((r1.d.Samples[i]'(by omega)).V)) rfl rfl (xi64 (by omega) (by omega)) (s_cons (op_assign (iV ((sumS (r1.d.Samples.take i)) + ((r1.d.Samples[i]'(by omega)).V))) rfl ?_)))))))
  refine s_nil (block_n (then_n (cE_region rfl (s_cons (op_move (iV (i : Int)) q6_11 (s_cons (op_add (k := .i64) (a := (i : Int)) (b := 1) ((i : Int) + 1) rfl rfl (xi64 (by omega) (by omega)) (s_cons (op_assign (iV ((i : Int) + 1)) rfl (s_nil (then_n ?_)))))))))))
  exact ⟨_, ⟨(i + 1), rfl, q6_0, q6_1, q6_2, q6_3, q6_8, q6_9, (congrArg iV (show ((sumS (r1.d.Samples.take i)) + ((r1.d.Samples[i]'(by omega)).V)) = _ from by first | rfl | exact (sumS_succ (by omega)).symm)), (congrArg iV (show ((i : Int) + 1) = _ from by omega)), hst, (by omega)⟩, (by simp only [id]; omega)⟩
 have c15 : ¬ ((i : Int) < (r1.d.Samples.length : Int)) := of_decide_eq_false b10
 refine cE_cond false (congrArg Value.bool b10) (fun h => by cases h) (fun _ => ?_)
 refine cE_exit (then_x (then_x (block_hit (then_n (cE_seq ?_)))))
 have hsT : sumS (r1.d.Samples.take i) = sumS r1.d.Samples := by rw [List.take_of_length_le (by omega)]
 refine cE_region rfl (s_cons (op_fieldAddr (s := 0) Tryd.underlying26 rfl rfl Tryd.sizeOf23 q6_9 (s_cons (op_load1 (u := r1.sv.1) Tryd.isAgg23 rfl ((hst.cell 0 rfl).drop 4) (s_cons (op_len (E := sampE) (xs := r1.d.Samples) Tryd.underlying23 rfl (hst.sl 1 rfl) (s_cons (op_assign (iV (r1.d.Samples.length : Int)) rfl (s_nil (then_n (cE_seq (cE_seq (cE_region rfl (s_cons (op_assign (iV 1) rfl ?_)))))))))))))))
 refine s_nil (then_n (cE_block (cE_loop (fun (m : Nat) (ρ : Env) (w : World) => ∃ (sg : Seg) (kk : Nat), m = 3 - kk ∧ ρ 0 = (iV nid) ∧ ρ 1 = (iV fr_) ∧ ρ 2 = v_steps ∧ ρ 3 = v_values ∧ ρ 9 = (.pointer (some ⟨g3, 0, none⟩)) ∧ ρ 10 = (iV (sumS (r1.d.Samples.take i))) ∧ ρ 11 = (iV (i : Int)) ∧ ρ 12 = (iV (r1.d.Samples.length : Int)) ∧ ρ 13 = (iV ((kk : Int) + 1)) ∧ St w0 w [.blk g3 26 #[(iV sg.d.Id), (iV sg.d.Tier), (iV sg.d.From), (iV sg.d.To), sg.sv.1, sg.av.1], rowT 28 sampE sg.sv.1 sg.d.Samples, rowT 45 aggE sg.av.1 sg.d.Aggs] ∧ (kk ≤ 3) ∧ (sg.d = atR r1.d kk)) id _ ⟨r1, 0, rfl, q6_0, q6_1, q6_2, q6_3, q6_9, q6_10, q6_11, rfl, (congrArg iV (show 1 = _ from by first | rfl | omega)), hst, (by omega), (by first | rfl | exact hD)⟩ ?_)))
 rintro m17 ρ18 w19 ⟨sg, kk, hm17, q16_0, q16_1, q16_2, q16_3, q16_9, q16_10, q16_11, q16_12, q16_13, hst, hkk, hsg⟩
 refine cE_seq (cE_seq (cE_region rfl (s_cons (op_move (iV ((kk : Int) + 1)) q16_13 (s_cons (op_leq (k := .i64) (a := ((kk : Int) + 1)) (b := 3) rfl rfl (s_nil (then_n ?_))))))))
 rcases Bool.eq_false_or_eq_true (decide (((kk : Int) + 1) ≤ 3)) with b20 | b20
 ·have c21 : ((kk : Int) + 1) ≤ 3 := of_decide_eq_true b20
  refine cE_cond true (congrArg Value.bool b20) (fun _ => ?_) (fun h => by cases h)
  refine cE_skip (then_n (cE_seq (cE_block (cE_seq (cE_region rfl (s_cons (op_loadN (cs := [(iV sg.d.Id), (iV sg.d.Tier), (iV sg.d.From), (iV sg.d.To), sg.sv.1, sg.av.1]) Tryd.isAgg26 Tryd.sizeOf26 q16_9 (Pt.of (hst.cell 0 rfl) rfl) rfl (s_cons (op_buildSlice (E := segE) [sg] hst Tryd.underlying43 Tryd.sizeOf26 Tryd.zeroValue26 (evp_cons (v := (.agg #[(iV sg.d.Id), (iV sg.d.Tier), (iV sg.d.From), (iV sg.d.To), sg.sv.1, sg.av.1])) rfl evp_nil) (parts_cons rfl parts_nil) rfl (by decide) (fun v22 w23 hst => ?_))))))))))
  replace hst : St w0 w23 [rowT 26 segE v22 ([sg]), .blk g3 26 #[(iV sg.d.Id), (iV sg.d.Tier), (iV sg.d.From), (iV sg.d.To), sg.sv.1, sg.av.1], rowT 28 sampE sg.sv.1 sg.d.Samples, rowT 45 aggE sg.av.1 sg.d.Aggs] := hst
  refine s_cons (op_move (iV ((kk : Int) + 1)) q16_13 (s_cons (op_add (k := .i64) (a := 2000) (b := ((kk : Int) + 1)) (2000 + ((kk : Int) + 1)) rfl rfl (xi64 (by omega) (by omega)) (s_cons (op_move (iV ((kk : Int) + 1)) q16_13 (s_cons (op_call Tryd.call14 (evs_cons (v := v22) rfl (evs_cons (v := (iV (2000 + ((kk : Int) + 1)))) rfl (evs_cons (v := (iV ((kk : Int) + 1))) rfl evs_nil))) (c_sRoll (w0 := w23) (v_l := v22) (l := [sg]) (h_l := (hst.sl 0 rfl)) (nid := (2000 + ((kk : Int) + 1))) (k := ((kk : Int) + 1)) (hsg := (segsIn_one ⟨(hst.sl 2 rfl), (hst.sl 3 rfl)⟩)) (hso := (ok_oneG (by rw [hsg]; exact atR_ok hm ho (by omega)))) (hl2 := (by simp)) (hk1 := (Or.inr (by simp))) (nid0 := (by omega)) (k0 := (by omega)) (nid1 := (by omega)) (k1 := (by omega))) ?_)))))))
  rintro _ w25 ⟨r24, rfl, hcall, sRoll_hd⟩
  refine ⟨_, rfl, ?_⟩
  have hst : St w0 w25 [rowT 28 sampE r24.sv.1 r24.d.Samples, rowT 45 aggE r24.av.1 r24.d.Aggs, rowT 26 segE v22 ([sg]), .blk g3 26 #[(iV sg.d.Id), (iV sg.d.Tier), (iV sg.d.From), (iV sg.d.To), sg.sv.1, sg.av.1], rowT 28 sampE sg.sv.1 sg.d.Samples, rowT 45 aggE sg.av.1 sg.d.Aggs] := hst.call hcall
  refine s_cons (op_move (.tuple #[(.agg #[(iV r24.d.Id), (iV r24.d.Tier), (iV r24.d.From), (iV r24.d.To), r24.sv.1, r24.av.1]), (iV ((rollL ([sg]) (2000 + ((kk : Int) + 1)) ((kk : Int) + 1)).2))]) rfl (s_cons (op_extract (.agg #[(iV r24.d.Id), (iV r24.d.Tier), (iV r24.d.From), (iV r24.d.To), r24.sv.1, r24.av.1]) rfl rfl (s_cons (op_extract (iV ((rollL ([sg]) (2000 + ((kk : Int) + 1)) ((kk : Int) + 1)).2)) rfl rfl ?_)))))
  refine s_cons (op_alloc (cs := #[(iV 0), (iV 0), (iV 0), (iV 0), nS, nS]) hst Tryd.zeroValue26 rfl (fun g26 w27 hst _ => ?_))
  replace hst : St w0 w27 [.blk g26 26 #[(iV 0), (iV 0), (iV 0), (iV 0), nS, nS], rowT 28 sampE r24.sv.1 r24.d.Samples, rowT 45 aggE r24.av.1 r24.d.Aggs, rowT 26 segE v22 ([sg]), .blk g3 26 #[(iV sg.d.Id), (iV sg.d.Tier), (iV sg.d.From), (iV sg.d.To), sg.sv.1, sg.av.1], rowT 28 sampE sg.sv.1 sg.d.Samples, rowT 45 aggE sg.av.1 sg.d.Aggs] := hst
  refine s_cons0 (op_storeAll hst 0 rfl Tryd.sizeOf26 rfl rfl rfl rfl (oneL_all (l := [(iV r24.d.Id), (iV r24.d.Tier), (iV r24.d.From), (iV r24.d.To), r24.sv.1, r24.av.1]) ⟨rfl, rfl, rfl, rfl, r24.sv.2, r24.av.2, trivial⟩) (fun w28 hst => ?_))
  replace hst : St w0 w28 [.blk g26 26 #[(iV r24.d.Id), (iV r24.d.Tier), (iV r24.d.From), (iV r24.d.To), r24.sv.1, r24.av.1], rowT 28 sampE r24.sv.1 r24.d.Samples, rowT 45 aggE r24.av.1 r24.d.Aggs, rowT 26 segE v22 ([sg]), .blk g3 26 #[(iV sg.d.Id), (iV sg.d.Tier), (iV sg.d.From), (iV sg.d.To), sg.sv.1, sg.av.1], rowT 28 sampE sg.sv.1 sg.d.Samples, rowT 45 aggE sg.av.1 sg.d.Aggs] := hst
  refine s_cons (op_assign (iV ((rollL ([sg]) (2000 + ((kk : Int) + 1)) ((kk : Int) + 1)).2)) rfl (s_nil (then_n (cE_seq (cE_seq ?_)))))
  obtain ⟨hD, hcd⟩ := rolls_step hsg hm ht hs (by omega) sRoll_hd
  obtain ⟨hfT, hfI, hfF, hfO⟩ := atR_flds hD
  obtain ⟨hgF, hgT⟩ := atR_span hsg
  have hmR : mayS r24.d = true := by rw [hD]; exact atR_may hm ht hs (by omega)
  have hoR : r24.d.ok := by rw [hD]; exact atR_ok hm ho (by omega)
  obtain ⟨hcA, hsA, hwn, hal⟩ : cntA r24.d.Aggs = (r1.d.Samples.length : Int) ∧ smA r24.d.Aggs = sumS r1.d.Samples ∧ (∀ a ∈ r24.d.Aggs, Wn a) ∧ r24.d.Aggs.length ≤ 64 := by rw [hD]; exact atR_sums hm ht hs (by omega) (by omega)
  refine cE_region rfl (s_cons (op_move (iV ((rollL ([sg]) (2000 + ((kk : Int) + 1)) ((kk : Int) + 1)).2)) rfl (s_cons (op_neq (k := .i64) (a := (rollL ([sg]) (2000 + ((kk : Int) + 1)) ((kk : Int) + 1)).2) (b := 0) rfl rfl (s_cons (op_move (.bool (!decide (((rollL ([sg]) (2000 + ((kk : Int) + 1)) ((kk : Int) + 1)).2) = 0))) rfl (s_yes 60 rfl (congrArg Value.bool (congrArg (! ·) (show (decide (((rollL ([sg]) (2000 + ((kk : Int) + 1)) ((kk : Int) + 1)).2) = 0)) = true from (decide_eq_true hcd)))) (op_fieldAddr (s := 0) Tryd.underlying26 rfl rfl Tryd.sizeOf3 rfl ?_))))))))
  refine s_yes 60 rfl (congrArg Value.bool (congrArg (! ·) (show (decide (((rollL ([sg]) (2000 + ((kk : Int) + 1)) ((kk : Int) + 1)).2) = 0)) = true from (decide_eq_true hcd)))) (op_load1 (u := (iV r24.d.Tier)) Tryd.isAgg3 rfl ((hst.cell 0 rfl).drop 1) (s_yes 60 rfl (congrArg Value.bool (congrArg (! ·) (show (decide (((rollL ([sg]) (2000 + ((kk : Int) + 1)) ((kk : Int) + 1)).2) = 0)) = true from (decide_eq_true hcd)))) (op_move (iV ((kk : Int) + 1)) q16_13 ?_)))
  refine s_yes 60 rfl (congrArg Value.bool (congrArg (! ·) (show (decide (((rollL ([sg]) (2000 + ((kk : Int) + 1)) ((kk : Int) + 1)).2) = 0)) = true from (decide_eq_true hcd)))) (op_neq (k := .i64) (a := r24.d.Tier) (b := ((kk : Int) + 1)) rfl rfl (s_cons (op_pick_f (.bool (!decide (r24.d.Tier = ((kk : Int) + 1)))) (congrArg Value.bool (congrArg (! ·) (show (decide (((rollL ([sg]) (2000 + ((kk : Int) + 1)) ((kk : Int) + 1)).2) = 0)) = true from (decide_eq_true hcd)))) rfl ?_)))
  refine s_cons (op_move (.bool (!decide (r24.d.Tier = ((kk : Int) + 1)))) rfl (s_yes 66 rfl (congrArg Value.bool (congrArg (! ·) (show (decide (r24.d.Tier = ((kk : Int) + 1))) = true from (decide_eq_true hfT)))) (op_fieldAddr (s := 0) Tryd.underlying26 rfl rfl Tryd.sizeOf3 rfl (s_yes 66 rfl (congrArg Value.bool (congrArg (! ·) (show (decide (r24.d.Tier = ((kk : Int) + 1))) = true from (decide_eq_true hfT)))) (op_load1 (u := (iV r24.d.Id)) Tryd.isAgg3 rfl (hst.cell 0 rfl) ?_)))))
  refine s_yes 66 rfl (congrArg Value.bool (congrArg (! ·) (show (decide (r24.d.Tier = ((kk : Int) + 1))) = true from (decide_eq_true hfT)))) (op_move (iV ((kk : Int) + 1)) q16_13 (s_yes 66 rfl (congrArg Value.bool (congrArg (! ·) (show (decide (r24.d.Tier = ((kk : Int) + 1))) = true from (decide_eq_true hfT)))) (op_add (k := .i64) (a := 2000) (b := ((kk : Int) + 1)) (2000 + ((kk : Int) + 1)) rfl rfl (xi64 (by omega) (by omega)) ?_)))
  refine s_yes 66 rfl (congrArg Value.bool (congrArg (! ·) (show (decide (r24.d.Tier = ((kk : Int) + 1))) = true from (decide_eq_true hfT)))) (op_neq (k := .i64) (a := r24.d.Id) (b := (2000 + ((kk : Int) + 1))) rfl rfl (s_cons (op_pick_f (.bool (!decide (r24.d.Id = (2000 + ((kk : Int) + 1))))) (congrArg Value.bool (congrArg (! ·) (show (decide (r24.d.Tier = ((kk : Int) + 1))) = true from (decide_eq_true hfT)))) rfl ?_)))
  refine s_cons (op_move (.bool (!decide (r24.d.Id = (2000 + ((kk : Int) + 1))))) rfl (s_yes 73 rfl (congrArg Value.bool (congrArg (! ·) (show (decide (r24.d.Id = (2000 + ((kk : Int) + 1)))) = true from (decide_eq_true hfI)))) (op_fieldAddr (s := 0) Tryd.underlying26 rfl rfl Tryd.sizeOf2 rfl (s_yes 73 rfl (congrArg Value.bool (congrArg (! ·) (show (decide (r24.d.Id = (2000 + ((kk : Int) + 1)))) = true from (decide_eq_true hfI)))) (op_load1 (u := (iV r24.d.From)) Tryd.isAgg2 rfl ((hst.cell 0 rfl).drop 2) ?_)))))
  refine s_yes 73 rfl (congrArg Value.bool (congrArg (! ·) (show (decide (r24.d.Id = (2000 + ((kk : Int) + 1)))) = true from (decide_eq_true hfI)))) (op_fieldAddr (s := 0) Tryd.underlying26 rfl rfl Tryd.sizeOf2 q16_9 (s_yes 73 rfl (congrArg Value.bool (congrArg (! ·) (show (decide (r24.d.Id = (2000 + ((kk : Int) + 1)))) = true from (decide_eq_true hfI)))) (op_load1 (u := (iV sg.d.From)) Tryd.isAgg2 rfl ((hst.cell 4 rfl).drop 2) ?_)))
  refine s_yes 73 rfl (congrArg Value.bool (congrArg (! ·) (show (decide (r24.d.Id = (2000 + ((kk : Int) + 1)))) = true from (decide_eq_true hfI)))) (op_neq (k := .i64) (a := r24.d.From) (b := sg.d.From) rfl rfl (s_cons (op_pick_f (.bool (!decide (r24.d.From = sg.d.From))) (congrArg Value.bool (congrArg (! ·) (show (decide (r24.d.Id = (2000 + ((kk : Int) + 1)))) = true from (decide_eq_true hfI)))) rfl ?_)))
  refine s_cons (op_move (.bool (!decide (r24.d.From = sg.d.From))) rfl (s_yes 80 rfl (congrArg Value.bool (congrArg (! ·) (show (decide (r24.d.From = sg.d.From)) = true from (decide_eq_true (hfF.trans hgF.symm))))) (op_fieldAddr (s := 0) Tryd.underlying26 rfl rfl Tryd.sizeOf2 rfl (s_yes 80 rfl (congrArg Value.bool (congrArg (! ·) (show (decide (r24.d.From = sg.d.From)) = true from (decide_eq_true (hfF.trans hgF.symm))))) (op_load1 (u := (iV r24.d.To)) Tryd.isAgg2 rfl ((hst.cell 0 rfl).drop 3) ?_)))))
  refine s_yes 80 rfl (congrArg Value.bool (congrArg (! ·) (show (decide (r24.d.From = sg.d.From)) = true from (decide_eq_true (hfF.trans hgF.symm))))) (op_fieldAddr (s := 0) Tryd.underlying26 rfl rfl Tryd.sizeOf2 q16_9 (s_yes 80 rfl (congrArg Value.bool (congrArg (! ·) (show (decide (r24.d.From = sg.d.From)) = true from (decide_eq_true (hfF.trans hgF.symm))))) (op_load1 (u := (iV sg.d.To)) Tryd.isAgg2 rfl ((hst.cell 4 rfl).drop 3) ?_)))
  refine s_yes 80 rfl (congrArg Value.bool (congrArg (! ·) (show (decide (r24.d.From = sg.d.From)) = true from (decide_eq_true (hfF.trans hgF.symm))))) (op_neq (k := .i64) (a := r24.d.To) (b := sg.d.To) rfl rfl (s_cons (op_pick_f (.bool (!decide (r24.d.To = sg.d.To))) (congrArg Value.bool (congrArg (! ·) (show (decide (r24.d.From = sg.d.From)) = true from (decide_eq_true (hfF.trans hgF.symm))))) rfl ?_)))
  refine s_cons (op_move (.bool (!decide (r24.d.To = sg.d.To))) rfl (s_yes 87 rfl (congrArg Value.bool (congrArg (! ·) (show (decide (r24.d.To = sg.d.To)) = true from (decide_eq_true (hfO.trans hgT.symm))))) (op_loadN (cs := [(iV r24.d.Id), (iV r24.d.Tier), (iV r24.d.From), (iV r24.d.To), r24.sv.1, r24.av.1]) Tryd.isAgg26 Tryd.sizeOf26 rfl (Pt.of (hst.cell 0 rfl) rfl) rfl (s_yes 87 rfl (congrArg Value.bool (congrArg (! ·) (show (decide (r24.d.To = sg.d.To)) = true from (decide_eq_true (hfO.trans hgT.symm))))) (op_call Tryd.call10 (evs_cons (v := (.agg #[(iV r24.d.Id), (iV r24.d.Tier), (iV r24.d.From), (iV r24.d.To), r24.sv.1, r24.av.1])) rfl evs_nil) (c_May2 (w0 := w28) (s := r24) (h_s := ⟨(hst.sl 1 rfl), (hst.sl 2 rfl)⟩) (hs := hoR)) ?_)))))
  rintro _ w29 ⟨rfl, hcall⟩
  refine ⟨_, rfl, ?_⟩
  have hst : St w0 w29 [.blk g26 26 #[(iV r24.d.Id), (iV r24.d.Tier), (iV r24.d.From), (iV r24.d.To), r24.sv.1, r24.av.1], rowT 28 sampE r24.sv.1 r24.d.Samples, rowT 45 aggE r24.av.1 r24.d.Aggs, rowT 26 segE v22 ([sg]), .blk g3 26 #[(iV sg.d.Id), (iV sg.d.Tier), (iV sg.d.From), (iV sg.d.To), sg.sv.1, sg.av.1], rowT 28 sampE sg.sv.1 sg.d.Samples, rowT 45 aggE sg.av.1 sg.d.Aggs] := hst.call hcall
  refine s_yes 87 rfl (congrArg Value.bool (congrArg (! ·) (show (decide (r24.d.To = sg.d.To)) = true from (decide_eq_true (hfO.trans hgT.symm))))) (op_not (b := (mayS r24.d)) rfl (s_cons (op_pick_f (.bool (!(mayS r24.d))) (congrArg Value.bool (congrArg (! ·) (show (decide (r24.d.To = sg.d.To)) = true from (decide_eq_true (hfO.trans hgT.symm))))) rfl (s_nil (then_n (cE_cond false (congrArg Value.bool (congrArg (! ·) (show (mayS r24.d) = true from hmR))) (fun h => by cases h) (fun _ => ?_)))))))
  refine cE_skip (then_n (cE_seq (cE_region rfl (s_cons (op_assign (iV 0) rfl (s_cons (op_assign (iV 0) rfl (s_nil (then_n (cE_seq (cE_seq (cE_region rfl (s_cons (op_assign (iV 0) rfl (s_nil (then_n (cE_block (cE_loop (fun (m : Nat) (ρ : Env) (w : World) => ∃ (j : Nat), m = r24.d.Aggs.length - j ∧ ρ 0 = (iV nid) ∧ ρ 1 = (iV fr_) ∧ ρ 2 = v_steps ∧ ρ 3 = v_values ∧ ρ 9 = (.pointer (some ⟨g3, 0, none⟩)) ∧ ρ 10 = (iV (sumS (r1.d.Samples.take i))) ∧ ρ 11 = (iV (i : Int)) ∧ ρ 12 = (iV (r1.d.Samples.length : Int)) ∧ ρ 13 = (iV ((kk : Int) + 1)) ∧ ρ 14 = (.pointer (some ⟨g26, 0, none⟩)) ∧ ρ 15 = (iV ((rollL ([sg]) (2000 + ((kk : Int) + 1)) ((kk : Int) + 1)).2)) ∧ ρ 16 = (iV (cntA (r24.d.Aggs.take j))) ∧ ρ 17 = (iV (smA (r24.d.Aggs.take j))) ∧ ρ 18 = (iV (j : Int)) ∧ St w0 w [.blk g26 26 #[(iV r24.d.Id), (iV r24.d.Tier), (iV r24.d.From), (iV r24.d.To), r24.sv.1, r24.av.1], rowT 28 sampE r24.sv.1 r24.d.Samples, rowT 45 aggE r24.av.1 r24.d.Aggs, rowT 26 segE v22 ([sg]), .blk g3 26 #[(iV sg.d.Id), (iV sg.d.Tier), (iV sg.d.From), (iV sg.d.To), sg.sv.1, sg.av.1], rowT 28 sampE sg.sv.1 sg.d.Samples, rowT 45 aggE sg.av.1 sg.d.Aggs] ∧ (j ≤ r24.d.Aggs.length)) id _ ⟨0, rfl, q16_0, q16_1, q16_2, q16_3, q16_9, q16_10, q16_11, q16_12, q16_13, rfl, rfl, (congrArg iV (show 0 = _ from by first | rfl | exact (cnt_succ (by omega)).symm)), (congrArg iV (show 0 = _ from by first | rfl | exact (sm_succ (by omega)).symm)), (congrArg iV (show 0 = _ from by omega)), hst, (by omega)⟩ ?_))))))))))))))))))
  rintro m31 ρ32 w33 ⟨j, hm31, q30_0, q30_1, q30_2, q30_3, q30_9, q30_10, q30_11, q30_12, q30_13, q30_14, q30_15, q30_16, q30_17, q30_18, hst, hj⟩
  have hpb := part_bounds (A := r24.d.Aggs) hwn hj
  refine cE_seq (cE_seq (cE_region rfl (s_cons (op_move (iV (j : Int)) q30_18 (s_cons (op_fieldAddr (s := 0) Tryd.underlying26 rfl rfl Tryd.sizeOf24 q30_14 (s_cons (op_load1 (u := r24.av.1) Tryd.isAgg24 rfl ((hst.cell 0 rfl).drop 5) (s_cons (op_len (E := aggE) (xs := r24.d.Aggs) Tryd.underlying24 rfl (hst.sl 2 rfl) (s_cons (op_lss (k := .i64) (a := (j : Int)) (b := (r24.d.Aggs.length : Int)) rfl rfl ?_))))))))))))
  refine s_nil (then_n ?_)
  rcases Bool.eq_false_or_eq_true (decide ((j : Int) < (r24.d.Aggs.length : Int))) with b34 | b34
  ·have c35 : (j : Int) < (r24.d.Aggs.length : Int) := of_decide_eq_true b34
   refine cE_cond true (congrArg Value.bool b34) (fun _ => ?_) (fun h => by cases h)
   refine cE_skip (then_n (cE_seq (cE_block ?_)))
   have hla := len_cnt (A := r24.d.Aggs) hwn
   have hpn := part_bounds (A := r24.d.Aggs) hwn (j := j + 1) (by omega)
   have hcs := cnt_succ (A := r24.d.Aggs) (j := j) (by omega)
   have hms := sm_succ (A := r24.d.Aggs) (j := j) (by omega)
   refine cE_regionM (fun (D : Nat → Bool) (w : World) => St w0 w [.blk g26 26 #[(iV r24.d.Id), (iV r24.d.Tier), (iV r24.d.From), (iV r24.d.To), r24.sv.1, r24.av.1], rowT 28 sampE r24.sv.1 r24.d.Samples, rowT 45 aggE r24.av.1 r24.d.Aggs, rowT 26 segE v22 ([sg]), .blk g3 26 #[(iV sg.d.Id), (iV sg.d.Tier), (iV sg.d.From), (iV sg.d.To), sg.sv.1, sg.av.1], rowT 28 sampE sg.sv.1 sg.d.Samples, rowT 45 aggE sg.av.1 sg.d.Aggs] ∧ (St w0 w [.blk g26 26 #[(iV r24.d.Id), (iV r24.d.Tier), (iV r24.d.From), (iV r24.d.To), r24.sv.1, r24.av.1], rowT 28 sampE r24.sv.1 r24.d.Samples, rowT 45 aggE r24.av.1 r24.d.Aggs, rowT 26 segE v22 ([sg]), .blk g3 26 #[(iV sg.d.Id), (iV sg.d.Tier), (iV sg.d.From), (iV sg.d.To), sg.sv.1, sg.av.1], rowT 28 sampE sg.sv.1 sg.d.Samples, rowT 45 aggE sg.av.1 sg.d.Aggs])) [[(16, none)], [(14, none)], [(100, some 1)], [(18, none)], [(101, some 2), (102, some 3)], [(103, some 4)], [(104, some 5)], [(99, some 0), (105, some 6)], [(17, none)], [(14, none)], [(108, some 9)], [(18, none)], [(109, some 10), (110, some 11)], [(111, some 12)], [(112, some 13)], [(107, some 8), (113, some 14)], [(106, some 7)], [(114, some 15)]] [] [(kEq (iV (cntA (r24.d.Aggs.take j)))), (kEq (.pointer (some ⟨g26, (0 + 5), none⟩))), (kEq r24.av.1), (kEq (iV (j : Int))), (kPtU [] (aggC (r24.d.Aggs[j]'(by omega)))), (kPtU [] [(iV ((r24.d.Aggs[j]'(by omega)).Count)), (iV ((r24.d.Aggs[j]'(by omega)).Sum)), (iV ((r24.d.Aggs[j]'(by omega)).Min)), (iV ((r24.d.Aggs[j]'(by omega)).Max)), (iV ((r24.d.Aggs[j]'(by omega)).First)), (iV ((r24.d.Aggs[j]'(by omega)).Last))]), (kEq (iV ((r24.d.Aggs[j]'(by omega)).Count))), (kEq (iV ((cntA (r24.d.Aggs.take j)) + ((r24.d.Aggs[j]'(by omega)).Count)))), (kEq (iV (smA (r24.d.Aggs.take j)))), (kEq (.pointer (some ⟨g26, (0 + 5), none⟩))), (kEq r24.av.1), (kEq (iV (j : Int))), (kPtU [] (aggC (r24.d.Aggs[j]'(by omega)))), (kPtU [] [(iV ((r24.d.Aggs[j]'(by omega)).Sum)), (iV ((r24.d.Aggs[j]'(by omega)).Min)), (iV ((r24.d.Aggs[j]'(by omega)).Max)), (iV ((r24.d.Aggs[j]'(by omega)).First)), (iV ((r24.d.Aggs[j]'(by omega)).Last))]), (kEq (iV ((r24.d.Aggs[j]'(by omega)).Sum))), (kEq (iV ((smA (r24.d.Aggs.take j)) + ((r24.d.Aggs[j]'(by omega)).Sum)))), (kEq (iV ((cntA (r24.d.Aggs.take j)) + ((r24.d.Aggs[j]'(by omega)).Count)))), (kEq (iV ((smA (r24.d.Aggs.take j)) + ((r24.d.Aggs[j]'(by omega)).Sum))))] ⟨mEq, mEq, mEq, mEq, (mPtUs (by decide)), (mPtUs (by decide)), mEq, mEq, mEq, mEq, mEq, mEq, (mPtUs (by decide)), (mPtUs (by decide)), mEq, mEq, mEq, mEq, trivial⟩ (by kernel_rfl) rfl (by kernel_rfl) ⟨hst.drewW.sub (.cons_cons _ (.cons_cons _ (.cons_cons _ (.cons_cons _ (.cons_cons _ (.cons_cons _ (.cons_cons _ .slnil))))))), hst.drewW⟩ (fun hM => ⟨?_, ?_, ?_, ?_, ?_, ?_, ?_, ?_, ?_, ?_, ?_, ?_, ?_, ?_, ?_, ?_, ?_, ?_, trivial⟩) ?_
   ·rintro D ρo wo nD eD cD jD aD ⟨f16, _⟩
    exact go_plain (op_move (iV (cntA (r24.d.Aggs.take j))) (f16.trans q30_16) (kN0 (i := 0) hM (by decide) (by exact jD) (by exact rfl)))
   ·rintro D ρo wo nD eD cD jD aD ⟨f14, _⟩
    exact go_plain (op_fieldAddr (s := 0) Tryd.underlying26 rfl rfl Tryd.sizeOf24 (f14.trans q30_14) (kN0 (i := 1) hM (by decide) (by exact jD) (by exact rfl)))
   ·rintro D ρo wo nD eD cD jD aD ⟨f100, _⟩
    have hst := jD.2 
    replace hst : St w0 wo [.blk g26 26 #[(iV r24.d.Id), (iV r24.d.Tier), (iV r24.d.From), (iV r24.d.To), r24.sv.1, r24.av.1], rowT 28 sampE r24.sv.1 r24.d.Samples, rowT 45 aggE r24.av.1 r24.d.Aggs, rowT 26 segE v22 ([sg]), .blk g3 26 #[(iV sg.d.Id), (iV sg.d.Tier), (iV sg.d.From), (iV sg.d.To), sg.sv.1, sg.av.1], rowT 28 sampE sg.sv.1 sg.d.Samples, rowT 45 aggE sg.av.1 sg.d.Aggs] := hst
    exact go_plain (op_load1 (u := r24.av.1) Tryd.isAgg24 f100 ((hst.cell 0 rfl).drop 5) (kN0 (i := 2) hM (by decide) (by exact jD) (by exact rfl)))
   ·rintro D ρo wo nD eD cD jD aD ⟨f18, _⟩
    exact go_plain (op_move (iV (j : Int)) (f18.trans q30_18) (kN0 (i := 3) hM (by decide) (by exact jD) (by exact rfl)))
   ·rintro D ρo wo nD eD cD jD aD ⟨f101, f102, _⟩
    have hst := jD.2 
    replace hst : St w0 wo [.blk g26 26 #[(iV r24.d.Id), (iV r24.d.Tier), (iV r24.d.From), (iV r24.d.To), r24.sv.1, r24.av.1], rowT 28 sampE r24.sv.1 r24.d.Samples, rowT 45 aggE r24.av.1 r24.d.Aggs, rowT 26 segE v22 ([sg]), .blk g3 26 #[(iV sg.d.Id), (iV sg.d.Tier), (iV sg.d.From), (iV sg.d.To), sg.sv.1, sg.av.1], rowT 28 sampE sg.sv.1 sg.d.Samples, rowT 45 aggE sg.av.1 sg.d.Aggs] := hst
    refine go_plain (op_indexAddrN (E := aggE) (xs := r24.d.Aggs) j Tryd.underlying24 Tryd.sizeOf45 f101 (hst.sl 2 rfl) f102 (by omega) (by omega) (fun a43 o44 p45 => ?_))
    exact (kN0 (i := 4) hM (by decide) (by exact jD) (by exact ⟨_, _, rfl, fun _ => p45⟩))
   ·rintro D ρo wo nD eD cD jD aD ⟨f103, _⟩
    obtain ⟨a46, o47, e48, p49⟩ := f103
    have p49 := p49 (by intro m hm; cases hm)
    exact go_plain (op_fieldAddr (s := 0) Tryd.underlying45 rfl rfl Tryd.sizeOf2 e48 (kN0 (i := 5) hM (by decide) (by exact jD) (by exact ⟨_, _, rfl, fun _ => (p49.drop 1)⟩)))
   ·rintro D ρo wo nD eD cD jD aD ⟨f104, _⟩
    obtain ⟨a50, o51, e52, p53⟩ := f104
    have p53 := p53 (by intro m hm; cases hm)
    exact go_plain (op_load1 (u := (iV ((r24.d.Aggs[j]'(by omega)).Count))) Tryd.isAgg2 e52 p53 (kN0 (i := 6) hM (by decide) (by exact jD) (by exact rfl)))
   ·rintro D ρo wo nD eD cD jD aD ⟨f99, f105, _⟩
    exact go_plain (op_add (k := .i64) (a := (cntA (r24.d.Aggs.take j))) (b := (r24.d.Aggs[j]'(by omega)).Count) ((cntA (r24.d.Aggs.take j)) + ((r24.d.Aggs[j]'(by omega)).Count)) f99 f105 (xi64 (by omega) (by omega)) (kN0 (i := 7) hM (by decide) (by exact jD) (by exact rfl)))
   ·rintro D ρo wo nD eD cD jD aD ⟨f17, _⟩
    exact go_plain (op_move (iV (smA (r24.d.Aggs.take j))) (f17.trans q30_17) (kN0 (i := 8) hM (by decide) (by exact jD) (by exact rfl)))
   ·rintro D ρo wo nD eD cD jD aD ⟨f14, _⟩
    exact go_plain (op_fieldAddr (s := 0) Tryd.underlying26 rfl rfl Tryd.sizeOf24 (f14.trans q30_14) (kN0 (i := 9) hM (by decide) (by exact jD) (by exact rfl)))
   ·rintro D ρo wo nD eD cD jD aD ⟨f108, _⟩
    have hst := jD.2 
    replace hst : St w0 wo [.blk g26 26 #[(iV r24.d.Id), (iV r24.d.Tier), (iV r24.d.From), (iV r24.d.To), r24.sv.1, r24.av.1], rowT 28 sampE r24.sv.1 r24.d.Samples, rowT 45 aggE r24.av.1 r24.d.Aggs, rowT 26 segE v22 ([sg]), .blk g3 26 #[(iV sg.d.Id), (iV sg.d.Tier), (iV sg.d.From), (iV sg.d.To), sg.sv.1, sg.av.1], rowT 28 sampE sg.sv.1 sg.d.Samples, rowT 45 aggE sg.av.1 sg.d.Aggs] := hst
    exact go_plain (op_load1 (u := r24.av.1) Tryd.isAgg24 f108 ((hst.cell 0 rfl).drop 5) (kN0 (i := 10) hM (by decide) (by exact jD) (by exact rfl)))
   ·rintro D ρo wo nD eD cD jD aD ⟨f18, _⟩
    exact go_plain (op_move (iV (j : Int)) (f18.trans q30_18) (kN0 (i := 11) hM (by decide) (by exact jD) (by exact rfl)))
   ·rintro D ρo wo nD eD cD jD aD ⟨f109, f110, _⟩
    have hst := jD.2 
    replace hst : St w0 wo [.blk g26 26 #[(iV r24.d.Id), (iV r24.d.Tier), (iV r24.d.From), (iV r24.d.To), r24.sv.1, r24.av.1], rowT 28 sampE r24.sv.1 r24.d.Samples, rowT 45 aggE r24.av.1 r24.d.Aggs, rowT 26 segE v22 ([sg]), .blk g3 26 #[(iV sg.d.Id), (iV sg.d.Tier), (iV sg.d.From), (iV sg.d.To), sg.sv.1, sg.av.1], rowT 28 sampE sg.sv.1 sg.d.Samples, rowT 45 aggE sg.av.1 sg.d.Aggs] := hst
    refine go_plain (op_indexAddrN (E := aggE) (xs := r24.d.Aggs) j Tryd.underlying24 Tryd.sizeOf45 f109 (hst.sl 2 rfl) f110 (by omega) (by omega) (fun a54 o55 p56 => ?_))
    exact (kN0 (i := 12) hM (by decide) (by exact jD) (by exact ⟨_, _, rfl, fun _ => p56⟩))
   ·rintro D ρo wo nD eD cD jD aD ⟨f111, _⟩
    obtain ⟨a57, o58, e59, p60⟩ := f111
    have p60 := p60 (by intro m hm; cases hm)
    exact go_plain (op_fieldAddr (s := 0) Tryd.underlying45 rfl rfl Tryd.sizeOf2 e59 (kN0 (i := 13) hM (by decide) (by exact jD) (by exact ⟨_, _, rfl, fun _ => (p60.drop 2)⟩)))
   ·rintro D ρo wo nD eD cD jD aD ⟨f112, _⟩
    obtain ⟨a61, o62, e63, p64⟩ := f112
    have p64 := p64 (by intro m hm; cases hm)
    exact go_plain (op_load1 (u := (iV ((r24.d.Aggs[j]'(by omega)).Sum))) Tryd.isAgg2 e63 p64 (kN0 (i := 14) hM (by decide) (by exact jD) (by exact rfl)))
   ·rintro D ρo wo nD eD cD jD aD ⟨f107, f113, _⟩
    exact go_plain (op_add (k := .i64) (a := (smA (r24.d.Aggs.take j))) (b := (r24.d.Aggs[j]'(by omega)).Sum) ((smA (r24.d.Aggs.take j)) + ((r24.d.Aggs[j]'(by omega)).Sum)) f107 f113 (xi64 (by omega) (by omega)) (kN0 (i := 15) hM (by decide) (by exact jD) (by exact rfl)))
   ·rintro D ρo wo nD eD cD jD aD ⟨f106, _⟩
    exact go_plain (op_assign (iV ((cntA (r24.d.Aggs.take j)) + ((r24.d.Aggs[j]'(by omega)).Count))) f106 (kN0 (i := 16) hM (by decide) (by exact jD) (by exact rfl)))
   ·rintro D ρo wo nD eD cD jD aD ⟨f114, _⟩
    exact go_plain (op_assign (iV ((smA (r24.d.Aggs.take j)) + ((r24.d.Aggs[j]'(by omega)).Sum))) f114 (kN0 (i := 17) hM (by decide) (by exact jD) (by exact rfl)))
   intro ρ65 w66 Dw66 hallw66 hJw66 hRw66 hkw66
   have hst : St w0 w66 [.blk g26 26 #[(iV r24.d.Id), (iV r24.d.Tier), (iV r24.d.From), (iV r24.d.To), r24.sv.1, r24.av.1], rowT 28 sampE r24.sv.1 r24.d.Samples, rowT 45 aggE r24.av.1 r24.d.Aggs, rowT 26 segE v22 ([sg]), .blk g3 26 #[(iV sg.d.Id), (iV sg.d.Tier), (iV sg.d.From), (iV sg.d.To), sg.sv.1, sg.av.1], rowT 28 sampE sg.sv.1 sg.d.Samples, rowT 45 aggE sg.av.1 sg.d.Aggs] := hJw66.2 
   have uw66_0 : ρ65 0 = (iV nid) := (hkw66 0 rfl).trans q30_0
   have uw66_1 : ρ65 1 = (iV fr_) := (hkw66 1 rfl).trans q30_1
   have uw66_2 : ρ65 2 = v_steps := (hkw66 2 rfl).trans q30_2
   have uw66_3 : ρ65 3 = v_values := (hkw66 3 rfl).trans q30_3
   have uw66_9 : ρ65 9 = (.pointer (some ⟨g3, 0, none⟩)) := (hkw66 9 rfl).trans q30_9
   have uw66_10 : ρ65 10 = (iV (sumS (r1.d.Samples.take i))) := (hkw66 10 rfl).trans q30_10
   have uw66_11 : ρ65 11 = (iV (i : Int)) := (hkw66 11 rfl).trans q30_11
   have uw66_12 : ρ65 12 = (iV (r1.d.Samples.length : Int)) := (hkw66 12 rfl).trans q30_12
   have uw66_13 : ρ65 13 = (iV ((kk : Int) + 1)) := (hkw66 13 rfl).trans q30_13
   have uw66_14 : ρ65 14 = (.pointer (some ⟨g26, 0, none⟩)) := (hkw66 14 rfl).trans q30_14
   have uw66_15 : ρ65 15 = (iV ((rollL ([sg]) (2000 + ((kk : Int) + 1)) ((kk : Int) + 1)).2)) := (hkw66 15 rfl).trans q30_15
   have uw66_18 : ρ65 18 = (iV (j : Int)) := (hkw66 18 rfl).trans q30_18
   have uw66_92 : ρ65 92 = (iV (j : Int)) := (hkw66 92 rfl).trans rfl
   have uw66_93 : ρ65 93 = (.pointer (some ⟨g26, (0 + 5), none⟩)) := (hkw66 93 rfl).trans rfl
   have uw66_94 : ρ65 94 = r24.av.1 := (hkw66 94 rfl).trans rfl
   have uw66_95 : ρ65 95 = (iV (r24.d.Aggs.length : Int)) := (hkw66 95 rfl).trans rfl
   have uw66_96 : ρ65 96 = (.bool (decide ((j : Int) < (r24.d.Aggs.length : Int)))) := (hkw66 96 rfl).trans rfl
   have uw66_16 : ρ65 16 = (iV ((cntA (r24.d.Aggs.take j)) + ((r24.d.Aggs[j]'(by omega)).Count))) := hRw66 16 16 rfl
   have uw66_17 : ρ65 17 = (iV ((smA (r24.d.Aggs.take j)) + ((r24.d.Aggs[j]'(by omega)).Sum))) := hRw66 17 17 rfl
   refine block_n (then_n (cE_region rfl (s_cons (op_move (iV (j : Int)) uw66_18 (s_cons (op_add (k := .i64) (a := (j : Int)) (b := 1) ((j : Int) + 1) rfl rfl (xi64 (by omega) (by omega)) (s_cons (op_assign (iV ((j : Int) + 1)) rfl (s_nil (then_n ?_))))))))))
   exact ⟨_, ⟨(j + 1), rfl, uw66_0, uw66_1, uw66_2, uw66_3, uw66_9, uw66_10, uw66_11, uw66_12, uw66_13, uw66_14, uw66_15, (uw66_16.trans (congrArg iV (show ((cntA (r24.d.Aggs.take j)) + ((r24.d.Aggs[j]'(by omega)).Count)) = _ from by first | rfl | exact (cnt_succ (by omega)).symm))), (uw66_17.trans (congrArg iV (show ((smA (r24.d.Aggs.take j)) + ((r24.d.Aggs[j]'(by omega)).Sum)) = _ from by first | rfl | exact (sm_succ (by omega)).symm))), (congrArg iV (show ((j : Int) + 1) = _ from by omega)), hst, (by omega)⟩, (by simp only [id]; omega)⟩
  have c67 : ¬ ((j : Int) < (r24.d.Aggs.length : Int)) := of_decide_eq_false b34
  refine cE_cond false (congrArg Value.bool b34) (fun h => by cases h) (fun _ => ?_)
  refine cE_exit (then_x (then_x (block_hit (then_n (cE_seq (cE_seq (cE_region rfl (s_cons (op_move (iV (cntA (r24.d.Aggs.take j))) q30_16 (s_cons (op_move (iV (r1.d.Samples.length : Int)) q30_12 (s_cons (op_neq (k := .i64) (a := (cntA (r24.d.Aggs.take j))) (b := (r1.d.Samples.length : Int)) rfl rfl (s_cons (op_move (.bool (!decide ((cntA (r24.d.Aggs.take j)) = (r1.d.Samples.length : Int)))) rfl ?_)))))))))))))))
  refine s_yes 118 rfl (congrArg Value.bool (congrArg (! ·) (show (decide ((cntA (r24.d.Aggs.take j)) = (r1.d.Samples.length : Int))) = true from (decide_eq_true (by rw [List.take_of_length_le (by omega)]; exact hcA))))) (op_move (iV (smA (r24.d.Aggs.take j))) q30_17 (s_yes 118 rfl (congrArg Value.bool (congrArg (! ·) (show (decide ((cntA (r24.d.Aggs.take j)) = (r1.d.Samples.length : Int))) = true from (decide_eq_true (by rw [List.take_of_length_le (by omega)]; exact hcA))))) (op_move (iV (sumS (r1.d.Samples.take i))) q30_10 ?_)))
  refine s_yes 118 rfl (congrArg Value.bool (congrArg (! ·) (show (decide ((cntA (r24.d.Aggs.take j)) = (r1.d.Samples.length : Int))) = true from (decide_eq_true (by rw [List.take_of_length_le (by omega)]; exact hcA))))) (op_neq (k := .i64) (a := (smA (r24.d.Aggs.take j))) (b := (sumS (r1.d.Samples.take i))) rfl rfl (s_cons (op_pick_f (.bool (!decide ((smA (r24.d.Aggs.take j)) = (sumS (r1.d.Samples.take i))))) (congrArg Value.bool (congrArg (! ·) (show (decide ((cntA (r24.d.Aggs.take j)) = (r1.d.Samples.length : Int))) = true from (decide_eq_true (by rw [List.take_of_length_le (by omega)]; exact hcA))))) rfl ?_)))
  refine s_nil (then_n (cE_cond false (congrArg Value.bool (congrArg (! ·) (show (decide ((smA (r24.d.Aggs.take j)) = (sumS (r1.d.Samples.take i)))) = true from (decide_eq_true (by rw [List.take_of_length_le (by omega), hsT]; exact hsA))))) (fun h => by cases h) (fun _ => ?_)))
  refine cE_skip (then_n (cE_region rfl (s_cons (op_loadN (cs := [(iV r24.d.Id), (iV r24.d.Tier), (iV r24.d.From), (iV r24.d.To), r24.sv.1, r24.av.1]) Tryd.isAgg26 Tryd.sizeOf26 q30_14 (Pt.of (hst.cell 0 rfl) rfl) rfl (s_cons0 (op_storeAll hst 4 rfl Tryd.sizeOf26 q30_9 rfl rfl rfl (oneL_all (l := [(iV r24.d.Id), (iV r24.d.Tier), (iV r24.d.From), (iV r24.d.To), r24.sv.1, r24.av.1]) ⟨rfl, rfl, rfl, rfl, r24.sv.2, r24.av.2, trivial⟩) (fun w68 hst => ?_)))))))
  replace hst : St w0 w68 [.blk g26 26 #[(iV r24.d.Id), (iV r24.d.Tier), (iV r24.d.From), (iV r24.d.To), r24.sv.1, r24.av.1], rowT 28 sampE r24.sv.1 r24.d.Samples, rowT 45 aggE r24.av.1 r24.d.Aggs, rowT 26 segE v22 ([sg]), .blk g3 26 #[(iV r24.d.Id), (iV r24.d.Tier), (iV r24.d.From), (iV r24.d.To), r24.sv.1, r24.av.1], rowT 28 sampE sg.sv.1 sg.d.Samples, rowT 45 aggE sg.av.1 sg.d.Aggs] := hst
  refine s_nil (block_n (then_n (cE_region rfl (s_cons (op_move (iV ((kk : Int) + 1)) q30_13 (s_cons (op_add (k := .i64) (a := ((kk : Int) + 1)) (b := 1) (((kk : Int) + 1) + 1) rfl rfl (xi64 (by omega) (by omega)) (s_cons (op_assign (iV (((kk : Int) + 1) + 1)) rfl (s_nil (then_n ?_)))))))))))
  replace hst : St w0 w68 [rowT 45 aggE r24.av.1 r24.d.Aggs, .blk g26 26 #[(iV r24.d.Id), (iV r24.d.Tier), (iV r24.d.From), (iV r24.d.To), r24.sv.1, r24.av.1], rowT 28 sampE r24.sv.1 r24.d.Samples, rowT 26 segE v22 ([sg]), .blk g3 26 #[(iV r24.d.Id), (iV r24.d.Tier), (iV r24.d.From), (iV r24.d.To), r24.sv.1, r24.av.1], rowT 28 sampE sg.sv.1 sg.d.Samples, rowT 45 aggE sg.av.1 sg.d.Aggs] := hst.front 2 rfl
  replace hst : St w0 w68 [rowT 28 sampE r24.sv.1 r24.d.Samples, rowT 45 aggE r24.av.1 r24.d.Aggs, .blk g26 26 #[(iV r24.d.Id), (iV r24.d.Tier), (iV r24.d.From), (iV r24.d.To), r24.sv.1, r24.av.1], rowT 26 segE v22 ([sg]), .blk g3 26 #[(iV r24.d.Id), (iV r24.d.Tier), (iV r24.d.From), (iV r24.d.To), r24.sv.1, r24.av.1], rowT 28 sampE sg.sv.1 sg.d.Samples, rowT 45 aggE sg.av.1 sg.d.Aggs] := hst.front 2 rfl
  replace hst : St w0 w68 [.blk g3 26 #[(iV r24.d.Id), (iV r24.d.Tier), (iV r24.d.From), (iV r24.d.To), r24.sv.1, r24.av.1], rowT 28 sampE r24.sv.1 r24.d.Samples, rowT 45 aggE r24.av.1 r24.d.Aggs, .blk g26 26 #[(iV r24.d.Id), (iV r24.d.Tier), (iV r24.d.From), (iV r24.d.To), r24.sv.1, r24.av.1], rowT 26 segE v22 ([sg]), rowT 28 sampE sg.sv.1 sg.d.Samples, rowT 45 aggE sg.av.1 sg.d.Aggs] := hst.front 4 rfl
  exact ⟨_, ⟨r24, (kk + 1), rfl, q30_0, q30_1, q30_2, q30_3, q30_9, q30_10, q30_11, q30_12, (congrArg iV (show (((kk : Int) + 1) + 1) = _ from by first | rfl | omega)), (hst.sub (.cons_cons _ (.cons_cons _ (.cons_cons _ (.cons _ (.cons _ (.cons _ (.cons _ .slnil)))))))), (by omega), (by first | rfl | exact hD)⟩, (by simp only [id]; omega)⟩
 have c69 : ¬ (((kk : Int) + 1) ≤ 3) := of_decide_eq_false b20
 refine cE_cond false (congrArg Value.bool b20) (fun h => by cases h) (fun _ => ?_)
 refine cE_exit (then_x (then_x (block_hit (then_n (cE_seq (cE_region rfl (s_cons (op_call Tryd.call9 evs_nil (c_told8 (w0 := w19)) ?_))))))))
 rintro _ w70 ⟨rfl, hcall⟩
 refine ⟨_, rfl, ?_⟩
 have hst : St w0 w70 [.blk g3 26 #[(iV sg.d.Id), (iV sg.d.Tier), (iV sg.d.From), (iV sg.d.To), sg.sv.1, sg.av.1], rowT 28 sampE sg.sv.1 sg.d.Samples, rowT 45 aggE sg.av.1 sg.d.Aggs] := hst.call hcall
 refine s_cons (op_assign (.bool true) rfl (s_nil (then_n (cE_ret (post_r _ (res1 (v := (.bool true)) rfl) ?_)))))
 exact ⟨rfl, hst.bare⟩

end Go.Proofs.YtgibfidebdgffaaDoor
