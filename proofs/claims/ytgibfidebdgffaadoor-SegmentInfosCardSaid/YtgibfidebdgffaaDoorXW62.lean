/- twinkeeplaw8.SegmentInfos -/
import Derived.Test.YtgibfidebdgffaaDoorXLB
import Derived.Test.YtgibfidebdgffaaDoorXW57
import Derived.Test.YtgibfidebdgffaaDoorXW41
namespace Go.Proofs.YtgibfidebdgffaaDoor
open Go.RowKit

set_option maxRecDepth 8000 in
set_option maxHeartbeats 8000000 in
theorem c_SegmentInfos (w0 : World) (nid : Int) (v_steps : Value) (steps : List Int) (h_steps : Sl w0 (intE .i64) v_steps steps) (v_values : Value) (values : List Int) (h_values : Sl w0 (intE .i64) v_values values) (other : Int) (hv : ∀ v ∈ values, i64R v) (hst_ : ∀ v ∈ steps, i64R v) (hsl : steps.length * 8 ≤ 140737488351232) (nid0 : -9223372036854775808 ≤ nid) (other0 : -9223372036854775808 ≤ other) (nid1 : nid ≤ 9223372036854775807) (other1 : other ≤ 9223372036854775807) :
  Calls Tryd.prog 7 #[(iV nid), v_steps, v_values, (iV other)] w0 fun e w' => e = .returned (.bool true) ∧ St w0 w' [] := by
 refine calls_E (n := 107) (ts := [8]) Tryd.func7 rfl rfl rfl (by simp) ?_
 have hst := St.start w0
 refine cE_seq (cE_region rfl (s_cons (op_assign (.bool false) rfl (s_nil (then_n (cE_seq (cE_region rfl (s_cons (op_move (iV nid) rfl (s_cons (op_move v_steps rfl (s_cons (op_move v_values rfl (s_cons (op_call Tryd.call11 (evs_cons (v := (iV nid)) rfl (evs_cons (v := (iV 3)) rfl (evs_cons (v := v_steps) rfl (evs_cons (v := v_values) rfl evs_nil)))) (c_Make (w0 := w0) (nid := nid) (fr := 3) (v_steps := v_steps) (steps := steps) (h_steps := (h_steps.below hst.below)) (v_values := v_values) (values := values) (h_values := (h_values.below hst.below)) (hv := hv) (hs := hst_) (hf0 := (by omega)) (hf1 := (by omega)) (hsl := (by omega)) (nid0 := (by omega)) (nid1 := (by omega))) ?_)))))))))))))))
 rintro _ w2 ⟨r1, rfl, hcall, Make_hd⟩
 refine ⟨_, rfl, ?_⟩
 have hst : St w0 w2 [rowT 28 sampE r1.sv.1 r1.d.Samples, rowT 45 aggE r1.av.1 r1.d.Aggs] := hst.call hcall
 refine s_cons (op_move (iV nid) rfl (s_cons (op_move (iV other) rfl (s_cons (op_conv (k := .i64) (a := other) (other % 18446744073709551616) Tryd.underlying22 (by rw [Tryd.underlying3]; rfl) rfl (IntKind.wrap_u64 _) ?_)))))
 obtain ⟨p, hp, hpl⟩ := rem_nat (a := (other % 18446744073709551616)) (b := 3) (by omega) (by omega)
 refine s_cons (op_rem (k := .u64) (a := (other % 18446744073709551616)) (b := 3) (p : Int) rfl rfl (by omega) hp (s_cons (op_conv (k := .u64) (a := (p : Int)) (p : Int) Tryd.underlying3 (by rw [Tryd.underlying22]; rfl) rfl (xi64 (by omega) (by omega)) ?_)))
 obtain ⟨hm, ho, ht, hc, hbl, hf, hs, hn, hto, ha, hid⟩ := make_facts Make_hd (by omega) (by omega) hv
 obtain ⟨n1, hn1, n10, n11⟩ : ∃ x : Int, IntKind.i64.wrap (nid + (p : Int)) = x ∧ -9223372036854775808 ≤ x ∧ x ≤ 9223372036854775807 := ⟨_, rfl, (wr_r _).1, (wr_r _).2⟩
 refine s_cons (op_add (k := .i64) (a := nid) (b := (p : Int)) n1 rfl rfl hn1 (s_cons (op_move (iV other) rfl (s_cons (op_conv (k := .i64) (a := other) (other % 18446744073709551616) Tryd.underlying22 (by rw [Tryd.underlying3]; rfl) rfl (IntKind.wrap_u64 _) ?_)))))
 obtain ⟨q, hq, hql⟩ := rem_nat (a := (other % 18446744073709551616)) (b := 2) (by omega) (by omega)
 refine s_cons (op_rem (k := .u64) (a := (other % 18446744073709551616)) (b := 2) (q : Int) rfl rfl (by omega) hq (s_cons (op_conv (k := .u64) (a := (q : Int)) (q : Int) Tryd.underlying2 (by rw [Tryd.underlying22]; rfl) rfl (xi64 (by omega) (by omega)) (s_cons (op_add (k := .i64) (a := 3) (b := (q : Int)) (3 + (q : Int)) rfl rfl (xi64 (by omega) (by omega)) (s_cons (op_move v_steps rfl (s_cons (op_move v_values rfl ?_)))))))))
 refine s_cons (op_call Tryd.call11 (evs_cons (v := (iV n1)) rfl (evs_cons (v := (iV (3 + (q : Int)))) rfl (evs_cons (v := v_steps) rfl (evs_cons (v := v_values) rfl evs_nil)))) (c_Make (w0 := w2) (nid := n1) (fr := (3 + (q : Int))) (v_steps := v_steps) (steps := steps) (h_steps := (h_steps.below hst.below)) (v_values := v_values) (values := values) (h_values := (h_values.below hst.below)) (hv := hv) (hs := hst_) (hf0 := (by omega)) (hf1 := (by omega)) (hsl := (by omega)) (nid0 := (by omega)) (nid1 := (by omega))) ?_)
 rintro _ w4 ⟨r3, rfl, hcall, Make_hd⟩
 refine ⟨_, rfl, ?_⟩
 have hst : St w0 w4 [rowT 28 sampE r3.sv.1 r3.d.Samples, rowT 45 aggE r3.av.1 r3.d.Aggs, rowT 28 sampE r1.sv.1 r1.d.Samples, rowT 45 aggE r1.av.1 r1.d.Aggs] := hst.call hcall
 refine s_cons (op_alloc (cs := #[(iV 0), (iV 0), (iV 0), (iV 0), nS, nS]) hst Tryd.zeroValue26 rfl (fun g5 w6 hst _ => ?_))
 replace hst : St w0 w6 [.blk g5 26 #[(iV 0), (iV 0), (iV 0), (iV 0), nS, nS], rowT 28 sampE r3.sv.1 r3.d.Samples, rowT 45 aggE r3.av.1 r3.d.Aggs, rowT 28 sampE r1.sv.1 r1.d.Samples, rowT 45 aggE r1.av.1 r1.d.Aggs] := hst
 refine s_cons (op_alloc (cs := #[(iV 0), (iV 0), (iV 0), (iV 0), nS, nS]) hst Tryd.zeroValue26 rfl (fun g7 w8 hst _ => ?_))
 replace hst : St w0 w8 [.blk g7 26 #[(iV 0), (iV 0), (iV 0), (iV 0), nS, nS], .blk g5 26 #[(iV 0), (iV 0), (iV 0), (iV 0), nS, nS], rowT 28 sampE r3.sv.1 r3.d.Samples, rowT 45 aggE r3.av.1 r3.d.Aggs, rowT 28 sampE r1.sv.1 r1.d.Samples, rowT 45 aggE r1.av.1 r1.d.Aggs] := hst
 refine s_cons0 (op_storeAll hst 1 rfl Tryd.sizeOf26 rfl rfl rfl rfl (oneL_all (l := [(iV r1.d.Id), (iV r1.d.Tier), (iV r1.d.From), (iV r1.d.To), r1.sv.1, r1.av.1]) ⟨rfl, rfl, rfl, rfl, r1.sv.2, r1.av.2, trivial⟩) (fun w9 hst => ?_))
 replace hst : St w0 w9 [.blk g7 26 #[(iV 0), (iV 0), (iV 0), (iV 0), nS, nS], .blk g5 26 #[(iV r1.d.Id), (iV r1.d.Tier), (iV r1.d.From), (iV r1.d.To), r1.sv.1, r1.av.1], rowT 28 sampE r3.sv.1 r3.d.Samples, rowT 45 aggE r3.av.1 r3.d.Aggs, rowT 28 sampE r1.sv.1 r1.d.Samples, rowT 45 aggE r1.av.1 r1.d.Aggs] := hst
 refine s_cons0 (op_storeAll hst 0 rfl Tryd.sizeOf26 rfl rfl rfl rfl (oneL_all (l := [(iV r3.d.Id), (iV r3.d.Tier), (iV r3.d.From), (iV r3.d.To), r3.sv.1, r3.av.1]) ⟨rfl, rfl, rfl, rfl, r3.sv.2, r3.av.2, trivial⟩) (fun w10 hst => ?_))
 replace hst : St w0 w10 [.blk g7 26 #[(iV r3.d.Id), (iV r3.d.Tier), (iV r3.d.From), (iV r3.d.To), r3.sv.1, r3.av.1], .blk g5 26 #[(iV r1.d.Id), (iV r1.d.Tier), (iV r1.d.From), (iV r1.d.To), r1.sv.1, r1.av.1], rowT 28 sampE r3.sv.1 r3.d.Samples, rowT 45 aggE r3.av.1 r3.d.Aggs, rowT 28 sampE r1.sv.1 r1.d.Samples, rowT 45 aggE r1.av.1 r1.d.Aggs] := hst
 refine s_nil (then_n (cE_seq ?_))
 obtain ⟨hm2, ho2, ht2, hc2, hbl2, hf2, hs2, hn2, hto2, ha2, hid2⟩ := make_facts Make_hd (by omega) (by omega) hv
 refine cE_region rfl (s_cons (op_loadN (cs := [(iV r1.d.Id), (iV r1.d.Tier), (iV r1.d.From), (iV r1.d.To), r1.sv.1, r1.av.1]) Tryd.isAgg26 Tryd.sizeOf26 rfl (Pt.of (hst.cell 1 rfl) rfl) rfl (s_cons (op_call Tryd.call8 (evs_cons (v := (.agg #[(iV r1.d.Id), (iV r1.d.Tier), (iV r1.d.From), (iV r1.d.To), r1.sv.1, r1.av.1])) rfl evs_nil) (c_sPut (w0 := w10) (s := r1) (h_s := ⟨(hst.sl 4 rfl), (hst.sl 5 rfl)⟩) (hs := ho)) ?_))))
 rintro _ w12 ⟨r11, rfl, hcall⟩
 refine ⟨_, rfl, ?_⟩
 have hst : St w0 w12 [rowT 5 u8E r11 ((encG r1.d).1), .blk g7 26 #[(iV r3.d.Id), (iV r3.d.Tier), (iV r3.d.From), (iV r3.d.To), r3.sv.1, r3.av.1], .blk g5 26 #[(iV r1.d.Id), (iV r1.d.Tier), (iV r1.d.From), (iV r1.d.To), r1.sv.1, r1.av.1], rowT 28 sampE r3.sv.1 r3.d.Samples, rowT 45 aggE r3.av.1 r3.d.Aggs, rowT 28 sampE r1.sv.1 r1.d.Samples, rowT 45 aggE r1.av.1 r1.d.Aggs] := hst.call hcall
 refine s_cons (op_move (.tuple #[r11, (iV ((encG r1.d).2))]) rfl (s_cons (op_extract r11 rfl rfl (s_cons (op_extract (iV ((encG r1.d).2)) rfl rfl (s_cons (op_assign r11 rfl (s_cons (op_assign (iV ((encG r1.d).2)) rfl (s_nil (then_n (cE_seq (cE_region rfl (s_cons (op_loadN (cs := [(iV r3.d.Id), (iV r3.d.Tier), (iV r3.d.From), (iV r3.d.To), r3.sv.1, r3.av.1]) Tryd.isAgg26 Tryd.sizeOf26 rfl (Pt.of (hst.cell 1 rfl) rfl) rfl ?_)))))))))))))))
 refine s_cons (op_call Tryd.call8 (evs_cons (v := (.agg #[(iV r3.d.Id), (iV r3.d.Tier), (iV r3.d.From), (iV r3.d.To), r3.sv.1, r3.av.1])) rfl evs_nil) (c_sPut (w0 := w12) (s := r3) (h_s := ⟨(hst.sl 3 rfl), (hst.sl 4 rfl)⟩) (hs := ho2)) ?_)
 rintro _ w14 ⟨r13, rfl, hcall⟩
 refine ⟨_, rfl, ?_⟩
 have hst : St w0 w14 [rowT 5 u8E r13 ((encG r3.d).1), rowT 5 u8E r11 ((encG r1.d).1), .blk g7 26 #[(iV r3.d.Id), (iV r3.d.Tier), (iV r3.d.From), (iV r3.d.To), r3.sv.1, r3.av.1], .blk g5 26 #[(iV r1.d.Id), (iV r1.d.Tier), (iV r1.d.From), (iV r1.d.To), r1.sv.1, r1.av.1], rowT 28 sampE r3.sv.1 r3.d.Samples, rowT 45 aggE r3.av.1 r3.d.Aggs, rowT 28 sampE r1.sv.1 r1.d.Samples, rowT 45 aggE r1.av.1 r1.d.Aggs] := hst.call hcall
 refine s_cons (op_move (.tuple #[r13, (iV ((encG r3.d).2))]) rfl (s_cons (op_extract r13 rfl rfl (s_cons (op_extract (iV ((encG r3.d).2)) rfl rfl (s_cons (op_assign r13 rfl (s_cons (op_assign (iV ((encG r3.d).2)) rfl (s_nil (then_n (cE_seq (cE_region rfl (s_cons (op_move r11 rfl (s_cons (op_call Tryd.call15 (evs_cons (v := r11) rfl evs_nil) (c_sInfo (w0 := w14) (v_b := r11) (b := (encG r1.d).1) (h_b := (hst.sl 1 rfl)) (hl := (by omega))) ?_)))))))))))))))))
 rintro _ w17 ⟨r15, r16, rfl, hcall, sInfo_hd⟩
 refine ⟨_, rfl, ?_⟩
 have hst : St w0 w17 [rowT 5 u8E r13 ((encG r3.d).1), rowT 5 u8E r11 ((encG r1.d).1), .blk g7 26 #[(iV r3.d.Id), (iV r3.d.Tier), (iV r3.d.From), (iV r3.d.To), r3.sv.1, r3.av.1], .blk g5 26 #[(iV r1.d.Id), (iV r1.d.Tier), (iV r1.d.From), (iV r1.d.To), r1.sv.1, r1.av.1], rowT 28 sampE r3.sv.1 r3.d.Samples, rowT 45 aggE r3.av.1 r3.d.Aggs, rowT 28 sampE r1.sv.1 r1.d.Samples, rowT 45 aggE r1.av.1 r1.d.Aggs] := hst.call hcall
 refine s_cons (op_move (.tuple #[(.agg #[(iV r15.Id), (iV r15.Tier), (iV r15.From), (iV r15.To), (.int .u32 r15.Sum)]), (iV r16)]) rfl (s_cons (op_extract (.agg #[(iV r15.Id), (iV r15.Tier), (iV r15.From), (iV r15.To), (.int .u32 r15.Sum)]) rfl rfl (s_cons (op_extract (iV r16) rfl rfl (s_cons (op_alloc (cs := #[(iV 0), (iV 0), (iV 0), (iV 0), (.int .u32 0)]) hst Tryd.zeroValue50 rfl (fun g18 w19 hst _ => ?_))))))))
 replace hst : St w0 w19 [.blk g18 50 #[(iV 0), (iV 0), (iV 0), (iV 0), (.int .u32 0)], rowT 5 u8E r13 ((encG r3.d).1), rowT 5 u8E r11 ((encG r1.d).1), .blk g7 26 #[(iV r3.d.Id), (iV r3.d.Tier), (iV r3.d.From), (iV r3.d.To), r3.sv.1, r3.av.1], .blk g5 26 #[(iV r1.d.Id), (iV r1.d.Tier), (iV r1.d.From), (iV r1.d.To), r1.sv.1, r1.av.1], rowT 28 sampE r3.sv.1 r3.d.Samples, rowT 45 aggE r3.av.1 r3.d.Aggs, rowT 28 sampE r1.sv.1 r1.d.Samples, rowT 45 aggE r1.av.1 r1.d.Aggs] := hst
 refine s_cons0 (op_storeAll hst 0 rfl Tryd.sizeOf50 rfl rfl rfl rfl (by simp [Value.oneCell']) (fun w20 hst => ?_))
 replace hst : St w0 w20 [.blk g18 50 #[(iV r15.Id), (iV r15.Tier), (iV r15.From), (iV r15.To), (.int .u32 r15.Sum)], rowT 5 u8E r13 ((encG r3.d).1), rowT 5 u8E r11 ((encG r1.d).1), .blk g7 26 #[(iV r3.d.Id), (iV r3.d.Tier), (iV r3.d.From), (iV r3.d.To), r3.sv.1, r3.av.1], .blk g5 26 #[(iV r1.d.Id), (iV r1.d.Tier), (iV r1.d.From), (iV r1.d.To), r1.sv.1, r1.av.1], rowT 28 sampE r3.sv.1 r3.d.Samples, rowT 45 aggE r3.av.1 r3.d.Aggs, rowT 28 sampE r1.sv.1 r1.d.Samples, rowT 45 aggE r1.av.1 r1.d.Aggs] := hst
 refine s_cons (op_assign (iV r16) rfl (s_nil (then_n (cE_seq ?_))))
 obtain ⟨hi0, hi1, hi2, hi3, hi4⟩ := infoG_enc sInfo_hd hc ho
 refine cE_regionM (fun (D : Nat → Bool) (w : World) => St w0 w [.blk g18 50 #[(iV r15.Id), (iV r15.Tier), (iV r15.From), (iV r15.To), (.int .u32 r15.Sum)], rowT 5 u8E r13 ((encG r3.d).1), rowT 5 u8E r11 ((encG r1.d).1), .blk g7 26 #[(iV r3.d.Id), (iV r3.d.Tier), (iV r3.d.From), (iV r3.d.To), r3.sv.1, r3.av.1], .blk g5 26 #[(iV r1.d.Id), (iV r1.d.Tier), (iV r1.d.From), (iV r1.d.To), r1.sv.1, r1.av.1], rowT 28 sampE r3.sv.1 r3.d.Samples, rowT 45 aggE r3.av.1 r3.d.Aggs, rowT 28 sampE r1.sv.1 r1.d.Samples, rowT 45 aggE r1.av.1 r1.d.Aggs] ∧ (St w0 w [.blk g18 50 #[(iV r15.Id), (iV r15.Tier), (iV r15.From), (iV r15.To), (.int .u32 r15.Sum)], rowT 5 u8E r13 ((encG r3.d).1), rowT 5 u8E r11 ((encG r1.d).1), .blk g7 26 #[(iV r3.d.Id), (iV r3.d.Tier), (iV r3.d.From), (iV r3.d.To), r3.sv.1, r3.av.1], .blk g5 26 #[(iV r1.d.Id), (iV r1.d.Tier), (iV r1.d.From), (iV r1.d.To), r1.sv.1, r1.av.1], rowT 28 sampE r3.sv.1 r3.d.Samples, rowT 45 aggE r3.av.1 r3.d.Aggs, rowT 28 sampE r1.sv.1 r1.d.Samples, rowT 45 aggE r1.av.1 r1.d.Aggs])) [[], [(50, some 0)], [(12, none), (51, some 1)], [(52, some 2), (51, some 1)], [(51, some 1), (53, some 3)], [(54, some 4)], [(14, none), (55, some 5)], [(56, some 6), (55, some 5)], [(55, some 5), (57, some 7)], [(58, some 8)], [(16, none), (59, some 9)], [(60, some 10), (59, some 9)], [(59, some 9), (61, some 11)], [(62, some 12)], [(15, none), (63, some 13)], [(64, some 14), (63, some 13)], [(9, none), (63, some 13)], [(66, some 16), (63, some 13)], [(65, some 15), (67, some 17), (63, some 13)], [(63, some 13), (68, some 18)], [(69, some 19)], [(15, none), (70, some 20)], [(71, some 21), (70, some 20)], [(9, none), (70, some 20)], [(73, some 23), (70, some 20)], [(72, some 22), (74, some 24), (70, some 20)], [(70, some 20), (75, some 25)], [(76, some 26)], [(15, none), (77, some 27)], [(78, some 28), (77, some 27)], [(9, none), (77, some 27)], [(80, some 30), (77, some 27)], [(79, some 29), (81, some 31), (77, some 27)], [(77, some 27), (82, some 32)], [(83, some 33)], [(15, none), (84, some 34)], [(85, some 35), (84, some 34)], [(9, none), (84, some 34)], [(87, some 37), (84, some 34)], [(86, some 36), (88, some 38), (84, some 34)], [(84, some 34), (89, some 39)], [(90, some 40)], [(11, none), (91, some 41)], [(92, some 42), (91, some 41)], [(13, none), (91, some 41)], [(94, some 44), (91, some 41)], [(93, some 43), (95, some 45), (91, some 41)], [(9, none), (91, some 41)], [(10, none), (91, some 41)], [(97, some 47), (98, some 48), (91, some 41)], [(96, some 46), (99, some 49), (91, some 41)], [(91, some 41), (100, some 50)], [(101, some 51)], [(15, none), (102, some 52)], [(102, some 52)], [(103, some 53), (104, some 54), (102, some 52)], [(102, some 52), (105, some 55)], [(106, some 56)]] [] [(kEq (.bool true)), (kEq (.bool true)), (kEq (iV ((encG r1.d).2))), (kEq (.bool (decide (((encG r1.d).2) = 0)))), (kEq (.bool (decide (((encG r1.d).2) = 0)))), (kEq (.bool (decide (((encG r1.d).2) = 0)))), (kEq (iV ((encG r3.d).2))), (kEq (.bool (decide (((encG r3.d).2) = 0)))), (kEq (.bool (decide (((encG r3.d).2) = 0)))), (kEq (.bool (decide (((encG r3.d).2) = 0)))), (kEq (iV r16)), (kEq (.bool (decide (r16 = 0)))), (kEq (.bool (decide (r16 = 0)))), (kEq (.bool (decide (r16 = 0)))), (kEq (.pointer (some ⟨g18, (0 + 0), none⟩))), (kEq (iV r15.Id)), (kEq (.pointer (some ⟨g5, (0 + 0), none⟩))), (kEq (iV r1.d.Id)), (kEq (.bool (decide (r15.Id = r1.d.Id)))), (kEq (.bool (decide (r15.Id = r1.d.Id)))), (kEq (.bool (decide (r15.Id = r1.d.Id)))), (kEq (.pointer (some ⟨g18, (0 + 1), none⟩))), (kEq (iV r15.Tier)), (kEq (.pointer (some ⟨g5, (0 + 1), none⟩))), (kEq (iV r1.d.Tier)), (kEq (.bool (decide (r15.Tier = r1.d.Tier)))), (kEq (.bool (decide (r15.Tier = r1.d.Tier)))), (kEq (.bool (decide (r15.Tier = r1.d.Tier)))), (kEq (.pointer (some ⟨g18, (0 + 2), none⟩))), (kEq (iV r15.From)), (kEq (.pointer (some ⟨g5, (0 + 2), none⟩))), (kEq (iV r1.d.From)), (kEq (.bool (decide (r15.From = r1.d.From)))), (kEq (.bool (decide (r15.From = r1.d.From)))), (kEq (.bool (decide (r15.From = r1.d.From)))), (kEq (.pointer (some ⟨g18, (0 + 3), none⟩))), (kEq (iV r15.To)), (kEq (.pointer (some ⟨g5, (0 + 3), none⟩))), (kEq (iV r1.d.To)), (kEq (.bool (decide (r15.To = r1.d.To)))), (kEq (.bool (decide (r15.To = r1.d.To)))), (kEq (.bool (decide (r15.To = r1.d.To)))), (kEq r11), (kEq (.string (str ((encG r1.d).1)))), (kEq r13), (kEq (.string (str ((encG r3.d).1)))), (kEq (.bool (decide (((encG r1.d).1) = ((encG r3.d).1))))), (kEq (.agg #[(iV r1.d.Id), (iV r1.d.Tier), (iV r1.d.From), (iV r1.d.To), r1.sv.1, r1.av.1])), (kEq (.agg #[(iV r3.d.Id), (iV r3.d.Tier), (iV r3.d.From), (iV r3.d.To), r3.sv.1, r3.av.1])), (kEq (.bool (decide (r1.d = r3.d)))), (kEq (.bool ((decide (((encG r1.d).1) = ((encG r3.d).1))) == (decide (r1.d = r3.d))))), (kEq (.bool ((decide (((encG r1.d).1) = ((encG r3.d).1))) == (decide (r1.d = r3.d))))), (kEq (.bool ((decide (((encG r1.d).1) = ((encG r3.d).1))) == (decide (r1.d = r3.d))))), (kEq (.agg #[(iV r15.Id), (iV r15.Tier), (iV r15.From), (iV r15.To), (.int .u32 r15.Sum)])), (kEq (.agg #[(iV 0), (iV 0), (iV 0), (iV 0), (.int .u32 0)])), (kEq (.bool (!decide (r15 = (⟨0, 0, 0, 0, 0⟩ : Info))))), (kEq (.bool (!decide (r15 = (⟨0, 0, 0, 0, 0⟩ : Info))))), (kEq (.bool (!decide (r15 = (⟨0, 0, 0, 0, 0⟩ : Info)))))] ⟨mEq, mEq, mEq, mEq, mEq, mEq, mEq, mEq, mEq, mEq, mEq, mEq, mEq, mEq, mEq, mEq, mEq, mEq, mEq, mEq, mEq, mEq, mEq, mEq, mEq, mEq, mEq, mEq, mEq, mEq, mEq, mEq, mEq, mEq, mEq, mEq, mEq, mEq, mEq, mEq, mEq, mEq, mEq, mEq, mEq, mEq, mEq, mEq, mEq, mEq, mEq, mEq, mEq, mEq, mEq, mEq, mEq, mEq, trivial⟩ (by kernel_rfl) rfl (by kernel_rfl) ⟨hst.drewW.sub (.cons_cons _ (.cons_cons _ (.cons_cons _ (.cons_cons _ (.cons_cons _ (.cons_cons _ (.cons_cons _ (.cons_cons _ (.cons_cons _ .slnil))))))))), hst.drewW⟩ (fun hM => ⟨?_, ?_, ?_, ?_, ?_, ?_, ?_, ?_, ?_, ?_, ?_, ?_, ?_, ?_, ?_, ?_, ?_, ?_, ?_, ?_, ?_, ?_, ?_, ?_, ?_, ?_, ?_, ?_, ?_, ?_, ?_, ?_, ?_, ?_, ?_, ?_, ?_, ?_, ?_, ?_, ?_, ?_, ?_, ?_, ?_, ?_, ?_, ?_, ?_, ?_, ?_, ?_, ?_, ?_, ?_, ?_, ?_, ?_, trivial⟩) ?_
 ·rintro D ρo wo nD eD cD jD aD ⟨_⟩
  refine go_plain (op_call Tryd.call9 evs_nil (c_told8 (w0 := wo)) ?_)
  rintro _ w24 ⟨rfl, hcall⟩
  refine ⟨_, rfl, ?_⟩
  exact kN (i := 0) hM (by decide) hcall.below (by exact ⟨(jD.1).ext hcall.below, (jD.2).ext hcall.below⟩) (by exact rfl)
 ·rintro D ρo wo nD eD cD jD aD ⟨f50, _⟩
  exact go_plain (op_move (.bool true) f50 (kN0 (i := 1) hM (by decide) (by exact jD) (by exact rfl)))
 ·rintro D ρo wo nD eD cD jD aD ⟨f12, f51, _⟩
  exact go_yes 51 rfl f51 (op_move (iV ((encG r1.d).2)) (f12.trans rfl) (kN0 (i := 2) hM (by decide) (by exact jD) (by exact rfl)))
 ·rintro D ρo wo nD eD cD jD aD ⟨f52, f51, _⟩
  exact go_yes 51 rfl f51 (op_eql (k := .i64) (a := (encG r1.d).2) (b := 0) f52 rfl (kN0 (i := 3) hM (by decide) (by exact jD) (by exact rfl)))
 ·rintro D ρo wo nD eD cD jD aD ⟨f51, f53, _⟩
  exact go_plain (op_pick_t (.bool (decide (((encG r1.d).2) = 0))) f51 f53 (kN0 (i := 4) hM (by decide) (by exact jD) (by exact rfl)))
 ·rintro D ρo wo nD eD cD jD aD ⟨f54, _⟩
  exact go_plain (op_move (.bool (decide (((encG r1.d).2) = 0))) f54 (kN0 (i := 5) hM (by decide) (by exact jD) (by exact rfl)))
 ·rintro D ρo wo nD eD cD jD aD ⟨f14, f55, _⟩
  exact go_yes 55 rfl (f55.trans (congrArg Value.bool (show (decide (((encG r1.d).2) = 0)) = true from (decide_eq_true (by assumption))))) (op_move (iV ((encG r3.d).2)) (f14.trans rfl) (kN0 (i := 6) hM (by decide) (by exact jD) (by exact rfl)))
 ·rintro D ρo wo nD eD cD jD aD ⟨f56, f55, _⟩
  exact go_yes 55 rfl (f55.trans (congrArg Value.bool (show (decide (((encG r1.d).2) = 0)) = true from (decide_eq_true (by assumption))))) (op_eql (k := .i64) (a := (encG r3.d).2) (b := 0) f56 rfl (kN0 (i := 7) hM (by decide) (by exact jD) (by exact rfl)))
 ·rintro D ρo wo nD eD cD jD aD ⟨f55, f57, _⟩
  exact go_plain (op_pick_t (.bool (decide (((encG r3.d).2) = 0))) (f55.trans (congrArg Value.bool (show (decide (((encG r1.d).2) = 0)) = true from (decide_eq_true (by assumption))))) f57 (kN0 (i := 8) hM (by decide) (by exact jD) (by exact rfl)))
 ·rintro D ρo wo nD eD cD jD aD ⟨f58, _⟩
  exact go_plain (op_move (.bool (decide (((encG r3.d).2) = 0))) f58 (kN0 (i := 9) hM (by decide) (by exact jD) (by exact rfl)))
 ·rintro D ρo wo nD eD cD jD aD ⟨f16, f59, _⟩
  exact go_yes 59 rfl (f59.trans (congrArg Value.bool (show (decide (((encG r3.d).2) = 0)) = true from (decide_eq_true (by assumption))))) (op_move (iV r16) (f16.trans rfl) (kN0 (i := 10) hM (by decide) (by exact jD) (by exact rfl)))
 ·rintro D ρo wo nD eD cD jD aD ⟨f60, f59, _⟩
  exact go_yes 59 rfl (f59.trans (congrArg Value.bool (show (decide (((encG r3.d).2) = 0)) = true from (decide_eq_true (by assumption))))) (op_eql (k := .i64) (a := r16) (b := 0) f60 rfl (kN0 (i := 11) hM (by decide) (by exact jD) (by exact rfl)))
 ·rintro D ρo wo nD eD cD jD aD ⟨f59, f61, _⟩
  exact go_plain (op_pick_t (.bool (decide (r16 = 0))) (f59.trans (congrArg Value.bool (show (decide (((encG r3.d).2) = 0)) = true from (decide_eq_true (by assumption))))) f61 (kN0 (i := 12) hM (by decide) (by exact jD) (by exact rfl)))
 ·rintro D ρo wo nD eD cD jD aD ⟨f62, _⟩
  exact go_plain (op_move (.bool (decide (r16 = 0))) f62 (kN0 (i := 13) hM (by decide) (by exact jD) (by exact rfl)))
 ·rintro D ρo wo nD eD cD jD aD ⟨f15, f63, _⟩
  exact go_yes 63 rfl (f63.trans (congrArg Value.bool (show (decide (r16 = 0)) = true from (decide_eq_true hi0)))) (op_fieldAddr (s := 0) Tryd.underlying50 rfl rfl Tryd.sizeOf3 (f15.trans rfl) (kN0 (i := 14) hM (by decide) (by exact jD) (by exact rfl)))
 ·rintro D ρo wo nD eD cD jD aD ⟨f64, f63, _⟩
  have hst := jD.2 
  replace hst : St w0 wo [.blk g18 50 #[(iV r15.Id), (iV r15.Tier), (iV r15.From), (iV r15.To), (.int .u32 r15.Sum)], rowT 5 u8E r13 ((encG r3.d).1), rowT 5 u8E r11 ((encG r1.d).1), .blk g7 26 #[(iV r3.d.Id), (iV r3.d.Tier), (iV r3.d.From), (iV r3.d.To), r3.sv.1, r3.av.1], .blk g5 26 #[(iV r1.d.Id), (iV r1.d.Tier), (iV r1.d.From), (iV r1.d.To), r1.sv.1, r1.av.1], rowT 28 sampE r3.sv.1 r3.d.Samples, rowT 45 aggE r3.av.1 r3.d.Aggs, rowT 28 sampE r1.sv.1 r1.d.Samples, rowT 45 aggE r1.av.1 r1.d.Aggs] := hst
  exact go_yes 63 rfl (f63.trans (congrArg Value.bool (show (decide (r16 = 0)) = true from (decide_eq_true hi0)))) (op_load1 (u := (iV r15.Id)) Tryd.isAgg3 f64 (hst.cell 0 rfl) (kN0 (i := 15) hM (by decide) (by exact jD) (by exact rfl)))
 ·rintro D ρo wo nD eD cD jD aD ⟨f9, f63, _⟩
  exact go_yes 63 rfl (f63.trans (congrArg Value.bool (show (decide (r16 = 0)) = true from (decide_eq_true hi0)))) (op_fieldAddr (s := 0) Tryd.underlying26 rfl rfl Tryd.sizeOf3 (f9.trans rfl) (kN0 (i := 16) hM (by decide) (by exact jD) (by exact rfl)))
 ·rintro D ρo wo nD eD cD jD aD ⟨f66, f63, _⟩
  have hst := jD.2 
  replace hst : St w0 wo [.blk g18 50 #[(iV r15.Id), (iV r15.Tier), (iV r15.From), (iV r15.To), (.int .u32 r15.Sum)], rowT 5 u8E r13 ((encG r3.d).1), rowT 5 u8E r11 ((encG r1.d).1), .blk g7 26 #[(iV r3.d.Id), (iV r3.d.Tier), (iV r3.d.From), (iV r3.d.To), r3.sv.1, r3.av.1], .blk g5 26 #[(iV r1.d.Id), (iV r1.d.Tier), (iV r1.d.From), (iV r1.d.To), r1.sv.1, r1.av.1], rowT 28 sampE r3.sv.1 r3.d.Samples, rowT 45 aggE r3.av.1 r3.d.Aggs, rowT 28 sampE r1.sv.1 r1.d.Samples, rowT 45 aggE r1.av.1 r1.d.Aggs] := hst
  exact go_yes 63 rfl (f63.trans (congrArg Value.bool (show (decide (r16 = 0)) = true from (decide_eq_true hi0)))) (op_load1 (u := (iV r1.d.Id)) Tryd.isAgg3 f66 (hst.cell 4 rfl) (kN0 (i := 17) hM (by decide) (by exact jD) (by exact rfl)))
 ·rintro D ρo wo nD eD cD jD aD ⟨f65, f67, f63, _⟩
  exact go_yes 63 rfl (f63.trans (congrArg Value.bool (show (decide (r16 = 0)) = true from (decide_eq_true hi0)))) (op_eql (k := .i64) (a := r15.Id) (b := r1.d.Id) f65 f67 (kN0 (i := 18) hM (by decide) (by exact jD) (by exact rfl)))
 ·rintro D ρo wo nD eD cD jD aD ⟨f63, f68, _⟩
  exact go_plain (op_pick_t (.bool (decide (r15.Id = r1.d.Id))) (f63.trans (congrArg Value.bool (show (decide (r16 = 0)) = true from (decide_eq_true hi0)))) f68 (kN0 (i := 19) hM (by decide) (by exact jD) (by exact rfl)))
 ·rintro D ρo wo nD eD cD jD aD ⟨f69, _⟩
  exact go_plain (op_move (.bool (decide (r15.Id = r1.d.Id))) f69 (kN0 (i := 20) hM (by decide) (by exact jD) (by exact rfl)))
 ·rintro D ρo wo nD eD cD jD aD ⟨f15, f70, _⟩
  exact go_yes 70 rfl (f70.trans (congrArg Value.bool (show (decide (r15.Id = r1.d.Id)) = true from (decide_eq_true hi1)))) (op_fieldAddr (s := 0) Tryd.underlying50 rfl rfl Tryd.sizeOf3 (f15.trans rfl) (kN0 (i := 21) hM (by decide) (by exact jD) (by exact rfl)))
 ·rintro D ρo wo nD eD cD jD aD ⟨f71, f70, _⟩
  have hst := jD.2 
  replace hst : St w0 wo [.blk g18 50 #[(iV r15.Id), (iV r15.Tier), (iV r15.From), (iV r15.To), (.int .u32 r15.Sum)], rowT 5 u8E r13 ((encG r3.d).1), rowT 5 u8E r11 ((encG r1.d).1), .blk g7 26 #[(iV r3.d.Id), (iV r3.d.Tier), (iV r3.d.From), (iV r3.d.To), r3.sv.1, r3.av.1], .blk g5 26 #[(iV r1.d.Id), (iV r1.d.Tier), (iV r1.d.From), (iV r1.d.To), r1.sv.1, r1.av.1], rowT 28 sampE r3.sv.1 r3.d.Samples, rowT 45 aggE r3.av.1 r3.d.Aggs, rowT 28 sampE r1.sv.1 r1.d.Samples, rowT 45 aggE r1.av.1 r1.d.Aggs] := hst
  exact go_yes 70 rfl (f70.trans (congrArg Value.bool (show (decide (r15.Id = r1.d.Id)) = true from (decide_eq_true hi1)))) (op_load1 (u := (iV r15.Tier)) Tryd.isAgg3 f71 ((hst.cell 0 rfl).drop 1) (kN0 (i := 22) hM (by decide) (by exact jD) (by exact rfl)))
 ·rintro D ρo wo nD eD cD jD aD ⟨f9, f70, _⟩
  exact go_yes 70 rfl (f70.trans (congrArg Value.bool (show (decide (r15.Id = r1.d.Id)) = true from (decide_eq_true hi1)))) (op_fieldAddr (s := 0) Tryd.underlying26 rfl rfl Tryd.sizeOf3 (f9.trans rfl) (kN0 (i := 23) hM (by decide) (by exact jD) (by exact rfl)))
 ·rintro D ρo wo nD eD cD jD aD ⟨f73, f70, _⟩
  have hst := jD.2 
  replace hst : St w0 wo [.blk g18 50 #[(iV r15.Id), (iV r15.Tier), (iV r15.From), (iV r15.To), (.int .u32 r15.Sum)], rowT 5 u8E r13 ((encG r3.d).1), rowT 5 u8E r11 ((encG r1.d).1), .blk g7 26 #[(iV r3.d.Id), (iV r3.d.Tier), (iV r3.d.From), (iV r3.d.To), r3.sv.1, r3.av.1], .blk g5 26 #[(iV r1.d.Id), (iV r1.d.Tier), (iV r1.d.From), (iV r1.d.To), r1.sv.1, r1.av.1], rowT 28 sampE r3.sv.1 r3.d.Samples, rowT 45 aggE r3.av.1 r3.d.Aggs, rowT 28 sampE r1.sv.1 r1.d.Samples, rowT 45 aggE r1.av.1 r1.d.Aggs] := hst
  exact go_yes 70 rfl (f70.trans (congrArg Value.bool (show (decide (r15.Id = r1.d.Id)) = true from (decide_eq_true hi1)))) (op_load1 (u := (iV r1.d.Tier)) Tryd.isAgg3 f73 ((hst.cell 4 rfl).drop 1) (kN0 (i := 24) hM (by decide) (by exact jD) (by exact rfl)))
 ·rintro D ρo wo nD eD cD jD aD ⟨f72, f74, f70, _⟩
  exact go_yes 70 rfl (f70.trans (congrArg Value.bool (show (decide (r15.Id = r1.d.Id)) = true from (decide_eq_true hi1)))) (op_eql (k := .i64) (a := r15.Tier) (b := r1.d.Tier) f72 f74 (kN0 (i := 25) hM (by decide) (by exact jD) (by exact rfl)))
 ·rintro D ρo wo nD eD cD jD aD ⟨f70, f75, _⟩
  exact go_plain (op_pick_t (.bool (decide (r15.Tier = r1.d.Tier))) (f70.trans (congrArg Value.bool (show (decide (r15.Id = r1.d.Id)) = true from (decide_eq_true hi1)))) f75 (kN0 (i := 26) hM (by decide) (by exact jD) (by exact rfl)))
 ·rintro D ρo wo nD eD cD jD aD ⟨f76, _⟩
  exact go_plain (op_move (.bool (decide (r15.Tier = r1.d.Tier))) f76 (kN0 (i := 27) hM (by decide) (by exact jD) (by exact rfl)))
 ·rintro D ρo wo nD eD cD jD aD ⟨f15, f77, _⟩
  exact go_yes 77 rfl (f77.trans (congrArg Value.bool (show (decide (r15.Tier = r1.d.Tier)) = true from (decide_eq_true hi2)))) (op_fieldAddr (s := 0) Tryd.underlying50 rfl rfl Tryd.sizeOf2 (f15.trans rfl) (kN0 (i := 28) hM (by decide) (by exact jD) (by exact rfl)))
 ·rintro D ρo wo nD eD cD jD aD ⟨f78, f77, _⟩
  have hst := jD.2 
  replace hst : St w0 wo [.blk g18 50 #[(iV r15.Id), (iV r15.Tier), (iV r15.From), (iV r15.To), (.int .u32 r15.Sum)], rowT 5 u8E r13 ((encG r3.d).1), rowT 5 u8E r11 ((encG r1.d).1), .blk g7 26 #[(iV r3.d.Id), (iV r3.d.Tier), (iV r3.d.From), (iV r3.d.To), r3.sv.1, r3.av.1], .blk g5 26 #[(iV r1.d.Id), (iV r1.d.Tier), (iV r1.d.From), (iV r1.d.To), r1.sv.1, r1.av.1], rowT 28 sampE r3.sv.1 r3.d.Samples, rowT 45 aggE r3.av.1 r3.d.Aggs, rowT 28 sampE r1.sv.1 r1.d.Samples, rowT 45 aggE r1.av.1 r1.d.Aggs] := hst
  exact go_yes 77 rfl (f77.trans (congrArg Value.bool (show (decide (r15.Tier = r1.d.Tier)) = true from (decide_eq_true hi2)))) (op_load1 (u := (iV r15.From)) Tryd.isAgg2 f78 ((hst.cell 0 rfl).drop 2) (kN0 (i := 29) hM (by decide) (by exact jD) (by exact rfl)))
 ·rintro D ρo wo nD eD cD jD aD ⟨f9, f77, _⟩
  exact go_yes 77 rfl (f77.trans (congrArg Value.bool (show (decide (r15.Tier = r1.d.Tier)) = true from (decide_eq_true hi2)))) (op_fieldAddr (s := 0) Tryd.underlying26 rfl rfl Tryd.sizeOf2 (f9.trans rfl) (kN0 (i := 30) hM (by decide) (by exact jD) (by exact rfl)))
 ·rintro D ρo wo nD eD cD jD aD ⟨f80, f77, _⟩
  have hst := jD.2 
  replace hst : St w0 wo [.blk g18 50 #[(iV r15.Id), (iV r15.Tier), (iV r15.From), (iV r15.To), (.int .u32 r15.Sum)], rowT 5 u8E r13 ((encG r3.d).1), rowT 5 u8E r11 ((encG r1.d).1), .blk g7 26 #[(iV r3.d.Id), (iV r3.d.Tier), (iV r3.d.From), (iV r3.d.To), r3.sv.1, r3.av.1], .blk g5 26 #[(iV r1.d.Id), (iV r1.d.Tier), (iV r1.d.From), (iV r1.d.To), r1.sv.1, r1.av.1], rowT 28 sampE r3.sv.1 r3.d.Samples, rowT 45 aggE r3.av.1 r3.d.Aggs, rowT 28 sampE r1.sv.1 r1.d.Samples, rowT 45 aggE r1.av.1 r1.d.Aggs] := hst
  exact go_yes 77 rfl (f77.trans (congrArg Value.bool (show (decide (r15.Tier = r1.d.Tier)) = true from (decide_eq_true hi2)))) (op_load1 (u := (iV r1.d.From)) Tryd.isAgg2 f80 ((hst.cell 4 rfl).drop 2) (kN0 (i := 31) hM (by decide) (by exact jD) (by exact rfl)))
 ·rintro D ρo wo nD eD cD jD aD ⟨f79, f81, f77, _⟩
  exact go_yes 77 rfl (f77.trans (congrArg Value.bool (show (decide (r15.Tier = r1.d.Tier)) = true from (decide_eq_true hi2)))) (op_eql (k := .i64) (a := r15.From) (b := r1.d.From) f79 f81 (kN0 (i := 32) hM (by decide) (by exact jD) (by exact rfl)))
 ·rintro D ρo wo nD eD cD jD aD ⟨f77, f82, _⟩
  exact go_plain (op_pick_t (.bool (decide (r15.From = r1.d.From))) (f77.trans (congrArg Value.bool (show (decide (r15.Tier = r1.d.Tier)) = true from (decide_eq_true hi2)))) f82 (kN0 (i := 33) hM (by decide) (by exact jD) (by exact rfl)))
 ·rintro D ρo wo nD eD cD jD aD ⟨f83, _⟩
  exact go_plain (op_move (.bool (decide (r15.From = r1.d.From))) f83 (kN0 (i := 34) hM (by decide) (by exact jD) (by exact rfl)))
 ·rintro D ρo wo nD eD cD jD aD ⟨f15, f84, _⟩
  exact go_yes 84 rfl (f84.trans (congrArg Value.bool (show (decide (r15.From = r1.d.From)) = true from (decide_eq_true hi3)))) (op_fieldAddr (s := 0) Tryd.underlying50 rfl rfl Tryd.sizeOf2 (f15.trans rfl) (kN0 (i := 35) hM (by decide) (by exact jD) (by exact rfl)))
 ·rintro D ρo wo nD eD cD jD aD ⟨f85, f84, _⟩
  have hst := jD.2 
  replace hst : St w0 wo [.blk g18 50 #[(iV r15.Id), (iV r15.Tier), (iV r15.From), (iV r15.To), (.int .u32 r15.Sum)], rowT 5 u8E r13 ((encG r3.d).1), rowT 5 u8E r11 ((encG r1.d).1), .blk g7 26 #[(iV r3.d.Id), (iV r3.d.Tier), (iV r3.d.From), (iV r3.d.To), r3.sv.1, r3.av.1], .blk g5 26 #[(iV r1.d.Id), (iV r1.d.Tier), (iV r1.d.From), (iV r1.d.To), r1.sv.1, r1.av.1], rowT 28 sampE r3.sv.1 r3.d.Samples, rowT 45 aggE r3.av.1 r3.d.Aggs, rowT 28 sampE r1.sv.1 r1.d.Samples, rowT 45 aggE r1.av.1 r1.d.Aggs] := hst
  exact go_yes 84 rfl (f84.trans (congrArg Value.bool (show (decide (r15.From = r1.d.From)) = true from (decide_eq_true hi3)))) (op_load1 (u := (iV r15.To)) Tryd.isAgg2 f85 ((hst.cell 0 rfl).drop 3) (kN0 (i := 36) hM (by decide) (by exact jD) (by exact rfl)))
 ·rintro D ρo wo nD eD cD jD aD ⟨f9, f84, _⟩
  exact go_yes 84 rfl (f84.trans (congrArg Value.bool (show (decide (r15.From = r1.d.From)) = true from (decide_eq_true hi3)))) (op_fieldAddr (s := 0) Tryd.underlying26 rfl rfl Tryd.sizeOf2 (f9.trans rfl) (kN0 (i := 37) hM (by decide) (by exact jD) (by exact rfl)))
 ·rintro D ρo wo nD eD cD jD aD ⟨f87, f84, _⟩
  have hst := jD.2 
  replace hst : St w0 wo [.blk g18 50 #[(iV r15.Id), (iV r15.Tier), (iV r15.From), (iV r15.To), (.int .u32 r15.Sum)], rowT 5 u8E r13 ((encG r3.d).1), rowT 5 u8E r11 ((encG r1.d).1), .blk g7 26 #[(iV r3.d.Id), (iV r3.d.Tier), (iV r3.d.From), (iV r3.d.To), r3.sv.1, r3.av.1], .blk g5 26 #[(iV r1.d.Id), (iV r1.d.Tier), (iV r1.d.From), (iV r1.d.To), r1.sv.1, r1.av.1], rowT 28 sampE r3.sv.1 r3.d.Samples, rowT 45 aggE r3.av.1 r3.d.Aggs, rowT 28 sampE r1.sv.1 r1.d.Samples, rowT 45 aggE r1.av.1 r1.d.Aggs] := hst
  exact go_yes 84 rfl (f84.trans (congrArg Value.bool (show (decide (r15.From = r1.d.From)) = true from (decide_eq_true hi3)))) (op_load1 (u := (iV r1.d.To)) Tryd.isAgg2 f87 ((hst.cell 4 rfl).drop 3) (kN0 (i := 38) hM (by decide) (by exact jD) (by exact rfl)))
 ·rintro D ρo wo nD eD cD jD aD ⟨f86, f88, f84, _⟩
  exact go_yes 84 rfl (f84.trans (congrArg Value.bool (show (decide (r15.From = r1.d.From)) = true from (decide_eq_true hi3)))) (op_eql (k := .i64) (a := r15.To) (b := r1.d.To) f86 f88 (kN0 (i := 39) hM (by decide) (by exact jD) (by exact rfl)))
 ·rintro D ρo wo nD eD cD jD aD ⟨f84, f89, _⟩
  exact go_plain (op_pick_t (.bool (decide (r15.To = r1.d.To))) (f84.trans (congrArg Value.bool (show (decide (r15.From = r1.d.From)) = true from (decide_eq_true hi3)))) f89 (kN0 (i := 40) hM (by decide) (by exact jD) (by exact rfl)))
 ·rintro D ρo wo nD eD cD jD aD ⟨f90, _⟩
  exact go_plain (op_move (.bool (decide (r15.To = r1.d.To))) f90 (kN0 (i := 41) hM (by decide) (by exact jD) (by exact rfl)))
 ·rintro D ρo wo nD eD cD jD aD ⟨f11, f91, _⟩
  exact go_yes 91 rfl (f91.trans (congrArg Value.bool (show (decide (r15.To = r1.d.To)) = true from (decide_eq_true hi4)))) (op_move r11 (f11.trans rfl) (kN0 (i := 42) hM (by decide) (by exact jD) (by exact rfl)))
 ·rintro D ρo wo nD eD cD jD aD ⟨f92, f91, _⟩
  have hst := jD.2 
  replace hst : St w0 wo [.blk g18 50 #[(iV r15.Id), (iV r15.Tier), (iV r15.From), (iV r15.To), (.int .u32 r15.Sum)], rowT 5 u8E r13 ((encG r3.d).1), rowT 5 u8E r11 ((encG r1.d).1), .blk g7 26 #[(iV r3.d.Id), (iV r3.d.Tier), (iV r3.d.From), (iV r3.d.To), r3.sv.1, r3.av.1], .blk g5 26 #[(iV r1.d.Id), (iV r1.d.Tier), (iV r1.d.From), (iV r1.d.To), r1.sv.1, r1.av.1], rowT 28 sampE r3.sv.1 r3.d.Samples, rowT 45 aggE r3.av.1 r3.d.Aggs, rowT 28 sampE r1.sv.1 r1.d.Samples, rowT 45 aggE r1.av.1 r1.d.Aggs] := hst
  exact go_yes 91 rfl (f91.trans (congrArg Value.bool (show (decide (r15.To = r1.d.To)) = true from (decide_eq_true hi4)))) (op_str (xs := (encG r1.d).1) Tryd.underlying29 Tryd.underlying5 Tryd.underlying9 f92 (hst.sl 2 rfl) (kN0 (i := 43) hM (by decide) (by exact jD) (by exact rfl)))
 ·rintro D ρo wo nD eD cD jD aD ⟨f13, f91, _⟩
  exact go_yes 91 rfl (f91.trans (congrArg Value.bool (show (decide (r15.To = r1.d.To)) = true from (decide_eq_true hi4)))) (op_move r13 (f13.trans rfl) (kN0 (i := 44) hM (by decide) (by exact jD) (by exact rfl)))
 ·rintro D ρo wo nD eD cD jD aD ⟨f94, f91, _⟩
  have hst := jD.2 
  replace hst : St w0 wo [.blk g18 50 #[(iV r15.Id), (iV r15.Tier), (iV r15.From), (iV r15.To), (.int .u32 r15.Sum)], rowT 5 u8E r13 ((encG r3.d).1), rowT 5 u8E r11 ((encG r1.d).1), .blk g7 26 #[(iV r3.d.Id), (iV r3.d.Tier), (iV r3.d.From), (iV r3.d.To), r3.sv.1, r3.av.1], .blk g5 26 #[(iV r1.d.Id), (iV r1.d.Tier), (iV r1.d.From), (iV r1.d.To), r1.sv.1, r1.av.1], rowT 28 sampE r3.sv.1 r3.d.Samples, rowT 45 aggE r3.av.1 r3.d.Aggs, rowT 28 sampE r1.sv.1 r1.d.Samples, rowT 45 aggE r1.av.1 r1.d.Aggs] := hst
  exact go_yes 91 rfl (f91.trans (congrArg Value.bool (show (decide (r15.To = r1.d.To)) = true from (decide_eq_true hi4)))) (op_str (xs := (encG r3.d).1) Tryd.underlying29 Tryd.underlying5 Tryd.underlying9 f94 (hst.sl 1 rfl) (kN0 (i := 45) hM (by decide) (by exact jD) (by exact rfl)))
 ·rintro D ρo wo nD eD cD jD aD ⟨f93, f95, f91, _⟩
  exact go_yes 91 rfl (f91.trans (congrArg Value.bool (show (decide (r15.To = r1.d.To)) = true from (decide_eq_true hi4)))) (op_eqlStr (a := (encG r1.d).1) (b := (encG r3.d).1) f93 f95 (kN0 (i := 46) hM (by decide) (by exact jD) (by exact rfl)))
 ·rintro D ρo wo nD eD cD jD aD ⟨f9, f91, _⟩
  have hst := jD.2 
  replace hst : St w0 wo [.blk g18 50 #[(iV r15.Id), (iV r15.Tier), (iV r15.From), (iV r15.To), (.int .u32 r15.Sum)], rowT 5 u8E r13 ((encG r3.d).1), rowT 5 u8E r11 ((encG r1.d).1), .blk g7 26 #[(iV r3.d.Id), (iV r3.d.Tier), (iV r3.d.From), (iV r3.d.To), r3.sv.1, r3.av.1], .blk g5 26 #[(iV r1.d.Id), (iV r1.d.Tier), (iV r1.d.From), (iV r1.d.To), r1.sv.1, r1.av.1], rowT 28 sampE r3.sv.1 r3.d.Samples, rowT 45 aggE r3.av.1 r3.d.Aggs, rowT 28 sampE r1.sv.1 r1.d.Samples, rowT 45 aggE r1.av.1 r1.d.Aggs] := hst
  exact go_yes 91 rfl (f91.trans (congrArg Value.bool (show (decide (r15.To = r1.d.To)) = true from (decide_eq_true hi4)))) (op_loadN (cs := [(iV r1.d.Id), (iV r1.d.Tier), (iV r1.d.From), (iV r1.d.To), r1.sv.1, r1.av.1]) Tryd.isAgg26 Tryd.sizeOf26 (f9.trans rfl) (Pt.of (hst.cell 4 rfl) rfl) rfl (kN0 (i := 47) hM (by decide) (by exact jD) (by exact rfl)))
 ·rintro D ρo wo nD eD cD jD aD ⟨f10, f91, _⟩
  have hst := jD.2 
  replace hst : St w0 wo [.blk g18 50 #[(iV r15.Id), (iV r15.Tier), (iV r15.From), (iV r15.To), (.int .u32 r15.Sum)], rowT 5 u8E r13 ((encG r3.d).1), rowT 5 u8E r11 ((encG r1.d).1), .blk g7 26 #[(iV r3.d.Id), (iV r3.d.Tier), (iV r3.d.From), (iV r3.d.To), r3.sv.1, r3.av.1], .blk g5 26 #[(iV r1.d.Id), (iV r1.d.Tier), (iV r1.d.From), (iV r1.d.To), r1.sv.1, r1.av.1], rowT 28 sampE r3.sv.1 r3.d.Samples, rowT 45 aggE r3.av.1 r3.d.Aggs, rowT 28 sampE r1.sv.1 r1.d.Samples, rowT 45 aggE r1.av.1 r1.d.Aggs] := hst
  exact go_yes 91 rfl (f91.trans (congrArg Value.bool (show (decide (r15.To = r1.d.To)) = true from (decide_eq_true hi4)))) (op_loadN (cs := [(iV r3.d.Id), (iV r3.d.Tier), (iV r3.d.From), (iV r3.d.To), r3.sv.1, r3.av.1]) Tryd.isAgg26 Tryd.sizeOf26 (f10.trans rfl) (Pt.of (hst.cell 3 rfl) rfl) rfl (kN0 (i := 48) hM (by decide) (by exact jD) (by exact rfl)))
 ·rintro D ρo wo nD eD cD jD aD ⟨f97, f98, f91, _⟩
  have hst := jD.2 
  replace hst : St w0 wo [.blk g18 50 #[(iV r15.Id), (iV r15.Tier), (iV r15.From), (iV r15.To), (.int .u32 r15.Sum)], rowT 5 u8E r13 ((encG r3.d).1), rowT 5 u8E r11 ((encG r1.d).1), .blk g7 26 #[(iV r3.d.Id), (iV r3.d.Tier), (iV r3.d.From), (iV r3.d.To), r3.sv.1, r3.av.1], .blk g5 26 #[(iV r1.d.Id), (iV r1.d.Tier), (iV r1.d.From), (iV r1.d.To), r1.sv.1, r1.av.1], rowT 28 sampE r3.sv.1 r3.d.Samples, rowT 45 aggE r3.av.1 r3.d.Aggs, rowT 28 sampE r1.sv.1 r1.d.Samples, rowT 45 aggE r1.av.1 r1.d.Aggs] := hst
  refine go_yes 91 rfl (f91.trans (congrArg Value.bool (show (decide (r15.To = r1.d.To)) = true from (decide_eq_true hi4)))) (op_call Tryd.call13 (evs_cons (v := (.agg #[(iV r1.d.Id), (iV r1.d.Tier), (iV r1.d.From), (iV r1.d.To), r1.sv.1, r1.av.1])) f97 (evs_cons (v := (.agg #[(iV r3.d.Id), (iV r3.d.Tier), (iV r3.d.From), (iV r3.d.To), r3.sv.1, r3.av.1])) f98 evs_nil)) (c_Same (w0 := wo) (s := r1) (h_s := ⟨(hst.sl 7 rfl), (hst.sl 8 rfl)⟩) (u := r3) (h_u := ⟨(hst.sl 5 rfl), (hst.sl 6 rfl)⟩)) ?_)
  rintro _ w25 ⟨rfl, hcall⟩
  refine ⟨_, rfl, ?_⟩
  exact kN (i := 49) hM (by decide) hcall.below (by exact ⟨(jD.1).ext hcall.below, (jD.2).ext hcall.below⟩) (by exact rfl)
 ·rintro D ρo wo nD eD cD jD aD ⟨f96, f99, f91, _⟩
  exact go_yes 91 rfl (f91.trans (congrArg Value.bool (show (decide (r15.To = r1.d.To)) = true from (decide_eq_true hi4)))) (op_eqlb (a := decide (((encG r1.d).1) = ((encG r3.d).1))) (b := decide (r1.d = r3.d)) Tryd.underlying4 f96 f99 (kN0 (i := 50) hM (by decide) (by exact jD) (by exact rfl)))
 ·rintro D ρo wo nD eD cD jD aD ⟨f91, f100, _⟩
  exact go_plain (op_pick_t (.bool ((decide (((encG r1.d).1) = ((encG r3.d).1))) == (decide (r1.d = r3.d)))) (f91.trans (congrArg Value.bool (show (decide (r15.To = r1.d.To)) = true from (decide_eq_true hi4)))) f100 (kN0 (i := 51) hM (by decide) (by exact jD) (by exact rfl)))
 ·rintro D ρo wo nD eD cD jD aD ⟨f101, _⟩
  exact go_plain (op_move (.bool ((decide (((encG r1.d).1) = ((encG r3.d).1))) == (decide (r1.d = r3.d)))) f101 (kN0 (i := 52) hM (by decide) (by exact jD) (by exact rfl)))
 ·rintro D ρo wo nD eD cD jD aD ⟨f15, f102, _⟩
  have hst := jD.2 
  replace hst : St w0 wo [.blk g18 50 #[(iV r15.Id), (iV r15.Tier), (iV r15.From), (iV r15.To), (.int .u32 r15.Sum)], rowT 5 u8E r13 ((encG r3.d).1), rowT 5 u8E r11 ((encG r1.d).1), .blk g7 26 #[(iV r3.d.Id), (iV r3.d.Tier), (iV r3.d.From), (iV r3.d.To), r3.sv.1, r3.av.1], .blk g5 26 #[(iV r1.d.Id), (iV r1.d.Tier), (iV r1.d.From), (iV r1.d.To), r1.sv.1, r1.av.1], rowT 28 sampE r3.sv.1 r3.d.Samples, rowT 45 aggE r3.av.1 r3.d.Aggs, rowT 28 sampE r1.sv.1 r1.d.Samples, rowT 45 aggE r1.av.1 r1.d.Aggs] := hst
  exact go_yes 102 rfl (f102.trans (congrArg Value.bool (show ((decide (((encG r1.d).1) = ((encG r3.d).1))) == (decide (r1.d = r3.d))) = true from (same_bytes hc hc2 ho ho2)))) (op_loadN (cs := [(iV r15.Id), (iV r15.Tier), (iV r15.From), (iV r15.To), (.int .u32 r15.Sum)]) Tryd.isAgg50 Tryd.sizeOf50 (f15.trans rfl) (Pt.of (hst.cell 0 rfl) rfl) rfl (kN0 (i := 53) hM (by decide) (by exact jD) (by exact rfl)))
 ·rintro D ρo wo nD eD cD jD aD ⟨f102, _⟩
  exact go_yes 102 rfl (f102.trans (congrArg Value.bool (show ((decide (((encG r1.d).1) = ((encG r3.d).1))) == (decide (r1.d = r3.d))) = true from (same_bytes hc hc2 ho ho2)))) (op_build (r := (.agg #[(iV 0), (iV 0), (iV 0), (iV 0), (.int .u32 0)])) evp_nil (by simp [Instr.build, Instr.fill, Value.cells, Tryd.runUnderlying50, Tryd.zeroValue50]) (kN0 (i := 54) hM (by decide) (by exact jD) (by exact rfl)))
 ·rintro D ρo wo nD eD cD jD aD ⟨f103, f104, f102, _⟩
  exact go_yes 102 rfl (f102.trans (congrArg Value.bool (show ((decide (((encG r1.d).1) = ((encG r3.d).1))) == (decide (r1.d = r3.d))) = true from (same_bytes hc hc2 ho ho2)))) (op_neqG Tryd.eqGuardType50 (Tryd.eqInfo r15 (⟨0, 0, 0, 0, 0⟩ : Info) _) f103 f104 (kN0 (i := 55) hM (by decide) (by exact jD) (by exact rfl)))
 ·rintro D ρo wo nD eD cD jD aD ⟨f102, f105, _⟩
  exact go_plain (op_pick_t (.bool (!decide (r15 = (⟨0, 0, 0, 0, 0⟩ : Info)))) (f102.trans (congrArg Value.bool (show ((decide (((encG r1.d).1) = ((encG r3.d).1))) == (decide (r1.d = r3.d))) = true from (same_bytes hc hc2 ho ho2)))) f105 (kN0 (i := 56) hM (by decide) (by exact jD) (by exact rfl)))
 ·rintro D ρo wo nD eD cD jD aD ⟨f106, _⟩
  exact go_plain (op_assign (.bool (!decide (r15 = (⟨0, 0, 0, 0, 0⟩ : Info)))) f106 (kN0 (i := 57) hM (by decide) (by exact jD) (by exact rfl)))
 intro ρ26 w27 Dw27 hallw27 hJw27 hRw27 hkw27
 have hst : St w0 w27 [.blk g18 50 #[(iV r15.Id), (iV r15.Tier), (iV r15.From), (iV r15.To), (.int .u32 r15.Sum)], rowT 5 u8E r13 ((encG r3.d).1), rowT 5 u8E r11 ((encG r1.d).1), .blk g7 26 #[(iV r3.d.Id), (iV r3.d.Tier), (iV r3.d.From), (iV r3.d.To), r3.sv.1, r3.av.1], .blk g5 26 #[(iV r1.d.Id), (iV r1.d.Tier), (iV r1.d.From), (iV r1.d.To), r1.sv.1, r1.av.1], rowT 28 sampE r3.sv.1 r3.d.Samples, rowT 45 aggE r3.av.1 r3.d.Aggs, rowT 28 sampE r1.sv.1 r1.d.Samples, rowT 45 aggE r1.av.1 r1.d.Aggs] := hJw27.2 
 have uw27_0 : ρ26 0 = (iV nid) := (hkw27 0 rfl).trans rfl
 have uw27_1 : ρ26 1 = v_steps := (hkw27 1 rfl).trans rfl
 have uw27_2 : ρ26 2 = v_values := (hkw27 2 rfl).trans rfl
 have uw27_3 : ρ26 3 = (iV other) := (hkw27 3 rfl).trans rfl
 have uw27_17 : ρ26 17 = (iV nid) := (hkw27 17 rfl).trans rfl
 have uw27_18 : ρ26 18 = v_steps := (hkw27 18 rfl).trans rfl
 have uw27_19 : ρ26 19 = v_values := (hkw27 19 rfl).trans rfl
 have uw27_20 : ρ26 20 = (.agg #[(iV r1.d.Id), (iV r1.d.Tier), (iV r1.d.From), (iV r1.d.To), r1.sv.1, r1.av.1]) := (hkw27 20 rfl).trans rfl
 have uw27_21 : ρ26 21 = (iV nid) := (hkw27 21 rfl).trans rfl
 have uw27_22 : ρ26 22 = (iV other) := (hkw27 22 rfl).trans rfl
 have uw27_23 : ρ26 23 = (.int .u64 (other % 18446744073709551616)) := (hkw27 23 rfl).trans rfl
 have uw27_24 : ρ26 24 = (.int .u64 (p : Int)) := (hkw27 24 rfl).trans rfl
 have uw27_25 : ρ26 25 = (iV (p : Int)) := (hkw27 25 rfl).trans rfl
 have uw27_26 : ρ26 26 = (iV n1) := (hkw27 26 rfl).trans rfl
 have uw27_27 : ρ26 27 = (iV other) := (hkw27 27 rfl).trans rfl
 have uw27_28 : ρ26 28 = (.int .u64 (other % 18446744073709551616)) := (hkw27 28 rfl).trans rfl
 have uw27_29 : ρ26 29 = (.int .u64 (q : Int)) := (hkw27 29 rfl).trans rfl
 have uw27_30 : ρ26 30 = (iV (q : Int)) := (hkw27 30 rfl).trans rfl
 have uw27_31 : ρ26 31 = (iV (3 + (q : Int))) := (hkw27 31 rfl).trans rfl
 have uw27_32 : ρ26 32 = v_steps := (hkw27 32 rfl).trans rfl
 have uw27_33 : ρ26 33 = v_values := (hkw27 33 rfl).trans rfl
 have uw27_34 : ρ26 34 = (.agg #[(iV r3.d.Id), (iV r3.d.Tier), (iV r3.d.From), (iV r3.d.To), r3.sv.1, r3.av.1]) := (hkw27 34 rfl).trans rfl
 have uw27_9 : ρ26 9 = (.pointer (some ⟨g5, 0, none⟩)) := (hkw27 9 rfl).trans rfl
 have uw27_10 : ρ26 10 = (.pointer (some ⟨g7, 0, none⟩)) := (hkw27 10 rfl).trans rfl
 have uw27_36 : ρ26 36 = (.agg #[(iV r1.d.Id), (iV r1.d.Tier), (iV r1.d.From), (iV r1.d.To), r1.sv.1, r1.av.1]) := (hkw27 36 rfl).trans rfl
 have uw27_37 : ρ26 37 = (.tuple #[r11, (iV ((encG r1.d).2))]) := (hkw27 37 rfl).trans rfl
 have uw27_35 : ρ26 35 = (.tuple #[r11, (iV ((encG r1.d).2))]) := (hkw27 35 rfl).trans rfl
 have uw27_38 : ρ26 38 = r11 := (hkw27 38 rfl).trans rfl
 have uw27_39 : ρ26 39 = (iV ((encG r1.d).2)) := (hkw27 39 rfl).trans rfl
 have uw27_11 : ρ26 11 = r11 := (hkw27 11 rfl).trans rfl
 have uw27_41 : ρ26 41 = (.agg #[(iV r3.d.Id), (iV r3.d.Tier), (iV r3.d.From), (iV r3.d.To), r3.sv.1, r3.av.1]) := (hkw27 41 rfl).trans rfl
 have uw27_42 : ρ26 42 = (.tuple #[r13, (iV ((encG r3.d).2))]) := (hkw27 42 rfl).trans rfl
 have uw27_40 : ρ26 40 = (.tuple #[r13, (iV ((encG r3.d).2))]) := (hkw27 40 rfl).trans rfl
 have uw27_43 : ρ26 43 = r13 := (hkw27 43 rfl).trans rfl
 have uw27_44 : ρ26 44 = (iV ((encG r3.d).2)) := (hkw27 44 rfl).trans rfl
 have uw27_46 : ρ26 46 = r11 := (hkw27 46 rfl).trans rfl
 have uw27_47 : ρ26 47 = (.tuple #[(.agg #[(iV r15.Id), (iV r15.Tier), (iV r15.From), (iV r15.To), (.int .u32 r15.Sum)]), (iV r16)]) := (hkw27 47 rfl).trans rfl
 have uw27_45 : ρ26 45 = (.tuple #[(.agg #[(iV r15.Id), (iV r15.Tier), (iV r15.From), (iV r15.To), (.int .u32 r15.Sum)]), (iV r16)]) := (hkw27 45 rfl).trans rfl
 have uw27_48 : ρ26 48 = (.agg #[(iV r15.Id), (iV r15.Tier), (iV r15.From), (iV r15.To), (.int .u32 r15.Sum)]) := (hkw27 48 rfl).trans rfl
 have uw27_49 : ρ26 49 = (iV r16) := (hkw27 49 rfl).trans rfl
 have uw27_15 : ρ26 15 = (.pointer (some ⟨g18, 0, none⟩)) := (hkw27 15 rfl).trans rfl
 have uw27_8 : ρ26 8 = (.bool (!decide (r15 = (⟨0, 0, 0, 0, 0⟩ : Info)))) := hRw27 57 8 rfl
 refine then_n (cE_ret (post_r _ (res1 (v := (.bool true)) (uw27_8.trans (congrArg Value.bool (congrArg (! ·) (show (decide (r15 = (⟨0, 0, 0, 0, 0⟩ : Info))) = false from (decide_eq_false (by intro e; have he := congrArg Info.Id e; simp only [] at he; omega))))))) ?_))
 exact ⟨rfl, hst.bare⟩

end Go.Proofs.YtgibfidebdgffaaDoor
