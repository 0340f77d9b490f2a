/- segment.Put -/
import Derived.Test.YtgibfidebdgffaaDoorXLB
import Derived.Test.YtgibfidebdgffaaDoorXW51
import Derived.Test.YtgibfidebdgffaaDoorXW20
import Derived.Test.YtgibfidebdgffaaDoorXW24
import Derived.Test.YtgibfidebdgffaaDoorXW7
import Derived.Test.YtgibfidebdgffaaDoorXW2
namespace Go.Proofs.YtgibfidebdgffaaDoor
open Go.RowKit

set_option maxRecDepth 8000 in
set_option maxHeartbeats 8000000 in
theorem c_sPut (w0 : World) (s : Seg) (h_s : SegIn w0 s) (hs : s.d.ok) :
  Calls Tryd.prog 8 #[(.agg #[(iV s.d.Id), (iV s.d.Tier), (iV s.d.From), (iV s.d.To), s.sv.1, s.av.1])] w0 fun e w' => ∃ (r : Value), e = .returned (.tuple #[r, (iV ((encG s.d).2))]) ∧ St w0 w' [rowT 5 u8E r ((encG s.d).1)] := by
 refine calls_E (n := 71) (ts := [2, 3]) Tryd.func8 rfl rfl rfl (by simp) ?_
 have hst := St.start w0
 refine cE_seq (cE_region rfl (s_cons (op_box (v := (.agg #[(iV s.d.Id), (iV s.d.Tier), (iV s.d.From), (iV s.d.To), s.sv.1, s.av.1])) (cs := #[(iV s.d.Id), (iV s.d.Tier), (iV s.d.From), (iV s.d.To), s.sv.1, s.av.1]) hst rfl rfl (fun g1 w2 hst _ => ?_))))
 replace hst : St w0 w2 [.blk g1 26 #[(iV s.d.Id), (iV s.d.Tier), (iV s.d.From), (iV s.d.To), s.sv.1, s.av.1]] := hst
 refine s_cons (op_assign nS rfl (s_cons (op_assign (iV 0) rfl (s_nil (then_n (cE_seq (cE_seq (cE_region rfl (s_cons (op_loadN (cs := [(iV s.d.Id), (iV s.d.Tier), (iV s.d.From), (iV s.d.To), s.sv.1, s.av.1]) Tryd.isAgg26 Tryd.sizeOf26 rfl (Pt.of (hst.cell 0 rfl) rfl) rfl (s_cons (op_call Tryd.call10 (evs_cons (v := (.agg #[(iV s.d.Id), (iV s.d.Tier), (iV s.d.From), (iV s.d.To), s.sv.1, s.av.1])) rfl evs_nil) (c_May2 (w0 := w2) (s := s) (h_s := ⟨(h_s.1.below hst.below), (h_s.2.below hst.below)⟩) (hs := hs)) ?_))))))))))))
 rintro _ w3 ⟨rfl, hcall⟩
 refine ⟨_, rfl, ?_⟩
 have hst : St w0 w3 [.blk g1 26 #[(iV s.d.Id), (iV s.d.Tier), (iV s.d.From), (iV s.d.To), s.sv.1, s.av.1]] := hst.call hcall
 refine s_cons (op_not (b := (mayS s.d)) rfl (s_nil (then_n ?_)))
 rcases Bool.eq_false_or_eq_true (mayS s.d) with b4 | b4
 ·have hm := b4
  have hmn := may_nums hm
  have hnr := nums_r hm
  refine cE_cond false (congrArg Value.bool (congrArg (! ·) b4)) (fun h => by cases h) (fun _ => ?_)
  refine cE_skip (then_n (cE_seq (cE_region rfl (s_cons (op_buildSlice (E := u8E) [(byt 84), (byt 75)] hst Tryd.underlying29 Tryd.sizeOf5 Tryd.zeroValue5 (evp_cons (v := (.int .u8 84)) rfl (evp_cons (v := (.int .u8 75)) rfl evp_nil)) (parts_cons (by rw [u8cell]; exact byt_cell (by omega) (by omega)) (parts_cons (by rw [u8cell]; exact byt_cell (by omega) (by omega)) parts_nil)) rfl (by decide) (fun v5 w6 hst => ?_))))))
  replace hst : St w0 w6 [rowT 5 u8E v5 ([(byt 84), (byt 75)]), .blk g1 26 #[(iV s.d.Id), (iV s.d.Tier), (iV s.d.From), (iV s.d.To), s.sv.1, s.av.1]] := hst
  refine s_cons (op_assign v5 rfl (s_nil (then_n (cE_seq (cE_seq (cE_region rfl (s_cons (op_fieldAddr (s := 0) Tryd.underlying26 rfl rfl Tryd.sizeOf3 rfl (s_cons (op_load1 (u := (iV s.d.Id)) Tryd.isAgg3 rfl (hst.cell 1 rfl) (s_cons (op_conv (k := .i64) (a := s.d.Id) s.d.Id Tryd.underlying54 (by rw [Tryd.underlying3]; rfl) rfl (xu64 (by omega) (by omega)) (s_cons (op_fieldAddr (s := 0) Tryd.underlying26 rfl rfl Tryd.sizeOf3 rfl ?_))))))))))))))
  refine s_cons (op_load1 (u := (iV s.d.Tier)) Tryd.isAgg3 rfl ((hst.cell 1 rfl).drop 1) (s_cons (op_conv (k := .i64) (a := s.d.Tier) s.d.Tier Tryd.underlying54 (by rw [Tryd.underlying3]; rfl) rfl (xu64 (by omega) (by omega)) (s_cons (op_fieldAddr (s := 0) Tryd.underlying26 rfl rfl Tryd.sizeOf2 rfl (s_cons (op_load1 (u := (iV s.d.From)) Tryd.isAgg2 rfl ((hst.cell 1 rfl).drop 2) (s_cons (op_conv (k := .i64) (a := s.d.From) s.d.From Tryd.underlying54 (by rw [Tryd.underlying2]; rfl) rfl (xu64 (by omega) (by omega)) ?_)))))))))
  refine s_cons (op_fieldAddr (s := 0) Tryd.underlying26 rfl rfl Tryd.sizeOf2 rfl (s_cons (op_load1 (u := (iV s.d.To)) Tryd.isAgg2 rfl ((hst.cell 1 rfl).drop 3) (s_cons (op_fieldAddr (s := 0) Tryd.underlying26 rfl rfl Tryd.sizeOf2 rfl (s_cons (op_load1 (u := (iV s.d.From)) Tryd.isAgg2 rfl ((hst.cell 1 rfl).drop 2) (s_cons (op_sub (k := .i64) (a := s.d.To) (b := s.d.From) (s.d.To - s.d.From) rfl rfl (xi64 (by omega) (by omega)) ?_)))))))))
  refine s_cons (op_conv (k := .i64) (a := (s.d.To - s.d.From)) (s.d.To - s.d.From) Tryd.underlying54 (by rw [Tryd.underlying2]; rfl) rfl (xu64 (by omega) (by omega)) (s_cons (op_buildSlice (E := (intE .u64)) [s.d.Id, s.d.Tier, s.d.From, (s.d.To - s.d.From)] hst Tryd.underlying55 Tryd.sizeOf54 Tryd.zeroValue54 (evp_cons (v := (.int .u64 s.d.Id)) rfl (evp_cons (v := (.int .u64 s.d.Tier)) rfl (evp_cons (v := (.int .u64 s.d.From)) rfl (evp_cons (v := (.int .u64 (s.d.To - s.d.From))) rfl evp_nil)))) (parts_cons rfl (parts_cons rfl (parts_cons rfl (parts_cons rfl parts_nil)))) rfl (by decide) (fun v7 w8 hst => ?_))))
  replace hst : St w0 w8 [rowT 54 (intE .u64) v7 ([s.d.Id, s.d.Tier, s.d.From, (s.d.To - s.d.From)]), rowT 5 u8E v5 ([(byt 84), (byt 75)]), .blk g1 26 #[(iV s.d.Id), (iV s.d.Tier), (iV s.d.From), (iV s.d.To), s.sv.1, s.av.1]] := hst
  refine s_cons (op_len (E := (intE .u64)) (xs := [s.d.Id, s.d.Tier, s.d.From, (s.d.To - s.d.From)]) Tryd.underlying55 rfl (hst.sl 0 rfl) (s_cons (op_move (iV 0) rfl (s_nil (then_n (cE_block (cE_loop (fun (m : Nat) (ρ : Env) (w : World) => ∃ (v : Value) (done : List UInt8) (i : Nat), m = 4 - i ∧ ρ 0 = (.agg #[(iV s.d.Id), (iV s.d.Tier), (iV s.d.From), (iV s.d.To), s.sv.1, s.av.1]) ∧ ρ 1 = (.pointer (some ⟨g1, 0, none⟩)) ∧ ρ 2 = nS ∧ ρ 3 = (iV 0) ∧ ρ 4 = v ∧ ρ 28 = v7 ∧ ρ 29 = (iV 4) ∧ ρ 30 = (iV (i : Int)) ∧ St w0 w [rowT 54 (intE .u64) v7 (numsG s.d), rowT 5 u8E v done, .blk g1 26 #[(iV s.d.Id), (iV s.d.Tier), (iV s.d.From), (iV s.d.To), s.sv.1, s.av.1]] ∧ (i ≤ 4) ∧ (done = [84, 75] ++ ((numsG s.d).take i).flatMap put) ∧ (done.length ≤ 2 + 10 * i)) id _ ⟨v5, [(byt 84), (byt 75)], 0, rfl, rfl, rfl, rfl, rfl, rfl, rfl, (congrArg iV (show (([s.d.Id, s.d.Tier, s.d.From, (s.d.To - s.d.From)]).length : Int) = _ from by rfl)), (congrArg iV (show 0 = _ from by omega)), (by have h := hst; first | exact h | (refine (?_ : St _ _ _); simpa using h)), (by omega), (by first | rfl | exact head_go hd (by omega)), (by first | decide | (simp only [List.length_append]; omega))⟩ ?_)))))))
  rintro m10 ρ11 w12 ⟨v, done, i, hm10, q9_0, q9_1, q9_2, q9_3, q9_4, q9_28, q9_29, q9_30, hst, hi, hd, hdl⟩
  have hnl : (numsG s.d).length = 4 := rfl
  refine cE_seq (cE_region rfl (s_cons (op_lss (k := .i64) (a := (i : Int)) (b := 4) q9_30 q9_29 (s_nil (then_n (cE_seq ?_))))))
  rcases Bool.eq_false_or_eq_true (decide ((i : Int) < 4)) with b13 | b13
  ·have c14 : (i : Int) < 4 := of_decide_eq_true b13
   refine cE_cond true (congrArg Value.bool b13) (fun _ => ?_) (fun h => by cases h)
   refine cE_skip (then_n (cE_seq (cE_block (cE_seq (cE_region rfl (s_cons (op_indexAddrN (E := (intE .u64)) (xs := (numsG s.d)) i Tryd.underlying55 Tryd.sizeOf54 q9_28 (hst.sl 0 rfl) q9_30 (by omega) (by omega) (fun a15 o16 p17 => ?_))))))))
   have hel := hnr _ (List.getElem_mem (show i < (numsG s.d).length by omega))
   refine s_cons (op_load1 (u := (.int .u64 ((numsG s.d)[i]'(by omega)))) Tryd.isAgg54 rfl p17 (s_cons (op_assign (.int .u64 ((numsG s.d)[i]'(by omega))) rfl (s_nil (then_n ?_)))))
   have hq := put_length ((numsG s.d)[i]'(by omega))
   refine cE_region rfl (s_cons (op_move v q9_4 (s_cons (op_move (.int .u64 ((numsG s.d)[i]'(by omega))) rfl (s_cons (op_call Tryd.call16 (evs_cons (v := (.int .u64 ((numsG s.d)[i]'(by omega)))) rfl evs_nil) (c_Put (w0 := w12) (n := ((numsG s.d)[i]'(by omega))) (h0 := (by omega)) (h1 := (by omega))) ?_))))))
   rintro _ w19 ⟨r18, rfl, hcall⟩
   refine ⟨_, rfl, ?_⟩
   have hst : St w0 w19 [rowT 5 u8E r18 (put ((numsG s.d)[i]'(by omega))), rowT 54 (intE .u64) v7 (numsG s.d), rowT 5 u8E v done, .blk g1 26 #[(iV s.d.Id), (iV s.d.Tier), (iV s.d.From), (iV s.d.To), s.sv.1, s.av.1]] := hst.call hcall
   refine s_cons (op_append (E := u8E) (xs := done) (ys := (put ((numsG s.d)[i]'(by omega)))) (z := (.int .u8 0)) (bytes := 1) hst 2 rfl Tryd.underlying29 (by kernel_rfl) rfl rfl rfl (hst.sl 0 rfl) (by first | omega | (simp only [List.length_append, List.length_cons, List.length_nil]; omega) | (simp; omega)) (by first | omega | (simp only [List.length_append, List.length_cons, List.length_nil]; omega) | (simp; omega)) (fun v20 w21 hst => ?_))
   replace hst : St w0 w21 [rowT 5 u8E r18 (put ((numsG s.d)[i]'(by omega))), rowT 54 (intE .u64) v7 (numsG s.d), rowT 5 u8E v20 (done ++ (put ((numsG s.d)[i]'(by omega)))), .blk g1 26 #[(iV s.d.Id), (iV s.d.Tier), (iV s.d.From), (iV s.d.To), s.sv.1, s.av.1]] := hst
   refine s_cons (op_assign v20 rfl (s_nil (block_n (then_n (cE_region rfl (s_cons (op_add (k := .i64) (a := (i : Int)) (b := 1) ((i : Int) + 1) q9_30 rfl (xi64 (by omega) (by omega)) (s_cons (op_move (iV ((i : Int) + 1)) rfl (s_nil (then_n ?_)))))))))))
   exact ⟨_, ⟨v20, (done ++ (put ((numsG s.d)[i]'(by omega)))), (i + 1), rfl, q9_0, q9_1, q9_2, q9_3, rfl, q9_28, q9_29, (congrArg iV (show ((i : Int) + 1) = _ from by omega)), (hst.sub (.cons _ (.cons_cons _ (.cons_cons _ (.cons_cons _ .slnil))))), (by omega), (by first | rfl | exact head_go hd (by omega)), (by first | decide | (simp only [List.length_append]; omega))⟩, (by simp only [id]; omega)⟩
  have c22 : ¬ ((i : Int) < 4) := of_decide_eq_false b13
  refine cE_cond false (congrArg Value.bool b13) (fun h => by cases h) (fun _ => ?_)
  refine cE_exit (then_x (then_x (block_hit (then_n (cE_seq ?_)))))
  have hdh := head_done hd (by omega)
  replace hst : St w0 w12 [rowT 54 (intE .u64) v7 (numsG s.d), rowT 5 u8E v (headG s.d), .blk g1 26 #[(iV s.d.Id), (iV s.d.Tier), (iV s.d.From), (iV s.d.To), s.sv.1, s.av.1]] := by rw [hdh] at hst; exact hst
  have hhl := head_len s.d
  have hsl := encS_len s.d.Samples
  have hal := encA_len s.d.Tier s.d.Aggs
  refine cE_region rfl (s_cons (op_fieldAddr (s := 0) Tryd.underlying26 rfl rfl Tryd.sizeOf23 q9_1 (s_cons (op_load1 (u := s.sv.1) Tryd.isAgg23 rfl ((hst.cell 2 rfl).drop 4) (s_cons (op_call Tryd.call17 (evs_cons (v := s.sv.1) rfl evs_nil) (c_kPut (w0 := w12) (v_l := s.sv.1) (l := s.d.Samples) (h_l := (h_s.1.below hst.below)) (hl := hs.2.2.2.2.1)) ?_))))))
  rintro _ w24 ⟨r23, rfl, hcall⟩
  refine ⟨_, rfl, ?_⟩
  have hst : St w0 w24 [rowT 5 u8E r23 ((encS s.d.Samples).1), rowT 54 (intE .u64) v7 (numsG s.d), rowT 5 u8E v (headG s.d), .blk g1 26 #[(iV s.d.Id), (iV s.d.Tier), (iV s.d.From), (iV s.d.To), s.sv.1, s.av.1]] := hst.call hcall
  refine s_cons (op_move (.tuple #[r23, (iV ((encS s.d.Samples).2))]) rfl (s_cons (op_extract r23 rfl rfl (s_cons (op_extract (iV ((encS s.d.Samples).2)) rfl rfl (s_cons (op_assign r23 rfl (s_cons (op_assign (iV ((encS s.d.Samples).2)) rfl (s_nil (then_n (cE_seq (cE_seq (cE_region rfl (s_cons (op_fieldAddr (s := 0) Tryd.underlying26 rfl rfl Tryd.sizeOf3 q9_1 (s_cons (op_load1 (u := (iV s.d.Tier)) Tryd.isAgg3 rfl ((hst.cell 3 rfl).drop 1) ?_))))))))))))))))))
  refine s_cons (op_gtr (k := .i64) (a := s.d.Tier) (b := 0) rfl rfl (s_nil (then_n ?_)))
  rcases Bool.eq_false_or_eq_true (decide (0 < s.d.Tier)) with b25 | b25
  ·have c26 : 0 < s.d.Tier := of_decide_eq_true b25
   refine cE_cond true (congrArg Value.bool b25) (fun _ => ?_) (fun h => by cases h)
   refine cE_region rfl (s_cons (op_fieldAddr (s := 0) Tryd.underlying26 rfl rfl Tryd.sizeOf24 q9_1 (s_cons (op_load1 (u := s.av.1) Tryd.isAgg24 rfl ((hst.cell 3 rfl).drop 5) (s_cons (op_fieldAddr (s := 0) Tryd.underlying26 rfl rfl Tryd.sizeOf3 q9_1 (s_cons (op_load1 (u := (iV s.d.Tier)) Tryd.isAgg3 rfl ((hst.cell 3 rfl).drop 1) (s_cons (op_call Tryd.call18 (evs_cons (v := s.av.1) rfl (evs_cons (v := (iV s.d.Tier)) rfl evs_nil)) (c_kPutAggs (w0 := w24) (v_l := s.av.1) (l := s.d.Aggs) (h_l := (h_s.2.below hst.below)) (k := s.d.Tier) (hl := hs.2.2.2.2.2) (k0 := (by omega)) (k1 := (by omega))) ?_))))))))))
   rintro _ w28 ⟨r27, rfl, hcall⟩
   refine ⟨_, rfl, ?_⟩
   have hst : St w0 w28 [rowT 5 u8E r27 ((encA s.d.Tier s.d.Aggs).1), rowT 5 u8E r23 ((encS s.d.Samples).1), rowT 54 (intE .u64) v7 (numsG s.d), rowT 5 u8E v (headG s.d), .blk g1 26 #[(iV s.d.Id), (iV s.d.Tier), (iV s.d.From), (iV s.d.To), s.sv.1, s.av.1]] := hst.call hcall
   refine s_cons (op_move (.tuple #[r27, (iV ((encA s.d.Tier s.d.Aggs).2))]) rfl (s_cons (op_extract r27 rfl rfl (s_cons (op_extract (iV ((encA s.d.Tier s.d.Aggs).2)) rfl rfl (s_cons (op_assign r27 rfl (s_cons (op_assign (iV ((encA s.d.Tier s.d.Aggs).2)) rfl (s_nil (then_n (cE_seq (cE_seq (cE_region rfl (s_cons (op_move (iV ((encA s.d.Tier s.d.Aggs).2)) rfl (s_cons (op_neq (k := .i64) (a := (encA s.d.Tier s.d.Aggs).2) (b := 0) rfl rfl ?_))))))))))))))))))
   refine s_nil (then_n (cE_cond false (congrArg Value.bool (congrArg (! ·) (show (decide (((encA s.d.Tier s.d.Aggs).2) = 0)) = true from (decide_eq_true (code_up hm (by omega)))))) (fun h => by cases h) (fun _ => ?_)))
   refine cE_skip (then_n (cE_seq (cE_region rfl (s_cons (op_move v q9_4 (s_cons (op_move r27 rfl (s_cons (op_append (E := u8E) (xs := (headG s.d)) (ys := (encA s.d.Tier s.d.Aggs).1) (z := (.int .u8 0)) (bytes := 1) hst 3 rfl Tryd.underlying29 (by kernel_rfl) rfl rfl rfl (hst.sl 0 rfl) (by first | omega | (simp only [List.length_append, List.length_cons, List.length_nil]; omega) | (simp; omega)) (by first | omega | (simp only [List.length_append, List.length_cons, List.length_nil]; omega) | (simp; omega)) (fun v29 w30 hst => ?_))))))))))
   replace hst : St w0 w30 [rowT 5 u8E r27 ((encA s.d.Tier s.d.Aggs).1), rowT 5 u8E r23 ((encS s.d.Samples).1), rowT 54 (intE .u64) v7 (numsG s.d), rowT 5 u8E v29 (bodyG s.d), .blk g1 26 #[(iV s.d.Id), (iV s.d.Tier), (iV s.d.From), (iV s.d.To), s.sv.1, s.av.1]] := by rw [show ((headG s.d) ++ ((encA s.d.Tier s.d.Aggs).1)) = (bodyG s.d) from (by first | exact body_raw hm (by omega) | exact body_up hm (by omega))] at hst; exact hst
   refine s_cons (op_assign v29 rfl (s_nil (then_n (cE_seq (cE_seq ?_)))))
   have hmr := more_range 1 (bodyG s.d)
   have hbl := body_len hm
   refine cE_region rfl (s_cons (op_move v29 rfl (s_cons (op_move v29 rfl (s_cons (op_call Tryd.call20 (evs_cons (v := v29) rfl evs_nil) (c_Of (w0 := w30) (v_b := v29) (b := (bodyG s.d)) (h_b := (hst.sl 3 rfl))) ?_))))))
   rintro _ w31 ⟨rfl, hcall⟩
   refine ⟨_, rfl, ?_⟩
   have hst : St w0 w31 [rowT 5 u8E r27 ((encA s.d.Tier s.d.Aggs).1), rowT 5 u8E r23 ((encS s.d.Samples).1), rowT 54 (intE .u64) v7 (numsG s.d), rowT 5 u8E v29 (bodyG s.d), .blk g1 26 #[(iV s.d.Id), (iV s.d.Tier), (iV s.d.From), (iV s.d.To), s.sv.1, s.av.1]] := hst.call hcall
   refine s_cons (op_call Tryd.call19 (evs_cons (v := (.int .u32 (more 1 (bodyG s.d)))) rfl evs_nil) (c_low (w0 := w31) (n := (more 1 (bodyG s.d))) (h0 := (by omega)) (h1 := (by omega))) ?_)
   rintro _ w33 ⟨r32, rfl, hcall⟩
   refine ⟨_, rfl, ?_⟩
   have hst : St w0 w33 [rowT 5 u8E r32 (four (more 1 (bodyG s.d))), rowT 5 u8E r27 ((encA s.d.Tier s.d.Aggs).1), rowT 5 u8E r23 ((encS s.d.Samples).1), rowT 54 (intE .u64) v7 (numsG s.d), rowT 5 u8E v29 (bodyG s.d), .blk g1 26 #[(iV s.d.Id), (iV s.d.Tier), (iV s.d.From), (iV s.d.To), s.sv.1, s.av.1]] := hst.call hcall
   refine s_cons (op_append (E := u8E) (xs := (bodyG s.d)) (ys := (four (more 1 (bodyG s.d)))) (z := (.int .u8 0)) (bytes := 1) hst 4 rfl Tryd.underlying29 (by kernel_rfl) rfl rfl rfl (hst.sl 0 rfl) (by first | omega | (simp only [List.length_append, List.length_cons, List.length_nil]; omega) | (simp; omega)) (by first | omega | (simp only [List.length_append, List.length_cons, List.length_nil]; omega) | (simp; omega)) (fun v34 w35 hst => ?_))
   replace hst : St w0 w35 [rowT 5 u8E r32 (four (more 1 (bodyG s.d))), rowT 5 u8E r27 ((encA s.d.Tier s.d.Aggs).1), rowT 5 u8E r23 ((encS s.d.Samples).1), rowT 54 (intE .u64) v7 (numsG s.d), rowT 5 u8E v34 (bytesG s.d), .blk g1 26 #[(iV s.d.Id), (iV s.d.Tier), (iV s.d.From), (iV s.d.To), s.sv.1, s.av.1]] := by rw [show ((bodyG s.d) ++ (four (more 1 (bodyG s.d)))) = (bytesG s.d) from rfl] at hst; exact hst
   refine s_cons (op_assign v34 rfl (s_nil (then_n (cE_seq ?_))))
   have hyl := bytes_le hm
   refine cE_region rfl (s_cons (op_move v34 rfl (s_cons (op_len (E := u8E) (xs := (bytesG s.d)) Tryd.underlying29 rfl (hst.sl 4 rfl) (s_cons (op_gtr (k := .i64) (a := ((bytesG s.d).length : Int)) (b := 4000) rfl rfl (s_nil (then_n ?_))))))))
   rcases Bool.eq_false_or_eq_true (decide (4000 < ((bytesG s.d).length : Int))) with b36 | b36
   ·have c37 : 4000 < ((bytesG s.d).length : Int) := of_decide_eq_true b36
    refine cE_cond true (congrArg Value.bool b36) (fun _ => ?_) (fun h => by cases h)
    refine cE_seq (cE_region rfl (s_cons (op_assign nS rfl (s_cons (op_assign (iV 8) rfl (s_nil (then_n (cE_ret (then_r (post_r _ (res2 (v := nS) rfl (x := (iV 8)) rfl) ?_))))))))))
    replace hst : St w0 w35 [rowT 5 u8E nS ([]), rowT 5 u8E r32 (four (more 1 (bodyG s.d))), rowT 5 u8E r27 ((encA s.d.Tier s.d.Aggs).1), rowT 5 u8E r23 ((encS s.d.Samples).1), rowT 54 (intE .u64) v7 (numsG s.d), rowT 5 u8E v34 (bytesG s.d), .blk g1 26 #[(iV s.d.Id), (iV s.d.Tier), (iV s.d.From), (iV s.d.To), s.sv.1, s.av.1]] := hst.nilRow 5 u8E
    have e38 : [] = (encG s.d).1 := by first | rw [encG_no hm] | rw [encG_full hm (by omega)] | rw [encG_yes hm (by omega)]
    replace hst : St w0 w35 [rowT 5 u8E nS ((encG s.d).1), rowT 5 u8E r32 (four (more 1 (bodyG s.d))), rowT 5 u8E r27 ((encA s.d.Tier s.d.Aggs).1), rowT 5 u8E r23 ((encS s.d.Samples).1), rowT 54 (intE .u64) v7 (numsG s.d), rowT 5 u8E v34 (bytesG s.d), .blk g1 26 #[(iV s.d.Id), (iV s.d.Tier), (iV s.d.From), (iV s.d.To), s.sv.1, s.av.1]] := by rw [congrArg (fun l => rowT 5 u8E nS l) e38] at hst; exact hst
    exact ⟨nS, (retv2 rfl (congrArg iV (show 8 = (encG s.d).2 from by first | rw [encG_no hm] | rw [encG_full hm (by omega)] | rw [encG_yes hm (by omega)]))), hst.sub (.cons_cons _ (.cons _ (.cons _ (.cons _ (.cons _ (.cons _ (.cons _ .slnil)))))))⟩
   have c39 : ¬ (4000 < ((bytesG s.d).length : Int)) := of_decide_eq_false b36
   refine cE_cond false (congrArg Value.bool b36) (fun h => by cases h) (fun _ => ?_)
   refine cE_skip (then_n (cE_seq (cE_region rfl (s_cons (op_move v34 rfl (s_cons (op_assign v34 rfl (s_cons (op_assign (iV 0) rfl (s_nil (then_n (cE_ret (post_r _ (res2 (v := v34) rfl (x := (iV 0)) rfl) ?_)))))))))))))
   have e40 : (bytesG s.d) = (encG s.d).1 := by first | rw [encG_no hm] | rw [encG_full hm (by omega)] | rw [encG_yes hm (by omega)]
   replace hst : St w0 w35 [rowT 5 u8E r32 (four (more 1 (bodyG s.d))), rowT 5 u8E r27 ((encA s.d.Tier s.d.Aggs).1), rowT 5 u8E r23 ((encS s.d.Samples).1), rowT 54 (intE .u64) v7 (numsG s.d), rowT 5 u8E v34 ((encG s.d).1), .blk g1 26 #[(iV s.d.Id), (iV s.d.Tier), (iV s.d.From), (iV s.d.To), s.sv.1, s.av.1]] := by rw [congrArg (fun l => rowT 5 u8E v34 l) e40] at hst; exact hst
   exact ⟨v34, (retv2 rfl (congrArg iV (show 0 = (encG s.d).2 from by first | rw [encG_no hm] | rw [encG_full hm (by omega)] | rw [encG_yes hm (by omega)]))), hst.sub (.cons _ (.cons _ (.cons _ (.cons _ (.cons_cons _ (.cons _ .slnil))))))⟩
  have c41 : ¬ (0 < s.d.Tier) := of_decide_eq_false b25
  refine cE_cond false (congrArg Value.bool b25) (fun h => by cases h) (fun _ => ?_)
  refine cE_skip (then_n (cE_seq (cE_seq (cE_region rfl (s_cons (op_move (iV ((encS s.d.Samples).2)) rfl (s_cons (op_neq (k := .i64) (a := (encS s.d.Samples).2) (b := 0) rfl rfl (s_nil (then_n (cE_cond false (congrArg Value.bool (congrArg (! ·) (show (decide (((encS s.d.Samples).2) = 0)) = true from (decide_eq_true (code_raw hm (by omega)))))) (fun h => by cases h) (fun _ => ?_))))))))))))
  refine cE_skip (then_n (cE_seq (cE_region rfl (s_cons (op_move v q9_4 (s_cons (op_move r23 rfl (s_cons (op_append (E := u8E) (xs := (headG s.d)) (ys := (encS s.d.Samples).1) (z := (.int .u8 0)) (bytes := 1) hst 2 rfl Tryd.underlying29 (by kernel_rfl) rfl rfl rfl (hst.sl 0 rfl) (by first | omega | (simp only [List.length_append, List.length_cons, List.length_nil]; omega) | (simp; omega)) (by first | omega | (simp only [List.length_append, List.length_cons, List.length_nil]; omega) | (simp; omega)) (fun v42 w43 hst => ?_))))))))))
  replace hst : St w0 w43 [rowT 5 u8E r23 ((encS s.d.Samples).1), rowT 54 (intE .u64) v7 (numsG s.d), rowT 5 u8E v42 (bodyG s.d), .blk g1 26 #[(iV s.d.Id), (iV s.d.Tier), (iV s.d.From), (iV s.d.To), s.sv.1, s.av.1]] := by rw [show ((headG s.d) ++ ((encS s.d.Samples).1)) = (bodyG s.d) from (by first | exact body_raw hm (by omega) | exact body_up hm (by omega))] at hst; exact hst
  refine s_cons (op_assign v42 rfl (s_nil (then_n (cE_seq (cE_seq ?_)))))
  have hmr := more_range 1 (bodyG s.d)
  have hbl := body_len hm
  refine cE_region rfl (s_cons (op_move v42 rfl (s_cons (op_move v42 rfl (s_cons (op_call Tryd.call20 (evs_cons (v := v42) rfl evs_nil) (c_Of (w0 := w43) (v_b := v42) (b := (bodyG s.d)) (h_b := (hst.sl 2 rfl))) ?_))))))
  rintro _ w44 ⟨rfl, hcall⟩
  refine ⟨_, rfl, ?_⟩
  have hst : St w0 w44 [rowT 5 u8E r23 ((encS s.d.Samples).1), rowT 54 (intE .u64) v7 (numsG s.d), rowT 5 u8E v42 (bodyG s.d), .blk g1 26 #[(iV s.d.Id), (iV s.d.Tier), (iV s.d.From), (iV s.d.To), s.sv.1, s.av.1]] := hst.call hcall
  refine s_cons (op_call Tryd.call19 (evs_cons (v := (.int .u32 (more 1 (bodyG s.d)))) rfl evs_nil) (c_low (w0 := w44) (n := (more 1 (bodyG s.d))) (h0 := (by omega)) (h1 := (by omega))) ?_)
  rintro _ w46 ⟨r45, rfl, hcall⟩
  refine ⟨_, rfl, ?_⟩
  have hst : St w0 w46 [rowT 5 u8E r45 (four (more 1 (bodyG s.d))), rowT 5 u8E r23 ((encS s.d.Samples).1), rowT 54 (intE .u64) v7 (numsG s.d), rowT 5 u8E v42 (bodyG s.d), .blk g1 26 #[(iV s.d.Id), (iV s.d.Tier), (iV s.d.From), (iV s.d.To), s.sv.1, s.av.1]] := hst.call hcall
  refine s_cons (op_append (E := u8E) (xs := (bodyG s.d)) (ys := (four (more 1 (bodyG s.d)))) (z := (.int .u8 0)) (bytes := 1) hst 3 rfl Tryd.underlying29 (by kernel_rfl) rfl rfl rfl (hst.sl 0 rfl) (by first | omega | (simp only [List.length_append, List.length_cons, List.length_nil]; omega) | (simp; omega)) (by first | omega | (simp only [List.length_append, List.length_cons, List.length_nil]; omega) | (simp; omega)) (fun v47 w48 hst => ?_))
  replace hst : St w0 w48 [rowT 5 u8E r45 (four (more 1 (bodyG s.d))), rowT 5 u8E r23 ((encS s.d.Samples).1), rowT 54 (intE .u64) v7 (numsG s.d), rowT 5 u8E v47 (bytesG s.d), .blk g1 26 #[(iV s.d.Id), (iV s.d.Tier), (iV s.d.From), (iV s.d.To), s.sv.1, s.av.1]] := by rw [show ((bodyG s.d) ++ (four (more 1 (bodyG s.d)))) = (bytesG s.d) from rfl] at hst; exact hst
  refine s_cons (op_assign v47 rfl (s_nil (then_n (cE_seq ?_))))
  have hyl := bytes_le hm
  refine cE_region rfl (s_cons (op_move v47 rfl (s_cons (op_len (E := u8E) (xs := (bytesG s.d)) Tryd.underlying29 rfl (hst.sl 3 rfl) (s_cons (op_gtr (k := .i64) (a := ((bytesG s.d).length : Int)) (b := 4000) rfl rfl (s_nil (then_n ?_))))))))
  rcases Bool.eq_false_or_eq_true (decide (4000 < ((bytesG s.d).length : Int))) with b49 | b49
  ·have c50 : 4000 < ((bytesG s.d).length : Int) := of_decide_eq_true b49
   refine cE_cond true (congrArg Value.bool b49) (fun _ => ?_) (fun h => by cases h)
   refine cE_seq (cE_region rfl (s_cons (op_assign nS rfl (s_cons (op_assign (iV 8) rfl (s_nil (then_n (cE_ret (then_r (post_r _ (res2 (v := nS) rfl (x := (iV 8)) rfl) ?_))))))))))
   replace hst : St w0 w48 [rowT 5 u8E nS ([]), rowT 5 u8E r45 (four (more 1 (bodyG s.d))), rowT 5 u8E r23 ((encS s.d.Samples).1), rowT 54 (intE .u64) v7 (numsG s.d), rowT 5 u8E v47 (bytesG s.d), .blk g1 26 #[(iV s.d.Id), (iV s.d.Tier), (iV s.d.From), (iV s.d.To), s.sv.1, s.av.1]] := hst.nilRow 5 u8E
   have e51 : [] = (encG s.d).1 := by first | rw [encG_no hm] | rw [encG_full hm (by omega)] | rw [encG_yes hm (by omega)]
   replace hst : St w0 w48 [rowT 5 u8E nS ((encG s.d).1), rowT 5 u8E r45 (four (more 1 (bodyG s.d))), rowT 5 u8E r23 ((encS s.d.Samples).1), rowT 54 (intE .u64) v7 (numsG s.d), rowT 5 u8E v47 (bytesG s.d), .blk g1 26 #[(iV s.d.Id), (iV s.d.Tier), (iV s.d.From), (iV s.d.To), s.sv.1, s.av.1]] := by rw [congrArg (fun l => rowT 5 u8E nS l) e51] at hst; exact hst
   exact ⟨nS, (retv2 rfl (congrArg iV (show 8 = (encG s.d).2 from by first | rw [encG_no hm] | rw [encG_full hm (by omega)] | rw [encG_yes hm (by omega)]))), hst.sub (.cons_cons _ (.cons _ (.cons _ (.cons _ (.cons _ (.cons _ .slnil))))))⟩
  have c52 : ¬ (4000 < ((bytesG s.d).length : Int)) := of_decide_eq_false b49
  refine cE_cond false (congrArg Value.bool b49) (fun h => by cases h) (fun _ => ?_)
  refine cE_skip (then_n (cE_seq (cE_region rfl (s_cons (op_move v47 rfl (s_cons (op_assign v47 rfl (s_cons (op_assign (iV 0) rfl (s_nil (then_n (cE_ret (post_r _ (res2 (v := v47) rfl (x := (iV 0)) rfl) ?_)))))))))))))
  have e53 : (bytesG s.d) = (encG s.d).1 := by first | rw [encG_no hm] | rw [encG_full hm (by omega)] | rw [encG_yes hm (by omega)]
  replace hst : St w0 w48 [rowT 5 u8E r45 (four (more 1 (bodyG s.d))), rowT 5 u8E r23 ((encS s.d.Samples).1), rowT 54 (intE .u64) v7 (numsG s.d), rowT 5 u8E v47 ((encG s.d).1), .blk g1 26 #[(iV s.d.Id), (iV s.d.Tier), (iV s.d.From), (iV s.d.To), s.sv.1, s.av.1]] := by rw [congrArg (fun l => rowT 5 u8E v47 l) e53] at hst; exact hst
  exact ⟨v47, (retv2 rfl (congrArg iV (show 0 = (encG s.d).2 from by first | rw [encG_no hm] | rw [encG_full hm (by omega)] | rw [encG_yes hm (by omega)]))), hst.sub (.cons _ (.cons _ (.cons _ (.cons_cons _ (.cons _ .slnil)))))⟩
 have hm := b4
 refine cE_cond true (congrArg Value.bool (congrArg (! ·) b4)) (fun _ => ?_) (fun h => by cases h)
 refine cE_seq (cE_region rfl (s_cons (op_assign nS rfl (s_cons (op_assign (iV 1) rfl (s_nil (then_n (cE_ret (then_r (post_r _ (res2 (v := nS) rfl (x := (iV 1)) rfl) ?_))))))))))
 replace hst : St w0 w3 [rowT 5 u8E nS ([]), .blk g1 26 #[(iV s.d.Id), (iV s.d.Tier), (iV s.d.From), (iV s.d.To), s.sv.1, s.av.1]] := hst.nilRow 5 u8E
 have e54 : [] = (encG s.d).1 := by first | rw [encG_no hm] | rw [encG_full hm (by omega)] | rw [encG_yes hm (by omega)]
 replace hst : St w0 w3 [rowT 5 u8E nS ((encG s.d).1), .blk g1 26 #[(iV s.d.Id), (iV s.d.Tier), (iV s.d.From), (iV s.d.To), s.sv.1, s.av.1]] := by rw [congrArg (fun l => rowT 5 u8E nS l) e54] at hst; exact hst
 exact ⟨nS, (retv2 rfl (congrArg iV (show 1 = (encG s.d).2 from by first | rw [encG_no hm] | rw [encG_full hm (by omega)] | rw [encG_yes hm (by omega)]))), hst.sub (.cons_cons _ (.cons _ .slnil))⟩

end Go.Proofs.YtgibfidebdgffaaDoor
