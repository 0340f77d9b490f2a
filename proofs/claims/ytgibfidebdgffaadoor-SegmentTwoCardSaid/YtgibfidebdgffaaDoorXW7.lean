/- segment.Head, segment.May -/
import Derived.Test.YtgibfidebdgffaaDoorXLA
import Derived.Test.YtgibfidebdgffaaDoorXLB
import Derived.Test.YtgibfidebdgffaaDoorXW5
namespace Go.Proofs.YtgibfidebdgffaaDoor
open Go.RowKit

set_option maxRecDepth 8000 in
theorem c_Head (w0 : World) (id : Int) (k : Int) (fr : Int) (to : Int) :
  Calls Tryd.prog 23 #[(iV id), (iV k), (iV fr), (iV to)] w0 fun e w' => e = .returned (.bool (headS id k fr to)) ∧ St w0 w' [] := by
 refine calls_E (n := 36) (ts := [8]) Tryd.func23 rfl rfl rfl (by simp) ?_
 have hst := St.start w0
 refine cE_seq (cE_region rfl (s_cons (op_assign (.bool false) rfl (s_nil (then_n (cE_seq (cE_region rfl (s_cons (op_move (iV id) rfl (s_cons (op_geq (k := .i64) (a := id) (b := 1) rfl rfl (s_cons (op_move (.bool (decide (1 ≤ id))) rfl (s_lz 11 rfl (gA_t rfl) (Rlz (decide (1 ≤ id)) (iV id) w0) ?_ (fun hc1 => rlz_f hc1) ?_))))))))))))))
 ·intro hc1
  refine op_move (iV id) rfl ?_
  exact rlz_t hc1
 rintro _ _ ⟨rfl, rfl⟩
 refine s_lz 11 rfl (gA_t rfl) (Rlz (decide (1 ≤ id)) (.bool (decide (id ≤ 1073741824))) w0) ?_ (fun hc2 => rlz_f hc2) ?_
 ·intro hc2
  refine op_leq (k := .i64) (a := id) (b := 1073741824) (gt hc2) rfl ?_
  exact rlz_t hc2
 rintro _ _ ⟨rfl, rfl⟩
 obtain ⟨g3, hg4⟩ : ∃ x : Bool, x = ((decide (1 ≤ id)) && (decide (id ≤ 1073741824))) := ⟨_, rfl⟩
 refine s_cons (op_pick_and rfl rfl (fun hp => hp) rfl (s_cons (op_move (.bool g3) (congrArg Value.bool hg4.symm) (s_lz 15 rfl (gA_t rfl) (Rlz g3 (iV k) w0) ?_ (fun hc5 => rlz_f hc5) ?_))))
 ·intro hc5
  refine op_move (iV k) rfl ?_
  exact rlz_t hc5
 rintro _ _ ⟨rfl, rfl⟩
 refine s_lz 15 rfl (gA_t rfl) (Rlz g3 (.bool (decide (0 ≤ k))) w0) ?_ (fun hc6 => rlz_f hc6) ?_
 ·intro hc6
  refine op_geq (k := .i64) (a := k) (b := 0) (gt hc6) rfl ?_
  exact rlz_t hc6
 rintro _ _ ⟨rfl, rfl⟩
 obtain ⟨g7, hg8⟩ : ∃ x : Bool, x = (g3 && (decide (0 ≤ k))) := ⟨_, rfl⟩
 refine s_cons (op_pick_and rfl rfl (fun hp => hp) rfl (s_cons (op_move (.bool g7) (congrArg Value.bool hg8.symm) (s_lz 19 rfl (gA_t rfl) (Rlz g7 (iV k) w0) ?_ (fun hc9 => rlz_f hc9) ?_))))
 ·intro hc9
  refine op_move (iV k) rfl ?_
  exact rlz_t hc9
 rintro _ _ ⟨rfl, rfl⟩
 refine s_lz 19 rfl (gA_t rfl) (Rlz g7 (.bool (decide (k < 4))) w0) ?_ (fun hc10 => rlz_f hc10) ?_
 ·intro hc10
  refine op_lss (k := .i64) (a := k) (b := 4) (gt hc10) rfl ?_
  exact rlz_t hc10
 rintro _ _ ⟨rfl, rfl⟩
 obtain ⟨g11, hg12⟩ : ∃ x : Bool, x = (g7 && (decide (k < 4))) := ⟨_, rfl⟩
 refine s_cons (op_pick_and rfl rfl (fun hp => hp) rfl (s_cons (op_move (.bool g11) (congrArg Value.bool hg12.symm) (s_lz 23 rfl (gA_t rfl) (Rlz g11 (iV fr) w0) ?_ (fun hc13 => rlz_f hc13) ?_))))
 ·intro hc13
  refine op_move (iV fr) rfl ?_
  exact rlz_t hc13
 rintro _ _ ⟨rfl, rfl⟩
 refine s_lz 23 rfl (gA_t rfl) (Rlz g11 (.bool (decide (0 ≤ fr))) w0) ?_ (fun hc14 => rlz_f hc14) ?_
 ·intro hc14
  refine op_geq (k := .i64) (a := fr) (b := 0) (gt hc14) rfl ?_
  exact rlz_t hc14
 rintro _ _ ⟨rfl, rfl⟩
 obtain ⟨g15, hg16⟩ : ∃ x : Bool, x = (g11 && (decide (0 ≤ fr))) := ⟨_, rfl⟩
 refine s_cons (op_pick_and rfl rfl (fun hp => hp) rfl (s_cons (op_move (.bool g15) (congrArg Value.bool hg16.symm) (s_lz 27 rfl (gA_t rfl) (Rlz g15 (iV fr) w0) ?_ (fun hc17 => rlz_f hc17) ?_))))
 ·intro hc17
  refine op_move (iV fr) rfl ?_
  exact rlz_t hc17
 rintro _ _ ⟨rfl, rfl⟩
 refine s_lz 27 rfl (gA_t rfl) (Rlz g15 (iV to) w0) ?_ (fun hc18 => rlz_f hc18) ?_
 ·intro hc18
  refine op_move (iV to) rfl ?_
  exact rlz_t hc18
 rintro _ _ ⟨rfl, rfl⟩
 refine s_lz 27 rfl (gA_t rfl) (Rlz g15 (.bool (decide (fr < to))) w0) ?_ (fun hc19 => rlz_f hc19) ?_
 ·intro hc19
  refine op_lss (k := .i64) (a := fr) (b := to) (gt hc19) (gt hc19) ?_
  exact rlz_t hc19
 rintro _ _ ⟨rfl, rfl⟩
 obtain ⟨g20, hg21⟩ : ∃ x : Bool, x = (g15 && (decide (fr < to))) := ⟨_, rfl⟩
 refine s_cons (op_pick_and rfl rfl (fun hp => hp) rfl (s_cons (op_move (.bool g20) (congrArg Value.bool hg21.symm) (s_lz 32 rfl (gA_t rfl) (Rlz g20 (iV to) w0) ?_ (fun hc22 => rlz_f hc22) ?_))))
 ·intro hc22
  refine op_move (iV to) rfl ?_
  exact rlz_t hc22
 rintro _ _ ⟨rfl, rfl⟩
 refine s_lz 32 rfl (gA_t rfl) (Rlz g20 (.bool (decide (to ≤ 1099511627776))) w0) ?_ (fun hc23 => rlz_f hc23) ?_
 ·intro hc23
  refine op_leq (k := .i64) (a := to) (b := 1099511627776) (gt hc23) rfl ?_
  exact rlz_t hc23
 rintro _ _ ⟨rfl, rfl⟩
 obtain ⟨g24, hg25⟩ : ∃ x : Bool, x = (g20 && (decide (to ≤ 1099511627776))) := ⟨_, rfl⟩
 refine s_cons (op_pick_and rfl rfl (fun hp => hp) rfl (s_cons (op_assign (.bool g24) (congrArg Value.bool hg25.symm) (s_nil (then_n (cE_ret (post_r _ (res1 (v := (.bool g24)) rfl) ?_)))))))
 exact ⟨(retv1 (congrArg Value.bool (show g24 = (headS id k fr to) from by (rw [hg25, hg21, hg16, hg12, hg8, hg4]; rw [Bool.eq_iff_iff]; simp only [headS, Bool.and_eq_true, Bool.or_eq_true, Bool.not_eq_true', decide_eq_true_eq, decide_eq_false_iff_not]; omega)))), hst.bare⟩

set_option maxRecDepth 8000 in
set_option maxHeartbeats 4000000 in
theorem c_May2 (w0 : World) (s : Seg) (h_s : SegIn w0 s) (hs : s.d.ok) :
  Calls Tryd.prog 10 #[(.agg #[(iV s.d.Id), (iV s.d.Tier), (iV s.d.From), (iV s.d.To), s.sv.1, s.av.1])] w0 fun e w' => e = .returned (.bool (mayS s.d)) ∧ St w0 w' [] := by
 have hsl := h_s.1.len
 have hal := h_s.2.len
 refine calls_E (n := 107) (ts := [2]) Tryd.func10 rfl rfl rfl (by simp) ?_
 have hst := St.start w0
 refine cE_seq (cE_region rfl (s_cons (op_box (v := (.agg #[(iV s.d.Id), (iV s.d.Tier), (iV s.d.From), (iV s.d.To), s.sv.1, s.av.1])) (cs := #[(iV s.d.Id), (iV s.d.Tier), (iV s.d.From), (iV s.d.To), s.sv.1, s.av.1]) hst rfl rfl (fun g26 w27 hst _ => ?_))))
 replace hst : St w0 w27 [.blk g26 26 #[(iV s.d.Id), (iV s.d.Tier), (iV s.d.From), (iV s.d.To), s.sv.1, s.av.1]] := hst
 refine s_cons (op_assign (.bool false) rfl (s_nil (then_n (cE_seq (cE_seq (cE_region rfl (s_cons (op_fieldAddr (s := 0) Tryd.underlying26 rfl rfl Tryd.sizeOf3 rfl (s_cons (op_load1 (u := (iV s.d.Id)) Tryd.isAgg3 rfl (hst.cell 0 rfl) (s_cons (op_fieldAddr (s := 0) Tryd.underlying26 rfl rfl Tryd.sizeOf3 rfl (s_cons (op_load1 (u := (iV s.d.Tier)) Tryd.isAgg3 rfl ((hst.cell 0 rfl).drop 1) ?_))))))))))))))
 refine s_cons (op_fieldAddr (s := 0) Tryd.underlying26 rfl rfl Tryd.sizeOf2 rfl (s_cons (op_load1 (u := (iV s.d.From)) Tryd.isAgg2 rfl ((hst.cell 0 rfl).drop 2) (s_cons (op_fieldAddr (s := 0) Tryd.underlying26 rfl rfl Tryd.sizeOf2 rfl (s_cons (op_load1 (u := (iV s.d.To)) Tryd.isAgg2 rfl ((hst.cell 0 rfl).drop 3) (s_cons (op_call Tryd.call23 (evs_cons (v := (iV s.d.Id)) rfl (evs_cons (v := (iV s.d.Tier)) rfl (evs_cons (v := (iV s.d.From)) rfl (evs_cons (v := (iV s.d.To)) rfl evs_nil)))) (c_Head (w0 := w27) (id := s.d.Id) (k := s.d.Tier) (fr := s.d.From) (to := s.d.To)) ?_)))))))))
 rintro _ w28 ⟨rfl, hcall⟩
 refine ⟨_, rfl, ?_⟩
 have hst : St w0 w28 [.blk g26 26 #[(iV s.d.Id), (iV s.d.Tier), (iV s.d.From), (iV s.d.To), s.sv.1, s.av.1]] := hst.call hcall
 refine s_cons (op_not (b := (headS s.d.Id s.d.Tier s.d.From s.d.To)) rfl (s_nil (then_n ?_)))
 rcases Bool.eq_false_or_eq_true (headS s.d.Id s.d.Tier s.d.From s.d.To) with b29 | b29
 ·refine cE_cond false (congrArg Value.bool (congrArg (! ·) b29)) (fun h => by cases h) (fun _ => ?_)
  refine cE_skip (then_n (cE_seq (cE_seq (cE_region rfl (s_cons (op_fieldAddr (s := 0) Tryd.underlying26 rfl rfl Tryd.sizeOf3 rfl (s_cons (op_load1 (u := (iV s.d.Tier)) Tryd.isAgg3 rfl ((hst.cell 0 rfl).drop 1) (s_cons (op_eql (k := .i64) (a := s.d.Tier) (b := 0) rfl rfl (s_nil (then_n ?_))))))))))))
  rcases Bool.eq_false_or_eq_true (decide (s.d.Tier = 0)) with b30 | b30
  ·have c31 : s.d.Tier = 0 := of_decide_eq_true b30
   refine cE_cond true (congrArg Value.bool b30) (fun _ => ?_) (fun h => by cases h)
   refine cE_seq (cE_region rfl (s_cons (op_fieldAddr (s := 0) Tryd.underlying26 rfl rfl Tryd.sizeOf23 rfl (s_cons (op_load1 (u := s.sv.1) Tryd.isAgg23 rfl ((hst.cell 0 rfl).drop 4) (s_cons (op_len (E := sampE) (xs := s.d.Samples) Tryd.underlying23 rfl h_s.1 (s_cons (op_assign (iV (s.d.Samples.length : Int)) rfl (s_nil (then_n (cE_seq ?_))))))))))))
   obtain ⟨g32, hg33⟩ : ∃ x : Bool, x = decide ((s.d.Aggs.length : Int) = 0) := ⟨_, rfl⟩
   obtain ⟨g34, hg35⟩ : ∃ x : Bool, x = ((decide ((s.d.Aggs.length : Int) = 0)) && (decide (1 ≤ (s.d.Samples.length : Int)))) := ⟨_, rfl⟩
   obtain ⟨g36, hg37⟩ : ∃ x : Bool, x = (g34 && (decide ((s.d.Samples.length : Int) ≤ 64))) := ⟨_, rfl⟩
   obtain ⟨g39, hg40⟩ : ∃ x : Bool, x = (g36 && (risingA s.d.Samples)) := ⟨_, rfl⟩
   obtain ⟨g80, hg81⟩ : ∃ x : Bool, x = (g39 && (decide (s.d.From ≤ ((gd s.d.Samples 0).T)))) := ⟨_, rfl⟩
   obtain ⟨g201, hg202⟩ : ∃ x : Bool, x = (g80 && (decide (((gd s.d.Samples (s.d.Samples.length - 1)).T) < s.d.To))) := ⟨_, rfl⟩
   refine cE_regionM (fun (D : Nat → Bool) (w : World) => St w0 w [.blk g26 26 #[(iV s.d.Id), (iV s.d.Tier), (iV s.d.From), (iV s.d.To), s.sv.1, s.av.1]] ∧ (St w0 w [.blk g26 26 #[(iV s.d.Id), (iV s.d.Tier), (iV s.d.From), (iV s.d.To), s.sv.1, s.av.1]])) [[(1, none)], [(21, some 0)], [(22, some 1)], [(23, some 2)], [(24, some 3)], [(3, none), (25, some 4)], [(26, some 5), (25, some 4)], [(25, some 4), (27, some 6)], [(28, some 7)], [(3, none), (29, some 8)], [(30, some 9), (29, some 8)], [(29, some 8), (31, some 10)], [(32, some 11)], [(1, none), (33, some 12)], [(34, some 13), (33, some 12)], [(35, some 14), (33, some 12)], [(33, some 12), (36, some 15)], [(37, some 16)], [(1, none), (38, some 17)], [(39, some 18), (38, some 17)], [(40, some 19), (38, some 17)], [(41, some 20), (38, some 17)], [(42, some 21), (38, some 17)], [(1, none), (38, some 17)], [(44, some 23), (38, some 17)], [(43, some 22), (45, some 24), (38, some 17)], [(38, some 17), (46, some 25)], [(47, some 26)], [(1, none), (48, some 27)], [(49, some 28), (48, some 27)], [(3, none), (48, some 27)], [(51, some 30), (48, some 27)], [(50, some 29), (52, some 31), (48, some 27)], [(53, some 32), (48, some 27)], [(54, some 33), (48, some 27)], [(1, none), (48, some 27)], [(56, some 35), (48, some 27)], [(55, some 34), (57, some 36), (48, some 27)], [(48, some 27), (58, some 37)], [(59, some 38)]] [] [(kEq (.pointer (some ⟨g26, (0 + 5), none⟩))), (kEq s.av.1), (kEq (iV (s.d.Aggs.length : Int))), (kEq (.bool (decide ((s.d.Aggs.length : Int) = 0)))), (kEq (.bool (decide ((s.d.Aggs.length : Int) = 0)))), (kEq (bif g32 then (iV (s.d.Samples.length : Int)) else undef)), (kEq (bif g32 then (.bool (decide (1 ≤ (s.d.Samples.length : Int)))) else undef)), (kEq (.bool g34)), (kEq (.bool g34)), (kEq (bif g34 then (iV (s.d.Samples.length : Int)) else undef)), (kEq (bif g34 then (.bool (decide ((s.d.Samples.length : Int) ≤ 64))) else undef)), (kEq (.bool g36)), (kEq (.bool g36)), (kEq (bif g36 then (.pointer (some ⟨g26, (0 + 4), none⟩)) else undef)), (kEq (bif g36 then s.sv.1 else undef)), (kEq (bif g36 then (.bool (risingA s.d.Samples)) else undef)), (kEq (.bool g39)), (kEq (.bool g39)), (kEq (bif g39 then (.pointer (some ⟨g26, (0 + 4), none⟩)) else undef)), (kEq (bif g39 then s.sv.1 else undef)), (kPtc w0 g39 [(iV ((gd s.d.Samples 0).T)), (iV ((gd s.d.Samples 0).V))]), (kPtc w0 g39 [(iV ((gd s.d.Samples 0).T)), (iV ((gd s.d.Samples 0).V))]), (kEq (bif g39 then (iV ((gd s.d.Samples 0).T)) else undef)), (kEq (bif g39 then (.pointer (some ⟨g26, (0 + 2), none⟩)) else undef)), (kEq (bif g39 then (iV s.d.From) else undef)), (kEq (bif g39 then (.bool (decide (s.d.From ≤ ((gd s.d.Samples 0).T)))) else undef)), (kEq (.bool g80)), (kEq (.bool g80)), (kEq (bif g80 then (.pointer (some ⟨g26, (0 + 4), none⟩)) else undef)), (kEq (bif g80 then s.sv.1 else undef)), (kEq (bif g80 then (iV (s.d.Samples.length : Int)) else undef)), (kEq (bif g80 then (iV ((s.d.Samples.length : Int) - 1)) else undef)), (kPtc w0 g80 [(iV ((gd s.d.Samples (s.d.Samples.length - 1)).T)), (iV ((gd s.d.Samples (s.d.Samples.length - 1)).V))]), (kPtc w0 g80 [(iV ((gd s.d.Samples (s.d.Samples.length - 1)).T)), (iV ((gd s.d.Samples (s.d.Samples.length - 1)).V))]), (kEq (bif g80 then (iV ((gd s.d.Samples (s.d.Samples.length - 1)).T)) else undef)), (kEq (bif g80 then (.pointer (some ⟨g26, (0 + 3), none⟩)) else undef)), (kEq (bif g80 then (iV s.d.To) else undef)), (kEq (bif g80 then (.bool (decide (((gd s.d.Samples (s.d.Samples.length - 1)).T) < s.d.To))) else undef)), (kEq (.bool g201)), (kEq (.bool g201))] ⟨mEq, mEq, mEq, mEq, mEq, mEq, mEq, mEq, mEq, mEq, mEq, mEq, mEq, mEq, mEq, mEq, mEq, mEq, mEq, mEq, mPtc, mPtc, mEq, mEq, mEq, mEq, mEq, mEq, mEq, mEq, mEq, mEq, mPtc, mPtc, mEq, mEq, mEq, mEq, mEq, mEq, trivial⟩ (by kernel_rfl) rfl (by kernel_rfl) ⟨hst.drewW.sub (.cons_cons _ .slnil), hst.drewW⟩ (fun hM => ⟨?_, ?_, ?_, ?_, ?_, ?_, ?_, ?_, ?_, ?_, ?_, ?_, ?_, ?_, ?_, ?_, ?_, ?_, ?_, ?_, ?_, ?_, ?_, ?_, ?_, ?_, ?_, ?_, ?_, ?_, ?_, ?_, ?_, ?_, ?_, ?_, ?_, ?_, ?_, ?_, trivial⟩) ?_
   ·rintro D ρo wo nD eD cD jD aD ⟨f1, _⟩
    exact go_plain (op_fieldAddr (s := 0) Tryd.underlying26 rfl rfl Tryd.sizeOf24 (f1.trans rfl) (kN0 (i := 0) hM (by decide) (by exact jD) (by exact rfl)))
   ·rintro D ρo wo nD eD cD jD aD ⟨f21, _⟩
    have hst := jD.2 
    replace hst : St w0 wo [.blk g26 26 #[(iV s.d.Id), (iV s.d.Tier), (iV s.d.From), (iV s.d.To), s.sv.1, s.av.1]] := hst
    exact go_plain (op_load1 (u := s.av.1) Tryd.isAgg24 f21 ((hst.cell 0 rfl).drop 5) (kN0 (i := 1) hM (by decide) (by exact jD) (by exact rfl)))
   ·rintro D ρo wo nD eD cD jD aD ⟨f22, _⟩
    exact go_plain (op_len (E := aggE) (xs := s.d.Aggs) Tryd.underlying24 f22 h_s.2 (kN0 (i := 2) hM (by decide) (by exact jD) (by exact rfl)))
   ·rintro D ρo wo nD eD cD jD aD ⟨f23, _⟩
    exact go_plain (op_eql (k := .i64) (a := (s.d.Aggs.length : Int)) (b := 0) f23 rfl (kN0 (i := 3) hM (by decide) (by exact jD) (by exact rfl)))
   ·rintro D ρo wo nD eD cD jD aD ⟨f24, _⟩
    exact go_plain (op_move (.bool (decide ((s.d.Aggs.length : Int) = 0))) f24 (kN0 (i := 4) hM (by decide) (by exact jD) (by exact rfl)))
   ·rintro D ρo wo nD eD cD jD aD ⟨f3, f25, _⟩
    refine go_lz 25 rfl ((gA_t f25).trans hg33.symm) ?_ (fun hc204 => (kN0 (i := 5) hM (by decide) (by exact jD) (by exact (gf hc204).symm)))
    intro hc204
    exact id (op_move (iV (s.d.Samples.length : Int)) (f3.trans rfl) (kN0 (i := 5) hM (by decide) (by exact jD) (by exact (gt hc204).symm)))
   ·rintro D ρo wo nD eD cD jD aD ⟨f26, f25, _⟩
    refine go_lz 25 rfl ((gA_t f25).trans hg33.symm) ?_ (fun hc205 => (kN0 (i := 6) hM (by decide) (by exact jD) (by exact (gf hc205).symm)))
    intro hc205
    exact id (op_geq (k := .i64) (a := (s.d.Samples.length : Int)) (b := 1) (f26.trans (gt hc205)) rfl (kN0 (i := 6) hM (by decide) (by exact jD) (by exact (gt hc205).symm)))
   ·rintro D ρo wo nD eD cD jD aD ⟨f25, f27, _⟩
    refine go_plain (op_pick_and f25 f27 (fun hp => (hg33.trans hp)) rfl ?_)
    exact (kN0 (i := 7) hM (by decide) (by exact jD) (by exact (congrArg Value.bool hg35.symm)))
   ·rintro D ρo wo nD eD cD jD aD ⟨f28, _⟩
    exact go_plain (op_move (.bool g34) f28 (kN0 (i := 8) hM (by decide) (by exact jD) (by exact rfl)))
   ·rintro D ρo wo nD eD cD jD aD ⟨f3, f29, _⟩
    refine go_lz 29 rfl (gA_t f29) ?_ (fun hc206 => (kN0 (i := 9) hM (by decide) (by exact jD) (by exact (gf hc206).symm)))
    intro hc206
    exact id (op_move (iV (s.d.Samples.length : Int)) (f3.trans rfl) (kN0 (i := 9) hM (by decide) (by exact jD) (by exact (gt hc206).symm)))
   ·rintro D ρo wo nD eD cD jD aD ⟨f30, f29, _⟩
    refine go_lz 29 rfl (gA_t f29) ?_ (fun hc207 => (kN0 (i := 10) hM (by decide) (by exact jD) (by exact (gf hc207).symm)))
    intro hc207
    exact id (op_leq (k := .i64) (a := (s.d.Samples.length : Int)) (b := 64) (f30.trans (gt hc207)) rfl (kN0 (i := 10) hM (by decide) (by exact jD) (by exact (gt hc207).symm)))
   ·rintro D ρo wo nD eD cD jD aD ⟨f29, f31, _⟩
    refine go_plain (op_pick_and f29 f31 (fun hp => hp) rfl ?_)
    exact (kN0 (i := 11) hM (by decide) (by exact jD) (by exact (congrArg Value.bool hg37.symm)))
   ·rintro D ρo wo nD eD cD jD aD ⟨f32, _⟩
    exact go_plain (op_move (.bool g36) f32 (kN0 (i := 12) hM (by decide) (by exact jD) (by exact rfl)))
   ·rintro D ρo wo nD eD cD jD aD ⟨f1, f33, _⟩
    refine go_lz 33 rfl (gA_t f33) ?_ (fun hc208 => (kN0 (i := 13) hM (by decide) (by exact jD) (by exact (gf hc208).symm)))
    intro hc208
    exact id (op_fieldAddr (s := 0) Tryd.underlying26 rfl rfl Tryd.sizeOf23 (f1.trans rfl) (kN0 (i := 13) hM (by decide) (by exact jD) (by exact (gt hc208).symm)))
   ·rintro D ρo wo nD eD cD jD aD ⟨f34, f33, _⟩
    refine go_lz 33 rfl (gA_t f33) ?_ (fun hc209 => (kN0 (i := 14) hM (by decide) (by exact jD) (by exact (gf hc209).symm)))
    intro hc209
    have hst := jD.2 
    replace hst : St w0 wo [.blk g26 26 #[(iV s.d.Id), (iV s.d.Tier), (iV s.d.From), (iV s.d.To), s.sv.1, s.av.1]] := hst
    exact id (op_load1 (u := s.sv.1) Tryd.isAgg23 (f34.trans (gt hc209)) ((hst.cell 0 rfl).drop 4) (kN0 (i := 14) hM (by decide) (by exact jD) (by exact (gt hc209).symm)))
   ·rintro D ρo wo nD eD cD jD aD ⟨f35, f33, _⟩
    refine go_lz 33 rfl (gA_t f33) ?_ (fun hc210 => (kN0 (i := 15) hM (by decide) (by exact jD) (by exact (gf hc210).symm)))
    intro hc210
    have c211 : (s.d.Aggs.length : Int) = 0 := of_decide_eq_true (and_l (hg35.symm.trans (and_l (hg37.symm.trans hc210))))
    have c212 : 1 ≤ (s.d.Samples.length : Int) := of_decide_eq_true (and_r (hg35.symm.trans (and_l (hg37.symm.trans hc210))))
    have c213 : (s.d.Samples.length : Int) ≤ 64 := of_decide_eq_true (and_r (hg37.symm.trans hc210))
    have hst := jD.2 
    replace hst : St w0 wo [.blk g26 26 #[(iV s.d.Id), (iV s.d.Tier), (iV s.d.From), (iV s.d.To), s.sv.1, s.av.1]] := hst
    refine id (op_call Tryd.call24 (evs_cons (v := s.sv.1) (f35.trans (gt hc210)) evs_nil) (c_Rising (w0 := wo) (v_l := s.sv.1) (l := s.d.Samples) (h_l := (h_s.1.below hst.below))) ?_)
    rintro _ w214 ⟨rfl, hcall⟩
    refine ⟨_, rfl, ?_⟩
    exact kN (i := 15) hM (by decide) hcall.below (by exact ⟨(jD.1).ext hcall.below, (jD.2).ext hcall.below⟩) (by exact (gt hc210).symm)
   ·rintro D ρo wo nD eD cD jD aD ⟨f33, f36, _⟩
    refine go_plain (op_pick_and f33 f36 (fun hp => hp) rfl ?_)
    exact (kN0 (i := 16) hM (by decide) (by exact jD) (by exact (congrArg Value.bool hg40.symm)))
   ·rintro D ρo wo nD eD cD jD aD ⟨f37, _⟩
    exact go_plain (op_move (.bool g39) f37 (kN0 (i := 17) hM (by decide) (by exact jD) (by exact rfl)))
   ·rintro D ρo wo nD eD cD jD aD ⟨f1, f38, _⟩
    refine go_lz 38 rfl (gA_t f38) ?_ (fun hc215 => (kN0 (i := 18) hM (by decide) (by exact jD) (by exact (gf hc215).symm)))
    intro hc215
    exact id (op_fieldAddr (s := 0) Tryd.underlying26 rfl rfl Tryd.sizeOf23 (f1.trans rfl) (kN0 (i := 18) hM (by decide) (by exact jD) (by exact (gt hc215).symm)))
   ·rintro D ρo wo nD eD cD jD aD ⟨f39, f38, _⟩
    refine go_lz 38 rfl (gA_t f38) ?_ (fun hc216 => (kN0 (i := 19) hM (by decide) (by exact jD) (by exact (gf hc216).symm)))
    intro hc216
    have hst := jD.2 
    replace hst : St w0 wo [.blk g26 26 #[(iV s.d.Id), (iV s.d.Tier), (iV s.d.From), (iV s.d.To), s.sv.1, s.av.1]] := hst
    exact id (op_load1 (u := s.sv.1) Tryd.isAgg23 (f39.trans (gt hc216)) ((hst.cell 0 rfl).drop 4) (kN0 (i := 19) hM (by decide) (by exact jD) (by exact (gt hc216).symm)))
   ·rintro D ρo wo nD eD cD jD aD ⟨f40, f38, _⟩
    refine go_lz 38 rfl (gA_t f38) ?_ (fun hc217 => (kN0 (i := 20) hM (by decide) (by exact jD) (by exact fun h => absurd (show _ = true from h) (by rw [hc217]; decide))))
    intro hc217
    have c218 : (s.d.Aggs.length : Int) = 0 := of_decide_eq_true (and_l (hg35.symm.trans (and_l (hg37.symm.trans (and_l (hg40.symm.trans hc217))))))
    have c219 : 1 ≤ (s.d.Samples.length : Int) := of_decide_eq_true (and_r (hg35.symm.trans (and_l (hg37.symm.trans (and_l (hg40.symm.trans hc217))))))
    have c220 : (s.d.Samples.length : Int) ≤ 64 := of_decide_eq_true (and_r (hg37.symm.trans (and_l (hg40.symm.trans hc217))))
    have c221 : (risingA s.d.Samples) = true := (and_r (hg40.symm.trans hc217))
    refine id (op_indexAddrD (E := sampE) (xs := s.d.Samples) 0 Tryd.underlying23 Tryd.sizeOf28 (f40.trans (gt hc217)) h_s.1 rfl (by omega) (by omega) (fun a222 o223 p224 => ?_))
    exact (kN0 (i := 20) hM (by decide) (by exact jD) (by exact fun _ => ⟨_, _, rfl, p224⟩))
   ·rintro D ρo wo nD eD cD jD aD ⟨f41, f38, _⟩
    refine go_lz 38 rfl (gA_t f38) ?_ (fun hc225 => (kN0 (i := 21) hM (by decide) (by exact jD) (by exact fun h => absurd (show _ = true from h) (by rw [hc225]; decide))))
    intro hc225
    obtain ⟨a226, o227, e228, p229⟩ := f41 hc225
    exact id (op_fieldAddr (s := 0) Tryd.underlying28 rfl rfl Tryd.sizeOf2 e228 (kN0 (i := 21) hM (by decide) (by exact jD) (by exact fun _ => ⟨_, _, rfl, p229⟩)))
   ·rintro D ρo wo nD eD cD jD aD ⟨f42, f38, _⟩
    refine go_lz 38 rfl (gA_t f38) ?_ (fun hc230 => (kN0 (i := 22) hM (by decide) (by exact jD) (by exact (gf hc230).symm)))
    intro hc230
    have hst := jD.2 
    replace hst : St w0 wo [.blk g26 26 #[(iV s.d.Id), (iV s.d.Tier), (iV s.d.From), (iV s.d.To), s.sv.1, s.av.1]] := hst
    obtain ⟨a231, o232, e233, p234⟩ := f42 hc230
    exact id (op_load1 (u := (iV ((gd s.d.Samples 0).T))) Tryd.isAgg2 e233 (p234.below hst.below) (kN0 (i := 22) hM (by decide) (by exact jD) (by exact (gt hc230).symm)))
   ·rintro D ρo wo nD eD cD jD aD ⟨f1, f38, _⟩
    refine go_lz 38 rfl (gA_t f38) ?_ (fun hc235 => (kN0 (i := 23) hM (by decide) (by exact jD) (by exact (gf hc235).symm)))
    intro hc235
    exact id (op_fieldAddr (s := 0) Tryd.underlying26 rfl rfl Tryd.sizeOf2 (f1.trans rfl) (kN0 (i := 23) hM (by decide) (by exact jD) (by exact (gt hc235).symm)))
   ·rintro D ρo wo nD eD cD jD aD ⟨f44, f38, _⟩
    refine go_lz 38 rfl (gA_t f38) ?_ (fun hc236 => (kN0 (i := 24) hM (by decide) (by exact jD) (by exact (gf hc236).symm)))
    intro hc236
    have hst := jD.2 
    replace hst : St w0 wo [.blk g26 26 #[(iV s.d.Id), (iV s.d.Tier), (iV s.d.From), (iV s.d.To), s.sv.1, s.av.1]] := hst
    exact id (op_load1 (u := (iV s.d.From)) Tryd.isAgg2 (f44.trans (gt hc236)) ((hst.cell 0 rfl).drop 2) (kN0 (i := 24) hM (by decide) (by exact jD) (by exact (gt hc236).symm)))
   ·rintro D ρo wo nD eD cD jD aD ⟨f43, f45, f38, _⟩
    refine go_lz 38 rfl (gA_t f38) ?_ (fun hc237 => (kN0 (i := 25) hM (by decide) (by exact jD) (by exact (gf hc237).symm)))
    intro hc237
    exact id (op_geq (k := .i64) (a := (gd s.d.Samples 0).T) (b := s.d.From) (f43.trans (gt hc237)) (f45.trans (gt hc237)) (kN0 (i := 25) hM (by decide) (by exact jD) (by exact (gt hc237).symm)))
   ·rintro D ρo wo nD eD cD jD aD ⟨f38, f46, _⟩
    refine go_plain (op_pick_and f38 f46 (fun hp => hp) rfl ?_)
    exact (kN0 (i := 26) hM (by decide) (by exact jD) (by exact (congrArg Value.bool hg81.symm)))
   ·rintro D ρo wo nD eD cD jD aD ⟨f47, _⟩
    exact go_plain (op_move (.bool g80) f47 (kN0 (i := 27) hM (by decide) (by exact jD) (by exact rfl)))
   ·rintro D ρo wo nD eD cD jD aD ⟨f1, f48, _⟩
    refine go_lz 48 rfl (gA_t f48) ?_ (fun hc238 => (kN0 (i := 28) hM (by decide) (by exact jD) (by exact (gf hc238).symm)))
    intro hc238
    exact id (op_fieldAddr (s := 0) Tryd.underlying26 rfl rfl Tryd.sizeOf23 (f1.trans rfl) (kN0 (i := 28) hM (by decide) (by exact jD) (by exact (gt hc238).symm)))
   ·rintro D ρo wo nD eD cD jD aD ⟨f49, f48, _⟩
    refine go_lz 48 rfl (gA_t f48) ?_ (fun hc239 => (kN0 (i := 29) hM (by decide) (by exact jD) (by exact (gf hc239).symm)))
    intro hc239
    have hst := jD.2 
    replace hst : St w0 wo [.blk g26 26 #[(iV s.d.Id), (iV s.d.Tier), (iV s.d.From), (iV s.d.To), s.sv.1, s.av.1]] := hst
    exact id (op_load1 (u := s.sv.1) Tryd.isAgg23 (f49.trans (gt hc239)) ((hst.cell 0 rfl).drop 4) (kN0 (i := 29) hM (by decide) (by exact jD) (by exact (gt hc239).symm)))
   ·rintro D ρo wo nD eD cD jD aD ⟨f3, f48, _⟩
    refine go_lz 48 rfl (gA_t f48) ?_ (fun hc240 => (kN0 (i := 30) hM (by decide) (by exact jD) (by exact (gf hc240).symm)))
    intro hc240
    exact id (op_move (iV (s.d.Samples.length : Int)) (f3.trans rfl) (kN0 (i := 30) hM (by decide) (by exact jD) (by exact (gt hc240).symm)))
   ·rintro D ρo wo nD eD cD jD aD ⟨f51, f48, _⟩
    refine go_lz 48 rfl (gA_t f48) ?_ (fun hc241 => (kN0 (i := 31) hM (by decide) (by exact jD) (by exact (gf hc241).symm)))
    intro hc241
    have c242 : (s.d.Aggs.length : Int) = 0 := of_decide_eq_true (and_l (hg35.symm.trans (and_l (hg37.symm.trans (and_l (hg40.symm.trans (and_l (hg81.symm.trans hc241))))))))
    have c243 : 1 ≤ (s.d.Samples.length : Int) := of_decide_eq_true (and_r (hg35.symm.trans (and_l (hg37.symm.trans (and_l (hg40.symm.trans (and_l (hg81.symm.trans hc241))))))))
    have c244 : (s.d.Samples.length : Int) ≤ 64 := of_decide_eq_true (and_r (hg37.symm.trans (and_l (hg40.symm.trans (and_l (hg81.symm.trans hc241))))))
    have c245 : (risingA s.d.Samples) = true := (and_r (hg40.symm.trans (and_l (hg81.symm.trans hc241))))
    have c246 : s.d.From ≤ ((gd s.d.Samples 0).T) := of_decide_eq_true (and_r (hg81.symm.trans hc241))
    exact id (op_sub (k := .i64) (a := (s.d.Samples.length : Int)) (b := 1) ((s.d.Samples.length : Int) - 1) (f51.trans (gt hc241)) rfl (xi64 (by omega) (by omega)) (kN0 (i := 31) hM (by decide) (by exact jD) (by exact (gt hc241).symm)))
   ·rintro D ρo wo nD eD cD jD aD ⟨f50, f52, f48, _⟩
    refine go_lz 48 rfl (gA_t f48) ?_ (fun hc247 => (kN0 (i := 32) hM (by decide) (by exact jD) (by exact fun h => absurd (show _ = true from h) (by rw [hc247]; decide))))
    intro hc247
    have c248 : (s.d.Aggs.length : Int) = 0 := of_decide_eq_true (and_l (hg35.symm.trans (and_l (hg37.symm.trans (and_l (hg40.symm.trans (and_l (hg81.symm.trans hc247))))))))
    have c249 : 1 ≤ (s.d.Samples.length : Int) := of_decide_eq_true (and_r (hg35.symm.trans (and_l (hg37.symm.trans (and_l (hg40.symm.trans (and_l (hg81.symm.trans hc247))))))))
    have c250 : (s.d.Samples.length : Int) ≤ 64 := of_decide_eq_true (and_r (hg37.symm.trans (and_l (hg40.symm.trans (and_l (hg81.symm.trans hc247))))))
    have c251 : (risingA s.d.Samples) = true := (and_r (hg40.symm.trans (and_l (hg81.symm.trans hc247))))
    have c252 : s.d.From ≤ ((gd s.d.Samples 0).T) := of_decide_eq_true (and_r (hg81.symm.trans hc247))
    refine id (op_indexAddrD (E := sampE) (xs := s.d.Samples) (s.d.Samples.length - 1) Tryd.underlying23 Tryd.sizeOf28 (f50.trans (gt hc247)) h_s.1 (f52.trans (gt hc247)) (by omega) (by omega) (fun a253 o254 p255 => ?_))
    exact (kN0 (i := 32) hM (by decide) (by exact jD) (by exact fun _ => ⟨_, _, rfl, p255⟩))
   ·rintro D ρo wo nD eD cD jD aD ⟨f53, f48, _⟩
    refine go_lz 48 rfl (gA_t f48) ?_ (fun hc256 => (kN0 (i := 33) hM (by decide) (by exact jD) (by exact fun h => absurd (show _ = true from h) (by rw [hc256]; decide))))
    intro hc256
    obtain ⟨a257, o258, e259, p260⟩ := f53 hc256
    exact id (op_fieldAddr (s := 0) Tryd.underlying28 rfl rfl Tryd.sizeOf2 e259 (kN0 (i := 33) hM (by decide) (by exact jD) (by exact fun _ => ⟨_, _, rfl, p260⟩)))
   ·rintro D ρo wo nD eD cD jD aD ⟨f54, f48, _⟩
    refine go_lz 48 rfl (gA_t f48) ?_ (fun hc261 => (kN0 (i := 34) hM (by decide) (by exact jD) (by exact (gf hc261).symm)))
    intro hc261
    have hst := jD.2 
    replace hst : St w0 wo [.blk g26 26 #[(iV s.d.Id), (iV s.d.Tier), (iV s.d.From), (iV s.d.To), s.sv.1, s.av.1]] := hst
    obtain ⟨a262, o263, e264, p265⟩ := f54 hc261
    exact id (op_load1 (u := (iV ((gd s.d.Samples (s.d.Samples.length - 1)).T))) Tryd.isAgg2 e264 (p265.below hst.below) (kN0 (i := 34) hM (by decide) (by exact jD) (by exact (gt hc261).symm)))
   ·rintro D ρo wo nD eD cD jD aD ⟨f1, f48, _⟩
    refine go_lz 48 rfl (gA_t f48) ?_ (fun hc266 => (kN0 (i := 35) hM (by decide) (by exact jD) (by exact (gf hc266).symm)))
    intro hc266
    exact id (op_fieldAddr (s := 0) Tryd.underlying26 rfl rfl Tryd.sizeOf2 (f1.trans rfl) (kN0 (i := 35) hM (by decide) (by exact jD) (by exact (gt hc266).symm)))
   ·rintro D ρo wo nD eD cD jD aD ⟨f56, f48, _⟩
    refine go_lz 48 rfl (gA_t f48) ?_ (fun hc267 => (kN0 (i := 36) hM (by decide) (by exact jD) (by exact (gf hc267).symm)))
    intro hc267
    have hst := jD.2 
    replace hst : St w0 wo [.blk g26 26 #[(iV s.d.Id), (iV s.d.Tier), (iV s.d.From), (iV s.d.To), s.sv.1, s.av.1]] := hst
    exact id (op_load1 (u := (iV s.d.To)) Tryd.isAgg2 (f56.trans (gt hc267)) ((hst.cell 0 rfl).drop 3) (kN0 (i := 36) hM (by decide) (by exact jD) (by exact (gt hc267).symm)))
   ·rintro D ρo wo nD eD cD jD aD ⟨f55, f57, f48, _⟩
    refine go_lz 48 rfl (gA_t f48) ?_ (fun hc268 => (kN0 (i := 37) hM (by decide) (by exact jD) (by exact (gf hc268).symm)))
    intro hc268
    exact id (op_lss (k := .i64) (a := (gd s.d.Samples (s.d.Samples.length - 1)).T) (b := s.d.To) (f55.trans (gt hc268)) (f57.trans (gt hc268)) (kN0 (i := 37) hM (by decide) (by exact jD) (by exact (gt hc268).symm)))
   ·rintro D ρo wo nD eD cD jD aD ⟨f48, f58, _⟩
    refine go_plain (op_pick_and f48 f58 (fun hp => hp) rfl ?_)
    exact (kN0 (i := 38) hM (by decide) (by exact jD) (by exact (congrArg Value.bool hg202.symm)))
   ·rintro D ρo wo nD eD cD jD aD ⟨f59, _⟩
    exact go_plain (op_assign (.bool g201) f59 (kN0 (i := 39) hM (by decide) (by exact jD) (by exact rfl)))
   intro ρ269 w270 Dw270 hallw270 hJw270 hRw270 hkw270
   have hst : St w0 w270 [.blk g26 26 #[(iV s.d.Id), (iV s.d.Tier), (iV s.d.From), (iV s.d.To), s.sv.1, s.av.1]] := hJw270.2 
   have uw270_0 : ρ269 0 = (.agg #[(iV s.d.Id), (iV s.d.Tier), (iV s.d.From), (iV s.d.To), s.sv.1, s.av.1]) := (hkw270 0 rfl).trans rfl
   have uw270_1 : ρ269 1 = (.pointer (some ⟨g26, 0, none⟩)) := (hkw270 1 rfl).trans rfl
   have uw270_5 : ρ269 5 = (.pointer (some ⟨g26, (0 + 0), none⟩)) := (hkw270 5 rfl).trans rfl
   have uw270_6 : ρ269 6 = (iV s.d.Id) := (hkw270 6 rfl).trans rfl
   have uw270_7 : ρ269 7 = (.pointer (some ⟨g26, (0 + 1), none⟩)) := (hkw270 7 rfl).trans rfl
   have uw270_8 : ρ269 8 = (iV s.d.Tier) := (hkw270 8 rfl).trans rfl
   have uw270_9 : ρ269 9 = (.pointer (some ⟨g26, (0 + 2), none⟩)) := (hkw270 9 rfl).trans rfl
   have uw270_10 : ρ269 10 = (iV s.d.From) := (hkw270 10 rfl).trans rfl
   have uw270_11 : ρ269 11 = (.pointer (some ⟨g26, (0 + 3), none⟩)) := (hkw270 11 rfl).trans rfl
   have uw270_12 : ρ269 12 = (iV s.d.To) := (hkw270 12 rfl).trans rfl
   have uw270_13 : ρ269 13 = (.bool (headS s.d.Id s.d.Tier s.d.From s.d.To)) := (hkw270 13 rfl).trans rfl
   have uw270_14 : ρ269 14 = (.bool (!(headS s.d.Id s.d.Tier s.d.From s.d.To))) := (hkw270 14 rfl).trans rfl
   have uw270_15 : ρ269 15 = (.pointer (some ⟨g26, (0 + 1), none⟩)) := (hkw270 15 rfl).trans rfl
   have uw270_16 : ρ269 16 = (iV s.d.Tier) := (hkw270 16 rfl).trans rfl
   have uw270_17 : ρ269 17 = (.bool (decide (s.d.Tier = 0))) := (hkw270 17 rfl).trans rfl
   have uw270_18 : ρ269 18 = (.pointer (some ⟨g26, (0 + 4), none⟩)) := (hkw270 18 rfl).trans rfl
   have uw270_19 : ρ269 19 = s.sv.1 := (hkw270 19 rfl).trans rfl
   have uw270_20 : ρ269 20 = (iV (s.d.Samples.length : Int)) := (hkw270 20 rfl).trans rfl
   have uw270_2 : ρ269 2 = (.bool g201) := hRw270 39 2 rfl
   refine then_n (cE_ret (then_r (post_r _ (res1 (v := (.bool g201)) uw270_2) ?_)))
   exact ⟨(retv1 (congrArg Value.bool (show g201 = (mayS s.d) from by first | exact Eq.symm (may_nohead (by assumption)) | (rw [hg202, hg81, hg40, hg37, hg35]; exact Eq.symm (may_raw (by assumption) (by omega))) | (rw [hg202, hg81, hg40, hg37, hg35]; exact Eq.symm (may_up (by assumption) (by omega)))))), hst.bare⟩
  have c271 : ¬ (s.d.Tier = 0) := of_decide_eq_false b30
  refine cE_cond false (congrArg Value.bool b30) (fun h => by cases h) (fun _ => ?_)
  refine cE_skip (then_n (cE_seq (cE_region rfl (s_cons (op_fieldAddr (s := 0) Tryd.underlying26 rfl rfl Tryd.sizeOf24 rfl (s_cons (op_load1 (u := s.av.1) Tryd.isAgg24 rfl ((hst.cell 0 rfl).drop 5) (s_cons (op_len (E := aggE) (xs := s.d.Aggs) Tryd.underlying24 rfl h_s.2 (s_cons (op_assign (iV (s.d.Aggs.length : Int)) rfl (s_nil (then_n (cE_seq ?_))))))))))))))
  obtain ⟨g272, hg273⟩ : ∃ x : Bool, x = decide ((s.d.Samples.length : Int) = 0) := ⟨_, rfl⟩
  obtain ⟨g274, hg275⟩ : ∃ x : Bool, x = ((decide ((s.d.Samples.length : Int) = 0)) && (decide (1 ≤ (s.d.Aggs.length : Int)))) := ⟨_, rfl⟩
  obtain ⟨g276, hg277⟩ : ∃ x : Bool, x = (g274 && (decide ((s.d.Aggs.length : Int) ≤ 64))) := ⟨_, rfl⟩
  obtain ⟨g279, hg280⟩ : ∃ x : Bool, x = (g276 && (alignedA s.d.Aggs s.d.Tier)) := ⟨_, rfl⟩
  obtain ⟨g345, hg346⟩ : ∃ x : Bool, x = (g279 && (decide ((floorA s.d.From s.d.Tier) ≤ ((gd s.d.Aggs 0).From)))) := ⟨_, rfl⟩
  obtain ⟨g466, hg467⟩ : ∃ x : Bool, x = (g345 && (decide (((gd s.d.Aggs (s.d.Aggs.length - 1)).From) < s.d.To))) := ⟨_, rfl⟩
  refine cE_regionM (fun (D : Nat → Bool) (w : World) => St w0 w [.blk g26 26 #[(iV s.d.Id), (iV s.d.Tier), (iV s.d.From), (iV s.d.To), s.sv.1, s.av.1]] ∧ (St w0 w [.blk g26 26 #[(iV s.d.Id), (iV s.d.Tier), (iV s.d.From), (iV s.d.To), s.sv.1, s.av.1]])) [[(1, none)], [(63, some 0)], [(64, some 1)], [(65, some 2)], [(66, some 3)], [(4, none), (67, some 4)], [(68, some 5), (67, some 4)], [(67, some 4), (69, some 6)], [(70, some 7)], [(4, none), (71, some 8)], [(72, some 9), (71, some 8)], [(71, some 8), (73, some 10)], [(74, some 11)], [(1, none), (75, some 12)], [(76, some 13), (75, some 12)], [(1, none), (75, some 12)], [(78, some 15), (75, some 12)], [(77, some 14), (79, some 16), (75, some 12)], [(75, some 12), (80, some 17)], [(81, some 18)], [(1, none), (82, some 19)], [(83, some 20), (82, some 19)], [(84, some 21), (82, some 19)], [(85, some 22), (82, some 19)], [(86, some 23), (82, some 19)], [(1, none), (82, some 19)], [(88, some 25), (82, some 19)], [(1, none), (82, some 19)], [(90, some 27), (82, some 19)], [(89, some 26), (91, some 28), (82, some 19)], [(87, some 24), (92, some 29), (82, some 19)], [(82, some 19), (93, some 30)], [(94, some 31)], [(1, none), (95, some 32)], [(96, some 33), (95, some 32)], [(4, none), (95, some 32)], [(98, some 35), (95, some 32)], [(97, some 34), (99, some 36), (95, some 32)], [(100, some 37), (95, some 32)], [(101, some 38), (95, some 32)], [(1, none), (95, some 32)], [(103, some 40), (95, some 32)], [(102, some 39), (104, some 41), (95, some 32)], [(95, some 32), (105, some 42)], [(106, some 43)]] [] [(kEq (.pointer (some ⟨g26, (0 + 4), none⟩))), (kEq s.sv.1), (kEq (iV (s.d.Samples.length : Int))), (kEq (.bool (decide ((s.d.Samples.length : Int) = 0)))), (kEq (.bool (decide ((s.d.Samples.length : Int) = 0)))), (kEq (bif g272 then (iV (s.d.Aggs.length : Int)) else undef)), (kEq (bif g272 then (.bool (decide (1 ≤ (s.d.Aggs.length : Int)))) else undef)), (kEq (.bool g274)), (kEq (.bool g274)), (kEq (bif g274 then (iV (s.d.Aggs.length : Int)) else undef)), (kEq (bif g274 then (.bool (decide ((s.d.Aggs.length : Int) ≤ 64))) else undef)), (kEq (.bool g276)), (kEq (.bool g276)), (kEq (bif g276 then (.pointer (some ⟨g26, (0 + 5), none⟩)) else undef)), (kEq (bif g276 then s.av.1 else undef)), (kEq (bif g276 then (.pointer (some ⟨g26, (0 + 1), none⟩)) else undef)), (kEq (bif g276 then (iV s.d.Tier) else undef)), (kEq (bif g276 then (.bool (alignedA s.d.Aggs s.d.Tier)) else undef)), (kEq (.bool g279)), (kEq (.bool g279)), (kEq (bif g279 then (.pointer (some ⟨g26, (0 + 5), none⟩)) else undef)), (kEq (bif g279 then s.av.1 else undef)), (kPtc w0 g279 (aggC (gd s.d.Aggs 0))), (kPtc w0 g279 (aggC (gd s.d.Aggs 0))), (kEq (bif g279 then (iV ((gd s.d.Aggs 0).From)) else undef)), (kEq (bif g279 then (.pointer (some ⟨g26, (0 + 2), none⟩)) else undef)), (kEq (bif g279 then (iV s.d.From) else undef)), (kEq (bif g279 then (.pointer (some ⟨g26, (0 + 1), none⟩)) else undef)), (kEq (bif g279 then (iV s.d.Tier) else undef)), (kEq (bif g279 then (iV (floorA s.d.From s.d.Tier)) else undef)), (kEq (bif g279 then (.bool (decide ((floorA s.d.From s.d.Tier) ≤ ((gd s.d.Aggs 0).From)))) else undef)), (kEq (.bool g345)), (kEq (.bool g345)), (kEq (bif g345 then (.pointer (some ⟨g26, (0 + 5), none⟩)) else undef)), (kEq (bif g345 then s.av.1 else undef)), (kEq (bif g345 then (iV (s.d.Aggs.length : Int)) else undef)), (kEq (bif g345 then (iV ((s.d.Aggs.length : Int) - 1)) else undef)), (kPtc w0 g345 (aggC (gd s.d.Aggs (s.d.Aggs.length - 1)))), (kPtc w0 g345 (aggC (gd s.d.Aggs (s.d.Aggs.length - 1)))), (kEq (bif g345 then (iV ((gd s.d.Aggs (s.d.Aggs.length - 1)).From)) else undef)), (kEq (bif g345 then (.pointer (some ⟨g26, (0 + 3), none⟩)) else undef)), (kEq (bif g345 then (iV s.d.To) else undef)), (kEq (bif g345 then (.bool (decide (((gd s.d.Aggs (s.d.Aggs.length - 1)).From) < s.d.To))) else undef)), (kEq (.bool g466)), (kEq (.bool g466))] ⟨mEq, mEq, mEq, mEq, mEq, mEq, mEq, mEq, mEq, mEq, mEq, mEq, mEq, mEq, mEq, mEq, mEq, mEq, mEq, mEq, mEq, mEq, mPtc, mPtc, mEq, mEq, mEq, mEq, mEq, mEq, mEq, mEq, mEq, mEq, mEq, mEq, mEq, mPtc, mPtc, mEq, mEq, mEq, mEq, mEq, mEq, trivial⟩ (by kernel_rfl) rfl (by kernel_rfl) ⟨hst.drewW.sub (.cons_cons _ .slnil), hst.drewW⟩ (fun hM => ⟨?_, ?_, ?_, ?_, ?_, ?_, ?_, ?_, ?_, ?_, ?_, ?_, ?_, ?_, ?_, ?_, ?_, ?_, ?_, ?_, ?_, ?_, ?_, ?_, ?_, ?_, ?_, ?_, ?_, ?_, ?_, ?_, ?_, ?_, ?_, ?_, ?_, ?_, ?_, ?_, ?_, ?_, ?_, ?_, ?_, trivial⟩) ?_
  ·rintro D ρo wo nD eD cD jD aD ⟨f1, _⟩
   exact go_plain (op_fieldAddr (s := 0) Tryd.underlying26 rfl rfl Tryd.sizeOf23 (f1.trans rfl) (kN0 (i := 0) hM (by decide) (by exact jD) (by exact rfl)))
  ·rintro D ρo wo nD eD cD jD aD ⟨f63, _⟩
   have hst := jD.2 
   replace hst : St w0 wo [.blk g26 26 #[(iV s.d.Id), (iV s.d.Tier), (iV s.d.From), (iV s.d.To), s.sv.1, s.av.1]] := hst
   exact go_plain (op_load1 (u := s.sv.1) Tryd.isAgg23 f63 ((hst.cell 0 rfl).drop 4) (kN0 (i := 1) hM (by decide) (by exact jD) (by exact rfl)))
  ·rintro D ρo wo nD eD cD jD aD ⟨f64, _⟩
   exact go_plain (op_len (E := sampE) (xs := s.d.Samples) Tryd.underlying23 f64 h_s.1 (kN0 (i := 2) hM (by decide) (by exact jD) (by exact rfl)))
  ·rintro D ρo wo nD eD cD jD aD ⟨f65, _⟩
   exact go_plain (op_eql (k := .i64) (a := (s.d.Samples.length : Int)) (b := 0) f65 rfl (kN0 (i := 3) hM (by decide) (by exact jD) (by exact rfl)))
  ·rintro D ρo wo nD eD cD jD aD ⟨f66, _⟩
   exact go_plain (op_move (.bool (decide ((s.d.Samples.length : Int) = 0))) f66 (kN0 (i := 4) hM (by decide) (by exact jD) (by exact rfl)))
  ·rintro D ρo wo nD eD cD jD aD ⟨f4, f67, _⟩
   refine go_lz 67 rfl ((gA_t f67).trans hg273.symm) ?_ (fun hc469 => (kN0 (i := 5) hM (by decide) (by exact jD) (by exact (gf hc469).symm)))
   intro hc469
   exact id (op_move (iV (s.d.Aggs.length : Int)) (f4.trans rfl) (kN0 (i := 5) hM (by decide) (by exact jD) (by exact (gt hc469).symm)))
  ·rintro D ρo wo nD eD cD jD aD ⟨f68, f67, _⟩
   refine go_lz 67 rfl ((gA_t f67).trans hg273.symm) ?_ (fun hc470 => (kN0 (i := 6) hM (by decide) (by exact jD) (by exact (gf hc470).symm)))
   intro hc470
   exact id (op_geq (k := .i64) (a := (s.d.Aggs.length : Int)) (b := 1) (f68.trans (gt hc470)) rfl (kN0 (i := 6) hM (by decide) (by exact jD) (by exact (gt hc470).symm)))
  ·rintro D ρo wo nD eD cD jD aD ⟨f67, f69, _⟩
   refine go_plain (op_pick_and f67 f69 (fun hp => (hg273.trans hp)) rfl ?_)
   exact (kN0 (i := 7) hM (by decide) (by exact jD) (by exact (congrArg Value.bool hg275.symm)))
  ·rintro D ρo wo nD eD cD jD aD ⟨f70, _⟩
   exact go_plain (op_move (.bool g274) f70 (kN0 (i := 8) hM (by decide) (by exact jD) (by exact rfl)))
  ·rintro D ρo wo nD eD cD jD aD ⟨f4, f71, _⟩
   refine go_lz 71 rfl (gA_t f71) ?_ (fun hc471 => (kN0 (i := 9) hM (by decide) (by exact jD) (by exact (gf hc471).symm)))
   intro hc471
   exact id (op_move (iV (s.d.Aggs.length : Int)) (f4.trans rfl) (kN0 (i := 9) hM (by decide) (by exact jD) (by exact (gt hc471).symm)))
  ·rintro D ρo wo nD eD cD jD aD ⟨f72, f71, _⟩
   refine go_lz 71 rfl (gA_t f71) ?_ (fun hc472 => (kN0 (i := 10) hM (by decide) (by exact jD) (by exact (gf hc472).symm)))
   intro hc472
   exact id (op_leq (k := .i64) (a := (s.d.Aggs.length : Int)) (b := 64) (f72.trans (gt hc472)) rfl (kN0 (i := 10) hM (by decide) (by exact jD) (by exact (gt hc472).symm)))
  ·rintro D ρo wo nD eD cD jD aD ⟨f71, f73, _⟩
   refine go_plain (op_pick_and f71 f73 (fun hp => hp) rfl ?_)
   exact (kN0 (i := 11) hM (by decide) (by exact jD) (by exact (congrArg Value.bool hg277.symm)))
  ·rintro D ρo wo nD eD cD jD aD ⟨f74, _⟩
   exact go_plain (op_move (.bool g276) f74 (kN0 (i := 12) hM (by decide) (by exact jD) (by exact rfl)))
  ·rintro D ρo wo nD eD cD jD aD ⟨f1, f75, _⟩
   refine go_lz 75 rfl (gA_t f75) ?_ (fun hc473 => (kN0 (i := 13) hM (by decide) (by exact jD) (by exact (gf hc473).symm)))
   intro hc473
   exact id (op_fieldAddr (s := 0) Tryd.underlying26 rfl rfl Tryd.sizeOf24 (f1.trans rfl) (kN0 (i := 13) hM (by decide) (by exact jD) (by exact (gt hc473).symm)))
  ·rintro D ρo wo nD eD cD jD aD ⟨f76, f75, _⟩
   refine go_lz 75 rfl (gA_t f75) ?_ (fun hc474 => (kN0 (i := 14) hM (by decide) (by exact jD) (by exact (gf hc474).symm)))
   intro hc474
   have hst := jD.2 
   replace hst : St w0 wo [.blk g26 26 #[(iV s.d.Id), (iV s.d.Tier), (iV s.d.From), (iV s.d.To), s.sv.1, s.av.1]] := hst
   exact id (op_load1 (u := s.av.1) Tryd.isAgg24 (f76.trans (gt hc474)) ((hst.cell 0 rfl).drop 5) (kN0 (i := 14) hM (by decide) (by exact jD) (by exact (gt hc474).symm)))
  ·rintro D ρo wo nD eD cD jD aD ⟨f1, f75, _⟩
   refine go_lz 75 rfl (gA_t f75) ?_ (fun hc475 => (kN0 (i := 15) hM (by decide) (by exact jD) (by exact (gf hc475).symm)))
   intro hc475
   exact id (op_fieldAddr (s := 0) Tryd.underlying26 rfl rfl Tryd.sizeOf3 (f1.trans rfl) (kN0 (i := 15) hM (by decide) (by exact jD) (by exact (gt hc475).symm)))
  ·rintro D ρo wo nD eD cD jD aD ⟨f78, f75, _⟩
   refine go_lz 75 rfl (gA_t f75) ?_ (fun hc476 => (kN0 (i := 16) hM (by decide) (by exact jD) (by exact (gf hc476).symm)))
   intro hc476
   have hst := jD.2 
   replace hst : St w0 wo [.blk g26 26 #[(iV s.d.Id), (iV s.d.Tier), (iV s.d.From), (iV s.d.To), s.sv.1, s.av.1]] := hst
   exact id (op_load1 (u := (iV s.d.Tier)) Tryd.isAgg3 (f78.trans (gt hc476)) ((hst.cell 0 rfl).drop 1) (kN0 (i := 16) hM (by decide) (by exact jD) (by exact (gt hc476).symm)))
  ·rintro D ρo wo nD eD cD jD aD ⟨f77, f79, f75, _⟩
   refine go_lz 75 rfl (gA_t f75) ?_ (fun hc477 => (kN0 (i := 17) hM (by decide) (by exact jD) (by exact (gf hc477).symm)))
   intro hc477
   have c478 : (s.d.Samples.length : Int) = 0 := of_decide_eq_true (and_l (hg275.symm.trans (and_l (hg277.symm.trans hc477))))
   have c479 : 1 ≤ (s.d.Aggs.length : Int) := of_decide_eq_true (and_r (hg275.symm.trans (and_l (hg277.symm.trans hc477))))
   have c480 : (s.d.Aggs.length : Int) ≤ 64 := of_decide_eq_true (and_r (hg277.symm.trans hc477))
   have hst := jD.2 
   replace hst : St w0 wo [.blk g26 26 #[(iV s.d.Id), (iV s.d.Tier), (iV s.d.From), (iV s.d.To), s.sv.1, s.av.1]] := hst
   refine id (op_call Tryd.call25 (evs_cons (v := s.av.1) (f77.trans (gt hc477)) (evs_cons (v := (iV s.d.Tier)) (f79.trans (gt hc477)) evs_nil)) (c_Aligned (w0 := wo) (v_l := s.av.1) (l := s.d.Aggs) (h_l := (h_s.2.below hst.below)) (k := s.d.Tier) (hl := hs.2.2.2.2.2) (k0 := (by omega)) (k1 := (by omega))) ?_)
   rintro _ w481 ⟨rfl, hcall⟩
   refine ⟨_, rfl, ?_⟩
   exact kN (i := 17) hM (by decide) hcall.below (by exact ⟨(jD.1).ext hcall.below, (jD.2).ext hcall.below⟩) (by exact (gt hc477).symm)
  ·rintro D ρo wo nD eD cD jD aD ⟨f75, f80, _⟩
   refine go_plain (op_pick_and f75 f80 (fun hp => hp) rfl ?_)
   exact (kN0 (i := 18) hM (by decide) (by exact jD) (by exact (congrArg Value.bool hg280.symm)))
  ·rintro D ρo wo nD eD cD jD aD ⟨f81, _⟩
   exact go_plain (op_move (.bool g279) f81 (kN0 (i := 19) hM (by decide) (by exact jD) (by exact rfl)))
  ·rintro D ρo wo nD eD cD jD aD ⟨f1, f82, _⟩
   refine go_lz 82 rfl (gA_t f82) ?_ (fun hc482 => (kN0 (i := 20) hM (by decide) (by exact jD) (by exact (gf hc482).symm)))
   intro hc482
   exact id (op_fieldAddr (s := 0) Tryd.underlying26 rfl rfl Tryd.sizeOf24 (f1.trans rfl) (kN0 (i := 20) hM (by decide) (by exact jD) (by exact (gt hc482).symm)))
  ·rintro D ρo wo nD eD cD jD aD ⟨f83, f82, _⟩
   refine go_lz 82 rfl (gA_t f82) ?_ (fun hc483 => (kN0 (i := 21) hM (by decide) (by exact jD) (by exact (gf hc483).symm)))
   intro hc483
   have hst := jD.2 
   replace hst : St w0 wo [.blk g26 26 #[(iV s.d.Id), (iV s.d.Tier), (iV s.d.From), (iV s.d.To), s.sv.1, s.av.1]] := hst
   exact id (op_load1 (u := s.av.1) Tryd.isAgg24 (f83.trans (gt hc483)) ((hst.cell 0 rfl).drop 5) (kN0 (i := 21) hM (by decide) (by exact jD) (by exact (gt hc483).symm)))
  ·rintro D ρo wo nD eD cD jD aD ⟨f84, f82, _⟩
   refine go_lz 82 rfl (gA_t f82) ?_ (fun hc484 => (kN0 (i := 22) hM (by decide) (by exact jD) (by exact fun h => absurd (show _ = true from h) (by rw [hc484]; decide))))
   intro hc484
   have c485 : (s.d.Samples.length : Int) = 0 := of_decide_eq_true (and_l (hg275.symm.trans (and_l (hg277.symm.trans (and_l (hg280.symm.trans hc484))))))
   have c486 : 1 ≤ (s.d.Aggs.length : Int) := of_decide_eq_true (and_r (hg275.symm.trans (and_l (hg277.symm.trans (and_l (hg280.symm.trans hc484))))))
   have c487 : (s.d.Aggs.length : Int) ≤ 64 := of_decide_eq_true (and_r (hg277.symm.trans (and_l (hg280.symm.trans hc484))))
   have c488 : (alignedA s.d.Aggs s.d.Tier) = true := (and_r (hg280.symm.trans hc484))
   refine id (op_indexAddrD (E := aggE) (xs := s.d.Aggs) 0 Tryd.underlying24 Tryd.sizeOf45 (f84.trans (gt hc484)) h_s.2 rfl (by omega) (by omega) (fun a489 o490 p491 => ?_))
   exact (kN0 (i := 22) hM (by decide) (by exact jD) (by exact fun _ => ⟨_, _, rfl, p491⟩))
  ·rintro D ρo wo nD eD cD jD aD ⟨f85, f82, _⟩
   refine go_lz 82 rfl (gA_t f82) ?_ (fun hc492 => (kN0 (i := 23) hM (by decide) (by exact jD) (by exact fun h => absurd (show _ = true from h) (by rw [hc492]; decide))))
   intro hc492
   obtain ⟨a493, o494, e495, p496⟩ := f85 hc492
   exact id (op_fieldAddr (s := 0) Tryd.underlying45 rfl rfl Tryd.sizeOf2 e495 (kN0 (i := 23) hM (by decide) (by exact jD) (by exact fun _ => ⟨_, _, rfl, p496⟩)))
  ·rintro D ρo wo nD eD cD jD aD ⟨f86, f82, _⟩
   refine go_lz 82 rfl (gA_t f82) ?_ (fun hc497 => (kN0 (i := 24) hM (by decide) (by exact jD) (by exact (gf hc497).symm)))
   intro hc497
   have hst := jD.2 
   replace hst : St w0 wo [.blk g26 26 #[(iV s.d.Id), (iV s.d.Tier), (iV s.d.From), (iV s.d.To), s.sv.1, s.av.1]] := hst
   obtain ⟨a498, o499, e500, p501⟩ := f86 hc497
   exact id (op_load1 (u := (iV ((gd s.d.Aggs 0).From))) Tryd.isAgg2 e500 (p501.below hst.below) (kN0 (i := 24) hM (by decide) (by exact jD) (by exact (gt hc497).symm)))
  ·rintro D ρo wo nD eD cD jD aD ⟨f1, f82, _⟩
   refine go_lz 82 rfl (gA_t f82) ?_ (fun hc502 => (kN0 (i := 25) hM (by decide) (by exact jD) (by exact (gf hc502).symm)))
   intro hc502
   exact id (op_fieldAddr (s := 0) Tryd.underlying26 rfl rfl Tryd.sizeOf2 (f1.trans rfl) (kN0 (i := 25) hM (by decide) (by exact jD) (by exact (gt hc502).symm)))
  ·rintro D ρo wo nD eD cD jD aD ⟨f88, f82, _⟩
   refine go_lz 82 rfl (gA_t f82) ?_ (fun hc503 => (kN0 (i := 26) hM (by decide) (by exact jD) (by exact (gf hc503).symm)))
   intro hc503
   have hst := jD.2 
   replace hst : St w0 wo [.blk g26 26 #[(iV s.d.Id), (iV s.d.Tier), (iV s.d.From), (iV s.d.To), s.sv.1, s.av.1]] := hst
   exact id (op_load1 (u := (iV s.d.From)) Tryd.isAgg2 (f88.trans (gt hc503)) ((hst.cell 0 rfl).drop 2) (kN0 (i := 26) hM (by decide) (by exact jD) (by exact (gt hc503).symm)))
  ·rintro D ρo wo nD eD cD jD aD ⟨f1, f82, _⟩
   refine go_lz 82 rfl (gA_t f82) ?_ (fun hc504 => (kN0 (i := 27) hM (by decide) (by exact jD) (by exact (gf hc504).symm)))
   intro hc504
   exact id (op_fieldAddr (s := 0) Tryd.underlying26 rfl rfl Tryd.sizeOf3 (f1.trans rfl) (kN0 (i := 27) hM (by decide) (by exact jD) (by exact (gt hc504).symm)))
  ·rintro D ρo wo nD eD cD jD aD ⟨f90, f82, _⟩
   refine go_lz 82 rfl (gA_t f82) ?_ (fun hc505 => (kN0 (i := 28) hM (by decide) (by exact jD) (by exact (gf hc505).symm)))
   intro hc505
   have hst := jD.2 
   replace hst : St w0 wo [.blk g26 26 #[(iV s.d.Id), (iV s.d.Tier), (iV s.d.From), (iV s.d.To), s.sv.1, s.av.1]] := hst
   exact id (op_load1 (u := (iV s.d.Tier)) Tryd.isAgg3 (f90.trans (gt hc505)) ((hst.cell 0 rfl).drop 1) (kN0 (i := 28) hM (by decide) (by exact jD) (by exact (gt hc505).symm)))
  ·rintro D ρo wo nD eD cD jD aD ⟨f89, f91, f82, _⟩
   refine go_lz 82 rfl (gA_t f82) ?_ (fun hc506 => (kN0 (i := 29) hM (by decide) (by exact jD) (by exact (gf hc506).symm)))
   intro hc506
   have c507 : (s.d.Samples.length : Int) = 0 := of_decide_eq_true (and_l (hg275.symm.trans (and_l (hg277.symm.trans (and_l (hg280.symm.trans hc506))))))
   have c508 : 1 ≤ (s.d.Aggs.length : Int) := of_decide_eq_true (and_r (hg275.symm.trans (and_l (hg277.symm.trans (and_l (hg280.symm.trans hc506))))))
   have c509 : (s.d.Aggs.length : Int) ≤ 64 := of_decide_eq_true (and_r (hg277.symm.trans (and_l (hg280.symm.trans hc506))))
   have c510 : (alignedA s.d.Aggs s.d.Tier) = true := (and_r (hg280.symm.trans hc506))
   refine id (op_call Tryd.call26 (evs_cons (v := (iV s.d.From)) (f89.trans (gt hc506)) (evs_cons (v := (iV s.d.Tier)) (f91.trans (gt hc506)) evs_nil)) (c_Floor (w0 := wo) (t := s.d.From) (k := s.d.Tier) (t0 := (by omega)) (k0 := (by omega)) (t1 := (by omega)) (k1 := (by omega))) ?_)
   rintro _ w511 ⟨rfl, hcall⟩
   refine ⟨_, rfl, ?_⟩
   exact kN (i := 29) hM (by decide) hcall.below (by exact ⟨(jD.1).ext hcall.below, (jD.2).ext hcall.below⟩) (by exact (gt hc506).symm)
  ·rintro D ρo wo nD eD cD jD aD ⟨f87, f92, f82, _⟩
   refine go_lz 82 rfl (gA_t f82) ?_ (fun hc512 => (kN0 (i := 30) hM (by decide) (by exact jD) (by exact (gf hc512).symm)))
   intro hc512
   exact id (op_geq (k := .i64) (a := (gd s.d.Aggs 0).From) (b := (floorA s.d.From s.d.Tier)) (f87.trans (gt hc512)) (f92.trans (gt hc512)) (kN0 (i := 30) hM (by decide) (by exact jD) (by exact (gt hc512).symm)))
  ·rintro D ρo wo nD eD cD jD aD ⟨f82, f93, _⟩
   refine go_plain (op_pick_and f82 f93 (fun hp => hp) rfl ?_)
   exact (kN0 (i := 31) hM (by decide) (by exact jD) (by exact (congrArg Value.bool hg346.symm)))
  ·rintro D ρo wo nD eD cD jD aD ⟨f94, _⟩
   exact go_plain (op_move (.bool g345) f94 (kN0 (i := 32) hM (by decide) (by exact jD) (by exact rfl)))
  ·rintro D ρo wo nD eD cD jD aD ⟨f1, f95, _⟩
   refine go_lz 95 rfl (gA_t f95) ?_ (fun hc513 => (kN0 (i := 33) hM (by decide) (by exact jD) (by exact (gf hc513).symm)))
   intro hc513
   exact id (op_fieldAddr (s := 0) Tryd.underlying26 rfl rfl Tryd.sizeOf24 (f1.trans rfl) (kN0 (i := 33) hM (by decide) (by exact jD) (by exact (gt hc513).symm)))
  ·rintro D ρo wo nD eD cD jD aD ⟨f96, f95, _⟩
   refine go_lz 95 rfl (gA_t f95) ?_ (fun hc514 => (kN0 (i := 34) hM (by decide) (by exact jD) (by exact (gf hc514).symm)))
   intro hc514
   have hst := jD.2 
   replace hst : St w0 wo [.blk g26 26 #[(iV s.d.Id), (iV s.d.Tier), (iV s.d.From), (iV s.d.To), s.sv.1, s.av.1]] := hst
   exact id (op_load1 (u := s.av.1) Tryd.isAgg24 (f96.trans (gt hc514)) ((hst.cell 0 rfl).drop 5) (kN0 (i := 34) hM (by decide) (by exact jD) (by exact (gt hc514).symm)))
  ·rintro D ρo wo nD eD cD jD aD ⟨f4, f95, _⟩
   refine go_lz 95 rfl (gA_t f95) ?_ (fun hc515 => (kN0 (i := 35) hM (by decide) (by exact jD) (by exact (gf hc515).symm)))
   intro hc515
   exact id (op_move (iV (s.d.Aggs.length : Int)) (f4.trans rfl) (kN0 (i := 35) hM (by decide) (by exact jD) (by exact (gt hc515).symm)))
  ·rintro D ρo wo nD eD cD jD aD ⟨f98, f95, _⟩
   refine go_lz 95 rfl (gA_t f95) ?_ (fun hc516 => (kN0 (i := 36) hM (by decide) (by exact jD) (by exact (gf hc516).symm)))
   intro hc516
   have c517 : (s.d.Samples.length : Int) = 0 := of_decide_eq_true (and_l (hg275.symm.trans (and_l (hg277.symm.trans (and_l (hg280.symm.trans (and_l (hg346.symm.trans hc516))))))))
   have c518 : 1 ≤ (s.d.Aggs.length : Int) := of_decide_eq_true (and_r (hg275.symm.trans (and_l (hg277.symm.trans (and_l (hg280.symm.trans (and_l (hg346.symm.trans hc516))))))))
   have c519 : (s.d.Aggs.length : Int) ≤ 64 := of_decide_eq_true (and_r (hg277.symm.trans (and_l (hg280.symm.trans (and_l (hg346.symm.trans hc516))))))
   have c520 : (alignedA s.d.Aggs s.d.Tier) = true := (and_r (hg280.symm.trans (and_l (hg346.symm.trans hc516))))
   have c521 : (floorA s.d.From s.d.Tier) ≤ ((gd s.d.Aggs 0).From) := of_decide_eq_true (and_r (hg346.symm.trans hc516))
   exact id (op_sub (k := .i64) (a := (s.d.Aggs.length : Int)) (b := 1) ((s.d.Aggs.length : Int) - 1) (f98.trans (gt hc516)) rfl (xi64 (by omega) (by omega)) (kN0 (i := 36) hM (by decide) (by exact jD) (by exact (gt hc516).symm)))
  ·rintro D ρo wo nD eD cD jD aD ⟨f97, f99, f95, _⟩
   refine go_lz 95 rfl (gA_t f95) ?_ (fun hc522 => (kN0 (i := 37) hM (by decide) (by exact jD) (by exact fun h => absurd (show _ = true from h) (by rw [hc522]; decide))))
   intro hc522
   have c523 : (s.d.Samples.length : Int) = 0 := of_decide_eq_true (and_l (hg275.symm.trans (and_l (hg277.symm.trans (and_l (hg280.symm.trans (and_l (hg346.symm.trans hc522))))))))
   have c524 : 1 ≤ (s.d.Aggs.length : Int) := of_decide_eq_true (and_r (hg275.symm.trans (and_l (hg277.symm.trans (and_l (hg280.symm.trans (and_l (hg346.symm.trans hc522))))))))
   have c525 : (s.d.Aggs.length : Int) ≤ 64 := of_decide_eq_true (and_r (hg277.symm.trans (and_l (hg280.symm.trans (and_l (hg346.symm.trans hc522))))))
   have c526 : (alignedA s.d.Aggs s.d.Tier) = true := (and_r (hg280.symm.trans (and_l (hg346.symm.trans hc522))))
   have c527 : (floorA s.d.From s.d.Tier) ≤ ((gd s.d.Aggs 0).From) := of_decide_eq_true (and_r (hg346.symm.trans hc522))
   refine id (op_indexAddrD (E := aggE) (xs := s.d.Aggs) (s.d.Aggs.length - 1) Tryd.underlying24 Tryd.sizeOf45 (f97.trans (gt hc522)) h_s.2 (f99.trans (gt hc522)) (by omega) (by omega) (fun a528 o529 p530 => ?_))
   exact (kN0 (i := 37) hM (by decide) (by exact jD) (by exact fun _ => ⟨_, _, rfl, p530⟩))
  ·rintro D ρo wo nD eD cD jD aD ⟨f100, f95, _⟩
   refine go_lz 95 rfl (gA_t f95) ?_ (fun hc531 => (kN0 (i := 38) hM (by decide) (by exact jD) (by exact fun h => absurd (show _ = true from h) (by rw [hc531]; decide))))
   intro hc531
   obtain ⟨a532, o533, e534, p535⟩ := f100 hc531
   exact id (op_fieldAddr (s := 0) Tryd.underlying45 rfl rfl Tryd.sizeOf2 e534 (kN0 (i := 38) hM (by decide) (by exact jD) (by exact fun _ => ⟨_, _, rfl, p535⟩)))
  ·rintro D ρo wo nD eD cD jD aD ⟨f101, f95, _⟩
   refine go_lz 95 rfl (gA_t f95) ?_ (fun hc536 => (kN0 (i := 39) hM (by decide) (by exact jD) (by exact (gf hc536).symm)))
   intro hc536
   have hst := jD.2 
   replace hst : St w0 wo [.blk g26 26 #[(iV s.d.Id), (iV s.d.Tier), (iV s.d.From), (iV s.d.To), s.sv.1, s.av.1]] := hst
   obtain ⟨a537, o538, e539, p540⟩ := f101 hc536
   exact id (op_load1 (u := (iV ((gd s.d.Aggs (s.d.Aggs.length - 1)).From))) Tryd.isAgg2 e539 (p540.below hst.below) (kN0 (i := 39) hM (by decide) (by exact jD) (by exact (gt hc536).symm)))
  ·rintro D ρo wo nD eD cD jD aD ⟨f1, f95, _⟩
   refine go_lz 95 rfl (gA_t f95) ?_ (fun hc541 => (kN0 (i := 40) hM (by decide) (by exact jD) (by exact (gf hc541).symm)))
   intro hc541
   exact id (op_fieldAddr (s := 0) Tryd.underlying26 rfl rfl Tryd.sizeOf2 (f1.trans rfl) (kN0 (i := 40) hM (by decide) (by exact jD) (by exact (gt hc541).symm)))
  ·rintro D ρo wo nD eD cD jD aD ⟨f103, f95, _⟩
   refine go_lz 95 rfl (gA_t f95) ?_ (fun hc542 => (kN0 (i := 41) hM (by decide) (by exact jD) (by exact (gf hc542).symm)))
   intro hc542
   have hst := jD.2 
   replace hst : St w0 wo [.blk g26 26 #[(iV s.d.Id), (iV s.d.Tier), (iV s.d.From), (iV s.d.To), s.sv.1, s.av.1]] := hst
   exact id (op_load1 (u := (iV s.d.To)) Tryd.isAgg2 (f103.trans (gt hc542)) ((hst.cell 0 rfl).drop 3) (kN0 (i := 41) hM (by decide) (by exact jD) (by exact (gt hc542).symm)))
  ·rintro D ρo wo nD eD cD jD aD ⟨f102, f104, f95, _⟩
   refine go_lz 95 rfl (gA_t f95) ?_ (fun hc543 => (kN0 (i := 42) hM (by decide) (by exact jD) (by exact (gf hc543).symm)))
   intro hc543
   exact id (op_lss (k := .i64) (a := (gd s.d.Aggs (s.d.Aggs.length - 1)).From) (b := s.d.To) (f102.trans (gt hc543)) (f104.trans (gt hc543)) (kN0 (i := 42) hM (by decide) (by exact jD) (by exact (gt hc543).symm)))
  ·rintro D ρo wo nD eD cD jD aD ⟨f95, f105, _⟩
   refine go_plain (op_pick_and f95 f105 (fun hp => hp) rfl ?_)
   exact (kN0 (i := 43) hM (by decide) (by exact jD) (by exact (congrArg Value.bool hg467.symm)))
  ·rintro D ρo wo nD eD cD jD aD ⟨f106, _⟩
   exact go_plain (op_assign (.bool g466) f106 (kN0 (i := 44) hM (by decide) (by exact jD) (by exact rfl)))
  intro ρ544 w545 Dw545 hallw545 hJw545 hRw545 hkw545
  have hst : St w0 w545 [.blk g26 26 #[(iV s.d.Id), (iV s.d.Tier), (iV s.d.From), (iV s.d.To), s.sv.1, s.av.1]] := hJw545.2 
  have uw545_0 : ρ544 0 = (.agg #[(iV s.d.Id), (iV s.d.Tier), (iV s.d.From), (iV s.d.To), s.sv.1, s.av.1]) := (hkw545 0 rfl).trans rfl
  have uw545_1 : ρ544 1 = (.pointer (some ⟨g26, 0, none⟩)) := (hkw545 1 rfl).trans rfl
  have uw545_5 : ρ544 5 = (.pointer (some ⟨g26, (0 + 0), none⟩)) := (hkw545 5 rfl).trans rfl
  have uw545_6 : ρ544 6 = (iV s.d.Id) := (hkw545 6 rfl).trans rfl
  have uw545_7 : ρ544 7 = (.pointer (some ⟨g26, (0 + 1), none⟩)) := (hkw545 7 rfl).trans rfl
  have uw545_8 : ρ544 8 = (iV s.d.Tier) := (hkw545 8 rfl).trans rfl
  have uw545_9 : ρ544 9 = (.pointer (some ⟨g26, (0 + 2), none⟩)) := (hkw545 9 rfl).trans rfl
  have uw545_10 : ρ544 10 = (iV s.d.From) := (hkw545 10 rfl).trans rfl
  have uw545_11 : ρ544 11 = (.pointer (some ⟨g26, (0 + 3), none⟩)) := (hkw545 11 rfl).trans rfl
  have uw545_12 : ρ544 12 = (iV s.d.To) := (hkw545 12 rfl).trans rfl
  have uw545_13 : ρ544 13 = (.bool (headS s.d.Id s.d.Tier s.d.From s.d.To)) := (hkw545 13 rfl).trans rfl
  have uw545_14 : ρ544 14 = (.bool (!(headS s.d.Id s.d.Tier s.d.From s.d.To))) := (hkw545 14 rfl).trans rfl
  have uw545_15 : ρ544 15 = (.pointer (some ⟨g26, (0 + 1), none⟩)) := (hkw545 15 rfl).trans rfl
  have uw545_16 : ρ544 16 = (iV s.d.Tier) := (hkw545 16 rfl).trans rfl
  have uw545_17 : ρ544 17 = (.bool (decide (s.d.Tier = 0))) := (hkw545 17 rfl).trans rfl
  have uw545_60 : ρ544 60 = (.pointer (some ⟨g26, (0 + 5), none⟩)) := (hkw545 60 rfl).trans rfl
  have uw545_61 : ρ544 61 = s.av.1 := (hkw545 61 rfl).trans rfl
  have uw545_62 : ρ544 62 = (iV (s.d.Aggs.length : Int)) := (hkw545 62 rfl).trans rfl
  have uw545_2 : ρ544 2 = (.bool g466) := hRw545 44 2 rfl
  refine then_n (cE_ret (post_r _ (res1 (v := (.bool g466)) uw545_2) ?_))
  exact ⟨(retv1 (congrArg Value.bool (show g466 = (mayS s.d) from by first | exact Eq.symm (may_nohead (by assumption)) | (rw [hg467, hg346, hg280, hg277, hg275]; exact Eq.symm (may_raw (by assumption) (by omega))) | (rw [hg467, hg346, hg280, hg277, hg275]; exact Eq.symm (may_up (by assumption) (by omega)))))), hst.bare⟩
 refine cE_cond true (congrArg Value.bool (congrArg (! ·) b29)) (fun _ => ?_) (fun h => by cases h)
 refine cE_seq (cE_region rfl (s_cons (op_assign (.bool false) rfl (s_nil (then_n (cE_ret (then_r (post_r _ (res1 (v := (.bool false)) rfl) ?_))))))))
 exact ⟨(retv1 (congrArg Value.bool (show false = (mayS s.d) from by first | exact Eq.symm (may_nohead (by assumption)) | (rw []; exact Eq.symm (may_raw (by assumption) (by omega))) | (rw []; exact Eq.symm (may_up (by assumption) (by omega)))))), hst.bare⟩

end Go.Proofs.YtgibfidebdgffaaDoor
