/- segment.Head, segment.May, twinkeepref5.MaySeg -/
import Derived.Test.YtldfnkhccaglmaaXLA
import Derived.Test.YtldfnkhccaglmaaXW5
import Derived.Test.YtldfnkhccaglmaaXW6
namespace Go.Proofs.Ytldfnkhccaglmaa
open Go.RowKit

set_option maxRecDepth 8000 in
theorem c_Head (w0 : World) (id : Int) (k : Int) (fr : Int) (to : Int) :
  Calls Try.prog 59 #[(iV id), (iV k), (iV fr), (iV to)] w0 fun e w' => e = .returned (.bool (headS id k fr to)) ∧ St w0 w' [] := by
 refine calls_E (n := 36) (ts := [8]) Try.func59 rfl rfl rfl (by simp) ?_
 have hst := St.start w0
 refine cE_seq (cE_region rfl (s_cons (op_assign (.bool false) rfl (s_nil (then_n (cE_seq (cE_region rfl (s_cons (op_move (iV id) rfl (s_cons (op_geq (k := .i64) (a := id) (b := 1) rfl rfl (s_cons (op_move (.bool (decide (1 ≤ id))) rfl (s_lz 11 rfl (gA_t rfl) (Rlz (decide (1 ≤ id)) (iV id) w0) ?_ (fun hc1 => rlz_f hc1) ?_))))))))))))))
 ·intro hc1
  refine op_move (iV id) rfl ?_
  exact rlz_t hc1
 rintro _ _ ⟨rfl, rfl⟩
 refine s_lz 11 rfl (gA_t rfl) (Rlz (decide (1 ≤ id)) (.bool (decide (id ≤ 1073741824))) w0) ?_ (fun hc2 => rlz_f hc2) ?_
 ·intro hc2
  refine op_leq (k := .i64) (a := id) (b := 1073741824) (gt hc2) rfl ?_
  exact rlz_t hc2
 rintro _ _ ⟨rfl, rfl⟩
 obtain ⟨g3, hg4⟩ : ∃ x : Bool, x = ((decide (1 ≤ id)) && (decide (id ≤ 1073741824))) := ⟨_, rfl⟩
 refine s_cons (op_pick_and rfl rfl (fun hp => hp) rfl (s_cons (op_move (.bool g3) (congrArg Value.bool hg4.symm) (s_lz 15 rfl (gA_t rfl) (Rlz g3 (iV k) w0) ?_ (fun hc5 => rlz_f hc5) ?_))))
 ·intro hc5
  refine op_move (iV k) rfl ?_
  exact rlz_t hc5
 rintro _ _ ⟨rfl, rfl⟩
 refine s_lz 15 rfl (gA_t rfl) (Rlz g3 (.bool (decide (0 ≤ k))) w0) ?_ (fun hc6 => rlz_f hc6) ?_
 ·intro hc6
  refine op_geq (k := .i64) (a := k) (b := 0) (gt hc6) rfl ?_
  exact rlz_t hc6
 rintro _ _ ⟨rfl, rfl⟩
 obtain ⟨g7, hg8⟩ : ∃ x : Bool, x = (g3 && (decide (0 ≤ k))) := ⟨_, rfl⟩
 refine s_cons (op_pick_and rfl rfl (fun hp => hp) rfl (s_cons (op_move (.bool g7) (congrArg Value.bool hg8.symm) (s_lz 19 rfl (gA_t rfl) (Rlz g7 (iV k) w0) ?_ (fun hc9 => rlz_f hc9) ?_))))
 ·intro hc9
  refine op_move (iV k) rfl ?_
  exact rlz_t hc9
 rintro _ _ ⟨rfl, rfl⟩
 refine s_lz 19 rfl (gA_t rfl) (Rlz g7 (.bool (decide (k < 4))) w0) ?_ (fun hc10 => rlz_f hc10) ?_
 ·intro hc10
  refine op_lss (k := .i64) (a := k) (b := 4) (gt hc10) rfl ?_
  exact rlz_t hc10
 rintro _ _ ⟨rfl, rfl⟩
 obtain ⟨g11, hg12⟩ : ∃ x : Bool, x = (g7 && (decide (k < 4))) := ⟨_, rfl⟩
 refine s_cons (op_pick_and rfl rfl (fun hp => hp) rfl (s_cons (op_move (.bool g11) (congrArg Value.bool hg12.symm) (s_lz 23 rfl (gA_t rfl) (Rlz g11 (iV fr) w0) ?_ (fun hc13 => rlz_f hc13) ?_))))
 ·intro hc13
  refine op_move (iV fr) rfl ?_
  exact rlz_t hc13
 rintro _ _ ⟨rfl, rfl⟩
 refine s_lz 23 rfl (gA_t rfl) (Rlz g11 (.bool (decide (0 ≤ fr))) w0) ?_ (fun hc14 => rlz_f hc14) ?_
 ·intro hc14
  refine op_geq (k := .i64) (a := fr) (b := 0) (gt hc14) rfl ?_
  exact rlz_t hc14
 rintro _ _ ⟨rfl, rfl⟩
 obtain ⟨g15, hg16⟩ : ∃ x : Bool, x = (g11 && (decide (0 ≤ fr))) := ⟨_, rfl⟩
 refine s_cons (op_pick_and rfl rfl (fun hp => hp) rfl (s_cons (op_move (.bool g15) (congrArg Value.bool hg16.symm) (s_lz 27 rfl (gA_t rfl) (Rlz g15 (iV fr) w0) ?_ (fun hc17 => rlz_f hc17) ?_))))
 ·intro hc17
  refine op_move (iV fr) rfl ?_
  exact rlz_t hc17
 rintro _ _ ⟨rfl, rfl⟩
 refine s_lz 27 rfl (gA_t rfl) (Rlz g15 (iV to) w0) ?_ (fun hc18 => rlz_f hc18) ?_
 ·intro hc18
  refine op_move (iV to) rfl ?_
  exact rlz_t hc18
 rintro _ _ ⟨rfl, rfl⟩
 refine s_lz 27 rfl (gA_t rfl) (Rlz g15 (.bool (decide (fr < to))) w0) ?_ (fun hc19 => rlz_f hc19) ?_
 ·intro hc19
  refine op_lss (k := .i64) (a := fr) (b := to) (gt hc19) (gt hc19) ?_
  exact rlz_t hc19
 rintro _ _ ⟨rfl, rfl⟩
 obtain ⟨g20, hg21⟩ : ∃ x : Bool, x = (g15 && (decide (fr < to))) := ⟨_, rfl⟩
 refine s_cons (op_pick_and rfl rfl (fun hp => hp) rfl (s_cons (op_move (.bool g20) (congrArg Value.bool hg21.symm) (s_lz 32 rfl (gA_t rfl) (Rlz g20 (iV to) w0) ?_ (fun hc22 => rlz_f hc22) ?_))))
 ·intro hc22
  refine op_move (iV to) rfl ?_
  exact rlz_t hc22
 rintro _ _ ⟨rfl, rfl⟩
 refine s_lz 32 rfl (gA_t rfl) (Rlz g20 (.bool (decide (to ≤ 1099511627776))) w0) ?_ (fun hc23 => rlz_f hc23) ?_
 ·intro hc23
  refine op_leq (k := .i64) (a := to) (b := 1099511627776) (gt hc23) rfl ?_
  exact rlz_t hc23
 rintro _ _ ⟨rfl, rfl⟩
 obtain ⟨g24, hg25⟩ : ∃ x : Bool, x = (g20 && (decide (to ≤ 1099511627776))) := ⟨_, rfl⟩
 refine s_cons (op_pick_and rfl rfl (fun hp => hp) rfl (s_cons (op_assign (.bool g24) (congrArg Value.bool hg25.symm) (s_nil (then_n (cE_ret (post_r _ (res1 (v := (.bool g24)) rfl) ?_)))))))
 exact ⟨(retv1 (congrArg Value.bool (show g24 = (headS id k fr to) from by (rw [hg25, hg21, hg16, hg12, hg8, hg4]; rw [Bool.eq_iff_iff]; simp only [headS, Bool.and_eq_true, Bool.or_eq_true, Bool.not_eq_true', decide_eq_true_eq, decide_eq_false_iff_not]; omega)))), hst.bare⟩

set_option maxRecDepth 8000 in
set_option maxHeartbeats 4000000 in
theorem c_May2 (w0 : World) (s : Seg) (h_s : SegIn w0 s) (hs : s.d.ok) :
  Calls Try.prog 51 #[(.agg #[(iV s.d.Id), (iV s.d.Tier), (iV s.d.From), (iV s.d.To), s.sv.1, s.av.1])] w0 fun e w' => e = .returned (.bool (mayS s.d)) ∧ St w0 w' [] := by
 have hsl := h_s.1.len
 have hal := h_s.2.len
 refine calls_E (n := 107) (ts := [2]) Try.func51 rfl rfl rfl (by simp) ?_
 have hst := St.start w0
 refine cE_seq (cE_region rfl (s_cons (op_box (v := (.agg #[(iV s.d.Id), (iV s.d.Tier), (iV s.d.From), (iV s.d.To), s.sv.1, s.av.1])) (cs := #[(iV s.d.Id), (iV s.d.Tier), (iV s.d.From), (iV s.d.To), s.sv.1, s.av.1]) hst rfl rfl (fun g26 w27 hst _ => ?_))))
 refine s_cons (op_assign (.bool false) rfl (s_nil (then_n (cE_seq (cE_seq (cE_region rfl (s_cons (op_fieldAddr (s := 0) Try.underlying76 rfl rfl Try.sizeOf3 rfl (s_cons (op_load1 (u := (iV s.d.Id)) Try.isAgg3 rfl (hst.cell 0 rfl) (s_cons (op_fieldAddr (s := 0) Try.underlying76 rfl rfl Try.sizeOf3 rfl (s_cons (op_load1 (u := (iV s.d.Tier)) Try.isAgg3 rfl ((hst.cell 0 rfl).drop 1) ?_))))))))))))))
 refine s_cons (op_fieldAddr (s := 0) Try.underlying76 rfl rfl Try.sizeOf2 rfl (s_cons (op_load1 (u := (iV s.d.From)) Try.isAgg2 rfl ((hst.cell 0 rfl).drop 2) (s_cons (op_fieldAddr (s := 0) Try.underlying76 rfl rfl Try.sizeOf2 rfl (s_cons (op_load1 (u := (iV s.d.To)) Try.isAgg2 rfl ((hst.cell 0 rfl).drop 3) (s_cons (op_call Try.call59 (evs_cons (v := (iV s.d.Id)) rfl (evs_cons (v := (iV s.d.Tier)) rfl (evs_cons (v := (iV s.d.From)) rfl (evs_cons (v := (iV s.d.To)) rfl evs_nil)))) (c_Head (w0 := w27) (id := s.d.Id) (k := s.d.Tier) (fr := s.d.From) (to := s.d.To)) ?_)))))))))
 rintro _ w28 ⟨rfl, hcall⟩
 refine ⟨_, rfl, ?_⟩
 have hst := hst.call hcall
 refine s_cons (op_not (b := (headS s.d.Id s.d.Tier s.d.From s.d.To)) rfl (s_nil (then_n ?_)))
 rcases Bool.eq_false_or_eq_true (headS s.d.Id s.d.Tier s.d.From s.d.To) with b29 | b29
 ·refine cE_cond false (congrArg Value.bool (congrArg (! ·) b29)) (fun h => by cases h) (fun _ => ?_)
  refine cE_skip (then_n (cE_seq (cE_seq (cE_region rfl (s_cons (op_fieldAddr (s := 0) Try.underlying76 rfl rfl Try.sizeOf3 rfl (s_cons (op_load1 (u := (iV s.d.Tier)) Try.isAgg3 rfl ((hst.cell 0 rfl).drop 1) (s_cons (op_eql (k := .i64) (a := s.d.Tier) (b := 0) rfl rfl (s_nil (then_n ?_))))))))))))
  rcases Bool.eq_false_or_eq_true (decide (s.d.Tier = 0)) with b30 | b30
  ·have c31 := of_decide_eq_true b30
   refine cE_cond true (congrArg Value.bool b30) (fun _ => ?_) (fun h => by cases h)
   refine cE_seq (cE_region rfl (s_cons (op_fieldAddr (s := 0) Try.underlying76 rfl rfl Try.sizeOf23 rfl (s_cons (op_load1 (u := s.sv.1) Try.isAgg23 rfl ((hst.cell 0 rfl).drop 4) (s_cons (op_len (E := sampE) (xs := s.d.Samples) Try.underlying23 rfl h_s.1 (s_cons (op_assign (iV (s.d.Samples.length : Int)) rfl (s_nil (then_n (cE_seq ?_))))))))))))
   obtain ⟨g32, hg33⟩ : ∃ x : Bool, x = decide ((s.d.Aggs.length : Int) = 0) := ⟨_, rfl⟩
   obtain ⟨g34, hg35⟩ : ∃ x : Bool, x = ((decide ((s.d.Aggs.length : Int) = 0)) && (decide (1 ≤ (s.d.Samples.length : Int)))) := ⟨_, rfl⟩
   obtain ⟨g36, hg37⟩ : ∃ x : Bool, x = (g34 && (decide ((s.d.Samples.length : Int) ≤ 64))) := ⟨_, rfl⟩
   obtain ⟨g39, hg40⟩ : ∃ x : Bool, x = (g36 && (risingA s.d.Samples)) := ⟨_, rfl⟩
   obtain ⟨g80, hg81⟩ : ∃ x : Bool, x = (g39 && (decide (s.d.From ≤ ((gd s.d.Samples 0).T)))) := ⟨_, rfl⟩
   obtain ⟨g201, hg202⟩ : ∃ x : Bool, x = (g80 && (decide (((gd s.d.Samples (s.d.Samples.length - 1)).T) < s.d.To))) := ⟨_, rfl⟩
   refine cE_regionM (fun (D : Nat → Bool) (w : World) => St w0 w [.blk g26 76 #[(iV s.d.Id), (iV s.d.Tier), (iV s.d.From), (iV s.d.To), s.sv.1, s.av.1]] ∧ (St w0 w [.blk g26 76 #[(iV s.d.Id), (iV s.d.Tier), (iV s.d.From), (iV s.d.To), s.sv.1, s.av.1]])) [[(1, none)], [(21, some 0)], [(22, some 1)], [(23, some 2)], [(24, some 3)], [(3, none), (25, some 4)], [(26, some 5), (25, some 4)], [(25, some 4), (27, some 6)], [(28, some 7)], [(3, none), (29, some 8)], [(30, some 9), (29, some 8)], [(29, some 8), (31, some 10)], [(32, some 11)], [(1, none), (33, some 12)], [(34, some 13), (33, some 12)], [(35, some 14), (33, some 12)], [(33, some 12), (36, some 15)], [(37, some 16)], [(1, none), (38, some 17)], [(39, some 18), (38, some 17)], [(40, some 19), (38, some 17)], [(41, some 20), (38, some 17)], [(42, some 21), (38, some 17)], [(1, none), (38, some 17)], [(44, some 23), (38, some 17)], [(43, some 22), (45, some 24), (38, some 17)], [(38, some 17), (46, some 25)], [(47, some 26)], [(1, none), (48, some 27)], [(49, some 28), (48, some 27)], [(3, none), (48, some 27)], [(51, some 30), (48, some 27)], [(50, some 29), (52, some 31), (48, some 27)], [(53, some 32), (48, some 27)], [(54, some 33), (48, some 27)], [(1, none), (48, some 27)], [(56, some 35), (48, some 27)], [(55, some 34), (57, some 36), (48, some 27)], [(48, some 27), (58, some 37)], [(59, some 38)]] [] [(kEq (.pointer (some ⟨g26, (0 + 5), none⟩))), (kEq s.av.1), (kEq (iV (s.d.Aggs.length : Int))), (kEq (.bool (decide ((s.d.Aggs.length : Int) = 0)))), (kEq (.bool (decide ((s.d.Aggs.length : Int) = 0)))), (kEq (bif g32 then (iV (s.d.Samples.length : Int)) else undef)), (kEq (bif g32 then (.bool (decide (1 ≤ (s.d.Samples.length : Int)))) else undef)), (kEq (.bool g34)), (kEq (.bool g34)), (kEq (bif g34 then (iV (s.d.Samples.length : Int)) else undef)), (kEq (bif g34 then (.bool (decide ((s.d.Samples.length : Int) ≤ 64))) else undef)), (kEq (.bool g36)), (kEq (.bool g36)), (kEq (bif g36 then (.pointer (some ⟨g26, (0 + 4), none⟩)) else undef)), (kEq (bif g36 then s.sv.1 else undef)), (kEq (bif g36 then (.bool (risingA s.d.Samples)) else undef)), (kEq (.bool g39)), (kEq (.bool g39)), (kEq (bif g39 then (.pointer (some ⟨g26, (0 + 4), none⟩)) else undef)), (kEq (bif g39 then s.sv.1 else undef)), (kPtc w0 g39 [(iV ((gd s.d.Samples 0).T)), (iV ((gd s.d.Samples 0).V))]), (kPtc w0 g39 [(iV ((gd s.d.Samples 0).T)), (iV ((gd s.d.Samples 0).V))]), (kEq (bif g39 then (iV ((gd s.d.Samples 0).T)) else undef)), (kEq (bif g39 then (.pointer (some ⟨g26, (0 + 2), none⟩)) else undef)), (kEq (bif g39 then (iV s.d.From) else undef)), (kEq (bif g39 then (.bool (decide (s.d.From ≤ ((gd s.d.Samples 0).T)))) else undef)), (kEq (.bool g80)), (kEq (.bool g80)), (kEq (bif g80 then (.pointer (some ⟨g26, (0 + 4), none⟩)) else undef)), (kEq (bif g80 then s.sv.1 else undef)), (kEq (bif g80 then (iV (s.d.Samples.length : Int)) else undef)), (kEq (bif g80 then (iV ((s.d.Samples.length : Int) - 1)) else undef)), (kPtc w0 g80 [(iV ((gd s.d.Samples (s.d.Samples.length - 1)).T)), (iV ((gd s.d.Samples (s.d.Samples.length - 1)).V))]), (kPtc w0 g80 [(iV ((gd s.d.Samples (s.d.Samples.length - 1)).T)), (iV ((gd s.d.Samples (s.d.Samples.length - 1)).V))]), (kEq (bif g80 then (iV ((gd s.d.Samples (s.d.Samples.length - 1)).T)) else undef)), (kEq (bif g80 then (.pointer (some ⟨g26, (0 + 3), none⟩)) else undef)), (kEq (bif g80 then (iV s.d.To) else undef)), (kEq (bif g80 then (.bool (decide (((gd s.d.Samples (s.d.Samples.length - 1)).T) < s.d.To))) else undef)), (kEq (.bool g201)), (kEq (.bool g201))] ⟨mEq, mEq, mEq, mEq, mEq, mEq, mEq, mEq, mEq, mEq, mEq, mEq, mEq, mEq, mEq, mEq, mEq, mEq, mEq, mEq, mPtc, mPtc, mEq, mEq, mEq, mEq, mEq, mEq, mEq, mEq, mEq, mEq, mPtc, mPtc, mEq, mEq, mEq, mEq, mEq, mEq, trivial⟩ (by kernel_rfl) rfl (by kernel_rfl) ⟨hst.drewW.sub (.cons_cons _ .slnil), hst.drewW⟩ (fun hM => ⟨?_, ?_, ?_, ?_, ?_, ?_, ?_, ?_, ?_, ?_, ?_, ?_, ?_, ?_, ?_, ?_, ?_, ?_, ?_, ?_, ?_, ?_, ?_, ?_, ?_, ?_, ?_, ?_, ?_, ?_, ?_, ?_, ?_, ?_, ?_, ?_, ?_, ?_, ?_, ?_, trivial⟩) ?_
   ·rintro D ρo wo nD eD cD jD aD ⟨f1, _⟩
    exact go_plain (op_fieldAddr (s := 0) Try.underlying76 rfl rfl Try.sizeOf74 (f1.trans rfl) (kN0 (i := 0) hM (by decide) (by exact jD) (by exact rfl)))
   ·rintro D ρo wo nD eD cD jD aD ⟨f21, _⟩
    have hst := jD.2 
    exact go_plain (op_load1 (u := s.av.1) Try.isAgg74 f21 ((hst.cell 0 rfl).drop 5) (kN0 (i := 1) hM (by decide) (by exact jD) (by exact rfl)))
   ·rintro D ρo wo nD eD cD jD aD ⟨f22, _⟩
    exact go_plain (op_len (E := aggE) (xs := s.d.Aggs) Try.underlying74 f22 h_s.2 (kN0 (i := 2) hM (by decide) (by exact jD) (by exact rfl)))
   ·rintro D ρo wo nD eD cD jD aD ⟨f23, _⟩
    exact go_plain (op_eql (k := .i64) (a := (s.d.Aggs.length : Int)) (b := 0) f23 rfl (kN0 (i := 3) hM (by decide) (by exact jD) (by exact rfl)))
   ·rintro D ρo wo nD eD cD jD aD ⟨f24, _⟩
    exact go_plain (op_move (.bool (decide ((s.d.Aggs.length : Int) = 0))) f24 (kN0 (i := 4) hM (by decide) (by exact jD) (by exact rfl)))
   ·rintro D ρo wo nD eD cD jD aD ⟨f3, f25, _⟩
    refine go_lz 25 rfl ((gA_t f25).trans hg33.symm) ?_ (fun hc204 => (kN0 (i := 5) hM (by decide) (by exact jD) (by exact (gf hc204).symm)))
    intro hc204
    exact id (op_move (iV (s.d.Samples.length : Int)) (f3.trans rfl) (kN0 (i := 5) hM (by decide) (by exact jD) (by exact (gt hc204).symm)))
   ·rintro D ρo wo nD eD cD jD aD ⟨f26, f25, _⟩
    refine go_lz 25 rfl ((gA_t f25).trans hg33.symm) ?_ (fun hc205 => (kN0 (i := 6) hM (by decide) (by exact jD) (by exact (gf hc205).symm)))
    intro hc205
    exact id (op_geq (k := .i64) (a := (s.d.Samples.length : Int)) (b := 1) (f26.trans (gt hc205)) rfl (kN0 (i := 6) hM (by decide) (by exact jD) (by exact (gt hc205).symm)))
   ·rintro D ρo wo nD eD cD jD aD ⟨f25, f27, _⟩
    refine go_plain (op_pick_and f25 f27 (fun hp => (hg33.trans hp)) rfl ?_)
    exact (kN0 (i := 7) hM (by decide) (by exact jD) (by exact (congrArg Value.bool hg35.symm)))
   ·rintro D ρo wo nD eD cD jD aD ⟨f28, _⟩
    exact go_plain (op_move (.bool g34) f28 (kN0 (i := 8) hM (by decide) (by exact jD) (by exact rfl)))
   ·rintro D ρo wo nD eD cD jD aD ⟨f3, f29, _⟩
    refine go_lz 29 rfl (gA_t f29) ?_ (fun hc206 => (kN0 (i := 9) hM (by decide) (by exact jD) (by exact (gf hc206).symm)))
    intro hc206
    exact id (op_move (iV (s.d.Samples.length : Int)) (f3.trans rfl) (kN0 (i := 9) hM (by decide) (by exact jD) (by exact (gt hc206).symm)))
   ·rintro D ρo wo nD eD cD jD aD ⟨f30, f29, _⟩
    refine go_lz 29 rfl (gA_t f29) ?_ (fun hc207 => (kN0 (i := 10) hM (by decide) (by exact jD) (by exact (gf hc207).symm)))
    intro hc207
    exact id (op_leq (k := .i64) (a := (s.d.Samples.length : Int)) (b := 64) (f30.trans (gt hc207)) rfl (kN0 (i := 10) hM (by decide) (by exact jD) (by exact (gt hc207).symm)))
   ·rintro D ρo wo nD eD cD jD aD ⟨f29, f31, _⟩
    refine go_plain (op_pick_and f29 f31 (fun hp => hp) rfl ?_)
    exact (kN0 (i := 11) hM (by decide) (by exact jD) (by exact (congrArg Value.bool hg37.symm)))
   ·rintro D ρo wo nD eD cD jD aD ⟨f32, _⟩
    exact go_plain (op_move (.bool g36) f32 (kN0 (i := 12) hM (by decide) (by exact jD) (by exact rfl)))
   ·rintro D ρo wo nD eD cD jD aD ⟨f1, f33, _⟩
    refine go_lz 33 rfl (gA_t f33) ?_ (fun hc208 => (kN0 (i := 13) hM (by decide) (by exact jD) (by exact (gf hc208).symm)))
    intro hc208
    exact id (op_fieldAddr (s := 0) Try.underlying76 rfl rfl Try.sizeOf23 (f1.trans rfl) (kN0 (i := 13) hM (by decide) (by exact jD) (by exact (gt hc208).symm)))
   ·rintro D ρo wo nD eD cD jD aD ⟨f34, f33, _⟩
    refine go_lz 33 rfl (gA_t f33) ?_ (fun hc209 => (kN0 (i := 14) hM (by decide) (by exact jD) (by exact (gf hc209).symm)))
    intro hc209
    have hst := jD.2 
    exact id (op_load1 (u := s.sv.1) Try.isAgg23 (f34.trans (gt hc209)) ((hst.cell 0 rfl).drop 4) (kN0 (i := 14) hM (by decide) (by exact jD) (by exact (gt hc209).symm)))
   ·rintro D ρo wo nD eD cD jD aD ⟨f35, f33, _⟩
    refine go_lz 33 rfl (gA_t f33) ?_ (fun hc210 => (kN0 (i := 15) hM (by decide) (by exact jD) (by exact (gf hc210).symm)))
    intro hc210
    have c211 : (s.d.Aggs.length : Int) = 0 := of_decide_eq_true (and_l (hg35.symm.trans (and_l (hg37.symm.trans hc210))))
    have c212 : 1 ≤ (s.d.Samples.length : Int) := of_decide_eq_true (and_r (hg35.symm.trans (and_l (hg37.symm.trans hc210))))
    have c213 : (s.d.Samples.length : Int) ≤ 64 := of_decide_eq_true (and_r (hg37.symm.trans hc210))
    have hst := jD.2 
    refine id (op_call Try.call20 (evs_cons (v := s.sv.1) (f35.trans (gt hc210)) evs_nil) (c_Rising (w0 := wo) (v_l := s.sv.1) (l := s.d.Samples) (h_l := (h_s.1.below hst.below))) ?_)
    rintro _ w214 ⟨rfl, hcall⟩
    refine ⟨_, rfl, ?_⟩
    exact kN (i := 15) hM (by decide) hcall.below (by exact ⟨(jD.1).ext hcall.below, (jD.2).ext hcall.below⟩) (by exact (gt hc210).symm)
   ·rintro D ρo wo nD eD cD jD aD ⟨f33, f36, _⟩
    refine go_plain (op_pick_and f33 f36 (fun hp => hp) rfl ?_)
    exact (kN0 (i := 16) hM (by decide) (by exact jD) (by exact (congrArg Value.bool hg40.symm)))
   ·rintro D ρo wo nD eD cD jD aD ⟨f37, _⟩
    exact go_plain (op_move (.bool g39) f37 (kN0 (i := 17) hM (by decide) (by exact jD) (by exact rfl)))
   ·rintro D ρo wo nD eD cD jD aD ⟨f1, f38, _⟩
    refine go_lz 38 rfl (gA_t f38) ?_ (fun hc215 => (kN0 (i := 18) hM (by decide) (by exact jD) (by exact (gf hc215).symm)))
    intro hc215
    exact id (op_fieldAddr (s := 0) Try.underlying76 rfl rfl Try.sizeOf23 (f1.trans rfl) (kN0 (i := 18) hM (by decide) (by exact jD) (by exact (gt hc215).symm)))
   ·rintro D ρo wo nD eD cD jD aD ⟨f39, f38, _⟩
    refine go_lz 38 rfl (gA_t f38) ?_ (fun hc216 => (kN0 (i := 19) hM (by decide) (by exact jD) (by exact (gf hc216).symm)))
    intro hc216
    have hst := jD.2 
    exact id (op_load1 (u := s.sv.1) Try.isAgg23 (f39.trans (gt hc216)) ((hst.cell 0 rfl).drop 4) (kN0 (i := 19) hM (by decide) (by exact jD) (by exact (gt hc216).symm)))
   ·rintro D ρo wo nD eD cD jD aD ⟨f40, f38, _⟩
    refine go_lz 38 rfl (gA_t f38) ?_ (fun hc217 => (kN0 (i := 20) hM (by decide) (by exact jD) (by exact fun h => absurd (show _ = true from h) (by rw [hc217]; decide))))
    intro hc217
    have c218 : (s.d.Aggs.length : Int) = 0 := of_decide_eq_true (and_l (hg35.symm.trans (and_l (hg37.symm.trans (and_l (hg40.symm.trans hc217))))))
    have c219 : 1 ≤ (s.d.Samples.length : Int) := of_decide_eq_true (and_r (hg35.symm.trans (and_l (hg37.symm.trans (and_l (hg40.symm.trans hc217))))))
    have c220 : (s.d.Samples.length : Int) ≤ 64 := of_decide_eq_true (and_r (hg37.symm.trans (and_l (hg40.symm.trans hc217))))
    have c221 : (risingA s.d.Samples) = true := (and_r (hg40.symm.trans hc217))
    refine id (op_indexAddrD (E := sampE) (xs := s.d.Samples) 0 Try.underlying23 Try.sizeOf51 (f40.trans (gt hc217)) h_s.1 rfl (by omega) (by omega) (fun a222 o223 p224 => ?_))
    exact (kN0 (i := 20) hM (by decide) (by exact jD) (by exact fun _ => ⟨_, _, rfl, p224⟩))
   ·rintro D ρo wo nD eD cD jD aD ⟨f41, f38, _⟩
    refine go_lz 38 rfl (gA_t f38) ?_ (fun hc225 => (kN0 (i := 21) hM (by decide) (by exact jD) (by exact fun h => absurd (show _ = true from h) (by rw [hc225]; decide))))
    intro hc225
    obtain ⟨a226, o227, e228, p229⟩ := f41 hc225
    exact id (op_fieldAddr (s := 0) Try.underlying51 rfl rfl Try.sizeOf2 e228 (kN0 (i := 21) hM (by decide) (by exact jD) (by exact fun _ => ⟨_, _, rfl, p229⟩)))
   ·rintro D ρo wo nD eD cD jD aD ⟨f42, f38, _⟩
    refine go_lz 38 rfl (gA_t f38) ?_ (fun hc230 => (kN0 (i := 22) hM (by decide) (by exact jD) (by exact (gf hc230).symm)))
    intro hc230
    have hst := jD.2 
    obtain ⟨a231, o232, e233, p234⟩ := f42 hc230
    exact id (op_load1 (u := (iV ((gd s.d.Samples 0).T))) Try.isAgg2 e233 (p234.below hst.below) (kN0 (i := 22) hM (by decide) (by exact jD) (by exact (gt hc230).symm)))
   ·rintro D ρo wo nD eD cD jD aD ⟨f1, f38, _⟩
    refine go_lz 38 rfl (gA_t f38) ?_ (fun hc235 => (kN0 (i := 23) hM (by decide) (by exact jD) (by exact (gf hc235).symm)))
    intro hc235
    exact id (op_fieldAddr (s := 0) Try.underlying76 rfl rfl Try.sizeOf2 (f1.trans rfl) (kN0 (i := 23) hM (by decide) (by exact jD) (by exact (gt hc235).symm)))
   ·rintro D ρo wo nD eD cD jD aD ⟨f44, f38, _⟩
    refine go_lz 38 rfl (gA_t f38) ?_ (fun hc236 => (kN0 (i := 24) hM (by decide) (by exact jD) (by exact (gf hc236).symm)))
    intro hc236
    have hst := jD.2 
    exact id (op_load1 (u := (iV s.d.From)) Try.isAgg2 (f44.trans (gt hc236)) ((hst.cell 0 rfl).drop 2) (kN0 (i := 24) hM (by decide) (by exact jD) (by exact (gt hc236).symm)))
   ·rintro D ρo wo nD eD cD jD aD ⟨f43, f45, f38, _⟩
    refine go_lz 38 rfl (gA_t f38) ?_ (fun hc237 => (kN0 (i := 25) hM (by decide) (by exact jD) (by exact (gf hc237).symm)))
    intro hc237
    exact id (op_geq (k := .i64) (a := (gd s.d.Samples 0).T) (b := s.d.From) (f43.trans (gt hc237)) (f45.trans (gt hc237)) (kN0 (i := 25) hM (by decide) (by exact jD) (by exact (gt hc237).symm)))
   ·rintro D ρo wo nD eD cD jD aD ⟨f38, f46, _⟩
    refine go_plain (op_pick_and f38 f46 (fun hp => hp) rfl ?_)
    exact (kN0 (i := 26) hM (by decide) (by exact jD) (by exact (congrArg Value.bool hg81.symm)))
   ·rintro D ρo wo nD eD cD jD aD ⟨f47, _⟩
    exact go_plain (op_move (.bool g80) f47 (kN0 (i := 27) hM (by decide) (by exact jD) (by exact rfl)))
   ·rintro D ρo wo nD eD cD jD aD ⟨f1, f48, _⟩
    refine go_lz 48 rfl (gA_t f48) ?_ (fun hc238 => (kN0 (i := 28) hM (by decide) (by exact jD) (by exact (gf hc238).symm)))
    intro hc238
    exact id (op_fieldAddr (s := 0) Try.underlying76 rfl rfl Try.sizeOf23 (f1.trans rfl) (kN0 (i := 28) hM (by decide) (by exact jD) (by exact (gt hc238).symm)))
   ·rintro D ρo wo nD eD cD jD aD ⟨f49, f48, _⟩
    refine go_lz 48 rfl (gA_t f48) ?_ (fun hc239 => (kN0 (i := 29) hM (by decide) (by exact jD) (by exact (gf hc239).symm)))
    intro hc239
    have hst := jD.2 
    exact id (op_load1 (u := s.sv.1) Try.isAgg23 (f49.trans (gt hc239)) ((hst.cell 0 rfl).drop 4) (kN0 (i := 29) hM (by decide) (by exact jD) (by exact (gt hc239).symm)))
   ·rintro D ρo wo nD eD cD jD aD ⟨f3, f48, _⟩
    refine go_lz 48 rfl (gA_t f48) ?_ (fun hc240 => (kN0 (i := 30) hM (by decide) (by exact jD) (by exact (gf hc240).symm)))
    intro hc240
    exact id (op_move (iV (s.d.Samples.length : Int)) (f3.trans rfl) (kN0 (i := 30) hM (by decide) (by exact jD) (by exact (gt hc240).symm)))
   ·rintro D ρo wo nD eD cD jD aD ⟨f51, f48, _⟩
    refine go_lz 48 rfl (gA_t f48) ?_ (fun hc241 => (kN0 (i := 31) hM (by decide) (by exact jD) (by exact (gf hc241).symm)))
    intro hc241
    have c242 : (s.d.Aggs.length : Int) = 0 := of_decide_eq_true (and_l (hg35.symm.trans (and_l (hg37.symm.trans (and_l (hg40.symm.trans (and_l (hg81.symm.trans hc241))))))))
    have c243 : 1 ≤ (s.d.Samples.length : Int) := of_decide_eq_true (and_r (hg35.symm.trans (and_l (hg37.symm.trans (and_l (hg40.symm.trans (and_l (hg81.symm.trans hc241))))))))
    have c244 : (s.d.Samples.length : Int) ≤ 64 := of_decide_eq_true (and_r (hg37.symm.trans (and_l (hg40.symm.trans (and_l (hg81.symm.trans hc241))))))
    have c245 : (risingA s.d.Samples) = true := (and_r (hg40.symm.trans (and_l (hg81.symm.trans hc241))))
    have c246 : s.d.From ≤ ((gd s.d.Samples 0).T) := of_decide_eq_true (and_r (hg81.symm.trans hc241))
    exact id (op_sub (k := .i64) (a := (s.d.Samples.length : Int)) (b := 1) ((s.d.Samples.length : Int) - 1) (f51.trans (gt hc241)) rfl (xi64 (by omega) (by omega)) (kN0 (i := 31) hM (by decide) (by exact jD) (by exact (gt hc241).symm)))
   ·rintro D ρo wo nD eD cD jD aD ⟨f50, f52, f48, _⟩
    refine go_lz 48 rfl (gA_t f48) ?_ (fun hc247 => (kN0 (i := 32) hM (by decide) (by exact jD) (by exact fun h => absurd (show _ = true from h) (by rw [hc247]; decide))))
    intro hc247
    have c248 : (s.d.Aggs.length : Int) = 0 := of_decide_eq_true (and_l (hg35.symm.trans (and_l (hg37.symm.trans (and_l (hg40.symm.trans (and_l (hg81.symm.trans hc247))))))))
    have c249 : 1 ≤ (s.d.Samples.length : Int) := of_decide_eq_true (and_r (hg35.symm.trans (and_l (hg37.symm.trans (and_l (hg40.symm.trans (and_l (hg81.symm.trans hc247))))))))
    have c250 : (s.d.Samples.length : Int) ≤ 64 := of_decide_eq_true (and_r (hg37.symm.trans (and_l (hg40.symm.trans (and_l (hg81.symm.trans hc247))))))
    have c251 : (risingA s.d.Samples) = true := (and_r (hg40.symm.trans (and_l (hg81.symm.trans hc247))))
    have c252 : s.d.From ≤ ((gd s.d.Samples 0).T) := of_decide_eq_true (and_r (hg81.symm.trans hc247))
    refine id (op_indexAddrD (E := sampE) (xs := s.d.Samples) (s.d.Samples.length - 1) Try.underlying23 Try.sizeOf51 (f50.trans (gt hc247)) h_s.1 (f52.trans (gt hc247)) (by omega) (by omega) (fun a253 o254 p255 => ?_))
    exact (kN0 (i := 32) hM (by decide) (by exact jD) (by exact fun _ => ⟨_, _, rfl, p255⟩))
   ·rintro D ρo wo nD eD cD jD aD ⟨f53, f48, _⟩
    refine go_lz 48 rfl (gA_t f48) ?_ (fun hc256 => (kN0 (i := 33) hM (by decide) (by exact jD) (by exact fun h => absurd (show _ = true from h) (by rw [hc256]; decide))))
    intro hc256
    obtain ⟨a257, o258, e259, p260⟩ := f53 hc256
    exact id (op_fieldAddr (s := 0) Try.underlying51 rfl rfl Try.sizeOf2 e259 (kN0 (i := 33) hM (by decide) (by exact jD) (by exact fun _ => ⟨_, _, rfl, p260⟩)))
   ·rintro D ρo wo nD eD cD jD aD ⟨f54, f48, _⟩
    refine go_lz 48 rfl (gA_t f48) ?_ (fun hc261 => (kN0 (i := 34) hM (by decide) (by exact jD) (by exact (gf hc261).symm)))
    intro hc261
    have hst := jD.2 
    obtain ⟨a262, o263, e264, p265⟩ := f54 hc261
    exact id (op_load1 (u := (iV ((gd s.d.Samples (s.d.Samples.length - 1)).T))) Try.isAgg2 e264 (p265.below hst.below) (kN0 (i := 34) hM (by decide) (by exact jD) (by exact (gt hc261).symm)))
   ·rintro D ρo wo nD eD cD jD aD ⟨f1, f48, _⟩
    refine go_lz 48 rfl (gA_t f48) ?_ (fun hc266 => (kN0 (i := 35) hM (by decide) (by exact jD) (by exact (gf hc266).symm)))
    intro hc266
    exact id (op_fieldAddr (s := 0) Try.underlying76 rfl rfl Try.sizeOf2 (f1.trans rfl) (kN0 (i := 35) hM (by decide) (by exact jD) (by exact (gt hc266).symm)))
   ·rintro D ρo wo nD eD cD jD aD ⟨f56, f48, _⟩
    refine go_lz 48 rfl (gA_t f48) ?_ (fun hc267 => (kN0 (i := 36) hM (by decide) (by exact jD) (by exact (gf hc267).symm)))
    intro hc267
    have hst := jD.2 
    exact id (op_load1 (u := (iV s.d.To)) Try.isAgg2 (f56.trans (gt hc267)) ((hst.cell 0 rfl).drop 3) (kN0 (i := 36) hM (by decide) (by exact jD) (by exact (gt hc267).symm)))
   ·rintro D ρo wo nD eD cD jD aD ⟨f55, f57, f48, _⟩
    refine go_lz 48 rfl (gA_t f48) ?_ (fun hc268 => (kN0 (i := 37) hM (by decide) (by exact jD) (by exact (gf hc268).symm)))
    intro hc268
    exact id (op_lss (k := .i64) (a := (gd s.d.Samples (s.d.Samples.length - 1)).T) (b := s.d.To) (f55.trans (gt hc268)) (f57.trans (gt hc268)) (kN0 (i := 37) hM (by decide) (by exact jD) (by exact (gt hc268).symm)))
   ·rintro D ρo wo nD eD cD jD aD ⟨f48, f58, _⟩
    refine go_plain (op_pick_and f48 f58 (fun hp => hp) rfl ?_)
    exact (kN0 (i := 38) hM (by decide) (by exact jD) (by exact (congrArg Value.bool hg202.symm)))
   ·rintro D ρo wo nD eD cD jD aD ⟨f59, _⟩
    exact go_plain (op_assign (.bool g201) f59 (kN0 (i := 39) hM (by decide) (by exact jD) (by exact rfl)))
   intro ρ269 w270 Dw270 hallw270 hJw270 hRw270 hkw270
   have hst : St w0 w270 [.blk g26 76 #[(iV s.d.Id), (iV s.d.Tier), (iV s.d.From), (iV s.d.To), s.sv.1, s.av.1]] := hJw270.2 
   have uw270_2 : ρ269 2 = (.bool g201) := hRw270 39 2 rfl
   refine then_n (cE_ret (then_r (post_r _ (res1 (v := (.bool g201)) uw270_2) ?_)))
   exact ⟨(retv1 (congrArg Value.bool (show g201 = (mayS s.d) from by (rw [hg202, hg81, hg40, hg37, hg35]; exact Eq.symm (may_raw (by assumption) (by omega)))))), hst.bare⟩
  have c271 := of_decide_eq_false b30
  refine cE_cond false (congrArg Value.bool b30) (fun h => by cases h) (fun _ => ?_)
  refine cE_skip (then_n (cE_seq (cE_region rfl (s_cons (op_fieldAddr (s := 0) Try.underlying76 rfl rfl Try.sizeOf74 rfl (s_cons (op_load1 (u := s.av.1) Try.isAgg74 rfl ((hst.cell 0 rfl).drop 5) (s_cons (op_len (E := aggE) (xs := s.d.Aggs) Try.underlying74 rfl h_s.2 (s_cons (op_assign (iV (s.d.Aggs.length : Int)) rfl (s_nil (then_n (cE_seq ?_))))))))))))))
  obtain ⟨g272, hg273⟩ : ∃ x : Bool, x = decide ((s.d.Samples.length : Int) = 0) := ⟨_, rfl⟩
  obtain ⟨g274, hg275⟩ : ∃ x : Bool, x = ((decide ((s.d.Samples.length : Int) = 0)) && (decide (1 ≤ (s.d.Aggs.length : Int)))) := ⟨_, rfl⟩
  obtain ⟨g276, hg277⟩ : ∃ x : Bool, x = (g274 && (decide ((s.d.Aggs.length : Int) ≤ 64))) := ⟨_, rfl⟩
  obtain ⟨g279, hg280⟩ : ∃ x : Bool, x = (g276 && (alignedA s.d.Aggs s.d.Tier)) := ⟨_, rfl⟩
  obtain ⟨g345, hg346⟩ : ∃ x : Bool, x = (g279 && (decide ((floorA s.d.From s.d.Tier) ≤ ((gd s.d.Aggs 0).From)))) := ⟨_, rfl⟩
  obtain ⟨g466, hg467⟩ : ∃ x : Bool, x = (g345 && (decide (((gd s.d.Aggs (s.d.Aggs.length - 1)).From) < s.d.To))) := ⟨_, rfl⟩
  refine cE_regionM (fun (D : Nat → Bool) (w : World) => St w0 w [.blk g26 76 #[(iV s.d.Id), (iV s.d.Tier), (iV s.d.From), (iV s.d.To), s.sv.1, s.av.1]] ∧ (St w0 w [.blk g26 76 #[(iV s.d.Id), (iV s.d.Tier), (iV s.d.From), (iV s.d.To), s.sv.1, s.av.1]])) [[(1, none)], [(63, some 0)], [(64, some 1)], [(65, some 2)], [(66, some 3)], [(4, none), (67, some 4)], [(68, some 5), (67, some 4)], [(67, some 4), (69, some 6)], [(70, some 7)], [(4, none), (71, some 8)], [(72, some 9), (71, some 8)], [(71, some 8), (73, some 10)], [(74, some 11)], [(1, none), (75, some 12)], [(76, some 13), (75, some 12)], [(1, none), (75, some 12)], [(78, some 15), (75, some 12)], [(77, some 14), (79, some 16), (75, some 12)], [(75, some 12), (80, some 17)], [(81, some 18)], [(1, none), (82, some 19)], [(83, some 20), (82, some 19)], [(84, some 21), (82, some 19)], [(85, some 22), (82, some 19)], [(86, some 23), (82, some 19)], [(1, none), (82, some 19)], [(88, some 25), (82, some 19)], [(1, none), (82, some 19)], [(90, some 27), (82, some 19)], [(89, some 26), (91, some 28), (82, some 19)], [(87, some 24), (92, some 29), (82, some 19)], [(82, some 19), (93, some 30)], [(94, some 31)], [(1, none), (95, some 32)], [(96, some 33), (95, some 32)], [(4, none), (95, some 32)], [(98, some 35), (95, some 32)], [(97, some 34), (99, some 36), (95, some 32)], [(100, some 37), (95, some 32)], [(101, some 38), (95, some 32)], [(1, none), (95, some 32)], [(103, some 40), (95, some 32)], [(102, some 39), (104, some 41), (95, some 32)], [(95, some 32), (105, some 42)], [(106, some 43)]] [] [(kEq (.pointer (some ⟨g26, (0 + 4), none⟩))), (kEq s.sv.1), (kEq (iV (s.d.Samples.length : Int))), (kEq (.bool (decide ((s.d.Samples.length : Int) = 0)))), (kEq (.bool (decide ((s.d.Samples.length : Int) = 0)))), (kEq (bif g272 then (iV (s.d.Aggs.length : Int)) else undef)), (kEq (bif g272 then (.bool (decide (1 ≤ (s.d.Aggs.length : Int)))) else undef)), (kEq (.bool g274)), (kEq (.bool g274)), (kEq (bif g274 then (iV (s.d.Aggs.length : Int)) else undef)), (kEq (bif g274 then (.bool (decide ((s.d.Aggs.length : Int) ≤ 64))) else undef)), (kEq (.bool g276)), (kEq (.bool g276)), (kEq (bif g276 then (.pointer (some ⟨g26, (0 + 5), none⟩)) else undef)), (kEq (bif g276 then s.av.1 else undef)), (kEq (bif g276 then (.pointer (some ⟨g26, (0 + 1), none⟩)) else undef)), (kEq (bif g276 then (iV s.d.Tier) else undef)), (kEq (bif g276 then (.bool (alignedA s.d.Aggs s.d.Tier)) else undef)), (kEq (.bool g279)), (kEq (.bool g279)), (kEq (bif g279 then (.pointer (some ⟨g26, (0 + 5), none⟩)) else undef)), (kEq (bif g279 then s.av.1 else undef)), (kPtc w0 g279 (aggC (gd s.d.Aggs 0))), (kPtc w0 g279 (aggC (gd s.d.Aggs 0))), (kEq (bif g279 then (iV ((gd s.d.Aggs 0).From)) else undef)), (kEq (bif g279 then (.pointer (some ⟨g26, (0 + 2), none⟩)) else undef)), (kEq (bif g279 then (iV s.d.From) else undef)), (kEq (bif g279 then (.pointer (some ⟨g26, (0 + 1), none⟩)) else undef)), (kEq (bif g279 then (iV s.d.Tier) else undef)), (kEq (bif g279 then (iV (floorA s.d.From s.d.Tier)) else undef)), (kEq (bif g279 then (.bool (decide ((floorA s.d.From s.d.Tier) ≤ ((gd s.d.Aggs 0).From)))) else undef)), (kEq (.bool g345)), (kEq (.bool g345)), (kEq (bif g345 then (.pointer (some ⟨g26, (0 + 5), none⟩)) else undef)), (kEq (bif g345 then s.av.1 else undef)), (kEq (bif g345 then (iV (s.d.Aggs.length : Int)) else undef)), (kEq (bif g345 then (iV ((s.d.Aggs.length : Int) - 1)) else undef)), (kPtc w0 g345 (aggC (gd s.d.Aggs (s.d.Aggs.length - 1)))), (kPtc w0 g345 (aggC (gd s.d.Aggs (s.d.Aggs.length - 1)))), (kEq (bif g345 then (iV ((gd s.d.Aggs (s.d.Aggs.length - 1)).From)) else undef)), (kEq (bif g345 then (.pointer (some ⟨g26, (0 + 3), none⟩)) else undef)), (kEq (bif g345 then (iV s.d.To) else undef)), (kEq (bif g345 then (.bool (decide (((gd s.d.Aggs (s.d.Aggs.length - 1)).From) < s.d.To))) else undef)), (kEq (.bool g466)), (kEq (.bool g466))] ⟨mEq, mEq, mEq, mEq, mEq, mEq, mEq, mEq, mEq, mEq, mEq, mEq, mEq, mEq, mEq, mEq, mEq, mEq, mEq, mEq, mEq, mEq, mPtc, mPtc, mEq, mEq, mEq, mEq, mEq, mEq, mEq, mEq, mEq, mEq, mEq, mEq, mEq, mPtc, mPtc, mEq, mEq, mEq, mEq, mEq, mEq, trivial⟩ (by kernel_rfl) rfl (by kernel_rfl) ⟨hst.drewW.sub (.cons_cons _ .slnil), hst.drewW⟩ (fun hM => ⟨?_, ?_, ?_, ?_, ?_, ?_, ?_, ?_, ?_, ?_, ?_, ?_, ?_, ?_, ?_, ?_, ?_, ?_, ?_, ?_, ?_, ?_, ?_, ?_, ?_, ?_, ?_, ?_, ?_, ?_, ?_, ?_, ?_, ?_, ?_, ?_, ?_, ?_, ?_, ?_, ?_, ?_, ?_, ?_, ?_, trivial⟩) ?_
  ·rintro D ρo wo nD eD cD jD aD ⟨f1, _⟩
   exact go_plain (op_fieldAddr (s := 0) Try.underlying76 rfl rfl Try.sizeOf23 (f1.trans rfl) (kN0 (i := 0) hM (by decide) (by exact jD) (by exact rfl)))
  ·rintro D ρo wo nD eD cD jD aD ⟨f63, _⟩
   have hst := jD.2 
   exact go_plain (op_load1 (u := s.sv.1) Try.isAgg23 f63 ((hst.cell 0 rfl).drop 4) (kN0 (i := 1) hM (by decide) (by exact jD) (by exact rfl)))
  ·rintro D ρo wo nD eD cD jD aD ⟨f64, _⟩
   exact go_plain (op_len (E := sampE) (xs := s.d.Samples) Try.underlying23 f64 h_s.1 (kN0 (i := 2) hM (by decide) (by exact jD) (by exact rfl)))
  ·rintro D ρo wo nD eD cD jD aD ⟨f65, _⟩
   exact go_plain (op_eql (k := .i64) (a := (s.d.Samples.length : Int)) (b := 0) f65 rfl (kN0 (i := 3) hM (by decide) (by exact jD) (by exact rfl)))
  ·rintro D ρo wo nD eD cD jD aD ⟨f66, _⟩
   exact go_plain (op_move (.bool (decide ((s.d.Samples.length : Int) = 0))) f66 (kN0 (i := 4) hM (by decide) (by exact jD) (by exact rfl)))
  ·rintro D ρo wo nD eD cD jD aD ⟨f4, f67, _⟩
   refine go_lz 67 rfl ((gA_t f67).trans hg273.symm) ?_ (fun hc469 => (kN0 (i := 5) hM (by decide) (by exact jD) (by exact (gf hc469).symm)))
   intro hc469
   exact id (op_move (iV (s.d.Aggs.length : Int)) (f4.trans rfl) (kN0 (i := 5) hM (by decide) (by exact jD) (by exact (gt hc469).symm)))
  ·rintro D ρo wo nD eD cD jD aD ⟨f68, f67, _⟩
   refine go_lz 67 rfl ((gA_t f67).trans hg273.symm) ?_ (fun hc470 => (kN0 (i := 6) hM (by decide) (by exact jD) (by exact (gf hc470).symm)))
   intro hc470
   exact id (op_geq (k := .i64) (a := (s.d.Aggs.length : Int)) (b := 1) (f68.trans (gt hc470)) rfl (kN0 (i := 6) hM (by decide) (by exact jD) (by exact (gt hc470).symm)))
  ·rintro D ρo wo nD eD cD jD aD ⟨f67, f69, _⟩
   refine go_plain (op_pick_and f67 f69 (fun hp => (hg273.trans hp)) rfl ?_)
   exact (kN0 (i := 7) hM (by decide) (by exact jD) (by exact (congrArg Value.bool hg275.symm)))
  ·rintro D ρo wo nD eD cD jD aD ⟨f70, _⟩
   exact go_plain (op_move (.bool g274) f70 (kN0 (i := 8) hM (by decide) (by exact jD) (by exact rfl)))
  ·rintro D ρo wo nD eD cD jD aD ⟨f4, f71, _⟩
   refine go_lz 71 rfl (gA_t f71) ?_ (fun hc471 => (kN0 (i := 9) hM (by decide) (by exact jD) (by exact (gf hc471).symm)))
   intro hc471
   exact id (op_move (iV (s.d.Aggs.length : Int)) (f4.trans rfl) (kN0 (i := 9) hM (by decide) (by exact jD) (by exact (gt hc471).symm)))
  ·rintro D ρo wo nD eD cD jD aD ⟨f72, f71, _⟩
   refine go_lz 71 rfl (gA_t f71) ?_ (fun hc472 => (kN0 (i := 10) hM (by decide) (by exact jD) (by exact (gf hc472).symm)))
   intro hc472
   exact id (op_leq (k := .i64) (a := (s.d.Aggs.length : Int)) (b := 64) (f72.trans (gt hc472)) rfl (kN0 (i := 10) hM (by decide) (by exact jD) (by exact (gt hc472).symm)))
  ·rintro D ρo wo nD eD cD jD aD ⟨f71, f73, _⟩
   refine go_plain (op_pick_and f71 f73 (fun hp => hp) rfl ?_)
   exact (kN0 (i := 11) hM (by decide) (by exact jD) (by exact (congrArg Value.bool hg277.symm)))
  ·rintro D ρo wo nD eD cD jD aD ⟨f74, _⟩
   exact go_plain (op_move (.bool g276) f74 (kN0 (i := 12) hM (by decide) (by exact jD) (by exact rfl)))
  ·rintro D ρo wo nD eD cD jD aD ⟨f1, f75, _⟩
   refine go_lz 75 rfl (gA_t f75) ?_ (fun hc473 => (kN0 (i := 13) hM (by decide) (by exact jD) (by exact (gf hc473).symm)))
   intro hc473
   exact id (op_fieldAddr (s := 0) Try.underlying76 rfl rfl Try.sizeOf74 (f1.trans rfl) (kN0 (i := 13) hM (by decide) (by exact jD) (by exact (gt hc473).symm)))
  ·rintro D ρo wo nD eD cD jD aD ⟨f76, f75, _⟩
   refine go_lz 75 rfl (gA_t f75) ?_ (fun hc474 => (kN0 (i := 14) hM (by decide) (by exact jD) (by exact (gf hc474).symm)))
   intro hc474
   have hst := jD.2 
   exact id (op_load1 (u := s.av.1) Try.isAgg74 (f76.trans (gt hc474)) ((hst.cell 0 rfl).drop 5) (kN0 (i := 14) hM (by decide) (by exact jD) (by exact (gt hc474).symm)))
  ·rintro D ρo wo nD eD cD jD aD ⟨f1, f75, _⟩
   refine go_lz 75 rfl (gA_t f75) ?_ (fun hc475 => (kN0 (i := 15) hM (by decide) (by exact jD) (by exact (gf hc475).symm)))
   intro hc475
   exact id (op_fieldAddr (s := 0) Try.underlying76 rfl rfl Try.sizeOf3 (f1.trans rfl) (kN0 (i := 15) hM (by decide) (by exact jD) (by exact (gt hc475).symm)))
  ·rintro D ρo wo nD eD cD jD aD ⟨f78, f75, _⟩
   refine go_lz 75 rfl (gA_t f75) ?_ (fun hc476 => (kN0 (i := 16) hM (by decide) (by exact jD) (by exact (gf hc476).symm)))
   intro hc476
   have hst := jD.2 
   exact id (op_load1 (u := (iV s.d.Tier)) Try.isAgg3 (f78.trans (gt hc476)) ((hst.cell 0 rfl).drop 1) (kN0 (i := 16) hM (by decide) (by exact jD) (by exact (gt hc476).symm)))
  ·rintro D ρo wo nD eD cD jD aD ⟨f77, f79, f75, _⟩
   refine go_lz 75 rfl (gA_t f75) ?_ (fun hc477 => (kN0 (i := 17) hM (by decide) (by exact jD) (by exact (gf hc477).symm)))
   intro hc477
   have c478 : (s.d.Samples.length : Int) = 0 := of_decide_eq_true (and_l (hg275.symm.trans (and_l (hg277.symm.trans hc477))))
   have c479 : 1 ≤ (s.d.Aggs.length : Int) := of_decide_eq_true (and_r (hg275.symm.trans (and_l (hg277.symm.trans hc477))))
   have c480 : (s.d.Aggs.length : Int) ≤ 64 := of_decide_eq_true (and_r (hg277.symm.trans hc477))
   have hst := jD.2 
   refine id (op_call Try.call60 (evs_cons (v := s.av.1) (f77.trans (gt hc477)) (evs_cons (v := (iV s.d.Tier)) (f79.trans (gt hc477)) evs_nil)) (c_Aligned (w0 := wo) (v_l := s.av.1) (l := s.d.Aggs) (h_l := (h_s.2.below hst.below)) (k := s.d.Tier) (hl := hs.2.2.2.2.2) (k0 := (by omega)) (k1 := (by omega))) ?_)
   rintro _ w481 ⟨rfl, hcall⟩
   refine ⟨_, rfl, ?_⟩
   exact kN (i := 17) hM (by decide) hcall.below (by exact ⟨(jD.1).ext hcall.below, (jD.2).ext hcall.below⟩) (by exact (gt hc477).symm)
  ·rintro D ρo wo nD eD cD jD aD ⟨f75, f80, _⟩
   refine go_plain (op_pick_and f75 f80 (fun hp => hp) rfl ?_)
   exact (kN0 (i := 18) hM (by decide) (by exact jD) (by exact (congrArg Value.bool hg280.symm)))
  ·rintro D ρo wo nD eD cD jD aD ⟨f81, _⟩
   exact go_plain (op_move (.bool g279) f81 (kN0 (i := 19) hM (by decide) (by exact jD) (by exact rfl)))
  ·rintro D ρo wo nD eD cD jD aD ⟨f1, f82, _⟩
   refine go_lz 82 rfl (gA_t f82) ?_ (fun hc482 => (kN0 (i := 20) hM (by decide) (by exact jD) (by exact (gf hc482).symm)))
   intro hc482
   exact id (op_fieldAddr (s := 0) Try.underlying76 rfl rfl Try.sizeOf74 (f1.trans rfl) (kN0 (i := 20) hM (by decide) (by exact jD) (by exact (gt hc482).symm)))
  ·rintro D ρo wo nD eD cD jD aD ⟨f83, f82, _⟩
   refine go_lz 82 rfl (gA_t f82) ?_ (fun hc483 => (kN0 (i := 21) hM (by decide) (by exact jD) (by exact (gf hc483).symm)))
   intro hc483
   have hst := jD.2 
   exact id (op_load1 (u := s.av.1) Try.isAgg74 (f83.trans (gt hc483)) ((hst.cell 0 rfl).drop 5) (kN0 (i := 21) hM (by decide) (by exact jD) (by exact (gt hc483).symm)))
  ·rintro D ρo wo nD eD cD jD aD ⟨f84, f82, _⟩
   refine go_lz 82 rfl (gA_t f82) ?_ (fun hc484 => (kN0 (i := 22) hM (by decide) (by exact jD) (by exact fun h => absurd (show _ = true from h) (by rw [hc484]; decide))))
   intro hc484
   have c485 : (s.d.Samples.length : Int) = 0 := of_decide_eq_true (and_l (hg275.symm.trans (and_l (hg277.symm.trans (and_l (hg280.symm.trans hc484))))))
   have c486 : 1 ≤ (s.d.Aggs.length : Int) := of_decide_eq_true (and_r (hg275.symm.trans (and_l (hg277.symm.trans (and_l (hg280.symm.trans hc484))))))
   have c487 : (s.d.Aggs.length : Int) ≤ 64 := of_decide_eq_true (and_r (hg277.symm.trans (and_l (hg280.symm.trans hc484))))
   have c488 : (alignedA s.d.Aggs s.d.Tier) = true := (and_r (hg280.symm.trans hc484))
   refine id (op_indexAddrD (E := aggE) (xs := s.d.Aggs) 0 Try.underlying74 Try.sizeOf29 (f84.trans (gt hc484)) h_s.2 rfl (by omega) (by omega) (fun a489 o490 p491 => ?_))
   exact (kN0 (i := 22) hM (by decide) (by exact jD) (by exact fun _ => ⟨_, _, rfl, p491⟩))
  ·rintro D ρo wo nD eD cD jD aD ⟨f85, f82, _⟩
   refine go_lz 82 rfl (gA_t f82) ?_ (fun hc492 => (kN0 (i := 23) hM (by decide) (by exact jD) (by exact fun h => absurd (show _ = true from h) (by rw [hc492]; decide))))
   intro hc492
   obtain ⟨a493, o494, e495, p496⟩ := f85 hc492
   exact id (op_fieldAddr (s := 0) Try.underlying29 rfl rfl Try.sizeOf2 e495 (kN0 (i := 23) hM (by decide) (by exact jD) (by exact fun _ => ⟨_, _, rfl, p496⟩)))
  ·rintro D ρo wo nD eD cD jD aD ⟨f86, f82, _⟩
   refine go_lz 82 rfl (gA_t f82) ?_ (fun hc497 => (kN0 (i := 24) hM (by decide) (by exact jD) (by exact (gf hc497).symm)))
   intro hc497
   have hst := jD.2 
   obtain ⟨a498, o499, e500, p501⟩ := f86 hc497
   exact id (op_load1 (u := (iV ((gd s.d.Aggs 0).From))) Try.isAgg2 e500 (p501.below hst.below) (kN0 (i := 24) hM (by decide) (by exact jD) (by exact (gt hc497).symm)))
  ·rintro D ρo wo nD eD cD jD aD ⟨f1, f82, _⟩
   refine go_lz 82 rfl (gA_t f82) ?_ (fun hc502 => (kN0 (i := 25) hM (by decide) (by exact jD) (by exact (gf hc502).symm)))
   intro hc502
   exact id (op_fieldAddr (s := 0) Try.underlying76 rfl rfl Try.sizeOf2 (f1.trans rfl) (kN0 (i := 25) hM (by decide) (by exact jD) (by exact (gt hc502).symm)))
  ·rintro D ρo wo nD eD cD jD aD ⟨f88, f82, _⟩
   refine go_lz 82 rfl (gA_t f82) ?_ (fun hc503 => (kN0 (i := 26) hM (by decide) (by exact jD) (by exact (gf hc503).symm)))
   intro hc503
   have hst := jD.2 
   exact id (op_load1 (u := (iV s.d.From)) Try.isAgg2 (f88.trans (gt hc503)) ((hst.cell 0 rfl).drop 2) (kN0 (i := 26) hM (by decide) (by exact jD) (by exact (gt hc503).symm)))
  ·rintro D ρo wo nD eD cD jD aD ⟨f1, f82, _⟩
   refine go_lz 82 rfl (gA_t f82) ?_ (fun hc504 => (kN0 (i := 27) hM (by decide) (by exact jD) (by exact (gf hc504).symm)))
   intro hc504
   exact id (op_fieldAddr (s := 0) Try.underlying76 rfl rfl Try.sizeOf3 (f1.trans rfl) (kN0 (i := 27) hM (by decide) (by exact jD) (by exact (gt hc504).symm)))
  ·rintro D ρo wo nD eD cD jD aD ⟨f90, f82, _⟩
   refine go_lz 82 rfl (gA_t f82) ?_ (fun hc505 => (kN0 (i := 28) hM (by decide) (by exact jD) (by exact (gf hc505).symm)))
   intro hc505
   have hst := jD.2 
   exact id (op_load1 (u := (iV s.d.Tier)) Try.isAgg3 (f90.trans (gt hc505)) ((hst.cell 0 rfl).drop 1) (kN0 (i := 28) hM (by decide) (by exact jD) (by exact (gt hc505).symm)))
  ·rintro D ρo wo nD eD cD jD aD ⟨f89, f91, f82, _⟩
   refine go_lz 82 rfl (gA_t f82) ?_ (fun hc506 => (kN0 (i := 29) hM (by decide) (by exact jD) (by exact (gf hc506).symm)))
   intro hc506
   have c507 : (s.d.Samples.length : Int) = 0 := of_decide_eq_true (and_l (hg275.symm.trans (and_l (hg277.symm.trans (and_l (hg280.symm.trans hc506))))))
   have c508 : 1 ≤ (s.d.Aggs.length : Int) := of_decide_eq_true (and_r (hg275.symm.trans (and_l (hg277.symm.trans (and_l (hg280.symm.trans hc506))))))
   have c509 : (s.d.Aggs.length : Int) ≤ 64 := of_decide_eq_true (and_r (hg277.symm.trans (and_l (hg280.symm.trans hc506))))
   have c510 : (alignedA s.d.Aggs s.d.Tier) = true := (and_r (hg280.symm.trans hc506))
   refine id (op_call Try.call42 (evs_cons (v := (iV s.d.From)) (f89.trans (gt hc506)) (evs_cons (v := (iV s.d.Tier)) (f91.trans (gt hc506)) evs_nil)) (c_Floor (w0 := wo) (t := s.d.From) (k := s.d.Tier) (t0 := (by omega)) (k0 := (by omega)) (t1 := (by omega)) (k1 := (by omega))) ?_)
   rintro _ w511 ⟨rfl, hcall⟩
   refine ⟨_, rfl, ?_⟩
   exact kN (i := 29) hM (by decide) hcall.below (by exact ⟨(jD.1).ext hcall.below, (jD.2).ext hcall.below⟩) (by exact (gt hc506).symm)
  ·rintro D ρo wo nD eD cD jD aD ⟨f87, f92, f82, _⟩
   refine go_lz 82 rfl (gA_t f82) ?_ (fun hc512 => (kN0 (i := 30) hM (by decide) (by exact jD) (by exact (gf hc512).symm)))
   intro hc512
   exact id (op_geq (k := .i64) (a := (gd s.d.Aggs 0).From) (b := (floorA s.d.From s.d.Tier)) (f87.trans (gt hc512)) (f92.trans (gt hc512)) (kN0 (i := 30) hM (by decide) (by exact jD) (by exact (gt hc512).symm)))
  ·rintro D ρo wo nD eD cD jD aD ⟨f82, f93, _⟩
   refine go_plain (op_pick_and f82 f93 (fun hp => hp) rfl ?_)
   exact (kN0 (i := 31) hM (by decide) (by exact jD) (by exact (congrArg Value.bool hg346.symm)))
  ·rintro D ρo wo nD eD cD jD aD ⟨f94, _⟩
   exact go_plain (op_move (.bool g345) f94 (kN0 (i := 32) hM (by decide) (by exact jD) (by exact rfl)))
  ·rintro D ρo wo nD eD cD jD aD ⟨f1, f95, _⟩
   refine go_lz 95 rfl (gA_t f95) ?_ (fun hc513 => (kN0 (i := 33) hM (by decide) (by exact jD) (by exact (gf hc513).symm)))
   intro hc513
   exact id (op_fieldAddr (s := 0) Try.underlying76 rfl rfl Try.sizeOf74 (f1.trans rfl) (kN0 (i := 33) hM (by decide) (by exact jD) (by exact (gt hc513).symm)))
  ·rintro D ρo wo nD eD cD jD aD ⟨f96, f95, _⟩
   refine go_lz 95 rfl (gA_t f95) ?_ (fun hc514 => (kN0 (i := 34) hM (by decide) (by exact jD) (by exact (gf hc514).symm)))
   intro hc514
   have hst := jD.2 
   exact id (op_load1 (u := s.av.1) Try.isAgg74 (f96.trans (gt hc514)) ((hst.cell 0 rfl).drop 5) (kN0 (i := 34) hM (by decide) (by exact jD) (by exact (gt hc514).symm)))
  ·rintro D ρo wo nD eD cD jD aD ⟨f4, f95, _⟩
   refine go_lz 95 rfl (gA_t f95) ?_ (fun hc515 => (kN0 (i := 35) hM (by decide) (by exact jD) (by exact (gf hc515).symm)))
   intro hc515
   exact id (op_move (iV (s.d.Aggs.length : Int)) (f4.trans rfl) (kN0 (i := 35) hM (by decide) (by exact jD) (by exact (gt hc515).symm)))
  ·rintro D ρo wo nD eD cD jD aD ⟨f98, f95, _⟩
   refine go_lz 95 rfl (gA_t f95) ?_ (fun hc516 => (kN0 (i := 36) hM (by decide) (by exact jD) (by exact (gf hc516).symm)))
   intro hc516
   have c517 : (s.d.Samples.length : Int) = 0 := of_decide_eq_true (and_l (hg275.symm.trans (and_l (hg277.symm.trans (and_l (hg280.symm.trans (and_l (hg346.symm.trans hc516))))))))
   have c518 : 1 ≤ (s.d.Aggs.length : Int) := of_decide_eq_true (and_r (hg275.symm.trans (and_l (hg277.symm.trans (and_l (hg280.symm.trans (and_l (hg346.symm.trans hc516))))))))
   have c519 : (s.d.Aggs.length : Int) ≤ 64 := of_decide_eq_true (and_r (hg277.symm.trans (and_l (hg280.symm.trans (and_l (hg346.symm.trans hc516))))))
   have c520 : (alignedA s.d.Aggs s.d.Tier) = true := (and_r (hg280.symm.trans (and_l (hg346.symm.trans hc516))))
   have c521 : (floorA s.d.From s.d.Tier) ≤ ((gd s.d.Aggs 0).From) := of_decide_eq_true (and_r (hg346.symm.trans hc516))
   exact id (op_sub (k := .i64) (a := (s.d.Aggs.length : Int)) (b := 1) ((s.d.Aggs.length : Int) - 1) (f98.trans (gt hc516)) rfl (xi64 (by omega) (by omega)) (kN0 (i := 36) hM (by decide) (by exact jD) (by exact (gt hc516).symm)))
  ·rintro D ρo wo nD eD cD jD aD ⟨f97, f99, f95, _⟩
   refine go_lz 95 rfl (gA_t f95) ?_ (fun hc522 => (kN0 (i := 37) hM (by decide) (by exact jD) (by exact fun h => absurd (show _ = true from h) (by rw [hc522]; decide))))
   intro hc522
   have c523 : (s.d.Samples.length : Int) = 0 := of_decide_eq_true (and_l (hg275.symm.trans (and_l (hg277.symm.trans (and_l (hg280.symm.trans (and_l (hg346.symm.trans hc522))))))))
   have c524 : 1 ≤ (s.d.Aggs.length : Int) := of_decide_eq_true (and_r (hg275.symm.trans (and_l (hg277.symm.trans (and_l (hg280.symm.trans (and_l (hg346.symm.trans hc522))))))))
   have c525 : (s.d.Aggs.length : Int) ≤ 64 := of_decide_eq_true (and_r (hg277.symm.trans (and_l (hg280.symm.trans (and_l (hg346.symm.trans hc522))))))
   have c526 : (alignedA s.d.Aggs s.d.Tier) = true := (and_r (hg280.symm.trans (and_l (hg346.symm.trans hc522))))
   have c527 : (floorA s.d.From s.d.Tier) ≤ ((gd s.d.Aggs 0).From) := of_decide_eq_true (and_r (hg346.symm.trans hc522))
   refine id (op_indexAddrD (E := aggE) (xs := s.d.Aggs) (s.d.Aggs.length - 1) Try.underlying74 Try.sizeOf29 (f97.trans (gt hc522)) h_s.2 (f99.trans (gt hc522)) (by omega) (by omega) (fun a528 o529 p530 => ?_))
   exact (kN0 (i := 37) hM (by decide) (by exact jD) (by exact fun _ => ⟨_, _, rfl, p530⟩))
  ·rintro D ρo wo nD eD cD jD aD ⟨f100, f95, _⟩
   refine go_lz 95 rfl (gA_t f95) ?_ (fun hc531 => (kN0 (i := 38) hM (by decide) (by exact jD) (by exact fun h => absurd (show _ = true from h) (by rw [hc531]; decide))))
   intro hc531
   obtain ⟨a532, o533, e534, p535⟩ := f100 hc531
   exact id (op_fieldAddr (s := 0) Try.underlying29 rfl rfl Try.sizeOf2 e534 (kN0 (i := 38) hM (by decide) (by exact jD) (by exact fun _ => ⟨_, _, rfl, p535⟩)))
  ·rintro D ρo wo nD eD cD jD aD ⟨f101, f95, _⟩
   refine go_lz 95 rfl (gA_t f95) ?_ (fun hc536 => (kN0 (i := 39) hM (by decide) (by exact jD) (by exact (gf hc536).symm)))
   intro hc536
   have hst := jD.2 
   obtain ⟨a537, o538, e539, p540⟩ := f101 hc536
   exact id (op_load1 (u := (iV ((gd s.d.Aggs (s.d.Aggs.length - 1)).From))) Try.isAgg2 e539 (p540.below hst.below) (kN0 (i := 39) hM (by decide) (by exact jD) (by exact (gt hc536).symm)))
  ·rintro D ρo wo nD eD cD jD aD ⟨f1, f95, _⟩
   refine go_lz 95 rfl (gA_t f95) ?_ (fun hc541 => (kN0 (i := 40) hM (by decide) (by exact jD) (by exact (gf hc541).symm)))
   intro hc541
   exact id (op_fieldAddr (s := 0) Try.underlying76 rfl rfl Try.sizeOf2 (f1.trans rfl) (kN0 (i := 40) hM (by decide) (by exact jD) (by exact (gt hc541).symm)))
  ·rintro D ρo wo nD eD cD jD aD ⟨f103, f95, _⟩
   refine go_lz 95 rfl (gA_t f95) ?_ (fun hc542 => (kN0 (i := 41) hM (by decide) (by exact jD) (by exact (gf hc542).symm)))
   intro hc542
   have hst := jD.2 
   exact id (op_load1 (u := (iV s.d.To)) Try.isAgg2 (f103.trans (gt hc542)) ((hst.cell 0 rfl).drop 3) (kN0 (i := 41) hM (by decide) (by exact jD) (by exact (gt hc542).symm)))
  ·rintro D ρo wo nD eD cD jD aD ⟨f102, f104, f95, _⟩
   refine go_lz 95 rfl (gA_t f95) ?_ (fun hc543 => (kN0 (i := 42) hM (by decide) (by exact jD) (by exact (gf hc543).symm)))
   intro hc543
   exact id (op_lss (k := .i64) (a := (gd s.d.Aggs (s.d.Aggs.length - 1)).From) (b := s.d.To) (f102.trans (gt hc543)) (f104.trans (gt hc543)) (kN0 (i := 42) hM (by decide) (by exact jD) (by exact (gt hc543).symm)))
  ·rintro D ρo wo nD eD cD jD aD ⟨f95, f105, _⟩
   refine go_plain (op_pick_and f95 f105 (fun hp => hp) rfl ?_)
   exact (kN0 (i := 43) hM (by decide) (by exact jD) (by exact (congrArg Value.bool hg467.symm)))
  ·rintro D ρo wo nD eD cD jD aD ⟨f106, _⟩
   exact go_plain (op_assign (.bool g466) f106 (kN0 (i := 44) hM (by decide) (by exact jD) (by exact rfl)))
  intro ρ544 w545 Dw545 hallw545 hJw545 hRw545 hkw545
  have hst : St w0 w545 [.blk g26 76 #[(iV s.d.Id), (iV s.d.Tier), (iV s.d.From), (iV s.d.To), s.sv.1, s.av.1]] := hJw545.2 
  have uw545_2 : ρ544 2 = (.bool g466) := hRw545 44 2 rfl
  refine then_n (cE_ret (post_r _ (res1 (v := (.bool g466)) uw545_2) ?_))
  exact ⟨(retv1 (congrArg Value.bool (show g466 = (mayS s.d) from by (rw [hg467, hg346, hg280, hg277, hg275]; exact Eq.symm (may_up (by assumption) (by omega)))))), hst.bare⟩
 refine cE_cond true (congrArg Value.bool (congrArg (! ·) b29)) (fun _ => ?_) (fun h => by cases h)
 refine cE_seq (cE_region rfl (s_cons (op_assign (.bool false) rfl (s_nil (then_n (cE_ret (then_r (post_r _ (res1 (v := (.bool false)) rfl) ?_))))))))
 exact ⟨(retv1 (congrArg Value.bool (show false = (mayS s.d) from by exact Eq.symm (may_nohead (by assumption))))), hst.bare⟩

set_option maxRecDepth 8000 in
set_option maxHeartbeats 4000000 in
theorem c_rMaySeg (w0 : World) (s : Seg) (h_s : SegIn w0 s) (hs : s.d.ok) :
  Calls Try.prog 48 #[(.agg #[(iV s.d.Id), (iV s.d.Tier), (iV s.d.From), (iV s.d.To), s.sv.1, s.av.1])] w0 fun e w' => e = .returned (.bool (mayS s.d)) ∧ St w0 w' [] := by
 have hsl := h_s.1.len
 have hal := h_s.2.len
 refine calls_E (n := 132) (ts := [2]) Try.func48 rfl rfl rfl (by simp) ?_
 have hst := St.start w0
 refine cE_seq (cE_region rfl (s_cons (op_box (v := (.agg #[(iV s.d.Id), (iV s.d.Tier), (iV s.d.From), (iV s.d.To), s.sv.1, s.av.1])) (cs := #[(iV s.d.Id), (iV s.d.Tier), (iV s.d.From), (iV s.d.To), s.sv.1, s.av.1]) hst rfl rfl (fun g546 w547 hst _ => ?_))))
 refine s_cons (op_assign (.bool false) rfl (s_nil (then_n (cE_seq (cE_seq (cE_region rfl (s_cons (op_fieldAddr (s := 0) Try.underlying76 rfl rfl Try.sizeOf3 rfl (s_cons (op_load1 (u := (iV s.d.Id)) Try.isAgg3 rfl (hst.cell 0 rfl) (s_cons (op_lss (k := .i64) (a := s.d.Id) (b := 1) rfl rfl (s_cons (op_move (.bool (decide (s.d.Id < 1))) rfl (s_lz 8 rfl (gA_f rfl) (Rlz (!(decide (s.d.Id < 1))) (.pointer (some ⟨g546, (0 + 0), none⟩)) w547) ?_ (fun hc548 => rlz_f hc548) ?_)))))))))))))))
 ·intro hc548
  refine op_fieldAddr (s := 0) Try.underlying76 rfl rfl Try.sizeOf3 rfl ?_
  exact rlz_t hc548
 rintro _ _ ⟨rfl, rfl⟩
 refine s_lz 8 rfl (gA_f rfl) (Rlz (!(decide (s.d.Id < 1))) (iV s.d.Id) w547) ?_ (fun hc549 => rlz_f hc549) ?_
 ·intro hc549
  refine op_load1 (u := (iV s.d.Id)) Try.isAgg3 (gt (congrArg (! ·) (not_t hc549))) (hst.cell 0 rfl) ?_
  exact rlz_t hc549
 rintro _ _ ⟨rfl, rfl⟩
 refine s_lz 8 rfl (gA_f rfl) (Rlz (!(decide (s.d.Id < 1))) (.bool (decide (1073741824 < s.d.Id))) w547) ?_ (fun hc550 => rlz_f hc550) ?_
 ·intro hc550
  refine op_gtr (k := .i64) (a := s.d.Id) (b := 1073741824) (gt (congrArg (! ·) (not_t hc550))) rfl ?_
  exact rlz_t hc550
 rintro _ _ ⟨rfl, rfl⟩
 obtain ⟨g551, hg552⟩ : ∃ x : Bool, x = ((decide (s.d.Id < 1)) || (decide (1073741824 < s.d.Id))) := ⟨_, rfl⟩
 refine s_cons (op_pick_or rfl rfl rfl (fun hp => (congrArg (! ·) hp)) (s_cons (op_move (.bool g551) (congrArg Value.bool hg552.symm) (s_lz 13 rfl (gA_f rfl) (Rlz (!g551) (.pointer (some ⟨g546, (0 + 1), none⟩)) w547) ?_ (fun hc553 => rlz_f hc553) ?_))))
 ·intro hc553
  refine op_fieldAddr (s := 0) Try.underlying76 rfl rfl Try.sizeOf3 rfl ?_
  exact rlz_t hc553
 rintro _ _ ⟨rfl, rfl⟩
 refine s_lz 13 rfl (gA_f rfl) (Rlz (!g551) (iV s.d.Tier) w547) ?_ (fun hc554 => rlz_f hc554) ?_
 ·intro hc554
  refine op_load1 (u := (iV s.d.Tier)) Try.isAgg3 (gt (congrArg (! ·) (not_t hc554))) ((hst.cell 0 rfl).drop 1) ?_
  exact rlz_t hc554
 rintro _ _ ⟨rfl, rfl⟩
 refine s_lz 13 rfl (gA_f rfl) (Rlz (!g551) (.bool (decide (s.d.Tier < 0))) w547) ?_ (fun hc555 => rlz_f hc555) ?_
 ·intro hc555
  refine op_lss (k := .i64) (a := s.d.Tier) (b := 0) (gt (congrArg (! ·) (not_t hc555))) rfl ?_
  exact rlz_t hc555
 rintro _ _ ⟨rfl, rfl⟩
 obtain ⟨g556, hg557⟩ : ∃ x : Bool, x = (g551 || (decide (s.d.Tier < 0))) := ⟨_, rfl⟩
 refine s_cons (op_pick_or rfl rfl rfl (fun hp => (congrArg (! ·) hp)) (s_cons (op_move (.bool g556) (congrArg Value.bool hg557.symm) (s_lz 18 rfl (gA_f rfl) (Rlz (!g556) (.pointer (some ⟨g546, (0 + 1), none⟩)) w547) ?_ (fun hc558 => rlz_f hc558) ?_))))
 ·intro hc558
  refine op_fieldAddr (s := 0) Try.underlying76 rfl rfl Try.sizeOf3 rfl ?_
  exact rlz_t hc558
 rintro _ _ ⟨rfl, rfl⟩
 refine s_lz 18 rfl (gA_f rfl) (Rlz (!g556) (iV s.d.Tier) w547) ?_ (fun hc559 => rlz_f hc559) ?_
 ·intro hc559
  refine op_load1 (u := (iV s.d.Tier)) Try.isAgg3 (gt (congrArg (! ·) (not_t hc559))) ((hst.cell 0 rfl).drop 1) ?_
  exact rlz_t hc559
 rintro _ _ ⟨rfl, rfl⟩
 refine s_lz 18 rfl (gA_f rfl) (Rlz (!g556) (.bool (decide (3 < s.d.Tier))) w547) ?_ (fun hc560 => rlz_f hc560) ?_
 ·intro hc560
  refine op_gtr (k := .i64) (a := s.d.Tier) (b := 3) (gt (congrArg (! ·) (not_t hc560))) rfl ?_
  exact rlz_t hc560
 rintro _ _ ⟨rfl, rfl⟩
 obtain ⟨g561, hg562⟩ : ∃ x : Bool, x = (g556 || (decide (3 < s.d.Tier))) := ⟨_, rfl⟩
 refine s_cons (op_pick_or rfl rfl rfl (fun hp => (congrArg (! ·) hp)) (s_cons (op_move (.bool g561) (congrArg Value.bool hg562.symm) (s_lz 23 rfl (gA_f rfl) (Rlz (!g561) (.pointer (some ⟨g546, (0 + 2), none⟩)) w547) ?_ (fun hc563 => rlz_f hc563) ?_))))
 ·intro hc563
  refine op_fieldAddr (s := 0) Try.underlying76 rfl rfl Try.sizeOf2 rfl ?_
  exact rlz_t hc563
 rintro _ _ ⟨rfl, rfl⟩
 refine s_lz 23 rfl (gA_f rfl) (Rlz (!g561) (iV s.d.From) w547) ?_ (fun hc564 => rlz_f hc564) ?_
 ·intro hc564
  refine op_load1 (u := (iV s.d.From)) Try.isAgg2 (gt (congrArg (! ·) (not_t hc564))) ((hst.cell 0 rfl).drop 2) ?_
  exact rlz_t hc564
 rintro _ _ ⟨rfl, rfl⟩
 refine s_lz 23 rfl (gA_f rfl) (Rlz (!g561) (.bool (decide (s.d.From < 0))) w547) ?_ (fun hc565 => rlz_f hc565) ?_
 ·intro hc565
  refine op_lss (k := .i64) (a := s.d.From) (b := 0) (gt (congrArg (! ·) (not_t hc565))) rfl ?_
  exact rlz_t hc565
 rintro _ _ ⟨rfl, rfl⟩
 obtain ⟨g566, hg567⟩ : ∃ x : Bool, x = (g561 || (decide (s.d.From < 0))) := ⟨_, rfl⟩
 refine s_cons (op_pick_or rfl rfl rfl (fun hp => (congrArg (! ·) hp)) (s_cons (op_move (.bool g566) (congrArg Value.bool hg567.symm) (s_lz 28 rfl (gA_f rfl) (Rlz (!g566) (.pointer (some ⟨g546, (0 + 2), none⟩)) w547) ?_ (fun hc568 => rlz_f hc568) ?_))))
 ·intro hc568
  refine op_fieldAddr (s := 0) Try.underlying76 rfl rfl Try.sizeOf2 rfl ?_
  exact rlz_t hc568
 rintro _ _ ⟨rfl, rfl⟩
 refine s_lz 28 rfl (gA_f rfl) (Rlz (!g566) (iV s.d.From) w547) ?_ (fun hc569 => rlz_f hc569) ?_
 ·intro hc569
  refine op_load1 (u := (iV s.d.From)) Try.isAgg2 (gt (congrArg (! ·) (not_t hc569))) ((hst.cell 0 rfl).drop 2) ?_
  exact rlz_t hc569
 rintro _ _ ⟨rfl, rfl⟩
 refine s_lz 28 rfl (gA_f rfl) (Rlz (!g566) (.pointer (some ⟨g546, (0 + 3), none⟩)) w547) ?_ (fun hc570 => rlz_f hc570) ?_
 ·intro hc570
  refine op_fieldAddr (s := 0) Try.underlying76 rfl rfl Try.sizeOf2 rfl ?_
  exact rlz_t hc570
 rintro _ _ ⟨rfl, rfl⟩
 refine s_lz 28 rfl (gA_f rfl) (Rlz (!g566) (iV s.d.To) w547) ?_ (fun hc571 => rlz_f hc571) ?_
 ·intro hc571
  refine op_load1 (u := (iV s.d.To)) Try.isAgg2 (gt (congrArg (! ·) (not_t hc571))) ((hst.cell 0 rfl).drop 3) ?_
  exact rlz_t hc571
 rintro _ _ ⟨rfl, rfl⟩
 refine s_lz 28 rfl (gA_f rfl) (Rlz (!g566) (.bool (decide (s.d.To ≤ s.d.From))) w547) ?_ (fun hc572 => rlz_f hc572) ?_
 ·intro hc572
  refine op_geq (k := .i64) (a := s.d.From) (b := s.d.To) (gt (congrArg (! ·) (not_t hc572))) (gt (congrArg (! ·) (not_t hc572))) ?_
  exact rlz_t hc572
 rintro _ _ ⟨rfl, rfl⟩
 obtain ⟨g573, hg574⟩ : ∃ x : Bool, x = (g566 || (decide (s.d.To ≤ s.d.From))) := ⟨_, rfl⟩
 refine s_cons (op_pick_or rfl rfl rfl (fun hp => (congrArg (! ·) hp)) (s_cons (op_move (.bool g573) (congrArg Value.bool hg574.symm) (s_lz 35 rfl (gA_f rfl) (Rlz (!g573) (.pointer (some ⟨g546, (0 + 3), none⟩)) w547) ?_ (fun hc575 => rlz_f hc575) ?_))))
 ·intro hc575
  refine op_fieldAddr (s := 0) Try.underlying76 rfl rfl Try.sizeOf2 rfl ?_
  exact rlz_t hc575
 rintro _ _ ⟨rfl, rfl⟩
 refine s_lz 35 rfl (gA_f rfl) (Rlz (!g573) (iV s.d.To) w547) ?_ (fun hc576 => rlz_f hc576) ?_
 ·intro hc576
  refine op_load1 (u := (iV s.d.To)) Try.isAgg2 (gt (congrArg (! ·) (not_t hc576))) ((hst.cell 0 rfl).drop 3) ?_
  exact rlz_t hc576
 rintro _ _ ⟨rfl, rfl⟩
 refine s_lz 35 rfl (gA_f rfl) (Rlz (!g573) (.bool (decide (1099511627776 < s.d.To))) w547) ?_ (fun hc577 => rlz_f hc577) ?_
 ·intro hc577
  refine op_gtr (k := .i64) (a := s.d.To) (b := 1099511627776) (gt (congrArg (! ·) (not_t hc577))) rfl ?_
  exact rlz_t hc577
 rintro _ _ ⟨rfl, rfl⟩
 obtain ⟨g578, hg579⟩ : ∃ x : Bool, x = (g573 || (decide (1099511627776 < s.d.To))) := ⟨_, rfl⟩
 refine s_cons (op_pick_or rfl rfl rfl (fun hp => (congrArg (! ·) hp)) (s_nil (then_n ?_)))
 rcases Bool.eq_false_or_eq_true g578 with b580 | b580
 ·have c581 : ((((((s.d.Id < 1) ∨ (1073741824 < s.d.Id)) ∨ (s.d.Tier < 0)) ∨ (3 < s.d.Tier)) ∨ (s.d.From < 0)) ∨ (s.d.To ≤ s.d.From)) ∨ (1099511627776 < s.d.To) := (pi_or (pi_name hg574 (pi_or (pi_name hg567 (pi_or (pi_name hg562 (pi_or (pi_name hg557 (pi_or (pi_name hg552 (pi_or pi_dec pi_dec)) pi_dec)) pi_dec)) pi_dec)) pi_dec)) pi_dec).1 (hg579.symm.trans b580)
  refine cE_cond true ((congrArg Value.bool hg579.symm).trans (congrArg Value.bool b580)) (fun _ => ?_) (fun h => by cases h)
  refine cE_seq (cE_region rfl (s_cons (op_assign (.bool false) rfl (s_nil (then_n (cE_ret (then_r (post_r _ (res1 (v := (.bool false)) rfl) ?_))))))))
  exact ⟨(retv1 (congrArg Value.bool (show false = (mayS s.d) from by exact Eq.symm (may_nohead2 (by omega))))), hst.bare⟩
 have c582 : ¬ (s.d.Id < 1) := of_decide_eq_false (or_l (hg552.symm.trans (or_l (hg557.symm.trans (or_l (hg562.symm.trans (or_l (hg567.symm.trans (or_l (hg574.symm.trans (or_l (hg579.symm.trans b580))))))))))))
 have c583 : ¬ (1073741824 < s.d.Id) := of_decide_eq_false (or_r (hg552.symm.trans (or_l (hg557.symm.trans (or_l (hg562.symm.trans (or_l (hg567.symm.trans (or_l (hg574.symm.trans (or_l (hg579.symm.trans b580))))))))))))
 have c584 : ¬ (s.d.Tier < 0) := of_decide_eq_false (or_r (hg557.symm.trans (or_l (hg562.symm.trans (or_l (hg567.symm.trans (or_l (hg574.symm.trans (or_l (hg579.symm.trans b580))))))))))
 have c585 : ¬ (3 < s.d.Tier) := of_decide_eq_false (or_r (hg562.symm.trans (or_l (hg567.symm.trans (or_l (hg574.symm.trans (or_l (hg579.symm.trans b580))))))))
 have c586 : ¬ (s.d.From < 0) := of_decide_eq_false (or_r (hg567.symm.trans (or_l (hg574.symm.trans (or_l (hg579.symm.trans b580))))))
 have c587 : ¬ (s.d.To ≤ s.d.From) := of_decide_eq_false (or_r (hg574.symm.trans (or_l (hg579.symm.trans b580))))
 have c588 : ¬ (1099511627776 < s.d.To) := of_decide_eq_false (or_r (hg579.symm.trans b580))
 refine cE_cond false ((congrArg Value.bool hg579.symm).trans (congrArg Value.bool b580)) (fun h => by cases h) (fun _ => ?_)
 refine cE_skip (then_n (cE_seq (cE_seq (cE_region rfl (s_cons (op_fieldAddr (s := 0) Try.underlying76 rfl rfl Try.sizeOf3 rfl (s_cons (op_load1 (u := (iV s.d.Tier)) Try.isAgg3 rfl ((hst.cell 0 rfl).drop 1) (s_cons (op_eql (k := .i64) (a := s.d.Tier) (b := 0) rfl rfl (s_nil (then_n ?_))))))))))))
 rcases Bool.eq_false_or_eq_true (decide (s.d.Tier = 0)) with b589 | b589
 ·have c590 := of_decide_eq_true b589
  refine cE_cond true (congrArg Value.bool b589) (fun _ => ?_) (fun h => by cases h)
  refine cE_seq (cE_region rfl (s_cons (op_fieldAddr (s := 0) Try.underlying76 rfl rfl Try.sizeOf23 rfl (s_cons (op_load1 (u := s.sv.1) Try.isAgg23 rfl ((hst.cell 0 rfl).drop 4) (s_cons (op_len (E := sampE) (xs := s.d.Samples) Try.underlying23 rfl h_s.1 (s_cons (op_assign (iV (s.d.Samples.length : Int)) rfl (s_nil (then_n (cE_seq ?_))))))))))))
  obtain ⟨g591, hg592⟩ : ∃ x : Bool, x = decide ((s.d.Aggs.length : Int) = 0) := ⟨_, rfl⟩
  obtain ⟨g593, hg594⟩ : ∃ x : Bool, x = ((decide ((s.d.Aggs.length : Int) = 0)) && (decide (1 ≤ (s.d.Samples.length : Int)))) := ⟨_, rfl⟩
  obtain ⟨g595, hg596⟩ : ∃ x : Bool, x = (g593 && (decide ((s.d.Samples.length : Int) ≤ 64))) := ⟨_, rfl⟩
  obtain ⟨g598, hg599⟩ : ∃ x : Bool, x = (g595 && (risingA s.d.Samples)) := ⟨_, rfl⟩
  obtain ⟨g639, hg640⟩ : ∃ x : Bool, x = (g598 && (decide (s.d.From ≤ ((gd s.d.Samples 0).T)))) := ⟨_, rfl⟩
  obtain ⟨g760, hg761⟩ : ∃ x : Bool, x = (g639 && (decide (((gd s.d.Samples (s.d.Samples.length - 1)).T) < s.d.To))) := ⟨_, rfl⟩
  refine cE_regionM (fun (D : Nat → Bool) (w : World) => St w0 w [.blk g546 76 #[(iV s.d.Id), (iV s.d.Tier), (iV s.d.From), (iV s.d.To), s.sv.1, s.av.1]] ∧ (St w0 w [.blk g546 76 #[(iV s.d.Id), (iV s.d.Tier), (iV s.d.From), (iV s.d.To), s.sv.1, s.av.1]])) [[(1, none)], [(46, some 0)], [(47, some 1)], [(48, some 2)], [(49, some 3)], [(3, none), (50, some 4)], [(51, some 5), (50, some 4)], [(50, some 4), (52, some 6)], [(53, some 7)], [(3, none), (54, some 8)], [(55, some 9), (54, some 8)], [(54, some 8), (56, some 10)], [(57, some 11)], [(1, none), (58, some 12)], [(59, some 13), (58, some 12)], [(60, some 14), (58, some 12)], [(58, some 12), (61, some 15)], [(62, some 16)], [(1, none), (63, some 17)], [(64, some 18), (63, some 17)], [(65, some 19), (63, some 17)], [(66, some 20), (63, some 17)], [(67, some 21), (63, some 17)], [(1, none), (63, some 17)], [(69, some 23), (63, some 17)], [(68, some 22), (70, some 24), (63, some 17)], [(63, some 17), (71, some 25)], [(72, some 26)], [(1, none), (73, some 27)], [(74, some 28), (73, some 27)], [(3, none), (73, some 27)], [(76, some 30), (73, some 27)], [(75, some 29), (77, some 31), (73, some 27)], [(78, some 32), (73, some 27)], [(79, some 33), (73, some 27)], [(1, none), (73, some 27)], [(81, some 35), (73, some 27)], [(80, some 34), (82, some 36), (73, some 27)], [(73, some 27), (83, some 37)], [(84, some 38)]] [] [(kEq (.pointer (some ⟨g546, (0 + 5), none⟩))), (kEq s.av.1), (kEq (iV (s.d.Aggs.length : Int))), (kEq (.bool (decide ((s.d.Aggs.length : Int) = 0)))), (kEq (.bool (decide ((s.d.Aggs.length : Int) = 0)))), (kEq (bif g591 then (iV (s.d.Samples.length : Int)) else undef)), (kEq (bif g591 then (.bool (decide (1 ≤ (s.d.Samples.length : Int)))) else undef)), (kEq (.bool g593)), (kEq (.bool g593)), (kEq (bif g593 then (iV (s.d.Samples.length : Int)) else undef)), (kEq (bif g593 then (.bool (decide ((s.d.Samples.length : Int) ≤ 64))) else undef)), (kEq (.bool g595)), (kEq (.bool g595)), (kEq (bif g595 then (.pointer (some ⟨g546, (0 + 4), none⟩)) else undef)), (kEq (bif g595 then s.sv.1 else undef)), (kEq (bif g595 then (.bool (risingA s.d.Samples)) else undef)), (kEq (.bool g598)), (kEq (.bool g598)), (kEq (bif g598 then (.pointer (some ⟨g546, (0 + 4), none⟩)) else undef)), (kEq (bif g598 then s.sv.1 else undef)), (kPtc w0 g598 [(iV ((gd s.d.Samples 0).T)), (iV ((gd s.d.Samples 0).V))]), (kPtc w0 g598 [(iV ((gd s.d.Samples 0).T)), (iV ((gd s.d.Samples 0).V))]), (kEq (bif g598 then (iV ((gd s.d.Samples 0).T)) else undef)), (kEq (bif g598 then (.pointer (some ⟨g546, (0 + 2), none⟩)) else undef)), (kEq (bif g598 then (iV s.d.From) else undef)), (kEq (bif g598 then (.bool (decide (s.d.From ≤ ((gd s.d.Samples 0).T)))) else undef)), (kEq (.bool g639)), (kEq (.bool g639)), (kEq (bif g639 then (.pointer (some ⟨g546, (0 + 4), none⟩)) else undef)), (kEq (bif g639 then s.sv.1 else undef)), (kEq (bif g639 then (iV (s.d.Samples.length : Int)) else undef)), (kEq (bif g639 then (iV ((s.d.Samples.length : Int) - 1)) else undef)), (kPtc w0 g639 [(iV ((gd s.d.Samples (s.d.Samples.length - 1)).T)), (iV ((gd s.d.Samples (s.d.Samples.length - 1)).V))]), (kPtc w0 g639 [(iV ((gd s.d.Samples (s.d.Samples.length - 1)).T)), (iV ((gd s.d.Samples (s.d.Samples.length - 1)).V))]), (kEq (bif g639 then (iV ((gd s.d.Samples (s.d.Samples.length - 1)).T)) else undef)), (kEq (bif g639 then (.pointer (some ⟨g546, (0 + 3), none⟩)) else undef)), (kEq (bif g639 then (iV s.d.To) else undef)), (kEq (bif g639 then (.bool (decide (((gd s.d.Samples (s.d.Samples.length - 1)).T) < s.d.To))) else undef)), (kEq (.bool g760)), (kEq (.bool g760))] ⟨mEq, mEq, mEq, mEq, mEq, mEq, mEq, mEq, mEq, mEq, mEq, mEq, mEq, mEq, mEq, mEq, mEq, mEq, mEq, mEq, mPtc, mPtc, mEq, mEq, mEq, mEq, mEq, mEq, mEq, mEq, mEq, mEq, mPtc, mPtc, mEq, mEq, mEq, mEq, mEq, mEq, trivial⟩ (by kernel_rfl) rfl (by kernel_rfl) ⟨hst.drewW.sub (.cons_cons _ .slnil), hst.drewW⟩ (fun hM => ⟨?_, ?_, ?_, ?_, ?_, ?_, ?_, ?_, ?_, ?_, ?_, ?_, ?_, ?_, ?_, ?_, ?_, ?_, ?_, ?_, ?_, ?_, ?_, ?_, ?_, ?_, ?_, ?_, ?_, ?_, ?_, ?_, ?_, ?_, ?_, ?_, ?_, ?_, ?_, ?_, trivial⟩) ?_
  ·rintro D ρo wo nD eD cD jD aD ⟨f1, _⟩
   exact go_plain (op_fieldAddr (s := 0) Try.underlying76 rfl rfl Try.sizeOf74 (f1.trans rfl) (kN0 (i := 0) hM (by decide) (by exact jD) (by exact rfl)))
  ·rintro D ρo wo nD eD cD jD aD ⟨f46, _⟩
   have hst := jD.2 
   exact go_plain (op_load1 (u := s.av.1) Try.isAgg74 f46 ((hst.cell 0 rfl).drop 5) (kN0 (i := 1) hM (by decide) (by exact jD) (by exact rfl)))
  ·rintro D ρo wo nD eD cD jD aD ⟨f47, _⟩
   exact go_plain (op_len (E := aggE) (xs := s.d.Aggs) Try.underlying74 f47 h_s.2 (kN0 (i := 2) hM (by decide) (by exact jD) (by exact rfl)))
  ·rintro D ρo wo nD eD cD jD aD ⟨f48, _⟩
   exact go_plain (op_eql (k := .i64) (a := (s.d.Aggs.length : Int)) (b := 0) f48 rfl (kN0 (i := 3) hM (by decide) (by exact jD) (by exact rfl)))
  ·rintro D ρo wo nD eD cD jD aD ⟨f49, _⟩
   exact go_plain (op_move (.bool (decide ((s.d.Aggs.length : Int) = 0))) f49 (kN0 (i := 4) hM (by decide) (by exact jD) (by exact rfl)))
  ·rintro D ρo wo nD eD cD jD aD ⟨f3, f50, _⟩
   refine go_lz 50 rfl ((gA_t f50).trans hg592.symm) ?_ (fun hc763 => (kN0 (i := 5) hM (by decide) (by exact jD) (by exact (gf hc763).symm)))
   intro hc763
   exact id (op_move (iV (s.d.Samples.length : Int)) (f3.trans rfl) (kN0 (i := 5) hM (by decide) (by exact jD) (by exact (gt hc763).symm)))
  ·rintro D ρo wo nD eD cD jD aD ⟨f51, f50, _⟩
   refine go_lz 50 rfl ((gA_t f50).trans hg592.symm) ?_ (fun hc764 => (kN0 (i := 6) hM (by decide) (by exact jD) (by exact (gf hc764).symm)))
   intro hc764
   exact id (op_geq (k := .i64) (a := (s.d.Samples.length : Int)) (b := 1) (f51.trans (gt hc764)) rfl (kN0 (i := 6) hM (by decide) (by exact jD) (by exact (gt hc764).symm)))
  ·rintro D ρo wo nD eD cD jD aD ⟨f50, f52, _⟩
   refine go_plain (op_pick_and f50 f52 (fun hp => (hg592.trans hp)) rfl ?_)
   exact (kN0 (i := 7) hM (by decide) (by exact jD) (by exact (congrArg Value.bool hg594.symm)))
  ·rintro D ρo wo nD eD cD jD aD ⟨f53, _⟩
   exact go_plain (op_move (.bool g593) f53 (kN0 (i := 8) hM (by decide) (by exact jD) (by exact rfl)))
  ·rintro D ρo wo nD eD cD jD aD ⟨f3, f54, _⟩
   refine go_lz 54 rfl (gA_t f54) ?_ (fun hc765 => (kN0 (i := 9) hM (by decide) (by exact jD) (by exact (gf hc765).symm)))
   intro hc765
   exact id (op_move (iV (s.d.Samples.length : Int)) (f3.trans rfl) (kN0 (i := 9) hM (by decide) (by exact jD) (by exact (gt hc765).symm)))
  ·rintro D ρo wo nD eD cD jD aD ⟨f55, f54, _⟩
   refine go_lz 54 rfl (gA_t f54) ?_ (fun hc766 => (kN0 (i := 10) hM (by decide) (by exact jD) (by exact (gf hc766).symm)))
   intro hc766
   exact id (op_leq (k := .i64) (a := (s.d.Samples.length : Int)) (b := 64) (f55.trans (gt hc766)) rfl (kN0 (i := 10) hM (by decide) (by exact jD) (by exact (gt hc766).symm)))
  ·rintro D ρo wo nD eD cD jD aD ⟨f54, f56, _⟩
   refine go_plain (op_pick_and f54 f56 (fun hp => hp) rfl ?_)
   exact (kN0 (i := 11) hM (by decide) (by exact jD) (by exact (congrArg Value.bool hg596.symm)))
  ·rintro D ρo wo nD eD cD jD aD ⟨f57, _⟩
   exact go_plain (op_move (.bool g595) f57 (kN0 (i := 12) hM (by decide) (by exact jD) (by exact rfl)))
  ·rintro D ρo wo nD eD cD jD aD ⟨f1, f58, _⟩
   refine go_lz 58 rfl (gA_t f58) ?_ (fun hc767 => (kN0 (i := 13) hM (by decide) (by exact jD) (by exact (gf hc767).symm)))
   intro hc767
   exact id (op_fieldAddr (s := 0) Try.underlying76 rfl rfl Try.sizeOf23 (f1.trans rfl) (kN0 (i := 13) hM (by decide) (by exact jD) (by exact (gt hc767).symm)))
  ·rintro D ρo wo nD eD cD jD aD ⟨f59, f58, _⟩
   refine go_lz 58 rfl (gA_t f58) ?_ (fun hc768 => (kN0 (i := 14) hM (by decide) (by exact jD) (by exact (gf hc768).symm)))
   intro hc768
   have hst := jD.2 
   exact id (op_load1 (u := s.sv.1) Try.isAgg23 (f59.trans (gt hc768)) ((hst.cell 0 rfl).drop 4) (kN0 (i := 14) hM (by decide) (by exact jD) (by exact (gt hc768).symm)))
  ·rintro D ρo wo nD eD cD jD aD ⟨f60, f58, _⟩
   refine go_lz 58 rfl (gA_t f58) ?_ (fun hc769 => (kN0 (i := 15) hM (by decide) (by exact jD) (by exact (gf hc769).symm)))
   intro hc769
   have c770 : (s.d.Aggs.length : Int) = 0 := of_decide_eq_true (and_l (hg594.symm.trans (and_l (hg596.symm.trans hc769))))
   have c771 : 1 ≤ (s.d.Samples.length : Int) := of_decide_eq_true (and_r (hg594.symm.trans (and_l (hg596.symm.trans hc769))))
   have c772 : (s.d.Samples.length : Int) ≤ 64 := of_decide_eq_true (and_r (hg596.symm.trans hc769))
   have hst := jD.2 
   refine id (op_call Try.call23 (evs_cons (v := s.sv.1) (f60.trans (gt hc769)) evs_nil) (c_rRising (w0 := wo) (v_l := s.sv.1) (l := s.d.Samples) (h_l := (h_s.1.below hst.below)) (hl := hs.2.2.2.2.1)) ?_)
   rintro _ w773 ⟨rfl, hcall⟩
   refine ⟨_, rfl, ?_⟩
   exact kN (i := 15) hM (by decide) hcall.below (by exact ⟨(jD.1).ext hcall.below, (jD.2).ext hcall.below⟩) (by exact (gt hc769).symm)
  ·rintro D ρo wo nD eD cD jD aD ⟨f58, f61, _⟩
   refine go_plain (op_pick_and f58 f61 (fun hp => hp) rfl ?_)
   exact (kN0 (i := 16) hM (by decide) (by exact jD) (by exact (congrArg Value.bool hg599.symm)))
  ·rintro D ρo wo nD eD cD jD aD ⟨f62, _⟩
   exact go_plain (op_move (.bool g598) f62 (kN0 (i := 17) hM (by decide) (by exact jD) (by exact rfl)))
  ·rintro D ρo wo nD eD cD jD aD ⟨f1, f63, _⟩
   refine go_lz 63 rfl (gA_t f63) ?_ (fun hc774 => (kN0 (i := 18) hM (by decide) (by exact jD) (by exact (gf hc774).symm)))
   intro hc774
   exact id (op_fieldAddr (s := 0) Try.underlying76 rfl rfl Try.sizeOf23 (f1.trans rfl) (kN0 (i := 18) hM (by decide) (by exact jD) (by exact (gt hc774).symm)))
  ·rintro D ρo wo nD eD cD jD aD ⟨f64, f63, _⟩
   refine go_lz 63 rfl (gA_t f63) ?_ (fun hc775 => (kN0 (i := 19) hM (by decide) (by exact jD) (by exact (gf hc775).symm)))
   intro hc775
   have hst := jD.2 
   exact id (op_load1 (u := s.sv.1) Try.isAgg23 (f64.trans (gt hc775)) ((hst.cell 0 rfl).drop 4) (kN0 (i := 19) hM (by decide) (by exact jD) (by exact (gt hc775).symm)))
  ·rintro D ρo wo nD eD cD jD aD ⟨f65, f63, _⟩
   refine go_lz 63 rfl (gA_t f63) ?_ (fun hc776 => (kN0 (i := 20) hM (by decide) (by exact jD) (by exact fun h => absurd (show _ = true from h) (by rw [hc776]; decide))))
   intro hc776
   have c777 : (s.d.Aggs.length : Int) = 0 := of_decide_eq_true (and_l (hg594.symm.trans (and_l (hg596.symm.trans (and_l (hg599.symm.trans hc776))))))
   have c778 : 1 ≤ (s.d.Samples.length : Int) := of_decide_eq_true (and_r (hg594.symm.trans (and_l (hg596.symm.trans (and_l (hg599.symm.trans hc776))))))
   have c779 : (s.d.Samples.length : Int) ≤ 64 := of_decide_eq_true (and_r (hg596.symm.trans (and_l (hg599.symm.trans hc776))))
   have c780 : (risingA s.d.Samples) = true := (and_r (hg599.symm.trans hc776))
   refine id (op_indexAddrD (E := sampE) (xs := s.d.Samples) 0 Try.underlying23 Try.sizeOf51 (f65.trans (gt hc776)) h_s.1 rfl (by omega) (by omega) (fun a781 o782 p783 => ?_))
   exact (kN0 (i := 20) hM (by decide) (by exact jD) (by exact fun _ => ⟨_, _, rfl, p783⟩))
  ·rintro D ρo wo nD eD cD jD aD ⟨f66, f63, _⟩
   refine go_lz 63 rfl (gA_t f63) ?_ (fun hc784 => (kN0 (i := 21) hM (by decide) (by exact jD) (by exact fun h => absurd (show _ = true from h) (by rw [hc784]; decide))))
   intro hc784
   obtain ⟨a785, o786, e787, p788⟩ := f66 hc784
   exact id (op_fieldAddr (s := 0) Try.underlying51 rfl rfl Try.sizeOf2 e787 (kN0 (i := 21) hM (by decide) (by exact jD) (by exact fun _ => ⟨_, _, rfl, p788⟩)))
  ·rintro D ρo wo nD eD cD jD aD ⟨f67, f63, _⟩
   refine go_lz 63 rfl (gA_t f63) ?_ (fun hc789 => (kN0 (i := 22) hM (by decide) (by exact jD) (by exact (gf hc789).symm)))
   intro hc789
   have hst := jD.2 
   obtain ⟨a790, o791, e792, p793⟩ := f67 hc789
   exact id (op_load1 (u := (iV ((gd s.d.Samples 0).T))) Try.isAgg2 e792 (p793.below hst.below) (kN0 (i := 22) hM (by decide) (by exact jD) (by exact (gt hc789).symm)))
  ·rintro D ρo wo nD eD cD jD aD ⟨f1, f63, _⟩
   refine go_lz 63 rfl (gA_t f63) ?_ (fun hc794 => (kN0 (i := 23) hM (by decide) (by exact jD) (by exact (gf hc794).symm)))
   intro hc794
   exact id (op_fieldAddr (s := 0) Try.underlying76 rfl rfl Try.sizeOf2 (f1.trans rfl) (kN0 (i := 23) hM (by decide) (by exact jD) (by exact (gt hc794).symm)))
  ·rintro D ρo wo nD eD cD jD aD ⟨f69, f63, _⟩
   refine go_lz 63 rfl (gA_t f63) ?_ (fun hc795 => (kN0 (i := 24) hM (by decide) (by exact jD) (by exact (gf hc795).symm)))
   intro hc795
   have hst := jD.2 
   exact id (op_load1 (u := (iV s.d.From)) Try.isAgg2 (f69.trans (gt hc795)) ((hst.cell 0 rfl).drop 2) (kN0 (i := 24) hM (by decide) (by exact jD) (by exact (gt hc795).symm)))
  ·rintro D ρo wo nD eD cD jD aD ⟨f68, f70, f63, _⟩
   refine go_lz 63 rfl (gA_t f63) ?_ (fun hc796 => (kN0 (i := 25) hM (by decide) (by exact jD) (by exact (gf hc796).symm)))
   intro hc796
   exact id (op_geq (k := .i64) (a := (gd s.d.Samples 0).T) (b := s.d.From) (f68.trans (gt hc796)) (f70.trans (gt hc796)) (kN0 (i := 25) hM (by decide) (by exact jD) (by exact (gt hc796).symm)))
  ·rintro D ρo wo nD eD cD jD aD ⟨f63, f71, _⟩
   refine go_plain (op_pick_and f63 f71 (fun hp => hp) rfl ?_)
   exact (kN0 (i := 26) hM (by decide) (by exact jD) (by exact (congrArg Value.bool hg640.symm)))
  ·rintro D ρo wo nD eD cD jD aD ⟨f72, _⟩
   exact go_plain (op_move (.bool g639) f72 (kN0 (i := 27) hM (by decide) (by exact jD) (by exact rfl)))
  ·rintro D ρo wo nD eD cD jD aD ⟨f1, f73, _⟩
   refine go_lz 73 rfl (gA_t f73) ?_ (fun hc797 => (kN0 (i := 28) hM (by decide) (by exact jD) (by exact (gf hc797).symm)))
   intro hc797
   exact id (op_fieldAddr (s := 0) Try.underlying76 rfl rfl Try.sizeOf23 (f1.trans rfl) (kN0 (i := 28) hM (by decide) (by exact jD) (by exact (gt hc797).symm)))
  ·rintro D ρo wo nD eD cD jD aD ⟨f74, f73, _⟩
   refine go_lz 73 rfl (gA_t f73) ?_ (fun hc798 => (kN0 (i := 29) hM (by decide) (by exact jD) (by exact (gf hc798).symm)))
   intro hc798
   have hst := jD.2 
   exact id (op_load1 (u := s.sv.1) Try.isAgg23 (f74.trans (gt hc798)) ((hst.cell 0 rfl).drop 4) (kN0 (i := 29) hM (by decide) (by exact jD) (by exact (gt hc798).symm)))
  ·rintro D ρo wo nD eD cD jD aD ⟨f3, f73, _⟩
   refine go_lz 73 rfl (gA_t f73) ?_ (fun hc799 => (kN0 (i := 30) hM (by decide) (by exact jD) (by exact (gf hc799).symm)))
   intro hc799
   exact id (op_move (iV (s.d.Samples.length : Int)) (f3.trans rfl) (kN0 (i := 30) hM (by decide) (by exact jD) (by exact (gt hc799).symm)))
  ·rintro D ρo wo nD eD cD jD aD ⟨f76, f73, _⟩
   refine go_lz 73 rfl (gA_t f73) ?_ (fun hc800 => (kN0 (i := 31) hM (by decide) (by exact jD) (by exact (gf hc800).symm)))
   intro hc800
   have c801 : (s.d.Aggs.length : Int) = 0 := of_decide_eq_true (and_l (hg594.symm.trans (and_l (hg596.symm.trans (and_l (hg599.symm.trans (and_l (hg640.symm.trans hc800))))))))
   have c802 : 1 ≤ (s.d.Samples.length : Int) := of_decide_eq_true (and_r (hg594.symm.trans (and_l (hg596.symm.trans (and_l (hg599.symm.trans (and_l (hg640.symm.trans hc800))))))))
   have c803 : (s.d.Samples.length : Int) ≤ 64 := of_decide_eq_true (and_r (hg596.symm.trans (and_l (hg599.symm.trans (and_l (hg640.symm.trans hc800))))))
   have c804 : (risingA s.d.Samples) = true := (and_r (hg599.symm.trans (and_l (hg640.symm.trans hc800))))
   have c805 : s.d.From ≤ ((gd s.d.Samples 0).T) := of_decide_eq_true (and_r (hg640.symm.trans hc800))
   exact id (op_sub (k := .i64) (a := (s.d.Samples.length : Int)) (b := 1) ((s.d.Samples.length : Int) - 1) (f76.trans (gt hc800)) rfl (xi64 (by omega) (by omega)) (kN0 (i := 31) hM (by decide) (by exact jD) (by exact (gt hc800).symm)))
  ·rintro D ρo wo nD eD cD jD aD ⟨f75, f77, f73, _⟩
   refine go_lz 73 rfl (gA_t f73) ?_ (fun hc806 => (kN0 (i := 32) hM (by decide) (by exact jD) (by exact fun h => absurd (show _ = true from h) (by rw [hc806]; decide))))
   intro hc806
   have c807 : (s.d.Aggs.length : Int) = 0 := of_decide_eq_true (and_l (hg594.symm.trans (and_l (hg596.symm.trans (and_l (hg599.symm.trans (and_l (hg640.symm.trans hc806))))))))
   have c808 : 1 ≤ (s.d.Samples.length : Int) := of_decide_eq_true (and_r (hg594.symm.trans (and_l (hg596.symm.trans (and_l (hg599.symm.trans (and_l (hg640.symm.trans hc806))))))))
   have c809 : (s.d.Samples.length : Int) ≤ 64 := of_decide_eq_true (and_r (hg596.symm.trans (and_l (hg599.symm.trans (and_l (hg640.symm.trans hc806))))))
   have c810 : (risingA s.d.Samples) = true := (and_r (hg599.symm.trans (and_l (hg640.symm.trans hc806))))
   have c811 : s.d.From ≤ ((gd s.d.Samples 0).T) := of_decide_eq_true (and_r (hg640.symm.trans hc806))
   refine id (op_indexAddrD (E := sampE) (xs := s.d.Samples) (s.d.Samples.length - 1) Try.underlying23 Try.sizeOf51 (f75.trans (gt hc806)) h_s.1 (f77.trans (gt hc806)) (by omega) (by omega) (fun a812 o813 p814 => ?_))
   exact (kN0 (i := 32) hM (by decide) (by exact jD) (by exact fun _ => ⟨_, _, rfl, p814⟩))
  ·rintro D ρo wo nD eD cD jD aD ⟨f78, f73, _⟩
   refine go_lz 73 rfl (gA_t f73) ?_ (fun hc815 => (kN0 (i := 33) hM (by decide) (by exact jD) (by exact fun h => absurd (show _ = true from h) (by rw [hc815]; decide))))
   intro hc815
   obtain ⟨a816, o817, e818, p819⟩ := f78 hc815
   exact id (op_fieldAddr (s := 0) Try.underlying51 rfl rfl Try.sizeOf2 e818 (kN0 (i := 33) hM (by decide) (by exact jD) (by exact fun _ => ⟨_, _, rfl, p819⟩)))
  ·rintro D ρo wo nD eD cD jD aD ⟨f79, f73, _⟩
   refine go_lz 73 rfl (gA_t f73) ?_ (fun hc820 => (kN0 (i := 34) hM (by decide) (by exact jD) (by exact (gf hc820).symm)))
   intro hc820
   have hst := jD.2 
   obtain ⟨a821, o822, e823, p824⟩ := f79 hc820
   exact id (op_load1 (u := (iV ((gd s.d.Samples (s.d.Samples.length - 1)).T))) Try.isAgg2 e823 (p824.below hst.below) (kN0 (i := 34) hM (by decide) (by exact jD) (by exact (gt hc820).symm)))
  ·rintro D ρo wo nD eD cD jD aD ⟨f1, f73, _⟩
   refine go_lz 73 rfl (gA_t f73) ?_ (fun hc825 => (kN0 (i := 35) hM (by decide) (by exact jD) (by exact (gf hc825).symm)))
   intro hc825
   exact id (op_fieldAddr (s := 0) Try.underlying76 rfl rfl Try.sizeOf2 (f1.trans rfl) (kN0 (i := 35) hM (by decide) (by exact jD) (by exact (gt hc825).symm)))
  ·rintro D ρo wo nD eD cD jD aD ⟨f81, f73, _⟩
   refine go_lz 73 rfl (gA_t f73) ?_ (fun hc826 => (kN0 (i := 36) hM (by decide) (by exact jD) (by exact (gf hc826).symm)))
   intro hc826
   have hst := jD.2 
   exact id (op_load1 (u := (iV s.d.To)) Try.isAgg2 (f81.trans (gt hc826)) ((hst.cell 0 rfl).drop 3) (kN0 (i := 36) hM (by decide) (by exact jD) (by exact (gt hc826).symm)))
  ·rintro D ρo wo nD eD cD jD aD ⟨f80, f82, f73, _⟩
   refine go_lz 73 rfl (gA_t f73) ?_ (fun hc827 => (kN0 (i := 37) hM (by decide) (by exact jD) (by exact (gf hc827).symm)))
   intro hc827
   exact id (op_lss (k := .i64) (a := (gd s.d.Samples (s.d.Samples.length - 1)).T) (b := s.d.To) (f80.trans (gt hc827)) (f82.trans (gt hc827)) (kN0 (i := 37) hM (by decide) (by exact jD) (by exact (gt hc827).symm)))
  ·rintro D ρo wo nD eD cD jD aD ⟨f73, f83, _⟩
   refine go_plain (op_pick_and f73 f83 (fun hp => hp) rfl ?_)
   exact (kN0 (i := 38) hM (by decide) (by exact jD) (by exact (congrArg Value.bool hg761.symm)))
  ·rintro D ρo wo nD eD cD jD aD ⟨f84, _⟩
   exact go_plain (op_assign (.bool g760) f84 (kN0 (i := 39) hM (by decide) (by exact jD) (by exact rfl)))
  intro ρ828 w829 Dw829 hallw829 hJw829 hRw829 hkw829
  have hst : St w0 w829 [.blk g546 76 #[(iV s.d.Id), (iV s.d.Tier), (iV s.d.From), (iV s.d.To), s.sv.1, s.av.1]] := hJw829.2 
  have uw829_2 : ρ828 2 = (.bool g760) := hRw829 39 2 rfl
  refine then_n (cE_ret (then_r (post_r _ (res1 (v := (.bool g760)) uw829_2) ?_)))
  exact ⟨(retv1 (congrArg Value.bool (show g760 = (mayS s.d) from by (rw [hg761, hg640, hg599, hg596, hg594]; exact Eq.symm (may_raw (headS_yes (by omega)) (by omega)))))), hst.bare⟩
 have c830 := of_decide_eq_false b589
 refine cE_cond false (congrArg Value.bool b589) (fun h => by cases h) (fun _ => ?_)
 refine cE_skip (then_n (cE_seq (cE_region rfl (s_cons (op_fieldAddr (s := 0) Try.underlying76 rfl rfl Try.sizeOf74 rfl (s_cons (op_load1 (u := s.av.1) Try.isAgg74 rfl ((hst.cell 0 rfl).drop 5) (s_cons (op_len (E := aggE) (xs := s.d.Aggs) Try.underlying74 rfl h_s.2 (s_cons (op_assign (iV (s.d.Aggs.length : Int)) rfl (s_nil (then_n (cE_seq ?_))))))))))))))
 obtain ⟨g831, hg832⟩ : ∃ x : Bool, x = decide ((s.d.Samples.length : Int) = 0) := ⟨_, rfl⟩
 obtain ⟨g833, hg834⟩ : ∃ x : Bool, x = ((decide ((s.d.Samples.length : Int) = 0)) && (decide (1 ≤ (s.d.Aggs.length : Int)))) := ⟨_, rfl⟩
 obtain ⟨g835, hg836⟩ : ∃ x : Bool, x = (g833 && (decide ((s.d.Aggs.length : Int) ≤ 64))) := ⟨_, rfl⟩
 obtain ⟨g838, hg839⟩ : ∃ x : Bool, x = (g835 && (alignedA s.d.Aggs s.d.Tier)) := ⟨_, rfl⟩
 obtain ⟨g904, hg905⟩ : ∃ x : Bool, x = (g838 && (decide ((floorA s.d.From s.d.Tier) ≤ ((gd s.d.Aggs 0).From)))) := ⟨_, rfl⟩
 obtain ⟨g1025, hg1026⟩ : ∃ x : Bool, x = (g904 && (decide (((gd s.d.Aggs (s.d.Aggs.length - 1)).From) < s.d.To))) := ⟨_, rfl⟩
 refine cE_regionM (fun (D : Nat → Bool) (w : World) => St w0 w [.blk g546 76 #[(iV s.d.Id), (iV s.d.Tier), (iV s.d.From), (iV s.d.To), s.sv.1, s.av.1]] ∧ (St w0 w [.blk g546 76 #[(iV s.d.Id), (iV s.d.Tier), (iV s.d.From), (iV s.d.To), s.sv.1, s.av.1]])) [[(1, none)], [(88, some 0)], [(89, some 1)], [(90, some 2)], [(91, some 3)], [(4, none), (92, some 4)], [(93, some 5), (92, some 4)], [(92, some 4), (94, some 6)], [(95, some 7)], [(4, none), (96, some 8)], [(97, some 9), (96, some 8)], [(96, some 8), (98, some 10)], [(99, some 11)], [(1, none), (100, some 12)], [(101, some 13), (100, some 12)], [(1, none), (100, some 12)], [(103, some 15), (100, some 12)], [(102, some 14), (104, some 16), (100, some 12)], [(100, some 12), (105, some 17)], [(106, some 18)], [(1, none), (107, some 19)], [(108, some 20), (107, some 19)], [(109, some 21), (107, some 19)], [(110, some 22), (107, some 19)], [(111, some 23), (107, some 19)], [(1, none), (107, some 19)], [(113, some 25), (107, some 19)], [(1, none), (107, some 19)], [(115, some 27), (107, some 19)], [(114, some 26), (116, some 28), (107, some 19)], [(112, some 24), (117, some 29), (107, some 19)], [(107, some 19), (118, some 30)], [(119, some 31)], [(1, none), (120, some 32)], [(121, some 33), (120, some 32)], [(4, none), (120, some 32)], [(123, some 35), (120, some 32)], [(122, some 34), (124, some 36), (120, some 32)], [(125, some 37), (120, some 32)], [(126, some 38), (120, some 32)], [(1, none), (120, some 32)], [(128, some 40), (120, some 32)], [(127, some 39), (129, some 41), (120, some 32)], [(120, some 32), (130, some 42)], [(131, some 43)]] [] [(kEq (.pointer (some ⟨g546, (0 + 4), none⟩))), (kEq s.sv.1), (kEq (iV (s.d.Samples.length : Int))), (kEq (.bool (decide ((s.d.Samples.length : Int) = 0)))), (kEq (.bool (decide ((s.d.Samples.length : Int) = 0)))), (kEq (bif g831 then (iV (s.d.Aggs.length : Int)) else undef)), (kEq (bif g831 then (.bool (decide (1 ≤ (s.d.Aggs.length : Int)))) else undef)), (kEq (.bool g833)), (kEq (.bool g833)), (kEq (bif g833 then (iV (s.d.Aggs.length : Int)) else undef)), (kEq (bif g833 then (.bool (decide ((s.d.Aggs.length : Int) ≤ 64))) else undef)), (kEq (.bool g835)), (kEq (.bool g835)), (kEq (bif g835 then (.pointer (some ⟨g546, (0 + 5), none⟩)) else undef)), (kEq (bif g835 then s.av.1 else undef)), (kEq (bif g835 then (.pointer (some ⟨g546, (0 + 1), none⟩)) else undef)), (kEq (bif g835 then (iV s.d.Tier) else undef)), (kEq (bif g835 then (.bool (alignedA s.d.Aggs s.d.Tier)) else undef)), (kEq (.bool g838)), (kEq (.bool g838)), (kEq (bif g838 then (.pointer (some ⟨g546, (0 + 5), none⟩)) else undef)), (kEq (bif g838 then s.av.1 else undef)), (kPtc w0 g838 (aggC (gd s.d.Aggs 0))), (kPtc w0 g838 (aggC (gd s.d.Aggs 0))), (kEq (bif g838 then (iV ((gd s.d.Aggs 0).From)) else undef)), (kEq (bif g838 then (.pointer (some ⟨g546, (0 + 2), none⟩)) else undef)), (kEq (bif g838 then (iV s.d.From) else undef)), (kEq (bif g838 then (.pointer (some ⟨g546, (0 + 1), none⟩)) else undef)), (kEq (bif g838 then (iV s.d.Tier) else undef)), (kEq (bif g838 then (iV (floorA s.d.From s.d.Tier)) else undef)), (kEq (bif g838 then (.bool (decide ((floorA s.d.From s.d.Tier) ≤ ((gd s.d.Aggs 0).From)))) else undef)), (kEq (.bool g904)), (kEq (.bool g904)), (kEq (bif g904 then (.pointer (some ⟨g546, (0 + 5), none⟩)) else undef)), (kEq (bif g904 then s.av.1 else undef)), (kEq (bif g904 then (iV (s.d.Aggs.length : Int)) else undef)), (kEq (bif g904 then (iV ((s.d.Aggs.length : Int) - 1)) else undef)), (kPtc w0 g904 (aggC (gd s.d.Aggs (s.d.Aggs.length - 1)))), (kPtc w0 g904 (aggC (gd s.d.Aggs (s.d.Aggs.length - 1)))), (kEq (bif g904 then (iV ((gd s.d.Aggs (s.d.Aggs.length - 1)).From)) else undef)), (kEq (bif g904 then (.pointer (some ⟨g546, (0 + 3), none⟩)) else undef)), (kEq (bif g904 then (iV s.d.To) else undef)), (kEq (bif g904 then (.bool (decide (((gd s.d.Aggs (s.d.Aggs.length - 1)).From) < s.d.To))) else undef)), (kEq (.bool g1025)), (kEq (.bool g1025))] ⟨mEq, mEq, mEq, mEq, mEq, mEq, mEq, mEq, mEq, mEq, mEq, mEq, mEq, mEq, mEq, mEq, mEq, mEq, mEq, mEq, mEq, mEq, mPtc, mPtc, mEq, mEq, mEq, mEq, mEq, mEq, mEq, mEq, mEq, mEq, mEq, mEq, mEq, mPtc, mPtc, mEq, mEq, mEq, mEq, mEq, mEq, trivial⟩ (by kernel_rfl) rfl (by kernel_rfl) ⟨hst.drewW.sub (.cons_cons _ .slnil), hst.drewW⟩ (fun hM => ⟨?_, ?_, ?_, ?_, ?_, ?_, ?_, ?_, ?_, ?_, ?_, ?_, ?_, ?_, ?_, ?_, ?_, ?_, ?_, ?_, ?_, ?_, ?_, ?_, ?_, ?_, ?_, ?_, ?_, ?_, ?_, ?_, ?_, ?_, ?_, ?_, ?_, ?_, ?_, ?_, ?_, ?_, ?_, ?_, ?_, trivial⟩) ?_
 ·rintro D ρo wo nD eD cD jD aD ⟨f1, _⟩
  exact go_plain (op_fieldAddr (s := 0) Try.underlying76 rfl rfl Try.sizeOf23 (f1.trans rfl) (kN0 (i := 0) hM (by decide) (by exact jD) (by exact rfl)))
 ·rintro D ρo wo nD eD cD jD aD ⟨f88, _⟩
  have hst := jD.2 
  exact go_plain (op_load1 (u := s.sv.1) Try.isAgg23 f88 ((hst.cell 0 rfl).drop 4) (kN0 (i := 1) hM (by decide) (by exact jD) (by exact rfl)))
 ·rintro D ρo wo nD eD cD jD aD ⟨f89, _⟩
  exact go_plain (op_len (E := sampE) (xs := s.d.Samples) Try.underlying23 f89 h_s.1 (kN0 (i := 2) hM (by decide) (by exact jD) (by exact rfl)))
 ·rintro D ρo wo nD eD cD jD aD ⟨f90, _⟩
  exact go_plain (op_eql (k := .i64) (a := (s.d.Samples.length : Int)) (b := 0) f90 rfl (kN0 (i := 3) hM (by decide) (by exact jD) (by exact rfl)))
 ·rintro D ρo wo nD eD cD jD aD ⟨f91, _⟩
  exact go_plain (op_move (.bool (decide ((s.d.Samples.length : Int) = 0))) f91 (kN0 (i := 4) hM (by decide) (by exact jD) (by exact rfl)))
 ·rintro D ρo wo nD eD cD jD aD ⟨f4, f92, _⟩
  refine go_lz 92 rfl ((gA_t f92).trans hg832.symm) ?_ (fun hc1028 => (kN0 (i := 5) hM (by decide) (by exact jD) (by exact (gf hc1028).symm)))
  intro hc1028
  exact id (op_move (iV (s.d.Aggs.length : Int)) (f4.trans rfl) (kN0 (i := 5) hM (by decide) (by exact jD) (by exact (gt hc1028).symm)))
 ·rintro D ρo wo nD eD cD jD aD ⟨f93, f92, _⟩
  refine go_lz 92 rfl ((gA_t f92).trans hg832.symm) ?_ (fun hc1029 => (kN0 (i := 6) hM (by decide) (by exact jD) (by exact (gf hc1029).symm)))
  intro hc1029
  exact id (op_geq (k := .i64) (a := (s.d.Aggs.length : Int)) (b := 1) (f93.trans (gt hc1029)) rfl (kN0 (i := 6) hM (by decide) (by exact jD) (by exact (gt hc1029).symm)))
 ·rintro D ρo wo nD eD cD jD aD ⟨f92, f94, _⟩
  refine go_plain (op_pick_and f92 f94 (fun hp => (hg832.trans hp)) rfl ?_)
  exact (kN0 (i := 7) hM (by decide) (by exact jD) (by exact (congrArg Value.bool hg834.symm)))
 ·rintro D ρo wo nD eD cD jD aD ⟨f95, _⟩
  exact go_plain (op_move (.bool g833) f95 (kN0 (i := 8) hM (by decide) (by exact jD) (by exact rfl)))
 ·rintro D ρo wo nD eD cD jD aD ⟨f4, f96, _⟩
  refine go_lz 96 rfl (gA_t f96) ?_ (fun hc1030 => (kN0 (i := 9) hM (by decide) (by exact jD) (by exact (gf hc1030).symm)))
  intro hc1030
  exact id (op_move (iV (s.d.Aggs.length : Int)) (f4.trans rfl) (kN0 (i := 9) hM (by decide) (by exact jD) (by exact (gt hc1030).symm)))
 ·rintro D ρo wo nD eD cD jD aD ⟨f97, f96, _⟩
  refine go_lz 96 rfl (gA_t f96) ?_ (fun hc1031 => (kN0 (i := 10) hM (by decide) (by exact jD) (by exact (gf hc1031).symm)))
  intro hc1031
  exact id (op_leq (k := .i64) (a := (s.d.Aggs.length : Int)) (b := 64) (f97.trans (gt hc1031)) rfl (kN0 (i := 10) hM (by decide) (by exact jD) (by exact (gt hc1031).symm)))
 ·rintro D ρo wo nD eD cD jD aD ⟨f96, f98, _⟩
  refine go_plain (op_pick_and f96 f98 (fun hp => hp) rfl ?_)
  exact (kN0 (i := 11) hM (by decide) (by exact jD) (by exact (congrArg Value.bool hg836.symm)))
 ·rintro D ρo wo nD eD cD jD aD ⟨f99, _⟩
  exact go_plain (op_move (.bool g835) f99 (kN0 (i := 12) hM (by decide) (by exact jD) (by exact rfl)))
 ·rintro D ρo wo nD eD cD jD aD ⟨f1, f100, _⟩
  refine go_lz 100 rfl (gA_t f100) ?_ (fun hc1032 => (kN0 (i := 13) hM (by decide) (by exact jD) (by exact (gf hc1032).symm)))
  intro hc1032
  exact id (op_fieldAddr (s := 0) Try.underlying76 rfl rfl Try.sizeOf74 (f1.trans rfl) (kN0 (i := 13) hM (by decide) (by exact jD) (by exact (gt hc1032).symm)))
 ·rintro D ρo wo nD eD cD jD aD ⟨f101, f100, _⟩
  refine go_lz 100 rfl (gA_t f100) ?_ (fun hc1033 => (kN0 (i := 14) hM (by decide) (by exact jD) (by exact (gf hc1033).symm)))
  intro hc1033
  have hst := jD.2 
  exact id (op_load1 (u := s.av.1) Try.isAgg74 (f101.trans (gt hc1033)) ((hst.cell 0 rfl).drop 5) (kN0 (i := 14) hM (by decide) (by exact jD) (by exact (gt hc1033).symm)))
 ·rintro D ρo wo nD eD cD jD aD ⟨f1, f100, _⟩
  refine go_lz 100 rfl (gA_t f100) ?_ (fun hc1034 => (kN0 (i := 15) hM (by decide) (by exact jD) (by exact (gf hc1034).symm)))
  intro hc1034
  exact id (op_fieldAddr (s := 0) Try.underlying76 rfl rfl Try.sizeOf3 (f1.trans rfl) (kN0 (i := 15) hM (by decide) (by exact jD) (by exact (gt hc1034).symm)))
 ·rintro D ρo wo nD eD cD jD aD ⟨f103, f100, _⟩
  refine go_lz 100 rfl (gA_t f100) ?_ (fun hc1035 => (kN0 (i := 16) hM (by decide) (by exact jD) (by exact (gf hc1035).symm)))
  intro hc1035
  have hst := jD.2 
  exact id (op_load1 (u := (iV s.d.Tier)) Try.isAgg3 (f103.trans (gt hc1035)) ((hst.cell 0 rfl).drop 1) (kN0 (i := 16) hM (by decide) (by exact jD) (by exact (gt hc1035).symm)))
 ·rintro D ρo wo nD eD cD jD aD ⟨f102, f104, f100, _⟩
  refine go_lz 100 rfl (gA_t f100) ?_ (fun hc1036 => (kN0 (i := 17) hM (by decide) (by exact jD) (by exact (gf hc1036).symm)))
  intro hc1036
  have c1037 : (s.d.Samples.length : Int) = 0 := of_decide_eq_true (and_l (hg834.symm.trans (and_l (hg836.symm.trans hc1036))))
  have c1038 : 1 ≤ (s.d.Aggs.length : Int) := of_decide_eq_true (and_r (hg834.symm.trans (and_l (hg836.symm.trans hc1036))))
  have c1039 : (s.d.Aggs.length : Int) ≤ 64 := of_decide_eq_true (and_r (hg836.symm.trans hc1036))
  have hst := jD.2 
  refine id (op_call Try.call58 (evs_cons (v := s.av.1) (f102.trans (gt hc1036)) (evs_cons (v := (iV s.d.Tier)) (f104.trans (gt hc1036)) evs_nil)) (c_rAligned (w0 := wo) (v_l := s.av.1) (l := s.d.Aggs) (h_l := (h_s.2.below hst.below)) (k := s.d.Tier) (hl := hs.2.2.2.2.2) (k0 := (by omega)) (k1 := (by omega))) ?_)
  rintro _ w1040 ⟨rfl, hcall⟩
  refine ⟨_, rfl, ?_⟩
  exact kN (i := 17) hM (by decide) hcall.below (by exact ⟨(jD.1).ext hcall.below, (jD.2).ext hcall.below⟩) (by exact (gt hc1036).symm)
 ·rintro D ρo wo nD eD cD jD aD ⟨f100, f105, _⟩
  refine go_plain (op_pick_and f100 f105 (fun hp => hp) rfl ?_)
  exact (kN0 (i := 18) hM (by decide) (by exact jD) (by exact (congrArg Value.bool hg839.symm)))
 ·rintro D ρo wo nD eD cD jD aD ⟨f106, _⟩
  exact go_plain (op_move (.bool g838) f106 (kN0 (i := 19) hM (by decide) (by exact jD) (by exact rfl)))
 ·rintro D ρo wo nD eD cD jD aD ⟨f1, f107, _⟩
  refine go_lz 107 rfl (gA_t f107) ?_ (fun hc1041 => (kN0 (i := 20) hM (by decide) (by exact jD) (by exact (gf hc1041).symm)))
  intro hc1041
  exact id (op_fieldAddr (s := 0) Try.underlying76 rfl rfl Try.sizeOf74 (f1.trans rfl) (kN0 (i := 20) hM (by decide) (by exact jD) (by exact (gt hc1041).symm)))
 ·rintro D ρo wo nD eD cD jD aD ⟨f108, f107, _⟩
  refine go_lz 107 rfl (gA_t f107) ?_ (fun hc1042 => (kN0 (i := 21) hM (by decide) (by exact jD) (by exact (gf hc1042).symm)))
  intro hc1042
  have hst := jD.2 
  exact id (op_load1 (u := s.av.1) Try.isAgg74 (f108.trans (gt hc1042)) ((hst.cell 0 rfl).drop 5) (kN0 (i := 21) hM (by decide) (by exact jD) (by exact (gt hc1042).symm)))
 ·rintro D ρo wo nD eD cD jD aD ⟨f109, f107, _⟩
  refine go_lz 107 rfl (gA_t f107) ?_ (fun hc1043 => (kN0 (i := 22) hM (by decide) (by exact jD) (by exact fun h => absurd (show _ = true from h) (by rw [hc1043]; decide))))
  intro hc1043
  have c1044 : (s.d.Samples.length : Int) = 0 := of_decide_eq_true (and_l (hg834.symm.trans (and_l (hg836.symm.trans (and_l (hg839.symm.trans hc1043))))))
  have c1045 : 1 ≤ (s.d.Aggs.length : Int) := of_decide_eq_true (and_r (hg834.symm.trans (and_l (hg836.symm.trans (and_l (hg839.symm.trans hc1043))))))
  have c1046 : (s.d.Aggs.length : Int) ≤ 64 := of_decide_eq_true (and_r (hg836.symm.trans (and_l (hg839.symm.trans hc1043))))
  have c1047 : (alignedA s.d.Aggs s.d.Tier) = true := (and_r (hg839.symm.trans hc1043))
  refine id (op_indexAddrD (E := aggE) (xs := s.d.Aggs) 0 Try.underlying74 Try.sizeOf29 (f109.trans (gt hc1043)) h_s.2 rfl (by omega) (by omega) (fun a1048 o1049 p1050 => ?_))
  exact (kN0 (i := 22) hM (by decide) (by exact jD) (by exact fun _ => ⟨_, _, rfl, p1050⟩))
 ·rintro D ρo wo nD eD cD jD aD ⟨f110, f107, _⟩
  refine go_lz 107 rfl (gA_t f107) ?_ (fun hc1051 => (kN0 (i := 23) hM (by decide) (by exact jD) (by exact fun h => absurd (show _ = true from h) (by rw [hc1051]; decide))))
  intro hc1051
  obtain ⟨a1052, o1053, e1054, p1055⟩ := f110 hc1051
  exact id (op_fieldAddr (s := 0) Try.underlying29 rfl rfl Try.sizeOf2 e1054 (kN0 (i := 23) hM (by decide) (by exact jD) (by exact fun _ => ⟨_, _, rfl, p1055⟩)))
 ·rintro D ρo wo nD eD cD jD aD ⟨f111, f107, _⟩
  refine go_lz 107 rfl (gA_t f107) ?_ (fun hc1056 => (kN0 (i := 24) hM (by decide) (by exact jD) (by exact (gf hc1056).symm)))
  intro hc1056
  have hst := jD.2 
  obtain ⟨a1057, o1058, e1059, p1060⟩ := f111 hc1056
  exact id (op_load1 (u := (iV ((gd s.d.Aggs 0).From))) Try.isAgg2 e1059 (p1060.below hst.below) (kN0 (i := 24) hM (by decide) (by exact jD) (by exact (gt hc1056).symm)))
 ·rintro D ρo wo nD eD cD jD aD ⟨f1, f107, _⟩
  refine go_lz 107 rfl (gA_t f107) ?_ (fun hc1061 => (kN0 (i := 25) hM (by decide) (by exact jD) (by exact (gf hc1061).symm)))
  intro hc1061
  exact id (op_fieldAddr (s := 0) Try.underlying76 rfl rfl Try.sizeOf2 (f1.trans rfl) (kN0 (i := 25) hM (by decide) (by exact jD) (by exact (gt hc1061).symm)))
 ·rintro D ρo wo nD eD cD jD aD ⟨f113, f107, _⟩
  refine go_lz 107 rfl (gA_t f107) ?_ (fun hc1062 => (kN0 (i := 26) hM (by decide) (by exact jD) (by exact (gf hc1062).symm)))
  intro hc1062
  have hst := jD.2 
  exact id (op_load1 (u := (iV s.d.From)) Try.isAgg2 (f113.trans (gt hc1062)) ((hst.cell 0 rfl).drop 2) (kN0 (i := 26) hM (by decide) (by exact jD) (by exact (gt hc1062).symm)))
 ·rintro D ρo wo nD eD cD jD aD ⟨f1, f107, _⟩
  refine go_lz 107 rfl (gA_t f107) ?_ (fun hc1063 => (kN0 (i := 27) hM (by decide) (by exact jD) (by exact (gf hc1063).symm)))
  intro hc1063
  exact id (op_fieldAddr (s := 0) Try.underlying76 rfl rfl Try.sizeOf3 (f1.trans rfl) (kN0 (i := 27) hM (by decide) (by exact jD) (by exact (gt hc1063).symm)))
 ·rintro D ρo wo nD eD cD jD aD ⟨f115, f107, _⟩
  refine go_lz 107 rfl (gA_t f107) ?_ (fun hc1064 => (kN0 (i := 28) hM (by decide) (by exact jD) (by exact (gf hc1064).symm)))
  intro hc1064
  have hst := jD.2 
  exact id (op_load1 (u := (iV s.d.Tier)) Try.isAgg3 (f115.trans (gt hc1064)) ((hst.cell 0 rfl).drop 1) (kN0 (i := 28) hM (by decide) (by exact jD) (by exact (gt hc1064).symm)))
 ·rintro D ρo wo nD eD cD jD aD ⟨f114, f116, f107, _⟩
  refine go_lz 107 rfl (gA_t f107) ?_ (fun hc1065 => (kN0 (i := 29) hM (by decide) (by exact jD) (by exact (gf hc1065).symm)))
  intro hc1065
  have c1066 : (s.d.Samples.length : Int) = 0 := of_decide_eq_true (and_l (hg834.symm.trans (and_l (hg836.symm.trans (and_l (hg839.symm.trans hc1065))))))
  have c1067 : 1 ≤ (s.d.Aggs.length : Int) := of_decide_eq_true (and_r (hg834.symm.trans (and_l (hg836.symm.trans (and_l (hg839.symm.trans hc1065))))))
  have c1068 : (s.d.Aggs.length : Int) ≤ 64 := of_decide_eq_true (and_r (hg836.symm.trans (and_l (hg839.symm.trans hc1065))))
  have c1069 : (alignedA s.d.Aggs s.d.Tier) = true := (and_r (hg839.symm.trans hc1065))
  refine id (op_call Try.call31 (evs_cons (v := (iV s.d.From)) (f114.trans (gt hc1065)) (evs_cons (v := (iV s.d.Tier)) (f116.trans (gt hc1065)) evs_nil)) (c_rFloor (w0 := wo) (t := s.d.From) (k := s.d.Tier) (t0 := (by omega)) (k0 := (by omega)) (t1 := (by omega)) (k1 := (by omega))) ?_)
  rintro _ w1070 ⟨rfl, hcall⟩
  refine ⟨_, rfl, ?_⟩
  exact kN (i := 29) hM (by decide) hcall.below (by exact ⟨(jD.1).ext hcall.below, (jD.2).ext hcall.below⟩) (by exact (gt hc1065).symm)
 ·rintro D ρo wo nD eD cD jD aD ⟨f112, f117, f107, _⟩
  refine go_lz 107 rfl (gA_t f107) ?_ (fun hc1071 => (kN0 (i := 30) hM (by decide) (by exact jD) (by exact (gf hc1071).symm)))
  intro hc1071
  exact id (op_geq (k := .i64) (a := (gd s.d.Aggs 0).From) (b := (floorA s.d.From s.d.Tier)) (f112.trans (gt hc1071)) (f117.trans (gt hc1071)) (kN0 (i := 30) hM (by decide) (by exact jD) (by exact (gt hc1071).symm)))
 ·rintro D ρo wo nD eD cD jD aD ⟨f107, f118, _⟩
  refine go_plain (op_pick_and f107 f118 (fun hp => hp) rfl ?_)
  exact (kN0 (i := 31) hM (by decide) (by exact jD) (by exact (congrArg Value.bool hg905.symm)))
 ·rintro D ρo wo nD eD cD jD aD ⟨f119, _⟩
  exact go_plain (op_move (.bool g904) f119 (kN0 (i := 32) hM (by decide) (by exact jD) (by exact rfl)))
 ·rintro D ρo wo nD eD cD jD aD ⟨f1, f120, _⟩
  refine go_lz 120 rfl (gA_t f120) ?_ (fun hc1072 => (kN0 (i := 33) hM (by decide) (by exact jD) (by exact (gf hc1072).symm)))
  intro hc1072
  exact id (op_fieldAddr (s := 0) Try.underlying76 rfl rfl Try.sizeOf74 (f1.trans rfl) (kN0 (i := 33) hM (by decide) (by exact jD) (by exact (gt hc1072).symm)))
 ·rintro D ρo wo nD eD cD jD aD ⟨f121, f120, _⟩
  refine go_lz 120 rfl (gA_t f120) ?_ (fun hc1073 => (kN0 (i := 34) hM (by decide) (by exact jD) (by exact (gf hc1073).symm)))
  intro hc1073
  have hst := jD.2 
  exact id (op_load1 (u := s.av.1) Try.isAgg74 (f121.trans (gt hc1073)) ((hst.cell 0 rfl).drop 5) (kN0 (i := 34) hM (by decide) (by exact jD) (by exact (gt hc1073).symm)))
 ·rintro D ρo wo nD eD cD jD aD ⟨f4, f120, _⟩
  refine go_lz 120 rfl (gA_t f120) ?_ (fun hc1074 => (kN0 (i := 35) hM (by decide) (by exact jD) (by exact (gf hc1074).symm)))
  intro hc1074
  exact id (op_move (iV (s.d.Aggs.length : Int)) (f4.trans rfl) (kN0 (i := 35) hM (by decide) (by exact jD) (by exact (gt hc1074).symm)))
 ·rintro D ρo wo nD eD cD jD aD ⟨f123, f120, _⟩
  refine go_lz 120 rfl (gA_t f120) ?_ (fun hc1075 => (kN0 (i := 36) hM (by decide) (by exact jD) (by exact (gf hc1075).symm)))
  intro hc1075
  have c1076 : (s.d.Samples.length : Int) = 0 := of_decide_eq_true (and_l (hg834.symm.trans (and_l (hg836.symm.trans (and_l (hg839.symm.trans (and_l (hg905.symm.trans hc1075))))))))
  have c1077 : 1 ≤ (s.d.Aggs.length : Int) := of_decide_eq_true (and_r (hg834.symm.trans (and_l (hg836.symm.trans (and_l (hg839.symm.trans (and_l (hg905.symm.trans hc1075))))))))
  have c1078 : (s.d.Aggs.length : Int) ≤ 64 := of_decide_eq_true (and_r (hg836.symm.trans (and_l (hg839.symm.trans (and_l (hg905.symm.trans hc1075))))))
  have c1079 : (alignedA s.d.Aggs s.d.Tier) = true := (and_r (hg839.symm.trans (and_l (hg905.symm.trans hc1075))))
  have c1080 : (floorA s.d.From s.d.Tier) ≤ ((gd s.d.Aggs 0).From) := of_decide_eq_true (and_r (hg905.symm.trans hc1075))
  exact id (op_sub (k := .i64) (a := (s.d.Aggs.length : Int)) (b := 1) ((s.d.Aggs.length : Int) - 1) (f123.trans (gt hc1075)) rfl (xi64 (by omega) (by omega)) (kN0 (i := 36) hM (by decide) (by exact jD) (by exact (gt hc1075).symm)))
 ·rintro D ρo wo nD eD cD jD aD ⟨f122, f124, f120, _⟩
  refine go_lz 120 rfl (gA_t f120) ?_ (fun hc1081 => (kN0 (i := 37) hM (by decide) (by exact jD) (by exact fun h => absurd (show _ = true from h) (by rw [hc1081]; decide))))
  intro hc1081
  have c1082 : (s.d.Samples.length : Int) = 0 := of_decide_eq_true (and_l (hg834.symm.trans (and_l (hg836.symm.trans (and_l (hg839.symm.trans (and_l (hg905.symm.trans hc1081))))))))
  have c1083 : 1 ≤ (s.d.Aggs.length : Int) := of_decide_eq_true (and_r (hg834.symm.trans (and_l (hg836.symm.trans (and_l (hg839.symm.trans (and_l (hg905.symm.trans hc1081))))))))
  have c1084 : (s.d.Aggs.length : Int) ≤ 64 := of_decide_eq_true (and_r (hg836.symm.trans (and_l (hg839.symm.trans (and_l (hg905.symm.trans hc1081))))))
  have c1085 : (alignedA s.d.Aggs s.d.Tier) = true := (and_r (hg839.symm.trans (and_l (hg905.symm.trans hc1081))))
  have c1086 : (floorA s.d.From s.d.Tier) ≤ ((gd s.d.Aggs 0).From) := of_decide_eq_true (and_r (hg905.symm.trans hc1081))
  refine id (op_indexAddrD (E := aggE) (xs := s.d.Aggs) (s.d.Aggs.length - 1) Try.underlying74 Try.sizeOf29 (f122.trans (gt hc1081)) h_s.2 (f124.trans (gt hc1081)) (by omega) (by omega) (fun a1087 o1088 p1089 => ?_))
  exact (kN0 (i := 37) hM (by decide) (by exact jD) (by exact fun _ => ⟨_, _, rfl, p1089⟩))
 ·rintro D ρo wo nD eD cD jD aD ⟨f125, f120, _⟩
  refine go_lz 120 rfl (gA_t f120) ?_ (fun hc1090 => (kN0 (i := 38) hM (by decide) (by exact jD) (by exact fun h => absurd (show _ = true from h) (by rw [hc1090]; decide))))
  intro hc1090
  obtain ⟨a1091, o1092, e1093, p1094⟩ := f125 hc1090
  exact id (op_fieldAddr (s := 0) Try.underlying29 rfl rfl Try.sizeOf2 e1093 (kN0 (i := 38) hM (by decide) (by exact jD) (by exact fun _ => ⟨_, _, rfl, p1094⟩)))
 ·rintro D ρo wo nD eD cD jD aD ⟨f126, f120, _⟩
  refine go_lz 120 rfl (gA_t f120) ?_ (fun hc1095 => (kN0 (i := 39) hM (by decide) (by exact jD) (by exact (gf hc1095).symm)))
  intro hc1095
  have hst := jD.2 
  obtain ⟨a1096, o1097, e1098, p1099⟩ := f126 hc1095
  exact id (op_load1 (u := (iV ((gd s.d.Aggs (s.d.Aggs.length - 1)).From))) Try.isAgg2 e1098 (p1099.below hst.below) (kN0 (i := 39) hM (by decide) (by exact jD) (by exact (gt hc1095).symm)))
 ·rintro D ρo wo nD eD cD jD aD ⟨f1, f120, _⟩
  refine go_lz 120 rfl (gA_t f120) ?_ (fun hc1100 => (kN0 (i := 40) hM (by decide) (by exact jD) (by exact (gf hc1100).symm)))
  intro hc1100
  exact id (op_fieldAddr (s := 0) Try.underlying76 rfl rfl Try.sizeOf2 (f1.trans rfl) (kN0 (i := 40) hM (by decide) (by exact jD) (by exact (gt hc1100).symm)))
 ·rintro D ρo wo nD eD cD jD aD ⟨f128, f120, _⟩
  refine go_lz 120 rfl (gA_t f120) ?_ (fun hc1101 => (kN0 (i := 41) hM (by decide) (by exact jD) (by exact (gf hc1101).symm)))
  intro hc1101
  have hst := jD.2 
  exact id (op_load1 (u := (iV s.d.To)) Try.isAgg2 (f128.trans (gt hc1101)) ((hst.cell 0 rfl).drop 3) (kN0 (i := 41) hM (by decide) (by exact jD) (by exact (gt hc1101).symm)))
 ·rintro D ρo wo nD eD cD jD aD ⟨f127, f129, f120, _⟩
  refine go_lz 120 rfl (gA_t f120) ?_ (fun hc1102 => (kN0 (i := 42) hM (by decide) (by exact jD) (by exact (gf hc1102).symm)))
  intro hc1102
  exact id (op_lss (k := .i64) (a := (gd s.d.Aggs (s.d.Aggs.length - 1)).From) (b := s.d.To) (f127.trans (gt hc1102)) (f129.trans (gt hc1102)) (kN0 (i := 42) hM (by decide) (by exact jD) (by exact (gt hc1102).symm)))
 ·rintro D ρo wo nD eD cD jD aD ⟨f120, f130, _⟩
  refine go_plain (op_pick_and f120 f130 (fun hp => hp) rfl ?_)
  exact (kN0 (i := 43) hM (by decide) (by exact jD) (by exact (congrArg Value.bool hg1026.symm)))
 ·rintro D ρo wo nD eD cD jD aD ⟨f131, _⟩
  exact go_plain (op_assign (.bool g1025) f131 (kN0 (i := 44) hM (by decide) (by exact jD) (by exact rfl)))
 intro ρ1103 w1104 Dw1104 hallw1104 hJw1104 hRw1104 hkw1104
 have hst : St w0 w1104 [.blk g546 76 #[(iV s.d.Id), (iV s.d.Tier), (iV s.d.From), (iV s.d.To), s.sv.1, s.av.1]] := hJw1104.2 
 have uw1104_2 : ρ1103 2 = (.bool g1025) := hRw1104 44 2 rfl
 refine then_n (cE_ret (post_r _ (res1 (v := (.bool g1025)) uw1104_2) ?_))
 exact ⟨(retv1 (congrArg Value.bool (show g1025 = (mayS s.d) from by (rw [hg1026, hg905, hg839, hg836, hg834]; exact Eq.symm (may_up (headS_yes (by omega)) (by omega)))))), hst.bare⟩

end Go.Proofs.Ytldfnkhccaglmaa
