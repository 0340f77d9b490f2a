/- twinkeepref17.picks -/
import Derived.Test.YthanfecefjfbjaaXLA
import Derived.Test.YthanfecefjfbjaaXT
namespace Go.Proofs.Ythanfecefjfbjaa
open Go.RowKit

set_option maxRecDepth 8000 in
set_option maxHeartbeats 8000000 in
theorem c_rpicks (w0 : World) (v_l : Value) (l : List Info) (h_l : Sl w0 infoE v_l l) (hll : l.length ≤ 1000000) :
  Calls Try.prog 30 #[v_l] w0 fun e w' => ∃ (v : Value), ∃ (out : List Int), e = .returned v ∧ St w0 w' [rowT 3 (intE .i64) v out] ∧ PickR l out := by
 refine calls_E (n := 175) (ts := [2]) Try.func30 rfl rfl rfl (by simp) ?_
 have hst := St.start w0
 refine cE_seq (cE_region rfl (s_cons (op_assign nS rfl (s_nil (then_n (cE_seq (cE_region rfl (s_cons (op_assign nS rfl (s_nil (then_n (cE_seq (cE_seq (cE_region rfl (s_cons (op_assign (iV 0) rfl (s_nil (then_n (cE_block ?_)))))))))))))))))))
 replace hst := hst.nilRow 3 (intE .i64)
 refine cE_loop (fun (m : Nat) (ρ : Env) (w : World) => ∃ (vo : Value) (ps : List Nat) (i : Nat), m = l.length - i ∧ ρ 0 = v_l ∧ ρ 2 = nS ∧ ρ 3 = vo ∧ ρ 4 = (iV (i : Int)) ∧ St w0 w [rowT 3 (intE .i64) vo (intsN ps)] ∧ (i ≤ l.length) ∧ (ps = outN l i)) id _ ⟨nS, [], 0, rfl, rfl, rfl, rfl, (congrArg iV (show 0 = _ from by omega)), (by exact hst), (by omega), (by rfl)⟩ ?_
 rintro m2 ρ3 w4 ⟨vo, ps, i, hm2, q1_0, q1_2, q1_3, q1_4, hst, hi, hI⟩
 have hlen := h_l.len
 have hpl : ps.length ≤ i := by rw [hI]; exact outN_len i
 have hil := intsN_len ps
 have hlt : ∀ n ∈ ps, n < i := by rw [hI]; exact fun n h => outN_lt n h
 refine cE_seq (cE_seq (cE_region rfl (s_cons (op_move (iV (i : Int)) q1_4 (s_cons (op_move v_l q1_0 (s_cons (op_len (E := infoE) (xs := l) Try.underlying26 rfl h_l (s_cons (op_lss (k := .i64) (a := (i : Int)) (b := (l.length : Int)) rfl rfl (s_nil (then_n ?_))))))))))))
 rcases Bool.eq_false_or_eq_true (decide ((i : Int) < (l.length : Int))) with b5 | b5
 ·have c6 := of_decide_eq_true b5
  refine cE_cond true (congrArg Value.bool b5) (fun _ => ?_) (fun h => by cases h)
  refine cE_skip (then_n (cE_seq (cE_block (cE_seq (cE_region rfl (s_cons (op_assign (.bool true) rfl (s_nil (then_n (cE_seq (cE_seq (cE_region rfl (s_cons (op_assign (iV 0) rfl (s_nil (then_n (cE_block (cE_loop (fun (m : Nat) (ρ : Env) (w : World) => ∃ (n : Nat), m = l.length - n ∧ ρ 0 = v_l ∧ ρ 2 = nS ∧ ρ 3 = vo ∧ ρ 4 = (iV (i : Int)) ∧ ρ 5 = (.bool (bestTo l i n)) ∧ ρ 6 = (iV (n : Int)) ∧ St w0 w [rowT 3 (intE .i64) vo (intsN ps)] ∧ (n ≤ l.length)) id _ ⟨0, rfl, q1_0, q1_2, q1_3, q1_4, (congrArg Value.bool (show true = _ from by rfl)), (congrArg iV (show 0 = _ from by omega)), hst, (by omega)⟩ ?_))))))))))))))))))
  rintro m8 ρ9 w10 ⟨n, hm8, q7_0, q7_2, q7_3, q7_4, q7_5, q7_6, hst, hn⟩
  refine cE_seq (cE_seq (cE_region rfl (s_cons (op_move (iV (n : Int)) q7_6 (s_cons (op_move v_l q7_0 (s_cons (op_len (E := infoE) (xs := l) Try.underlying26 rfl h_l (s_cons (op_lss (k := .i64) (a := (n : Int)) (b := (l.length : Int)) rfl rfl (s_nil (then_n ?_))))))))))))
  rcases Bool.eq_false_or_eq_true (decide ((n : Int) < (l.length : Int))) with b11 | b11
  ·have c12 := of_decide_eq_true b11
   refine cE_cond true (congrArg Value.bool b11) (fun _ => ?_) (fun h => by cases h)
   refine cE_skip (then_n (cE_seq (cE_block (cE_seq ?_))))
   obtain ⟨g19, hg20⟩ : ∃ x : Bool, x = decide (((gd l n).From) = ((gd l i).From)) := ⟨_, rfl⟩
   obtain ⟨g107, hg108⟩ : ∃ x : Bool, x = ((decide (((gd l n).From) = ((gd l i).From))) && (decide (((gd l n).To) = ((gd l i).To)))) := ⟨_, rfl⟩
   obtain ⟨g403, hg404⟩ : ∃ x : Bool, x = (g107 && (!(decide (((gd l n).Tier) < ((gd l i).Tier))))) := ⟨_, rfl⟩
   obtain ⟨g891, hg892⟩ : ∃ x : Bool, x = (g403 && (decide (((gd l n).Tier) = ((gd l i).Tier)))) := ⟨_, rfl⟩
   obtain ⟨g1571, hg1572⟩ : ∃ x : Bool, x = (g891 && (!(decide (((gd l n).Id) < ((gd l i).Id))))) := ⟨_, rfl⟩
   obtain ⟨g2443, hg2444⟩ : ∃ x : Bool, x = (g1571 && (decide (((gd l n).Id) = ((gd l i).Id)))) := ⟨_, rfl⟩
   obtain ⟨g2765, hg2766⟩ : ∃ x : Bool, x = ((decide (((gd l n).Id) = ((gd l i).Id))) && (decide ((n : Int) < (i : Int)))) := ⟨_, rfl⟩
   obtain ⟨g2831, hg2832⟩ : ∃ x : Bool, x = ((decide (((gd l n).Id) < ((gd l i).Id))) || g2765) := ⟨_, rfl⟩
   obtain ⟨g2881, hg2882⟩ : ∃ x : Bool, x = ((decide (((gd l n).Tier) = ((gd l i).Tier))) && g2831) := ⟨_, rfl⟩
   obtain ⟨g2915, hg2916⟩ : ∃ x : Bool, x = ((decide (((gd l n).Tier) < ((gd l i).Tier))) || g2881) := ⟨_, rfl⟩
   obtain ⟨g2917, hg2918⟩ : ∃ x : Bool, x = (g107 && g2915) := ⟨_, rfl⟩
   refine cE_regionM (fun (D : Nat → Bool) (w : World) => St w0 w [rowT 3 (intE .i64) vo (intsN ps)] ∧ (St w0 w [rowT 3 (intE .i64) vo (intsN ps)])) [[(0, none)], [(6, none)], [(21, some 0), (22, some 1)], [(23, some 2)], [(24, some 3)], [(0, none)], [(4, none)], [(26, some 5), (27, some 6)], [(28, some 7)], [(29, some 8)], [(25, some 4), (30, some 9)], [(31, some 10)], [(0, none), (32, some 11)], [(6, none), (32, some 11)], [(33, some 12), (34, some 13), (32, some 11)], [(35, some 14), (32, some 11)], [(36, some 15), (32, some 11)], [(0, none), (32, some 11)], [(4, none), (32, some 11)], [(38, some 17), (39, some 18), (32, some 11)], [(40, some 19), (32, some 11)], [(41, some 20), (32, some 11)], [(37, some 16), (42, some 21), (32, some 11)], [(32, some 11), (43, some 22)], [(44, some 23)], [(0, none), (45, some 24)], [(6, none), (45, some 24)], [(46, some 25), (47, some 26), (45, some 24)], [(48, some 27), (45, some 24)], [(49, some 28), (45, some 24)], [(0, none), (45, some 24)], [(4, none), (45, some 24)], [(51, some 30), (52, some 31), (45, some 24)], [(53, some 32), (45, some 24)], [(54, some 33), (45, some 24)], [(50, some 29), (55, some 34), (45, some 24)], [(56, some 35), (45, some 24)], [(0, none), (57, some 36)], [(6, none), (57, some 36)], [(58, some 37), (59, some 38), (57, some 36)], [(60, some 39), (57, some 36)], [(61, some 40), (57, some 36)], [(0, none), (57, some 36)], [(4, none), (57, some 36)], [(63, some 42), (64, some 43), (57, some 36)], [(65, some 44), (57, some 36)], [(66, some 45), (57, some 36)], [(62, some 41), (67, some 46), (57, some 36)], [(68, some 47), (57, some 36)], [(0, none), (69, some 48)], [(6, none), (69, some 48)], [(70, some 49), (71, some 50), (69, some 48)], [(72, some 51), (69, some 48)], [(73, some 52), (69, some 48)], [(0, none), (69, some 48)], [(4, none), (69, some 48)], [(75, some 54), (76, some 55), (69, some 48)], [(77, some 56), (69, some 48)], [(78, some 57), (69, some 48)], [(74, some 53), (79, some 58), (69, some 48)], [(80, some 59), (69, some 48)], [(0, none), (81, some 60)], [(6, none), (81, some 60)], [(82, some 61), (83, some 62), (81, some 60)], [(84, some 63), (81, some 60)], [(85, some 64), (81, some 60)], [(0, none), (81, some 60)], [(4, none), (81, some 60)], [(87, some 66), (88, some 67), (81, some 60)], [(89, some 68), (81, some 60)], [(90, some 69), (81, some 60)], [(86, some 65), (91, some 70), (81, some 60)], [(92, some 71), (81, some 60)], [(6, none), (93, some 72)], [(4, none), (93, some 72)], [(94, some 73), (95, some 74), (93, some 72)], [(93, some 72), (96, some 75), (81, some 60)], [(81, some 60), (97, some 76), (69, some 48)], [(69, some 48), (98, some 77), (57, some 36)], [(57, some 36), (99, some 78), (45, some 24)], [(45, some 24), (100, some 79)]] [] [(kEq v_l), (kEq (iV (n : Int))), (kPt0 w0 [(iV ((gd l n).Id)), (iV ((gd l n).Tier)), (iV ((gd l n).From)), (iV ((gd l n).To)), (.int .u32 ((gd l n).Sum))]), (kPt0 w0 [(iV ((gd l n).From)), (iV ((gd l n).To)), (.int .u32 ((gd l n).Sum))]), (kEq (iV ((gd l n).From))), (kEq v_l), (kEq (iV (i : Int))), (kPt0 w0 [(iV ((gd l i).Id)), (iV ((gd l i).Tier)), (iV ((gd l i).From)), (iV ((gd l i).To)), (.int .u32 ((gd l i).Sum))]), (kPt0 w0 [(iV ((gd l i).From)), (iV ((gd l i).To)), (.int .u32 ((gd l i).Sum))]), (kEq (iV ((gd l i).From))), (kEq (.bool (decide (((gd l n).From) = ((gd l i).From))))), (kEq (.bool (decide (((gd l n).From) = ((gd l i).From))))), (kEq (bif g19 then v_l else undef)), (kEq (bif g19 then (iV (n : Int)) else undef)), (kPtc w0 g19 [(iV ((gd l n).Id)), (iV ((gd l n).Tier)), (iV ((gd l n).From)), (iV ((gd l n).To)), (.int .u32 ((gd l n).Sum))]), (kPtc w0 g19 [(iV ((gd l n).To)), (.int .u32 ((gd l n).Sum))]), (kEq (bif g19 then (iV ((gd l n).To)) else undef)), (kEq (bif g19 then v_l else undef)), (kEq (bif g19 then (iV (i : Int)) else undef)), (kPtc w0 g19 [(iV ((gd l i).Id)), (iV ((gd l i).Tier)), (iV ((gd l i).From)), (iV ((gd l i).To)), (.int .u32 ((gd l i).Sum))]), (kPtc w0 g19 [(iV ((gd l i).To)), (.int .u32 ((gd l i).Sum))]), (kEq (bif g19 then (iV ((gd l i).To)) else undef)), (kEq (bif g19 then (.bool (decide (((gd l n).To) = ((gd l i).To)))) else undef)), (kEq (.bool g107)), (kEq (.bool g107)), (kEq (bif g107 then v_l else undef)), (kEq (bif g107 then (iV (n : Int)) else undef)), (kPtc w0 g107 [(iV ((gd l n).Id)), (iV ((gd l n).Tier)), (iV ((gd l n).From)), (iV ((gd l n).To)), (.int .u32 ((gd l n).Sum))]), (kPtc w0 g107 [(iV ((gd l n).Tier)), (iV ((gd l n).From)), (iV ((gd l n).To)), (.int .u32 ((gd l n).Sum))]), (kEq (bif g107 then (iV ((gd l n).Tier)) else undef)), (kEq (bif g107 then v_l else undef)), (kEq (bif g107 then (iV (i : Int)) else undef)), (kPtc w0 g107 [(iV ((gd l i).Id)), (iV ((gd l i).Tier)), (iV ((gd l i).From)), (iV ((gd l i).To)), (.int .u32 ((gd l i).Sum))]), (kPtc w0 g107 [(iV ((gd l i).Tier)), (iV ((gd l i).From)), (iV ((gd l i).To)), (.int .u32 ((gd l i).Sum))]), (kEq (bif g107 then (iV ((gd l i).Tier)) else undef)), (kEq (bif g107 then (.bool (decide (((gd l n).Tier) < ((gd l i).Tier)))) else undef)), (kEq (bif g107 then (.bool (decide (((gd l n).Tier) < ((gd l i).Tier)))) else undef)), (kEq (bif g403 then v_l else undef)), (kEq (bif g403 then (iV (n : Int)) else undef)), (kPtc w0 g403 [(iV ((gd l n).Id)), (iV ((gd l n).Tier)), (iV ((gd l n).From)), (iV ((gd l n).To)), (.int .u32 ((gd l n).Sum))]), (kPtc w0 g403 [(iV ((gd l n).Tier)), (iV ((gd l n).From)), (iV ((gd l n).To)), (.int .u32 ((gd l n).Sum))]), (kEq (bif g403 then (iV ((gd l n).Tier)) else undef)), (kEq (bif g403 then v_l else undef)), (kEq (bif g403 then (iV (i : Int)) else undef)), (kPtc w0 g403 [(iV ((gd l i).Id)), (iV ((gd l i).Tier)), (iV ((gd l i).From)), (iV ((gd l i).To)), (.int .u32 ((gd l i).Sum))]), (kPtc w0 g403 [(iV ((gd l i).Tier)), (iV ((gd l i).From)), (iV ((gd l i).To)), (.int .u32 ((gd l i).Sum))]), (kEq (bif g403 then (iV ((gd l i).Tier)) else undef)), (kEq (bif g403 then (.bool (decide (((gd l n).Tier) = ((gd l i).Tier)))) else undef)), (kEq (bif g403 then (.bool (decide (((gd l n).Tier) = ((gd l i).Tier)))) else undef)), (kEq (bif g891 then v_l else undef)), (kEq (bif g891 then (iV (n : Int)) else undef)), (kPtc w0 g891 [(iV ((gd l n).Id)), (iV ((gd l n).Tier)), (iV ((gd l n).From)), (iV ((gd l n).To)), (.int .u32 ((gd l n).Sum))]), (kPtc w0 g891 [(iV ((gd l n).Id)), (iV ((gd l n).Tier)), (iV ((gd l n).From)), (iV ((gd l n).To)), (.int .u32 ((gd l n).Sum))]), (kEq (bif g891 then (iV ((gd l n).Id)) else undef)), (kEq (bif g891 then v_l else undef)), (kEq (bif g891 then (iV (i : Int)) else undef)), (kPtc w0 g891 [(iV ((gd l i).Id)), (iV ((gd l i).Tier)), (iV ((gd l i).From)), (iV ((gd l i).To)), (.int .u32 ((gd l i).Sum))]), (kPtc w0 g891 [(iV ((gd l i).Id)), (iV ((gd l i).Tier)), (iV ((gd l i).From)), (iV ((gd l i).To)), (.int .u32 ((gd l i).Sum))]), (kEq (bif g891 then (iV ((gd l i).Id)) else undef)), (kEq (bif g891 then (.bool (decide (((gd l n).Id) < ((gd l i).Id)))) else undef)), (kEq (bif g891 then (.bool (decide (((gd l n).Id) < ((gd l i).Id)))) else undef)), (kEq (bif g1571 then v_l else undef)), (kEq (bif g1571 then (iV (n : Int)) else undef)), (kPtc w0 g1571 [(iV ((gd l n).Id)), (iV ((gd l n).Tier)), (iV ((gd l n).From)), (iV ((gd l n).To)), (.int .u32 ((gd l n).Sum))]), (kPtc w0 g1571 [(iV ((gd l n).Id)), (iV ((gd l n).Tier)), (iV ((gd l n).From)), (iV ((gd l n).To)), (.int .u32 ((gd l n).Sum))]), (kEq (bif g1571 then (iV ((gd l n).Id)) else undef)), (kEq (bif g1571 then v_l else undef)), (kEq (bif g1571 then (iV (i : Int)) else undef)), (kPtc w0 g1571 [(iV ((gd l i).Id)), (iV ((gd l i).Tier)), (iV ((gd l i).From)), (iV ((gd l i).To)), (.int .u32 ((gd l i).Sum))]), (kPtc w0 g1571 [(iV ((gd l i).Id)), (iV ((gd l i).Tier)), (iV ((gd l i).From)), (iV ((gd l i).To)), (.int .u32 ((gd l i).Sum))]), (kEq (bif g1571 then (iV ((gd l i).Id)) else undef)), (kEq (bif g1571 then (.bool (decide (((gd l n).Id) = ((gd l i).Id)))) else undef)), (kEq (bif g1571 then (.bool (decide (((gd l n).Id) = ((gd l i).Id)))) else undef)), (kEq (bif g2443 then (iV (n : Int)) else undef)), (kEq (bif g2443 then (iV (i : Int)) else undef)), (kEq (bif g2443 then (.bool (decide ((n : Int) < (i : Int)))) else undef)), (kEq (bif g1571 then (.bool g2765) else undef)), (kEq (bif g891 then (.bool g2831) else undef)), (kEq (bif g403 then (.bool g2881) else undef)), (kEq (bif g107 then (.bool g2915) else undef)), (kEq (.bool g2917))] ⟨mEq, mEq, mPt0, mPt0, mEq, mEq, mEq, mPt0, mPt0, mEq, mEq, mEq, mEq, mEq, mPtc, mPtc, mEq, mEq, mEq, mPtc, mPtc, mEq, mEq, mEq, mEq, mEq, mEq, mPtc, mPtc, mEq, mEq, mEq, mPtc, mPtc, mEq, mEq, mEq, mEq, mEq, mPtc, mPtc, mEq, mEq, mEq, mPtc, mPtc, mEq, mEq, mEq, mEq, mEq, mPtc, mPtc, mEq, mEq, mEq, mPtc, mPtc, mEq, mEq, mEq, mEq, mEq, mPtc, mPtc, mEq, mEq, mEq, mPtc, mPtc, mEq, mEq, mEq, mEq, mEq, mEq, mEq, mEq, mEq, mEq, mEq, trivial⟩ (by kernel_rfl) rfl (by kernel_rfl) ⟨hst.drewW.sub (.cons_cons _ .slnil), hst.drewW⟩ (fun hM => ⟨?_, ?_, ?_, ?_, ?_, ?_, ?_, ?_, ?_, ?_, ?_, ?_, ?_, ?_, ?_, ?_, ?_, ?_, ?_, ?_, ?_, ?_, ?_, ?_, ?_, ?_, ?_, ?_, ?_, ?_, ?_, ?_, ?_, ?_, ?_, ?_, ?_, ?_, ?_, ?_, ?_, ?_, ?_, ?_, ?_, ?_, ?_, ?_, ?_, ?_, ?_, ?_, ?_, ?_, ?_, ?_, ?_, ?_, ?_, ?_, ?_, ?_, ?_, ?_, ?_, ?_, ?_, ?_, ?_, ?_, ?_, ?_, ?_, ?_, ?_, ?_, ?_, ?_, ?_, ?_, ?_, trivial⟩) ?_
   ·rintro D ρo wo nD eD cD jD aD ⟨f0, _⟩
    exact go_plain (op_move v_l (f0.trans q7_0) (kN0 (i := 0) hM (by decide) (by exact jD) (by exact rfl)))
   ·rintro D ρo wo nD eD cD jD aD ⟨f6, _⟩
    exact go_plain (op_move (iV (n : Int)) (f6.trans q7_6) (kN0 (i := 1) hM (by decide) (by exact jD) (by exact rfl)))
   ·rintro D ρo wo nD eD cD jD aD ⟨f21, f22, _⟩
    refine go_plain (op_indexAddrD (E := infoE) (xs := l) n Try.underlying26 Try.sizeOf65 f21 h_l f22 (by omega) (by omega) (fun a2920 o2921 p2922 => ?_))
    exact (kN0 (i := 2) hM (by decide) (by exact jD) (by exact ⟨_, _, rfl, p2922⟩))
   ·rintro D ρo wo nD eD cD jD aD ⟨f23, _⟩
    obtain ⟨a2923, o2924, e2925, p2926⟩ := f23
    exact go_plain (op_fieldAddr (s := 0) Try.underlying65 rfl rfl Try.sizeOf2 e2925 (kN0 (i := 3) hM (by decide) (by exact jD) (by exact ⟨_, _, rfl, (p2926.drop 2)⟩)))
   ·rintro D ρo wo nD eD cD jD aD ⟨f24, _⟩
    have hst := jD.2 
    obtain ⟨a2927, o2928, e2929, p2930⟩ := f24
    exact go_plain (op_load1 (u := (iV ((gd l n).From))) Try.isAgg2 e2929 (p2930.below hst.below) (kN0 (i := 4) hM (by decide) (by exact jD) (by exact rfl)))
   ·rintro D ρo wo nD eD cD jD aD ⟨f0, _⟩
    exact go_plain (op_move v_l (f0.trans q7_0) (kN0 (i := 5) hM (by decide) (by exact jD) (by exact rfl)))
   ·rintro D ρo wo nD eD cD jD aD ⟨f4, _⟩
    exact go_plain (op_move (iV (i : Int)) (f4.trans q7_4) (kN0 (i := 6) hM (by decide) (by exact jD) (by exact rfl)))
   ·rintro D ρo wo nD eD cD jD aD ⟨f26, f27, _⟩
    refine go_plain (op_indexAddrD (E := infoE) (xs := l) i Try.underlying26 Try.sizeOf65 f26 h_l f27 (by omega) (by omega) (fun a2931 o2932 p2933 => ?_))
    exact (kN0 (i := 7) hM (by decide) (by exact jD) (by exact ⟨_, _, rfl, p2933⟩))
   ·rintro D ρo wo nD eD cD jD aD ⟨f28, _⟩
    obtain ⟨a2934, o2935, e2936, p2937⟩ := f28
    exact go_plain (op_fieldAddr (s := 0) Try.underlying65 rfl rfl Try.sizeOf2 e2936 (kN0 (i := 8) hM (by decide) (by exact jD) (by exact ⟨_, _, rfl, (p2937.drop 2)⟩)))
   ·rintro D ρo wo nD eD cD jD aD ⟨f29, _⟩
    have hst := jD.2 
    obtain ⟨a2938, o2939, e2940, p2941⟩ := f29
    exact go_plain (op_load1 (u := (iV ((gd l i).From))) Try.isAgg2 e2940 (p2941.below hst.below) (kN0 (i := 9) hM (by decide) (by exact jD) (by exact rfl)))
   ·rintro D ρo wo nD eD cD jD aD ⟨f25, f30, _⟩
    exact go_plain (op_eql (k := .i64) (a := (gd l n).From) (b := (gd l i).From) f25 f30 (kN0 (i := 10) hM (by decide) (by exact jD) (by exact rfl)))
   ·rintro D ρo wo nD eD cD jD aD ⟨f31, _⟩
    exact go_plain (op_move (.bool (decide (((gd l n).From) = ((gd l i).From)))) f31 (kN0 (i := 11) hM (by decide) (by exact jD) (by exact rfl)))
   ·rintro D ρo wo nD eD cD jD aD ⟨f0, f32, _⟩
    refine go_lz 32 rfl ((gA_t f32).trans hg20.symm) ?_ (fun hc2942 => (kN0 (i := 12) hM (by decide) (by exact jD) (by exact (gf hc2942).symm)))
    intro hc2942
    exact id (op_move v_l (f0.trans q7_0) (kN0 (i := 12) hM (by decide) (by exact jD) (by exact (gt hc2942).symm)))
   ·rintro D ρo wo nD eD cD jD aD ⟨f6, f32, _⟩
    refine go_lz 32 rfl ((gA_t f32).trans hg20.symm) ?_ (fun hc2943 => (kN0 (i := 13) hM (by decide) (by exact jD) (by exact (gf hc2943).symm)))
    intro hc2943
    exact id (op_move (iV (n : Int)) (f6.trans q7_6) (kN0 (i := 13) hM (by decide) (by exact jD) (by exact (gt hc2943).symm)))
   ·rintro D ρo wo nD eD cD jD aD ⟨f33, f34, f32, _⟩
    refine go_lz 32 rfl ((gA_t f32).trans hg20.symm) ?_ (fun hc2944 => (kN0 (i := 14) hM (by decide) (by exact jD) (by exact fun h => absurd (show _ = true from h) (by rw [hc2944]; decide))))
    intro hc2944
    have c2945 : ((gd l n).From) = ((gd l i).From) := of_decide_eq_true (hg20.symm.trans hc2944)
    refine id (op_indexAddrD (E := infoE) (xs := l) n Try.underlying26 Try.sizeOf65 (f33.trans (gt hc2944)) h_l (f34.trans (gt hc2944)) (by omega) (by omega) (fun a2946 o2947 p2948 => ?_))
    exact (kN0 (i := 14) hM (by decide) (by exact jD) (by exact fun _ => ⟨_, _, rfl, p2948⟩))
   ·rintro D ρo wo nD eD cD jD aD ⟨f35, f32, _⟩
    refine go_lz 32 rfl ((gA_t f32).trans hg20.symm) ?_ (fun hc2949 => (kN0 (i := 15) hM (by decide) (by exact jD) (by exact fun h => absurd (show _ = true from h) (by rw [hc2949]; decide))))
    intro hc2949
    obtain ⟨a2950, o2951, e2952, p2953⟩ := f35 hc2949
    exact id (op_fieldAddr (s := 0) Try.underlying65 rfl rfl Try.sizeOf2 e2952 (kN0 (i := 15) hM (by decide) (by exact jD) (by exact fun _ => ⟨_, _, rfl, (p2953.drop 3)⟩)))
   ·rintro D ρo wo nD eD cD jD aD ⟨f36, f32, _⟩
    refine go_lz 32 rfl ((gA_t f32).trans hg20.symm) ?_ (fun hc2954 => (kN0 (i := 16) hM (by decide) (by exact jD) (by exact (gf hc2954).symm)))
    intro hc2954
    have hst := jD.2 
    obtain ⟨a2955, o2956, e2957, p2958⟩ := f36 hc2954
    exact id (op_load1 (u := (iV ((gd l n).To))) Try.isAgg2 e2957 (p2958.below hst.below) (kN0 (i := 16) hM (by decide) (by exact jD) (by exact (gt hc2954).symm)))
   ·rintro D ρo wo nD eD cD jD aD ⟨f0, f32, _⟩
    refine go_lz 32 rfl ((gA_t f32).trans hg20.symm) ?_ (fun hc2959 => (kN0 (i := 17) hM (by decide) (by exact jD) (by exact (gf hc2959).symm)))
    intro hc2959
    exact id (op_move v_l (f0.trans q7_0) (kN0 (i := 17) hM (by decide) (by exact jD) (by exact (gt hc2959).symm)))
   ·rintro D ρo wo nD eD cD jD aD ⟨f4, f32, _⟩
    refine go_lz 32 rfl ((gA_t f32).trans hg20.symm) ?_ (fun hc2960 => (kN0 (i := 18) hM (by decide) (by exact jD) (by exact (gf hc2960).symm)))
    intro hc2960
    exact id (op_move (iV (i : Int)) (f4.trans q7_4) (kN0 (i := 18) hM (by decide) (by exact jD) (by exact (gt hc2960).symm)))
   ·rintro D ρo wo nD eD cD jD aD ⟨f38, f39, f32, _⟩
    refine go_lz 32 rfl ((gA_t f32).trans hg20.symm) ?_ (fun hc2961 => (kN0 (i := 19) hM (by decide) (by exact jD) (by exact fun h => absurd (show _ = true from h) (by rw [hc2961]; decide))))
    intro hc2961
    have c2962 : ((gd l n).From) = ((gd l i).From) := of_decide_eq_true (hg20.symm.trans hc2961)
    refine id (op_indexAddrD (E := infoE) (xs := l) i Try.underlying26 Try.sizeOf65 (f38.trans (gt hc2961)) h_l (f39.trans (gt hc2961)) (by omega) (by omega) (fun a2963 o2964 p2965 => ?_))
    exact (kN0 (i := 19) hM (by decide) (by exact jD) (by exact fun _ => ⟨_, _, rfl, p2965⟩))
   ·rintro D ρo wo nD eD cD jD aD ⟨f40, f32, _⟩
    refine go_lz 32 rfl ((gA_t f32).trans hg20.symm) ?_ (fun hc2966 => (kN0 (i := 20) hM (by decide) (by exact jD) (by exact fun h => absurd (show _ = true from h) (by rw [hc2966]; decide))))
    intro hc2966
    obtain ⟨a2967, o2968, e2969, p2970⟩ := f40 hc2966
    exact id (op_fieldAddr (s := 0) Try.underlying65 rfl rfl Try.sizeOf2 e2969 (kN0 (i := 20) hM (by decide) (by exact jD) (by exact fun _ => ⟨_, _, rfl, (p2970.drop 3)⟩)))
   ·rintro D ρo wo nD eD cD jD aD ⟨f41, f32, _⟩
    refine go_lz 32 rfl ((gA_t f32).trans hg20.symm) ?_ (fun hc2971 => (kN0 (i := 21) hM (by decide) (by exact jD) (by exact (gf hc2971).symm)))
    intro hc2971
    have hst := jD.2 
    obtain ⟨a2972, o2973, e2974, p2975⟩ := f41 hc2971
    exact id (op_load1 (u := (iV ((gd l i).To))) Try.isAgg2 e2974 (p2975.below hst.below) (kN0 (i := 21) hM (by decide) (by exact jD) (by exact (gt hc2971).symm)))
   ·rintro D ρo wo nD eD cD jD aD ⟨f37, f42, f32, _⟩
    refine go_lz 32 rfl ((gA_t f32).trans hg20.symm) ?_ (fun hc2976 => (kN0 (i := 22) hM (by decide) (by exact jD) (by exact (gf hc2976).symm)))
    intro hc2976
    exact id (op_eql (k := .i64) (a := (gd l n).To) (b := (gd l i).To) (f37.trans (gt hc2976)) (f42.trans (gt hc2976)) (kN0 (i := 22) hM (by decide) (by exact jD) (by exact (gt hc2976).symm)))
   ·rintro D ρo wo nD eD cD jD aD ⟨f32, f43, _⟩
    refine go_plain (op_pick_and f32 f43 (fun hp => (hg20.trans hp)) rfl ?_)
    exact (kN0 (i := 23) hM (by decide) (by exact jD) (by exact (congrArg Value.bool hg108.symm)))
   ·rintro D ρo wo nD eD cD jD aD ⟨f44, _⟩
    exact go_plain (op_move (.bool g107) f44 (kN0 (i := 24) hM (by decide) (by exact jD) (by exact rfl)))
   ·rintro D ρo wo nD eD cD jD aD ⟨f0, f45, _⟩
    refine go_lz 45 rfl (gA_t f45) ?_ (fun hc2977 => (kN0 (i := 25) hM (by decide) (by exact jD) (by exact (gf hc2977).symm)))
    intro hc2977
    exact id (op_move v_l (f0.trans q7_0) (kN0 (i := 25) hM (by decide) (by exact jD) (by exact (gt hc2977).symm)))
   ·rintro D ρo wo nD eD cD jD aD ⟨f6, f45, _⟩
    refine go_lz 45 rfl (gA_t f45) ?_ (fun hc2978 => (kN0 (i := 26) hM (by decide) (by exact jD) (by exact (gf hc2978).symm)))
    intro hc2978
    exact id (op_move (iV (n : Int)) (f6.trans q7_6) (kN0 (i := 26) hM (by decide) (by exact jD) (by exact (gt hc2978).symm)))
   ·rintro D ρo wo nD eD cD jD aD ⟨f46, f47, f45, _⟩
    refine go_lz 45 rfl (gA_t f45) ?_ (fun hc2979 => (kN0 (i := 27) hM (by decide) (by exact jD) (by exact fun h => absurd (show _ = true from h) (by rw [hc2979]; decide))))
    intro hc2979
    have c2980 : ((gd l n).From) = ((gd l i).From) := of_decide_eq_true (and_l (hg108.symm.trans hc2979))
    have c2981 : ((gd l n).To) = ((gd l i).To) := of_decide_eq_true (and_r (hg108.symm.trans hc2979))
    refine id (op_indexAddrD (E := infoE) (xs := l) n Try.underlying26 Try.sizeOf65 (f46.trans (gt hc2979)) h_l (f47.trans (gt hc2979)) (by omega) (by omega) (fun a2982 o2983 p2984 => ?_))
    exact (kN0 (i := 27) hM (by decide) (by exact jD) (by exact fun _ => ⟨_, _, rfl, p2984⟩))
   ·rintro D ρo wo nD eD cD jD aD ⟨f48, f45, _⟩
    refine go_lz 45 rfl (gA_t f45) ?_ (fun hc2985 => (kN0 (i := 28) hM (by decide) (by exact jD) (by exact fun h => absurd (show _ = true from h) (by rw [hc2985]; decide))))
    intro hc2985
    obtain ⟨a2986, o2987, e2988, p2989⟩ := f48 hc2985
    exact id (op_fieldAddr (s := 0) Try.underlying65 rfl rfl Try.sizeOf3 e2988 (kN0 (i := 28) hM (by decide) (by exact jD) (by exact fun _ => ⟨_, _, rfl, (p2989.drop 1)⟩)))
   ·rintro D ρo wo nD eD cD jD aD ⟨f49, f45, _⟩
    refine go_lz 45 rfl (gA_t f45) ?_ (fun hc2990 => (kN0 (i := 29) hM (by decide) (by exact jD) (by exact (gf hc2990).symm)))
    intro hc2990
    have hst := jD.2 
    obtain ⟨a2991, o2992, e2993, p2994⟩ := f49 hc2990
    exact id (op_load1 (u := (iV ((gd l n).Tier))) Try.isAgg3 e2993 (p2994.below hst.below) (kN0 (i := 29) hM (by decide) (by exact jD) (by exact (gt hc2990).symm)))
   ·rintro D ρo wo nD eD cD jD aD ⟨f0, f45, _⟩
    refine go_lz 45 rfl (gA_t f45) ?_ (fun hc2995 => (kN0 (i := 30) hM (by decide) (by exact jD) (by exact (gf hc2995).symm)))
    intro hc2995
    exact id (op_move v_l (f0.trans q7_0) (kN0 (i := 30) hM (by decide) (by exact jD) (by exact (gt hc2995).symm)))
   ·rintro D ρo wo nD eD cD jD aD ⟨f4, f45, _⟩
    refine go_lz 45 rfl (gA_t f45) ?_ (fun hc2996 => (kN0 (i := 31) hM (by decide) (by exact jD) (by exact (gf hc2996).symm)))
    intro hc2996
    exact id (op_move (iV (i : Int)) (f4.trans q7_4) (kN0 (i := 31) hM (by decide) (by exact jD) (by exact (gt hc2996).symm)))
   ·rintro D ρo wo nD eD cD jD aD ⟨f51, f52, f45, _⟩
    refine go_lz 45 rfl (gA_t f45) ?_ (fun hc2997 => (kN0 (i := 32) hM (by decide) (by exact jD) (by exact fun h => absurd (show _ = true from h) (by rw [hc2997]; decide))))
    intro hc2997
    have c2998 : ((gd l n).From) = ((gd l i).From) := of_decide_eq_true (and_l (hg108.symm.trans hc2997))
    have c2999 : ((gd l n).To) = ((gd l i).To) := of_decide_eq_true (and_r (hg108.symm.trans hc2997))
    refine id (op_indexAddrD (E := infoE) (xs := l) i Try.underlying26 Try.sizeOf65 (f51.trans (gt hc2997)) h_l (f52.trans (gt hc2997)) (by omega) (by omega) (fun a3000 o3001 p3002 => ?_))
    exact (kN0 (i := 32) hM (by decide) (by exact jD) (by exact fun _ => ⟨_, _, rfl, p3002⟩))
   ·rintro D ρo wo nD eD cD jD aD ⟨f53, f45, _⟩
    refine go_lz 45 rfl (gA_t f45) ?_ (fun hc3003 => (kN0 (i := 33) hM (by decide) (by exact jD) (by exact fun h => absurd (show _ = true from h) (by rw [hc3003]; decide))))
    intro hc3003
    obtain ⟨a3004, o3005, e3006, p3007⟩ := f53 hc3003
    exact id (op_fieldAddr (s := 0) Try.underlying65 rfl rfl Try.sizeOf3 e3006 (kN0 (i := 33) hM (by decide) (by exact jD) (by exact fun _ => ⟨_, _, rfl, (p3007.drop 1)⟩)))
   ·rintro D ρo wo nD eD cD jD aD ⟨f54, f45, _⟩
    refine go_lz 45 rfl (gA_t f45) ?_ (fun hc3008 => (kN0 (i := 34) hM (by decide) (by exact jD) (by exact (gf hc3008).symm)))
    intro hc3008
    have hst := jD.2 
    obtain ⟨a3009, o3010, e3011, p3012⟩ := f54 hc3008
    exact id (op_load1 (u := (iV ((gd l i).Tier))) Try.isAgg3 e3011 (p3012.below hst.below) (kN0 (i := 34) hM (by decide) (by exact jD) (by exact (gt hc3008).symm)))
   ·rintro D ρo wo nD eD cD jD aD ⟨f50, f55, f45, _⟩
    refine go_lz 45 rfl (gA_t f45) ?_ (fun hc3013 => (kN0 (i := 35) hM (by decide) (by exact jD) (by exact (gf hc3013).symm)))
    intro hc3013
    exact id (op_lss (k := .i64) (a := (gd l n).Tier) (b := (gd l i).Tier) (f50.trans (gt hc3013)) (f55.trans (gt hc3013)) (kN0 (i := 35) hM (by decide) (by exact jD) (by exact (gt hc3013).symm)))
   ·rintro D ρo wo nD eD cD jD aD ⟨f56, f45, _⟩
    refine go_lz 45 rfl (gA_t f45) ?_ (fun hc3014 => (kN0 (i := 36) hM (by decide) (by exact jD) (by exact (gf hc3014).symm)))
    intro hc3014
    exact id (op_move (.bool (decide (((gd l n).Tier) < ((gd l i).Tier)))) (f56.trans (gt hc3014)) (kN0 (i := 36) hM (by decide) (by exact jD) (by exact (gt hc3014).symm)))
   ·rintro D ρo wo nD eD cD jD aD ⟨f0, f57, _⟩
    refine go_lz 57 rfl ((gB_f f57).trans hg404.symm) ?_ (fun hc3015 => (kN0 (i := 37) hM (by decide) (by exact jD) (by exact (gf hc3015).symm)))
    intro hc3015
    exact id (op_move v_l (f0.trans q7_0) (kN0 (i := 37) hM (by decide) (by exact jD) (by exact (gt hc3015).symm)))
   ·rintro D ρo wo nD eD cD jD aD ⟨f6, f57, _⟩
    refine go_lz 57 rfl ((gB_f f57).trans hg404.symm) ?_ (fun hc3016 => (kN0 (i := 38) hM (by decide) (by exact jD) (by exact (gf hc3016).symm)))
    intro hc3016
    exact id (op_move (iV (n : Int)) (f6.trans q7_6) (kN0 (i := 38) hM (by decide) (by exact jD) (by exact (gt hc3016).symm)))
   ·rintro D ρo wo nD eD cD jD aD ⟨f58, f59, f57, _⟩
    refine go_lz 57 rfl ((gB_f f57).trans hg404.symm) ?_ (fun hc3017 => (kN0 (i := 39) hM (by decide) (by exact jD) (by exact fun h => absurd (show _ = true from h) (by rw [hc3017]; decide))))
    intro hc3017
    have c3018 : ((gd l n).From) = ((gd l i).From) := of_decide_eq_true (and_l (hg108.symm.trans (and_l (hg404.symm.trans hc3017))))
    have c3019 : ((gd l n).To) = ((gd l i).To) := of_decide_eq_true (and_r (hg108.symm.trans (and_l (hg404.symm.trans hc3017))))
    have c3020 : ¬ (((gd l n).Tier) < ((gd l i).Tier)) := of_decide_eq_false (not_t (and_r (hg404.symm.trans hc3017)))
    refine id (op_indexAddrD (E := infoE) (xs := l) n Try.underlying26 Try.sizeOf65 (f58.trans (gt hc3017)) h_l (f59.trans (gt hc3017)) (by omega) (by omega) (fun a3021 o3022 p3023 => ?_))
    exact (kN0 (i := 39) hM (by decide) (by exact jD) (by exact fun _ => ⟨_, _, rfl, p3023⟩))
   ·rintro D ρo wo nD eD cD jD aD ⟨f60, f57, _⟩
    refine go_lz 57 rfl ((gB_f f57).trans hg404.symm) ?_ (fun hc3024 => (kN0 (i := 40) hM (by decide) (by exact jD) (by exact fun h => absurd (show _ = true from h) (by rw [hc3024]; decide))))
    intro hc3024
    obtain ⟨a3025, o3026, e3027, p3028⟩ := f60 hc3024
    exact id (op_fieldAddr (s := 0) Try.underlying65 rfl rfl Try.sizeOf3 e3027 (kN0 (i := 40) hM (by decide) (by exact jD) (by exact fun _ => ⟨_, _, rfl, (p3028.drop 1)⟩)))
   ·rintro D ρo wo nD eD cD jD aD ⟨f61, f57, _⟩
    refine go_lz 57 rfl ((gB_f f57).trans hg404.symm) ?_ (fun hc3029 => (kN0 (i := 41) hM (by decide) (by exact jD) (by exact (gf hc3029).symm)))
    intro hc3029
    have hst := jD.2 
    obtain ⟨a3030, o3031, e3032, p3033⟩ := f61 hc3029
    exact id (op_load1 (u := (iV ((gd l n).Tier))) Try.isAgg3 e3032 (p3033.below hst.below) (kN0 (i := 41) hM (by decide) (by exact jD) (by exact (gt hc3029).symm)))
   ·rintro D ρo wo nD eD cD jD aD ⟨f0, f57, _⟩
    refine go_lz 57 rfl ((gB_f f57).trans hg404.symm) ?_ (fun hc3034 => (kN0 (i := 42) hM (by decide) (by exact jD) (by exact (gf hc3034).symm)))
    intro hc3034
    exact id (op_move v_l (f0.trans q7_0) (kN0 (i := 42) hM (by decide) (by exact jD) (by exact (gt hc3034).symm)))
   ·rintro D ρo wo nD eD cD jD aD ⟨f4, f57, _⟩
    refine go_lz 57 rfl ((gB_f f57).trans hg404.symm) ?_ (fun hc3035 => (kN0 (i := 43) hM (by decide) (by exact jD) (by exact (gf hc3035).symm)))
    intro hc3035
    exact id (op_move (iV (i : Int)) (f4.trans q7_4) (kN0 (i := 43) hM (by decide) (by exact jD) (by exact (gt hc3035).symm)))
   ·rintro D ρo wo nD eD cD jD aD ⟨f63, f64, f57, _⟩
    refine go_lz 57 rfl ((gB_f f57).trans hg404.symm) ?_ (fun hc3036 => (kN0 (i := 44) hM (by decide) (by exact jD) (by exact fun h => absurd (show _ = true from h) (by rw [hc3036]; decide))))
    intro hc3036
    have c3037 : ((gd l n).From) = ((gd l i).From) := of_decide_eq_true (and_l (hg108.symm.trans (and_l (hg404.symm.trans hc3036))))
    have c3038 : ((gd l n).To) = ((gd l i).To) := of_decide_eq_true (and_r (hg108.symm.trans (and_l (hg404.symm.trans hc3036))))
    have c3039 : ¬ (((gd l n).Tier) < ((gd l i).Tier)) := of_decide_eq_false (not_t (and_r (hg404.symm.trans hc3036)))
    refine id (op_indexAddrD (E := infoE) (xs := l) i Try.underlying26 Try.sizeOf65 (f63.trans (gt hc3036)) h_l (f64.trans (gt hc3036)) (by omega) (by omega) (fun a3040 o3041 p3042 => ?_))
    exact (kN0 (i := 44) hM (by decide) (by exact jD) (by exact fun _ => ⟨_, _, rfl, p3042⟩))
   ·rintro D ρo wo nD eD cD jD aD ⟨f65, f57, _⟩
    refine go_lz 57 rfl ((gB_f f57).trans hg404.symm) ?_ (fun hc3043 => (kN0 (i := 45) hM (by decide) (by exact jD) (by exact fun h => absurd (show _ = true from h) (by rw [hc3043]; decide))))
    intro hc3043
    obtain ⟨a3044, o3045, e3046, p3047⟩ := f65 hc3043
    exact id (op_fieldAddr (s := 0) Try.underlying65 rfl rfl Try.sizeOf3 e3046 (kN0 (i := 45) hM (by decide) (by exact jD) (by exact fun _ => ⟨_, _, rfl, (p3047.drop 1)⟩)))
   ·rintro D ρo wo nD eD cD jD aD ⟨f66, f57, _⟩
    refine go_lz 57 rfl ((gB_f f57).trans hg404.symm) ?_ (fun hc3048 => (kN0 (i := 46) hM (by decide) (by exact jD) (by exact (gf hc3048).symm)))
    intro hc3048
    have hst := jD.2 
    obtain ⟨a3049, o3050, e3051, p3052⟩ := f66 hc3048
    exact id (op_load1 (u := (iV ((gd l i).Tier))) Try.isAgg3 e3051 (p3052.below hst.below) (kN0 (i := 46) hM (by decide) (by exact jD) (by exact (gt hc3048).symm)))
   ·rintro D ρo wo nD eD cD jD aD ⟨f62, f67, f57, _⟩
    refine go_lz 57 rfl ((gB_f f57).trans hg404.symm) ?_ (fun hc3053 => (kN0 (i := 47) hM (by decide) (by exact jD) (by exact (gf hc3053).symm)))
    intro hc3053
    exact id (op_eql (k := .i64) (a := (gd l n).Tier) (b := (gd l i).Tier) (f62.trans (gt hc3053)) (f67.trans (gt hc3053)) (kN0 (i := 47) hM (by decide) (by exact jD) (by exact (gt hc3053).symm)))
   ·rintro D ρo wo nD eD cD jD aD ⟨f68, f57, _⟩
    refine go_lz 57 rfl ((gB_f f57).trans hg404.symm) ?_ (fun hc3054 => (kN0 (i := 48) hM (by decide) (by exact jD) (by exact (gf hc3054).symm)))
    intro hc3054
    exact id (op_move (.bool (decide (((gd l n).Tier) = ((gd l i).Tier)))) (f68.trans (gt hc3054)) (kN0 (i := 48) hM (by decide) (by exact jD) (by exact (gt hc3054).symm)))
   ·rintro D ρo wo nD eD cD jD aD ⟨f0, f69, _⟩
    refine go_lz 69 rfl ((gB_t f69).trans hg892.symm) ?_ (fun hc3055 => (kN0 (i := 49) hM (by decide) (by exact jD) (by exact (gf hc3055).symm)))
    intro hc3055
    exact id (op_move v_l (f0.trans q7_0) (kN0 (i := 49) hM (by decide) (by exact jD) (by exact (gt hc3055).symm)))
   ·rintro D ρo wo nD eD cD jD aD ⟨f6, f69, _⟩
    refine go_lz 69 rfl ((gB_t f69).trans hg892.symm) ?_ (fun hc3056 => (kN0 (i := 50) hM (by decide) (by exact jD) (by exact (gf hc3056).symm)))
    intro hc3056
    exact id (op_move (iV (n : Int)) (f6.trans q7_6) (kN0 (i := 50) hM (by decide) (by exact jD) (by exact (gt hc3056).symm)))
   ·rintro D ρo wo nD eD cD jD aD ⟨f70, f71, f69, _⟩
    refine go_lz 69 rfl ((gB_t f69).trans hg892.symm) ?_ (fun hc3057 => (kN0 (i := 51) hM (by decide) (by exact jD) (by exact fun h => absurd (show _ = true from h) (by rw [hc3057]; decide))))
    intro hc3057
    have c3058 : ((gd l n).From) = ((gd l i).From) := of_decide_eq_true (and_l (hg108.symm.trans (and_l (hg404.symm.trans (and_l (hg892.symm.trans hc3057))))))
    have c3059 : ((gd l n).To) = ((gd l i).To) := of_decide_eq_true (and_r (hg108.symm.trans (and_l (hg404.symm.trans (and_l (hg892.symm.trans hc3057))))))
    have c3060 : ¬ (((gd l n).Tier) < ((gd l i).Tier)) := of_decide_eq_false (not_t (and_r (hg404.symm.trans (and_l (hg892.symm.trans hc3057)))))
    have c3061 : ((gd l n).Tier) = ((gd l i).Tier) := of_decide_eq_true (and_r (hg892.symm.trans hc3057))
    refine id (op_indexAddrD (E := infoE) (xs := l) n Try.underlying26 Try.sizeOf65 (f70.trans (gt hc3057)) h_l (f71.trans (gt hc3057)) (by omega) (by omega) (fun a3062 o3063 p3064 => ?_))
    exact (kN0 (i := 51) hM (by decide) (by exact jD) (by exact fun _ => ⟨_, _, rfl, p3064⟩))
   ·rintro D ρo wo nD eD cD jD aD ⟨f72, f69, _⟩
    refine go_lz 69 rfl ((gB_t f69).trans hg892.symm) ?_ (fun hc3065 => (kN0 (i := 52) hM (by decide) (by exact jD) (by exact fun h => absurd (show _ = true from h) (by rw [hc3065]; decide))))
    intro hc3065
    obtain ⟨a3066, o3067, e3068, p3069⟩ := f72 hc3065
    exact id (op_fieldAddr (s := 0) Try.underlying65 rfl rfl Try.sizeOf3 e3068 (kN0 (i := 52) hM (by decide) (by exact jD) (by exact fun _ => ⟨_, _, rfl, p3069⟩)))
   ·rintro D ρo wo nD eD cD jD aD ⟨f73, f69, _⟩
    refine go_lz 69 rfl ((gB_t f69).trans hg892.symm) ?_ (fun hc3070 => (kN0 (i := 53) hM (by decide) (by exact jD) (by exact (gf hc3070).symm)))
    intro hc3070
    have hst := jD.2 
    obtain ⟨a3071, o3072, e3073, p3074⟩ := f73 hc3070
    exact id (op_load1 (u := (iV ((gd l n).Id))) Try.isAgg3 e3073 (p3074.below hst.below) (kN0 (i := 53) hM (by decide) (by exact jD) (by exact (gt hc3070).symm)))
   ·rintro D ρo wo nD eD cD jD aD ⟨f0, f69, _⟩
    refine go_lz 69 rfl ((gB_t f69).trans hg892.symm) ?_ (fun hc3075 => (kN0 (i := 54) hM (by decide) (by exact jD) (by exact (gf hc3075).symm)))
    intro hc3075
    exact id (op_move v_l (f0.trans q7_0) (kN0 (i := 54) hM (by decide) (by exact jD) (by exact (gt hc3075).symm)))
   ·rintro D ρo wo nD eD cD jD aD ⟨f4, f69, _⟩
    refine go_lz 69 rfl ((gB_t f69).trans hg892.symm) ?_ (fun hc3076 => (kN0 (i := 55) hM (by decide) (by exact jD) (by exact (gf hc3076).symm)))
    intro hc3076
    exact id (op_move (iV (i : Int)) (f4.trans q7_4) (kN0 (i := 55) hM (by decide) (by exact jD) (by exact (gt hc3076).symm)))
   ·rintro D ρo wo nD eD cD jD aD ⟨f75, f76, f69, _⟩
    refine go_lz 69 rfl ((gB_t f69).trans hg892.symm) ?_ (fun hc3077 => (kN0 (i := 56) hM (by decide) (by exact jD) (by exact fun h => absurd (show _ = true from h) (by rw [hc3077]; decide))))
    intro hc3077
    have c3078 : ((gd l n).From) = ((gd l i).From) := of_decide_eq_true (and_l (hg108.symm.trans (and_l (hg404.symm.trans (and_l (hg892.symm.trans hc3077))))))
    have c3079 : ((gd l n).To) = ((gd l i).To) := of_decide_eq_true (and_r (hg108.symm.trans (and_l (hg404.symm.trans (and_l (hg892.symm.trans hc3077))))))
    have c3080 : ¬ (((gd l n).Tier) < ((gd l i).Tier)) := of_decide_eq_false (not_t (and_r (hg404.symm.trans (and_l (hg892.symm.trans hc3077)))))
    have c3081 : ((gd l n).Tier) = ((gd l i).Tier) := of_decide_eq_true (and_r (hg892.symm.trans hc3077))
    refine id (op_indexAddrD (E := infoE) (xs := l) i Try.underlying26 Try.sizeOf65 (f75.trans (gt hc3077)) h_l (f76.trans (gt hc3077)) (by omega) (by omega) (fun a3082 o3083 p3084 => ?_))
    exact (kN0 (i := 56) hM (by decide) (by exact jD) (by exact fun _ => ⟨_, _, rfl, p3084⟩))
   ·rintro D ρo wo nD eD cD jD aD ⟨f77, f69, _⟩
    refine go_lz 69 rfl ((gB_t f69).trans hg892.symm) ?_ (fun hc3085 => (kN0 (i := 57) hM (by decide) (by exact jD) (by exact fun h => absurd (show _ = true from h) (by rw [hc3085]; decide))))
    intro hc3085
    obtain ⟨a3086, o3087, e3088, p3089⟩ := f77 hc3085
    exact id (op_fieldAddr (s := 0) Try.underlying65 rfl rfl Try.sizeOf3 e3088 (kN0 (i := 57) hM (by decide) (by exact jD) (by exact fun _ => ⟨_, _, rfl, p3089⟩)))
   ·rintro D ρo wo nD eD cD jD aD ⟨f78, f69, _⟩
    refine go_lz 69 rfl ((gB_t f69).trans hg892.symm) ?_ (fun hc3090 => (kN0 (i := 58) hM (by decide) (by exact jD) (by exact (gf hc3090).symm)))
    intro hc3090
    have hst := jD.2 
    obtain ⟨a3091, o3092, e3093, p3094⟩ := f78 hc3090
    exact id (op_load1 (u := (iV ((gd l i).Id))) Try.isAgg3 e3093 (p3094.below hst.below) (kN0 (i := 58) hM (by decide) (by exact jD) (by exact (gt hc3090).symm)))
   ·rintro D ρo wo nD eD cD jD aD ⟨f74, f79, f69, _⟩
    refine go_lz 69 rfl ((gB_t f69).trans hg892.symm) ?_ (fun hc3095 => (kN0 (i := 59) hM (by decide) (by exact jD) (by exact (gf hc3095).symm)))
    intro hc3095
    exact id (op_lss (k := .i64) (a := (gd l n).Id) (b := (gd l i).Id) (f74.trans (gt hc3095)) (f79.trans (gt hc3095)) (kN0 (i := 59) hM (by decide) (by exact jD) (by exact (gt hc3095).symm)))
   ·rintro D ρo wo nD eD cD jD aD ⟨f80, f69, _⟩
    refine go_lz 69 rfl ((gB_t f69).trans hg892.symm) ?_ (fun hc3096 => (kN0 (i := 60) hM (by decide) (by exact jD) (by exact (gf hc3096).symm)))
    intro hc3096
    exact id (op_move (.bool (decide (((gd l n).Id) < ((gd l i).Id)))) (f80.trans (gt hc3096)) (kN0 (i := 60) hM (by decide) (by exact jD) (by exact (gt hc3096).symm)))
   ·rintro D ρo wo nD eD cD jD aD ⟨f0, f81, _⟩
    refine go_lz 81 rfl ((gB_f f81).trans hg1572.symm) ?_ (fun hc3097 => (kN0 (i := 61) hM (by decide) (by exact jD) (by exact (gf hc3097).symm)))
    intro hc3097
    exact id (op_move v_l (f0.trans q7_0) (kN0 (i := 61) hM (by decide) (by exact jD) (by exact (gt hc3097).symm)))
   ·rintro D ρo wo nD eD cD jD aD ⟨f6, f81, _⟩
    refine go_lz 81 rfl ((gB_f f81).trans hg1572.symm) ?_ (fun hc3098 => (kN0 (i := 62) hM (by decide) (by exact jD) (by exact (gf hc3098).symm)))
    intro hc3098
    exact id (op_move (iV (n : Int)) (f6.trans q7_6) (kN0 (i := 62) hM (by decide) (by exact jD) (by exact (gt hc3098).symm)))
   ·rintro D ρo wo nD eD cD jD aD ⟨f82, f83, f81, _⟩
    refine go_lz 81 rfl ((gB_f f81).trans hg1572.symm) ?_ (fun hc3099 => (kN0 (i := 63) hM (by decide) (by exact jD) (by exact fun h => absurd (show _ = true from h) (by rw [hc3099]; decide))))
    intro hc3099
    have c3100 : ((gd l n).From) = ((gd l i).From) := of_decide_eq_true (and_l (hg108.symm.trans (and_l (hg404.symm.trans (and_l (hg892.symm.trans (and_l (hg1572.symm.trans hc3099))))))))
    have c3101 : ((gd l n).To) = ((gd l i).To) := of_decide_eq_true (and_r (hg108.symm.trans (and_l (hg404.symm.trans (and_l (hg892.symm.trans (and_l (hg1572.symm.trans hc3099))))))))
    have c3102 : ¬ (((gd l n).Tier) < ((gd l i).Tier)) := of_decide_eq_false (not_t (and_r (hg404.symm.trans (and_l (hg892.symm.trans (and_l (hg1572.symm.trans hc3099)))))))
    have c3103 : ((gd l n).Tier) = ((gd l i).Tier) := of_decide_eq_true (and_r (hg892.symm.trans (and_l (hg1572.symm.trans hc3099))))
    have c3104 : ¬ (((gd l n).Id) < ((gd l i).Id)) := of_decide_eq_false (not_t (and_r (hg1572.symm.trans hc3099)))
    refine id (op_indexAddrD (E := infoE) (xs := l) n Try.underlying26 Try.sizeOf65 (f82.trans (gt hc3099)) h_l (f83.trans (gt hc3099)) (by omega) (by omega) (fun a3105 o3106 p3107 => ?_))
    exact (kN0 (i := 63) hM (by decide) (by exact jD) (by exact fun _ => ⟨_, _, rfl, p3107⟩))
   ·rintro D ρo wo nD eD cD jD aD ⟨f84, f81, _⟩
    refine go_lz 81 rfl ((gB_f f81).trans hg1572.symm) ?_ (fun hc3108 => (kN0 (i := 64) hM (by decide) (by exact jD) (by exact fun h => absurd (show _ = true from h) (by rw [hc3108]; decide))))
    intro hc3108
    obtain ⟨a3109, o3110, e3111, p3112⟩ := f84 hc3108
    exact id (op_fieldAddr (s := 0) Try.underlying65 rfl rfl Try.sizeOf3 e3111 (kN0 (i := 64) hM (by decide) (by exact jD) (by exact fun _ => ⟨_, _, rfl, p3112⟩)))
   ·rintro D ρo wo nD eD cD jD aD ⟨f85, f81, _⟩
    refine go_lz 81 rfl ((gB_f f81).trans hg1572.symm) ?_ (fun hc3113 => (kN0 (i := 65) hM (by decide) (by exact jD) (by exact (gf hc3113).symm)))
    intro hc3113
    have hst := jD.2 
    obtain ⟨a3114, o3115, e3116, p3117⟩ := f85 hc3113
    exact id (op_load1 (u := (iV ((gd l n).Id))) Try.isAgg3 e3116 (p3117.below hst.below) (kN0 (i := 65) hM (by decide) (by exact jD) (by exact (gt hc3113).symm)))
   ·rintro D ρo wo nD eD cD jD aD ⟨f0, f81, _⟩
    refine go_lz 81 rfl ((gB_f f81).trans hg1572.symm) ?_ (fun hc3118 => (kN0 (i := 66) hM (by decide) (by exact jD) (by exact (gf hc3118).symm)))
    intro hc3118
    exact id (op_move v_l (f0.trans q7_0) (kN0 (i := 66) hM (by decide) (by exact jD) (by exact (gt hc3118).symm)))
   ·rintro D ρo wo nD eD cD jD aD ⟨f4, f81, _⟩
    refine go_lz 81 rfl ((gB_f f81).trans hg1572.symm) ?_ (fun hc3119 => (kN0 (i := 67) hM (by decide) (by exact jD) (by exact (gf hc3119).symm)))
    intro hc3119
    exact id (op_move (iV (i : Int)) (f4.trans q7_4) (kN0 (i := 67) hM (by decide) (by exact jD) (by exact (gt hc3119).symm)))
   ·rintro D ρo wo nD eD cD jD aD ⟨f87, f88, f81, _⟩
    refine go_lz 81 rfl ((gB_f f81).trans hg1572.symm) ?_ (fun hc3120 => (kN0 (i := 68) hM (by decide) (by exact jD) (by exact fun h => absurd (show _ = true from h) (by rw [hc3120]; decide))))
    intro hc3120
    have c3121 : ((gd l n).From) = ((gd l i).From) := of_decide_eq_true (and_l (hg108.symm.trans (and_l (hg404.symm.trans (and_l (hg892.symm.trans (and_l (hg1572.symm.trans hc3120))))))))
    have c3122 : ((gd l n).To) = ((gd l i).To) := of_decide_eq_true (and_r (hg108.symm.trans (and_l (hg404.symm.trans (and_l (hg892.symm.trans (and_l (hg1572.symm.trans hc3120))))))))
    have c3123 : ¬ (((gd l n).Tier) < ((gd l i).Tier)) := of_decide_eq_false (not_t (and_r (hg404.symm.trans (and_l (hg892.symm.trans (and_l (hg1572.symm.trans hc3120)))))))
    have c3124 : ((gd l n).Tier) = ((gd l i).Tier) := of_decide_eq_true (and_r (hg892.symm.trans (and_l (hg1572.symm.trans hc3120))))
    have c3125 : ¬ (((gd l n).Id) < ((gd l i).Id)) := of_decide_eq_false (not_t (and_r (hg1572.symm.trans hc3120)))
    refine id (op_indexAddrD (E := infoE) (xs := l) i Try.underlying26 Try.sizeOf65 (f87.trans (gt hc3120)) h_l (f88.trans (gt hc3120)) (by omega) (by omega) (fun a3126 o3127 p3128 => ?_))
    exact (kN0 (i := 68) hM (by decide) (by exact jD) (by exact fun _ => ⟨_, _, rfl, p3128⟩))
   ·rintro D ρo wo nD eD cD jD aD ⟨f89, f81, _⟩
    refine go_lz 81 rfl ((gB_f f81).trans hg1572.symm) ?_ (fun hc3129 => (kN0 (i := 69) hM (by decide) (by exact jD) (by exact fun h => absurd (show _ = true from h) (by rw [hc3129]; decide))))
    intro hc3129
    obtain ⟨a3130, o3131, e3132, p3133⟩ := f89 hc3129
    exact id (op_fieldAddr (s := 0) Try.underlying65 rfl rfl Try.sizeOf3 e3132 (kN0 (i := 69) hM (by decide) (by exact jD) (by exact fun _ => ⟨_, _, rfl, p3133⟩)))
   ·rintro D ρo wo nD eD cD jD aD ⟨f90, f81, _⟩
    refine go_lz 81 rfl ((gB_f f81).trans hg1572.symm) ?_ (fun hc3134 => (kN0 (i := 70) hM (by decide) (by exact jD) (by exact (gf hc3134).symm)))
    intro hc3134
    have hst := jD.2 
    obtain ⟨a3135, o3136, e3137, p3138⟩ := f90 hc3134
    exact id (op_load1 (u := (iV ((gd l i).Id))) Try.isAgg3 e3137 (p3138.below hst.below) (kN0 (i := 70) hM (by decide) (by exact jD) (by exact (gt hc3134).symm)))
   ·rintro D ρo wo nD eD cD jD aD ⟨f86, f91, f81, _⟩
    refine go_lz 81 rfl ((gB_f f81).trans hg1572.symm) ?_ (fun hc3139 => (kN0 (i := 71) hM (by decide) (by exact jD) (by exact (gf hc3139).symm)))
    intro hc3139
    exact id (op_eql (k := .i64) (a := (gd l n).Id) (b := (gd l i).Id) (f86.trans (gt hc3139)) (f91.trans (gt hc3139)) (kN0 (i := 71) hM (by decide) (by exact jD) (by exact (gt hc3139).symm)))
   ·rintro D ρo wo nD eD cD jD aD ⟨f92, f81, _⟩
    refine go_lz 81 rfl ((gB_f f81).trans hg1572.symm) ?_ (fun hc3140 => (kN0 (i := 72) hM (by decide) (by exact jD) (by exact (gf hc3140).symm)))
    intro hc3140
    exact id (op_move (.bool (decide (((gd l n).Id) = ((gd l i).Id)))) (f92.trans (gt hc3140)) (kN0 (i := 72) hM (by decide) (by exact jD) (by exact (gt hc3140).symm)))
   ·rintro D ρo wo nD eD cD jD aD ⟨f6, f93, _⟩
    refine go_lz 93 rfl ((gB_t f93).trans hg2444.symm) ?_ (fun hc3141 => (kN0 (i := 73) hM (by decide) (by exact jD) (by exact (gf hc3141).symm)))
    intro hc3141
    exact id (op_move (iV (n : Int)) (f6.trans q7_6) (kN0 (i := 73) hM (by decide) (by exact jD) (by exact (gt hc3141).symm)))
   ·rintro D ρo wo nD eD cD jD aD ⟨f4, f93, _⟩
    refine go_lz 93 rfl ((gB_t f93).trans hg2444.symm) ?_ (fun hc3142 => (kN0 (i := 74) hM (by decide) (by exact jD) (by exact (gf hc3142).symm)))
    intro hc3142
    exact id (op_move (iV (i : Int)) (f4.trans q7_4) (kN0 (i := 74) hM (by decide) (by exact jD) (by exact (gt hc3142).symm)))
   ·rintro D ρo wo nD eD cD jD aD ⟨f94, f95, f93, _⟩
    refine go_lz 93 rfl ((gB_t f93).trans hg2444.symm) ?_ (fun hc3143 => (kN0 (i := 75) hM (by decide) (by exact jD) (by exact (gf hc3143).symm)))
    intro hc3143
    exact id (op_lss (k := .i64) (a := (n : Int)) (b := (i : Int)) (f94.trans (gt hc3143)) (f95.trans (gt hc3143)) (kN0 (i := 75) hM (by decide) (by exact jD) (by exact (gt hc3143).symm)))
   ·rintro D ρo wo nD eD cD jD aD ⟨f93, f96, f81, _⟩
    refine go_lz 81 rfl ((gB_f f81).trans hg1572.symm) ?_ (fun hc3144 => (kN0 (i := 76) hM (by decide) (by exact jD) (by exact (gf hc3144).symm)))
    intro hc3144
    refine id (op_pick_and (f93.trans (gt hc3144)) f96 (fun hp => (hg2444.trans (and_i hc3144 hp))) rfl ?_)
    exact (kN0 (i := 76) hM (by decide) (by exact jD) (by exact ((congrArg Value.bool hg2766.symm).trans (gt hc3144).symm)))
   ·rintro D ρo wo nD eD cD jD aD ⟨f81, f97, f69, _⟩
    refine go_lz 69 rfl ((gB_t f69).trans hg892.symm) ?_ (fun hc3145 => (kN0 (i := 77) hM (by decide) (by exact jD) (by exact (gf hc3145).symm)))
    intro hc3145
    refine id (op_pick_or (f81.trans (gt hc3145)) rfl f97 (fun hp => (hg1572.trans (and_i hc3145 (congrArg (! ·) hp)))) ?_)
    exact (kN0 (i := 77) hM (by decide) (by exact jD) (by exact ((congrArg Value.bool hg2832.symm).trans (gt hc3145).symm)))
   ·rintro D ρo wo nD eD cD jD aD ⟨f69, f98, f57, _⟩
    refine go_lz 57 rfl ((gB_f f57).trans hg404.symm) ?_ (fun hc3146 => (kN0 (i := 78) hM (by decide) (by exact jD) (by exact (gf hc3146).symm)))
    intro hc3146
    refine id (op_pick_and (f69.trans (gt hc3146)) f98 (fun hp => (hg892.trans (and_i hc3146 hp))) rfl ?_)
    exact (kN0 (i := 78) hM (by decide) (by exact jD) (by exact ((congrArg Value.bool hg2882.symm).trans (gt hc3146).symm)))
   ·rintro D ρo wo nD eD cD jD aD ⟨f57, f99, f45, _⟩
    refine go_lz 45 rfl (gA_t f45) ?_ (fun hc3147 => (kN0 (i := 79) hM (by decide) (by exact jD) (by exact (gf hc3147).symm)))
    intro hc3147
    refine id (op_pick_or (f57.trans (gt hc3147)) rfl f99 (fun hp => (hg404.trans (and_i hc3147 (congrArg (! ·) hp)))) ?_)
    exact (kN0 (i := 79) hM (by decide) (by exact jD) (by exact ((congrArg Value.bool hg2916.symm).trans (gt hc3147).symm)))
   ·rintro D ρo wo nD eD cD jD aD ⟨f45, f100, _⟩
    refine go_plain (op_pick_and f45 f100 (fun hp => hp) rfl ?_)
    exact (kN0 (i := 80) hM (by decide) (by exact jD) (by exact (congrArg Value.bool hg2918.symm)))
   intro ρ3148 w3149 Dw3149 hallw3149 hJw3149 hRw3149 hkw3149
   have hst : St w0 w3149 [rowT 3 (intE .i64) vo (intsN ps)] := hJw3149.2 
   have uw3149_0 := (hkw3149 0 rfl).trans q7_0
   have uw3149_2 := (hkw3149 2 rfl).trans q7_2
   have uw3149_3 := (hkw3149 3 rfl).trans q7_3
   have uw3149_4 := (hkw3149 4 rfl).trans q7_4
   have uw3149_5 := (hkw3149 5 rfl).trans q7_5
   have uw3149_6 := (hkw3149 6 rfl).trans q7_6
   have uw3149_101 : ρ3148 101 = (.bool g2917) := hRw3149 80 101 rfl
   refine then_n ?_
   rcases Bool.eq_false_or_eq_true g2917 with b3150 | b3150
   ·have c3151 : ((gd l n).From) = ((gd l i).From) := of_decide_eq_true (and_l (hg108.symm.trans (and_l (hg2918.symm.trans b3150))))
    have c3152 : ((gd l n).To) = ((gd l i).To) := of_decide_eq_true (and_r (hg108.symm.trans (and_l (hg2918.symm.trans b3150))))
    have c3153 : (((gd l n).Tier) < ((gd l i).Tier)) ∨ ((((gd l n).Tier) = ((gd l i).Tier)) ∧ ((((gd l n).Id) < ((gd l i).Id)) ∨ ((((gd l n).Id) = ((gd l i).Id)) ∧ ((n : Int) < (i : Int))))) := (pi_or pi_dec (pi_name hg2882 (pi_and pi_dec (pi_name hg2832 (pi_or pi_dec (pi_name hg2766 (pi_and pi_dec pi_dec))))))).1 (hg2916.symm.trans (and_r (hg2918.symm.trans b3150)))
    refine cE_cond true (uw3149_101.trans (congrArg Value.bool b3150)) (fun _ => ?_) (fun h => by cases h)
    refine cE_region rfl (s_cons (op_assign (.bool false) rfl (s_nil (block_n (then_n (cE_region rfl (s_cons (op_move (iV (n : Int)) uw3149_6 (s_cons (op_add (k := .i64) (a := (n : Int)) (b := 1) ((n : Int) + 1) rfl rfl (xi64 (by omega) (by omega)) (s_cons (op_assign (iV ((n : Int) + 1)) rfl (s_nil (then_n ?_))))))))))))))
    exact ⟨_, ⟨(n + 1), rfl, uw3149_0, uw3149_2, uw3149_3, uw3149_4, (congrArg Value.bool (show false = _ from by exact (bestTo_yes (beats_yes (by omega))).symm)), (congrArg iV (show ((n : Int) + 1) = _ from by omega)), hst, (by omega)⟩, (by simp only [id]; omega)⟩
   have c3154 : ¬ (((((gd l n).From) = ((gd l i).From)) ∧ (((gd l n).To) = ((gd l i).To))) ∧ ((((gd l n).Tier) < ((gd l i).Tier)) ∨ ((((gd l n).Tier) = ((gd l i).Tier)) ∧ ((((gd l n).Id) < ((gd l i).Id)) ∨ ((((gd l n).Id) = ((gd l i).Id)) ∧ ((n : Int) < (i : Int))))))) := pi_f (pi_and (pi_name hg108 (pi_and pi_dec pi_dec)) (pi_name hg2916 (pi_or pi_dec (pi_name hg2882 (pi_and pi_dec (pi_name hg2832 (pi_or pi_dec (pi_name hg2766 (pi_and pi_dec pi_dec))))))))) (hg2918.symm.trans b3150)
   refine cE_cond false (uw3149_101.trans (congrArg Value.bool b3150)) (fun h => by cases h) (fun _ => ?_)
   refine cE_skip (block_n (then_n (cE_region rfl (s_cons (op_move (iV (n : Int)) uw3149_6 (s_cons (op_add (k := .i64) (a := (n : Int)) (b := 1) ((n : Int) + 1) rfl rfl (xi64 (by omega) (by omega)) (s_cons (op_assign (iV ((n : Int) + 1)) rfl (s_nil (then_n ?_)))))))))))
   exact ⟨_, ⟨(n + 1), rfl, uw3149_0, uw3149_2, uw3149_3, uw3149_4, (uw3149_5.trans (congrArg Value.bool (show (bestTo l i n) = _ from by exact (bestTo_no (beats_not (by omega))).symm))), (congrArg iV (show ((n : Int) + 1) = _ from by omega)), hst, (by omega)⟩, (by simp only [id]; omega)⟩
  have c3155 := of_decide_eq_false b11
  refine cE_cond false (congrArg Value.bool b11) (fun h => by cases h) (fun _ => ?_)
  refine cE_exit (then_x (then_x (block_hit (then_n (cE_seq (cE_seq (cE_region rfl (s_cons (op_move (.bool (bestTo l i n)) q7_5 (s_cons (op_not (b := (bestTo l i n)) rfl (s_nil (then_n ?_)))))))))))))
  rcases Bool.eq_false_or_eq_true (bestTo l i n) with b3156 | b3156
  ·have hbt : bestTo l i l.length = true := by rw [show l.length = n by omega]; exact b3156
   refine cE_cond false (congrArg Value.bool (congrArg (! ·) b3156)) (fun h => by cases h) (fun _ => ?_)
   refine cE_skip (then_n (cE_seq ?_))
   have hbe : bestTo l i n = bestTo l i l.length := by rw [show n = l.length by omega]
   have hbt : bestTo l i l.length = true := by assumption
   refine cE_region rfl (s_cons (op_move vo q7_3 (s_cons (op_len (E := (intE .i64)) (xs := (intsN ps)) Try.underlying43 rfl (hst.sl 0 rfl) (s_cons (op_assign (iV ((intsN ps).length : Int)) rfl (s_nil (then_n (cE_seq (cE_block (cE_loop (fun (m : Nat) (ρ : Env) (w : World) => ∃ (k : Nat), m = k ∧ ρ 0 = v_l ∧ ρ 2 = nS ∧ ρ 3 = vo ∧ ρ 4 = (iV (i : Int)) ∧ ρ 5 = (.bool (bestTo l i n)) ∧ ρ 6 = (iV (n : Int)) ∧ ρ 7 = (iV (k : Int)) ∧ St w0 w [rowT 3 (intE .i64) vo (intsN ps)] ∧ (k ≤ ps.length) ∧ (seatF (gd l i) (ps.map (gd l)) ps.length = seatF (gd l i) (ps.map (gd l)) k)) id _ ⟨ps.length, rfl, q7_0, q7_2, q7_3, q7_4, q7_5, q7_6, (congrArg iV (show ((intsN ps).length : Int) = _ from by omega)), hst, (by omega), (by rfl)⟩ ?_)))))))))))
   rintro m3158 ρ3159 w3160 ⟨k, hm3158, q3157_0, q3157_2, q3157_3, q3157_4, q3157_5, q3157_6, q3157_7, hst, hk, hS⟩
   have hgb : k = 0 ∨ (0 ≤ gd (intsN ps) (k - 1) ∧ gd (intsN ps) (k - 1) < (l.length : Int)) := by
    by_cases c : k = 0
    ·exact Or.inl c
    ·refine Or.inr ?_
     rw [intsN_gd (by omega)]
     have := hlt _ (List.getElem_mem (show k - 1 < ps.length by omega))
     omega
   refine cE_seq (cE_seq ?_)
   obtain ⟨g3310, hg3311⟩ : ∃ x : Bool, x = ((decide (0 < (k : Int))) && (!(decide (((gd l i).From) < ((gd l (Int.toNat (gd (intsN ps) (k - 1)))).From))))) := ⟨_, rfl⟩
   obtain ⟨g3781, hg3782⟩ : ∃ x : Bool, x = (g3310 && (decide (((gd l (Int.toNat (gd (intsN ps) (k - 1)))).From) = ((gd l i).From)))) := ⟨_, rfl⟩
   obtain ⟨g4552, hg4553⟩ : ∃ x : Bool, x = ((decide (((gd l (Int.toNat (gd (intsN ps) (k - 1)))).From) = ((gd l i).From))) && (decide (((gd l i).To) < ((gd l (Int.toNat (gd (intsN ps) (k - 1)))).To)))) := ⟨_, rfl⟩
   obtain ⟨g4574, hg4575⟩ : ∃ x : Bool, x = ((decide (((gd l i).From) < ((gd l (Int.toNat (gd (intsN ps) (k - 1)))).From))) || g4552) := ⟨_, rfl⟩
   obtain ⟨g4576, hg4577⟩ : ∃ x : Bool, x = ((decide (0 < (k : Int))) && g4574) := ⟨_, rfl⟩
   refine cE_regionM (fun (D : Nat → Bool) (w : World) => St w0 w [rowT 3 (intE .i64) vo (intsN ps)] ∧ (St w0 w [rowT 3 (intE .i64) vo (intsN ps)])) [[(7, none)], [(106, some 0)], [(107, some 1)], [(0, none), (108, some 2)], [(3, none), (108, some 2)], [(7, none), (108, some 2)], [(111, some 5), (108, some 2)], [(110, some 4), (112, some 6), (108, some 2)], [(113, some 7), (108, some 2)], [(109, some 3), (114, some 8), (108, some 2)], [(115, some 9), (108, some 2)], [(116, some 10), (108, some 2)], [(0, none), (108, some 2)], [(4, none), (108, some 2)], [(118, some 12), (119, some 13), (108, some 2)], [(120, some 14), (108, some 2)], [(121, some 15), (108, some 2)], [(117, some 11), (122, some 16), (108, some 2)], [(123, some 17), (108, some 2)], [(0, none), (124, some 18)], [(3, none), (124, some 18)], [(7, none), (124, some 18)], [(127, some 21), (124, some 18)], [(126, some 20), (128, some 22), (124, some 18)], [(129, some 23), (124, some 18)], [(125, some 19), (130, some 24), (124, some 18)], [(131, some 25), (124, some 18)], [(132, some 26), (124, some 18)], [(0, none), (124, some 18)], [(4, none), (124, some 18)], [(134, some 28), (135, some 29), (124, some 18)], [(136, some 30), (124, some 18)], [(137, some 31), (124, some 18)], [(133, some 27), (138, some 32), (124, some 18)], [(139, some 33), (124, some 18)], [(0, none), (140, some 34)], [(3, none), (140, some 34)], [(7, none), (140, some 34)], [(143, some 37), (140, some 34)], [(142, some 36), (144, some 38), (140, some 34)], [(145, some 39), (140, some 34)], [(141, some 35), (146, some 40), (140, some 34)], [(147, some 41), (140, some 34)], [(148, some 42), (140, some 34)], [(0, none), (140, some 34)], [(4, none), (140, some 34)], [(150, some 44), (151, some 45), (140, some 34)], [(152, some 46), (140, some 34)], [(153, some 47), (140, some 34)], [(149, some 43), (154, some 48), (140, some 34)], [(140, some 34), (155, some 49), (124, some 18)], [(124, some 18), (156, some 50), (108, some 2)], [(108, some 2), (157, some 51)]] [] [(kEq (iV (k : Int))), (kEq (.bool (decide (0 < (k : Int))))), (kEq (.bool (decide (0 < (k : Int))))), (kEq (bif (decide (0 < (k : Int))) then v_l else undef)), (kEq (bif (decide (0 < (k : Int))) then vo else undef)), (kEq (bif (decide (0 < (k : Int))) then (iV (k : Int)) else undef)), (kEq (bif (decide (0 < (k : Int))) then (iV ((k : Int) - 1)) else undef)), (kPtUc (decide (0 < (k : Int))) [(iV (gd (intsN ps) (k - 1)))]), (kEq (bif (decide (0 < (k : Int))) then (iV (gd (intsN ps) (k - 1))) else undef)), (kPtc w0 (decide (0 < (k : Int))) [(iV ((gd l (Int.toNat (gd (intsN ps) (k - 1)))).Id)), (iV ((gd l (Int.toNat (gd (intsN ps) (k - 1)))).Tier)), (iV ((gd l (Int.toNat (gd (intsN ps) (k - 1)))).From)), (iV ((gd l (Int.toNat (gd (intsN ps) (k - 1)))).To)), (.int .u32 ((gd l (Int.toNat (gd (intsN ps) (k - 1)))).Sum))]), (kPtc w0 (decide (0 < (k : Int))) [(iV ((gd l (Int.toNat (gd (intsN ps) (k - 1)))).From)), (iV ((gd l (Int.toNat (gd (intsN ps) (k - 1)))).To)), (.int .u32 ((gd l (Int.toNat (gd (intsN ps) (k - 1)))).Sum))]), (kEq (bif (decide (0 < (k : Int))) then (iV ((gd l (Int.toNat (gd (intsN ps) (k - 1)))).From)) else undef)), (kEq (bif (decide (0 < (k : Int))) then v_l else undef)), (kEq (bif (decide (0 < (k : Int))) then (iV (i : Int)) else undef)), (kPtc w0 (decide (0 < (k : Int))) [(iV ((gd l i).Id)), (iV ((gd l i).Tier)), (iV ((gd l i).From)), (iV ((gd l i).To)), (.int .u32 ((gd l i).Sum))]), (kPtc w0 (decide (0 < (k : Int))) [(iV ((gd l i).From)), (iV ((gd l i).To)), (.int .u32 ((gd l i).Sum))]), (kEq (bif (decide (0 < (k : Int))) then (iV ((gd l i).From)) else undef)), (kEq (bif (decide (0 < (k : Int))) then (.bool (decide (((gd l i).From) < ((gd l (Int.toNat (gd (intsN ps) (k - 1)))).From)))) else undef)), (kEq (bif (decide (0 < (k : Int))) then (.bool (decide (((gd l i).From) < ((gd l (Int.toNat (gd (intsN ps) (k - 1)))).From)))) else undef)), (kEq (bif g3310 then v_l else undef)), (kEq (bif g3310 then vo else undef)), (kEq (bif g3310 then (iV (k : Int)) else undef)), (kEq (bif g3310 then (iV ((k : Int) - 1)) else undef)), (kPtUc g3310 [(iV (gd (intsN ps) (k - 1)))]), (kEq (bif g3310 then (iV (gd (intsN ps) (k - 1))) else undef)), (kPtc w0 g3310 [(iV ((gd l (Int.toNat (gd (intsN ps) (k - 1)))).Id)), (iV ((gd l (Int.toNat (gd (intsN ps) (k - 1)))).Tier)), (iV ((gd l (Int.toNat (gd (intsN ps) (k - 1)))).From)), (iV ((gd l (Int.toNat (gd (intsN ps) (k - 1)))).To)), (.int .u32 ((gd l (Int.toNat (gd (intsN ps) (k - 1)))).Sum))]), (kPtc w0 g3310 [(iV ((gd l (Int.toNat (gd (intsN ps) (k - 1)))).From)), (iV ((gd l (Int.toNat (gd (intsN ps) (k - 1)))).To)), (.int .u32 ((gd l (Int.toNat (gd (intsN ps) (k - 1)))).Sum))]), (kEq (bif g3310 then (iV ((gd l (Int.toNat (gd (intsN ps) (k - 1)))).From)) else undef)), (kEq (bif g3310 then v_l else undef)), (kEq (bif g3310 then (iV (i : Int)) else undef)), (kPtc w0 g3310 [(iV ((gd l i).Id)), (iV ((gd l i).Tier)), (iV ((gd l i).From)), (iV ((gd l i).To)), (.int .u32 ((gd l i).Sum))]), (kPtc w0 g3310 [(iV ((gd l i).From)), (iV ((gd l i).To)), (.int .u32 ((gd l i).Sum))]), (kEq (bif g3310 then (iV ((gd l i).From)) else undef)), (kEq (bif g3310 then (.bool (decide (((gd l (Int.toNat (gd (intsN ps) (k - 1)))).From) = ((gd l i).From)))) else undef)), (kEq (bif g3310 then (.bool (decide (((gd l (Int.toNat (gd (intsN ps) (k - 1)))).From) = ((gd l i).From)))) else undef)), (kEq (bif g3781 then v_l else undef)), (kEq (bif g3781 then vo else undef)), (kEq (bif g3781 then (iV (k : Int)) else undef)), (kEq (bif g3781 then (iV ((k : Int) - 1)) else undef)), (kPtUc g3781 [(iV (gd (intsN ps) (k - 1)))]), (kEq (bif g3781 then (iV (gd (intsN ps) (k - 1))) else undef)), (kPtc w0 g3781 [(iV ((gd l (Int.toNat (gd (intsN ps) (k - 1)))).Id)), (iV ((gd l (Int.toNat (gd (intsN ps) (k - 1)))).Tier)), (iV ((gd l (Int.toNat (gd (intsN ps) (k - 1)))).From)), (iV ((gd l (Int.toNat (gd (intsN ps) (k - 1)))).To)), (.int .u32 ((gd l (Int.toNat (gd (intsN ps) (k - 1)))).Sum))]), (kPtc w0 g3781 [(iV ((gd l (Int.toNat (gd (intsN ps) (k - 1)))).To)), (.int .u32 ((gd l (Int.toNat (gd (intsN ps) (k - 1)))).Sum))]), (kEq (bif g3781 then (iV ((gd l (Int.toNat (gd (intsN ps) (k - 1)))).To)) else undef)), (kEq (bif g3781 then v_l else undef)), (kEq (bif g3781 then (iV (i : Int)) else undef)), (kPtc w0 g3781 [(iV ((gd l i).Id)), (iV ((gd l i).Tier)), (iV ((gd l i).From)), (iV ((gd l i).To)), (.int .u32 ((gd l i).Sum))]), (kPtc w0 g3781 [(iV ((gd l i).To)), (.int .u32 ((gd l i).Sum))]), (kEq (bif g3781 then (iV ((gd l i).To)) else undef)), (kEq (bif g3781 then (.bool (decide (((gd l i).To) < ((gd l (Int.toNat (gd (intsN ps) (k - 1)))).To)))) else undef)), (kEq (bif g3310 then (.bool g4552) else undef)), (kEq (bif (decide (0 < (k : Int))) then (.bool g4574) else undef)), (kEq (.bool g4576))] ⟨mEq, mEq, mEq, mEq, mEq, mEq, mEq, mPtUc, mEq, mPtc, mPtc, mEq, mEq, mEq, mPtc, mPtc, mEq, mEq, mEq, mEq, mEq, mEq, mEq, mPtUc, mEq, mPtc, mPtc, mEq, mEq, mEq, mPtc, mPtc, mEq, mEq, mEq, mEq, mEq, mEq, mEq, mPtUc, mEq, mPtc, mPtc, mEq, mEq, mEq, mPtc, mPtc, mEq, mEq, mEq, mEq, mEq, trivial⟩ (by kernel_rfl) rfl (by kernel_rfl) ⟨hst.drewW.sub (.cons_cons _ .slnil), hst.drewW⟩ (fun hM => ⟨?_, ?_, ?_, ?_, ?_, ?_, ?_, ?_, ?_, ?_, ?_, ?_, ?_, ?_, ?_, ?_, ?_, ?_, ?_, ?_, ?_, ?_, ?_, ?_, ?_, ?_, ?_, ?_, ?_, ?_, ?_, ?_, ?_, ?_, ?_, ?_, ?_, ?_, ?_, ?_, ?_, ?_, ?_, ?_, ?_, ?_, ?_, ?_, ?_, ?_, ?_, ?_, ?_, trivial⟩) ?_
   ·rintro D ρo wo nD eD cD jD aD ⟨f7, _⟩
    exact go_plain (op_move (iV (k : Int)) (f7.trans q3157_7) (kN0 (i := 0) hM (by decide) (by exact jD) (by exact rfl)))
   ·rintro D ρo wo nD eD cD jD aD ⟨f106, _⟩
    exact go_plain (op_gtr (k := .i64) (a := (k : Int)) (b := 0) f106 rfl (kN0 (i := 1) hM (by decide) (by exact jD) (by exact rfl)))
   ·rintro D ρo wo nD eD cD jD aD ⟨f107, _⟩
    exact go_plain (op_move (.bool (decide (0 < (k : Int)))) f107 (kN0 (i := 2) hM (by decide) (by exact jD) (by exact rfl)))
   ·rintro D ρo wo nD eD cD jD aD ⟨f0, f108, _⟩
    refine go_lz 108 rfl (gA_t f108) ?_ (fun hc4579 => (kN0 (i := 3) hM (by decide) (by exact jD) (by exact (gf hc4579).symm)))
    intro hc4579
    exact id (op_move v_l (f0.trans q3157_0) (kN0 (i := 3) hM (by decide) (by exact jD) (by exact (gt hc4579).symm)))
   ·rintro D ρo wo nD eD cD jD aD ⟨f3, f108, _⟩
    refine go_lz 108 rfl (gA_t f108) ?_ (fun hc4580 => (kN0 (i := 4) hM (by decide) (by exact jD) (by exact (gf hc4580).symm)))
    intro hc4580
    exact id (op_move vo (f3.trans q3157_3) (kN0 (i := 4) hM (by decide) (by exact jD) (by exact (gt hc4580).symm)))
   ·rintro D ρo wo nD eD cD jD aD ⟨f7, f108, _⟩
    refine go_lz 108 rfl (gA_t f108) ?_ (fun hc4581 => (kN0 (i := 5) hM (by decide) (by exact jD) (by exact (gf hc4581).symm)))
    intro hc4581
    exact id (op_move (iV (k : Int)) (f7.trans q3157_7) (kN0 (i := 5) hM (by decide) (by exact jD) (by exact (gt hc4581).symm)))
   ·rintro D ρo wo nD eD cD jD aD ⟨f111, f108, _⟩
    refine go_lz 108 rfl (gA_t f108) ?_ (fun hc4582 => (kN0 (i := 6) hM (by decide) (by exact jD) (by exact (gf hc4582).symm)))
    intro hc4582
    have c4583 := of_decide_eq_true hc4582
    exact id (op_sub (k := .i64) (a := (k : Int)) (b := 1) ((k : Int) - 1) (f111.trans (gt hc4582)) rfl (xi64 (by omega) (by omega)) (kN0 (i := 6) hM (by decide) (by exact jD) (by exact (gt hc4582).symm)))
   ·rintro D ρo wo nD eD cD jD aD ⟨f110, f112, f108, _⟩
    refine go_lz 108 rfl (gA_t f108) ?_ (fun hc4584 => (kN0 (i := 7) hM (by decide) (by exact jD) (by exact fun h => absurd (show _ = true from h) (by rw [hc4584]; decide))))
    intro hc4584
    have c4585 := of_decide_eq_true hc4584
    have hst := jD.2 
    refine id (op_indexAddrD (E := (intE .i64)) (xs := (intsN ps)) (k - 1) Try.underlying43 Try.sizeOf3 (f110.trans (gt hc4584)) (hst.sl 0 rfl) (f112.trans (gt hc4584)) (by omega) (by omega) (fun a4586 o4587 p4588 => ?_))
    exact (kN0 (i := 7) hM (by decide) (by exact jD) (by exact fun _ => ⟨_, _, rfl, p4588⟩))
   ·rintro D ρo wo nD eD cD jD aD ⟨f113, f108, _⟩
    refine go_lz 108 rfl (gA_t f108) ?_ (fun hc4589 => (kN0 (i := 8) hM (by decide) (by exact jD) (by exact (gf hc4589).symm)))
    intro hc4589
    obtain ⟨a4590, o4591, e4592, p4593⟩ := f113 hc4589
    exact id (op_load1 (u := (iV (gd (intsN ps) (k - 1)))) Try.isAgg3 e4592 p4593 (kN0 (i := 8) hM (by decide) (by exact jD) (by exact (gt hc4589).symm)))
   ·rintro D ρo wo nD eD cD jD aD ⟨f109, f114, f108, _⟩
    refine go_lz 108 rfl (gA_t f108) ?_ (fun hc4594 => (kN0 (i := 9) hM (by decide) (by exact jD) (by exact fun h => absurd (show _ = true from h) (by rw [hc4594]; decide))))
    intro hc4594
    have c4595 := of_decide_eq_true hc4594
    refine id (op_indexAddrD (E := infoE) (xs := l) (Int.toNat (gd (intsN ps) (k - 1))) Try.underlying26 Try.sizeOf65 (f109.trans (gt hc4594)) h_l (f114.trans (gt hc4594)) (by omega) (by omega) (fun a4596 o4597 p4598 => ?_))
    exact (kN0 (i := 9) hM (by decide) (by exact jD) (by exact fun _ => ⟨_, _, rfl, p4598⟩))
   ·rintro D ρo wo nD eD cD jD aD ⟨f115, f108, _⟩
    refine go_lz 108 rfl (gA_t f108) ?_ (fun hc4599 => (kN0 (i := 10) hM (by decide) (by exact jD) (by exact fun h => absurd (show _ = true from h) (by rw [hc4599]; decide))))
    intro hc4599
    obtain ⟨a4600, o4601, e4602, p4603⟩ := f115 hc4599
    exact id (op_fieldAddr (s := 0) Try.underlying65 rfl rfl Try.sizeOf2 e4602 (kN0 (i := 10) hM (by decide) (by exact jD) (by exact fun _ => ⟨_, _, rfl, (p4603.drop 2)⟩)))
   ·rintro D ρo wo nD eD cD jD aD ⟨f116, f108, _⟩
    refine go_lz 108 rfl (gA_t f108) ?_ (fun hc4604 => (kN0 (i := 11) hM (by decide) (by exact jD) (by exact (gf hc4604).symm)))
    intro hc4604
    have hst := jD.2 
    obtain ⟨a4605, o4606, e4607, p4608⟩ := f116 hc4604
    exact id (op_load1 (u := (iV ((gd l (Int.toNat (gd (intsN ps) (k - 1)))).From))) Try.isAgg2 e4607 (p4608.below hst.below) (kN0 (i := 11) hM (by decide) (by exact jD) (by exact (gt hc4604).symm)))
   ·rintro D ρo wo nD eD cD jD aD ⟨f0, f108, _⟩
    refine go_lz 108 rfl (gA_t f108) ?_ (fun hc4609 => (kN0 (i := 12) hM (by decide) (by exact jD) (by exact (gf hc4609).symm)))
    intro hc4609
    exact id (op_move v_l (f0.trans q3157_0) (kN0 (i := 12) hM (by decide) (by exact jD) (by exact (gt hc4609).symm)))
   ·rintro D ρo wo nD eD cD jD aD ⟨f4, f108, _⟩
    refine go_lz 108 rfl (gA_t f108) ?_ (fun hc4610 => (kN0 (i := 13) hM (by decide) (by exact jD) (by exact (gf hc4610).symm)))
    intro hc4610
    exact id (op_move (iV (i : Int)) (f4.trans q3157_4) (kN0 (i := 13) hM (by decide) (by exact jD) (by exact (gt hc4610).symm)))
   ·rintro D ρo wo nD eD cD jD aD ⟨f118, f119, f108, _⟩
    refine go_lz 108 rfl (gA_t f108) ?_ (fun hc4611 => (kN0 (i := 14) hM (by decide) (by exact jD) (by exact fun h => absurd (show _ = true from h) (by rw [hc4611]; decide))))
    intro hc4611
    have c4612 := of_decide_eq_true hc4611
    refine id (op_indexAddrD (E := infoE) (xs := l) i Try.underlying26 Try.sizeOf65 (f118.trans (gt hc4611)) h_l (f119.trans (gt hc4611)) (by omega) (by omega) (fun a4613 o4614 p4615 => ?_))
    exact (kN0 (i := 14) hM (by decide) (by exact jD) (by exact fun _ => ⟨_, _, rfl, p4615⟩))
   ·rintro D ρo wo nD eD cD jD aD ⟨f120, f108, _⟩
    refine go_lz 108 rfl (gA_t f108) ?_ (fun hc4616 => (kN0 (i := 15) hM (by decide) (by exact jD) (by exact fun h => absurd (show _ = true from h) (by rw [hc4616]; decide))))
    intro hc4616
    obtain ⟨a4617, o4618, e4619, p4620⟩ := f120 hc4616
    exact id (op_fieldAddr (s := 0) Try.underlying65 rfl rfl Try.sizeOf2 e4619 (kN0 (i := 15) hM (by decide) (by exact jD) (by exact fun _ => ⟨_, _, rfl, (p4620.drop 2)⟩)))
   ·rintro D ρo wo nD eD cD jD aD ⟨f121, f108, _⟩
    refine go_lz 108 rfl (gA_t f108) ?_ (fun hc4621 => (kN0 (i := 16) hM (by decide) (by exact jD) (by exact (gf hc4621).symm)))
    intro hc4621
    have hst := jD.2 
    obtain ⟨a4622, o4623, e4624, p4625⟩ := f121 hc4621
    exact id (op_load1 (u := (iV ((gd l i).From))) Try.isAgg2 e4624 (p4625.below hst.below) (kN0 (i := 16) hM (by decide) (by exact jD) (by exact (gt hc4621).symm)))
   ·rintro D ρo wo nD eD cD jD aD ⟨f117, f122, f108, _⟩
    refine go_lz 108 rfl (gA_t f108) ?_ (fun hc4626 => (kN0 (i := 17) hM (by decide) (by exact jD) (by exact (gf hc4626).symm)))
    intro hc4626
    exact id (op_gtr (k := .i64) (a := (gd l (Int.toNat (gd (intsN ps) (k - 1)))).From) (b := (gd l i).From) (f117.trans (gt hc4626)) (f122.trans (gt hc4626)) (kN0 (i := 17) hM (by decide) (by exact jD) (by exact (gt hc4626).symm)))
   ·rintro D ρo wo nD eD cD jD aD ⟨f123, f108, _⟩
    refine go_lz 108 rfl (gA_t f108) ?_ (fun hc4627 => (kN0 (i := 18) hM (by decide) (by exact jD) (by exact (gf hc4627).symm)))
    intro hc4627
    exact id (op_move (.bool (decide (((gd l i).From) < ((gd l (Int.toNat (gd (intsN ps) (k - 1)))).From)))) (f123.trans (gt hc4627)) (kN0 (i := 18) hM (by decide) (by exact jD) (by exact (gt hc4627).symm)))
   ·rintro D ρo wo nD eD cD jD aD ⟨f0, f124, _⟩
    refine go_lz 124 rfl ((gB_f f124).trans hg3311.symm) ?_ (fun hc4628 => (kN0 (i := 19) hM (by decide) (by exact jD) (by exact (gf hc4628).symm)))
    intro hc4628
    exact id (op_move v_l (f0.trans q3157_0) (kN0 (i := 19) hM (by decide) (by exact jD) (by exact (gt hc4628).symm)))
   ·rintro D ρo wo nD eD cD jD aD ⟨f3, f124, _⟩
    refine go_lz 124 rfl ((gB_f f124).trans hg3311.symm) ?_ (fun hc4629 => (kN0 (i := 20) hM (by decide) (by exact jD) (by exact (gf hc4629).symm)))
    intro hc4629
    exact id (op_move vo (f3.trans q3157_3) (kN0 (i := 20) hM (by decide) (by exact jD) (by exact (gt hc4629).symm)))
   ·rintro D ρo wo nD eD cD jD aD ⟨f7, f124, _⟩
    refine go_lz 124 rfl ((gB_f f124).trans hg3311.symm) ?_ (fun hc4630 => (kN0 (i := 21) hM (by decide) (by exact jD) (by exact (gf hc4630).symm)))
    intro hc4630
    exact id (op_move (iV (k : Int)) (f7.trans q3157_7) (kN0 (i := 21) hM (by decide) (by exact jD) (by exact (gt hc4630).symm)))
   ·rintro D ρo wo nD eD cD jD aD ⟨f127, f124, _⟩
    refine go_lz 124 rfl ((gB_f f124).trans hg3311.symm) ?_ (fun hc4631 => (kN0 (i := 22) hM (by decide) (by exact jD) (by exact (gf hc4631).symm)))
    intro hc4631
    have c4632 : 0 < (k : Int) := of_decide_eq_true (and_l (hg3311.symm.trans hc4631))
    have c4633 : ¬ (((gd l i).From) < ((gd l (Int.toNat (gd (intsN ps) (k - 1)))).From)) := of_decide_eq_false (not_t (and_r (hg3311.symm.trans hc4631)))
    exact id (op_sub (k := .i64) (a := (k : Int)) (b := 1) ((k : Int) - 1) (f127.trans (gt hc4631)) rfl (xi64 (by omega) (by omega)) (kN0 (i := 22) hM (by decide) (by exact jD) (by exact (gt hc4631).symm)))
   ·rintro D ρo wo nD eD cD jD aD ⟨f126, f128, f124, _⟩
    refine go_lz 124 rfl ((gB_f f124).trans hg3311.symm) ?_ (fun hc4634 => (kN0 (i := 23) hM (by decide) (by exact jD) (by exact fun h => absurd (show _ = true from h) (by rw [hc4634]; decide))))
    intro hc4634
    have c4635 : 0 < (k : Int) := of_decide_eq_true (and_l (hg3311.symm.trans hc4634))
    have c4636 : ¬ (((gd l i).From) < ((gd l (Int.toNat (gd (intsN ps) (k - 1)))).From)) := of_decide_eq_false (not_t (and_r (hg3311.symm.trans hc4634)))
    have hst := jD.2 
    refine id (op_indexAddrD (E := (intE .i64)) (xs := (intsN ps)) (k - 1) Try.underlying43 Try.sizeOf3 (f126.trans (gt hc4634)) (hst.sl 0 rfl) (f128.trans (gt hc4634)) (by omega) (by omega) (fun a4637 o4638 p4639 => ?_))
    exact (kN0 (i := 23) hM (by decide) (by exact jD) (by exact fun _ => ⟨_, _, rfl, p4639⟩))
   ·rintro D ρo wo nD eD cD jD aD ⟨f129, f124, _⟩
    refine go_lz 124 rfl ((gB_f f124).trans hg3311.symm) ?_ (fun hc4640 => (kN0 (i := 24) hM (by decide) (by exact jD) (by exact (gf hc4640).symm)))
    intro hc4640
    obtain ⟨a4641, o4642, e4643, p4644⟩ := f129 hc4640
    exact id (op_load1 (u := (iV (gd (intsN ps) (k - 1)))) Try.isAgg3 e4643 p4644 (kN0 (i := 24) hM (by decide) (by exact jD) (by exact (gt hc4640).symm)))
   ·rintro D ρo wo nD eD cD jD aD ⟨f125, f130, f124, _⟩
    refine go_lz 124 rfl ((gB_f f124).trans hg3311.symm) ?_ (fun hc4645 => (kN0 (i := 25) hM (by decide) (by exact jD) (by exact fun h => absurd (show _ = true from h) (by rw [hc4645]; decide))))
    intro hc4645
    have c4646 : 0 < (k : Int) := of_decide_eq_true (and_l (hg3311.symm.trans hc4645))
    have c4647 : ¬ (((gd l i).From) < ((gd l (Int.toNat (gd (intsN ps) (k - 1)))).From)) := of_decide_eq_false (not_t (and_r (hg3311.symm.trans hc4645)))
    refine id (op_indexAddrD (E := infoE) (xs := l) (Int.toNat (gd (intsN ps) (k - 1))) Try.underlying26 Try.sizeOf65 (f125.trans (gt hc4645)) h_l (f130.trans (gt hc4645)) (by omega) (by omega) (fun a4648 o4649 p4650 => ?_))
    exact (kN0 (i := 25) hM (by decide) (by exact jD) (by exact fun _ => ⟨_, _, rfl, p4650⟩))
   ·rintro D ρo wo nD eD cD jD aD ⟨f131, f124, _⟩
    refine go_lz 124 rfl ((gB_f f124).trans hg3311.symm) ?_ (fun hc4651 => (kN0 (i := 26) hM (by decide) (by exact jD) (by exact fun h => absurd (show _ = true from h) (by rw [hc4651]; decide))))
    intro hc4651
    obtain ⟨a4652, o4653, e4654, p4655⟩ := f131 hc4651
    exact id (op_fieldAddr (s := 0) Try.underlying65 rfl rfl Try.sizeOf2 e4654 (kN0 (i := 26) hM (by decide) (by exact jD) (by exact fun _ => ⟨_, _, rfl, (p4655.drop 2)⟩)))
   ·rintro D ρo wo nD eD cD jD aD ⟨f132, f124, _⟩
    refine go_lz 124 rfl ((gB_f f124).trans hg3311.symm) ?_ (fun hc4656 => (kN0 (i := 27) hM (by decide) (by exact jD) (by exact (gf hc4656).symm)))
    intro hc4656
    have hst := jD.2 
    obtain ⟨a4657, o4658, e4659, p4660⟩ := f132 hc4656
    exact id (op_load1 (u := (iV ((gd l (Int.toNat (gd (intsN ps) (k - 1)))).From))) Try.isAgg2 e4659 (p4660.below hst.below) (kN0 (i := 27) hM (by decide) (by exact jD) (by exact (gt hc4656).symm)))
   ·rintro D ρo wo nD eD cD jD aD ⟨f0, f124, _⟩
    refine go_lz 124 rfl ((gB_f f124).trans hg3311.symm) ?_ (fun hc4661 => (kN0 (i := 28) hM (by decide) (by exact jD) (by exact (gf hc4661).symm)))
    intro hc4661
    exact id (op_move v_l (f0.trans q3157_0) (kN0 (i := 28) hM (by decide) (by exact jD) (by exact (gt hc4661).symm)))
   ·rintro D ρo wo nD eD cD jD aD ⟨f4, f124, _⟩
    refine go_lz 124 rfl ((gB_f f124).trans hg3311.symm) ?_ (fun hc4662 => (kN0 (i := 29) hM (by decide) (by exact jD) (by exact (gf hc4662).symm)))
    intro hc4662
    exact id (op_move (iV (i : Int)) (f4.trans q3157_4) (kN0 (i := 29) hM (by decide) (by exact jD) (by exact (gt hc4662).symm)))
   ·rintro D ρo wo nD eD cD jD aD ⟨f134, f135, f124, _⟩
    refine go_lz 124 rfl ((gB_f f124).trans hg3311.symm) ?_ (fun hc4663 => (kN0 (i := 30) hM (by decide) (by exact jD) (by exact fun h => absurd (show _ = true from h) (by rw [hc4663]; decide))))
    intro hc4663
    have c4664 : 0 < (k : Int) := of_decide_eq_true (and_l (hg3311.symm.trans hc4663))
    have c4665 : ¬ (((gd l i).From) < ((gd l (Int.toNat (gd (intsN ps) (k - 1)))).From)) := of_decide_eq_false (not_t (and_r (hg3311.symm.trans hc4663)))
    refine id (op_indexAddrD (E := infoE) (xs := l) i Try.underlying26 Try.sizeOf65 (f134.trans (gt hc4663)) h_l (f135.trans (gt hc4663)) (by omega) (by omega) (fun a4666 o4667 p4668 => ?_))
    exact (kN0 (i := 30) hM (by decide) (by exact jD) (by exact fun _ => ⟨_, _, rfl, p4668⟩))
   ·rintro D ρo wo nD eD cD jD aD ⟨f136, f124, _⟩
    refine go_lz 124 rfl ((gB_f f124).trans hg3311.symm) ?_ (fun hc4669 => (kN0 (i := 31) hM (by decide) (by exact jD) (by exact fun h => absurd (show _ = true from h) (by rw [hc4669]; decide))))
    intro hc4669
    obtain ⟨a4670, o4671, e4672, p4673⟩ := f136 hc4669
    exact id (op_fieldAddr (s := 0) Try.underlying65 rfl rfl Try.sizeOf2 e4672 (kN0 (i := 31) hM (by decide) (by exact jD) (by exact fun _ => ⟨_, _, rfl, (p4673.drop 2)⟩)))
   ·rintro D ρo wo nD eD cD jD aD ⟨f137, f124, _⟩
    refine go_lz 124 rfl ((gB_f f124).trans hg3311.symm) ?_ (fun hc4674 => (kN0 (i := 32) hM (by decide) (by exact jD) (by exact (gf hc4674).symm)))
    intro hc4674
    have hst := jD.2 
    obtain ⟨a4675, o4676, e4677, p4678⟩ := f137 hc4674
    exact id (op_load1 (u := (iV ((gd l i).From))) Try.isAgg2 e4677 (p4678.below hst.below) (kN0 (i := 32) hM (by decide) (by exact jD) (by exact (gt hc4674).symm)))
   ·rintro D ρo wo nD eD cD jD aD ⟨f133, f138, f124, _⟩
    refine go_lz 124 rfl ((gB_f f124).trans hg3311.symm) ?_ (fun hc4679 => (kN0 (i := 33) hM (by decide) (by exact jD) (by exact (gf hc4679).symm)))
    intro hc4679
    exact id (op_eql (k := .i64) (a := (gd l (Int.toNat (gd (intsN ps) (k - 1)))).From) (b := (gd l i).From) (f133.trans (gt hc4679)) (f138.trans (gt hc4679)) (kN0 (i := 33) hM (by decide) (by exact jD) (by exact (gt hc4679).symm)))
   ·rintro D ρo wo nD eD cD jD aD ⟨f139, f124, _⟩
    refine go_lz 124 rfl ((gB_f f124).trans hg3311.symm) ?_ (fun hc4680 => (kN0 (i := 34) hM (by decide) (by exact jD) (by exact (gf hc4680).symm)))
    intro hc4680
    exact id (op_move (.bool (decide (((gd l (Int.toNat (gd (intsN ps) (k - 1)))).From) = ((gd l i).From)))) (f139.trans (gt hc4680)) (kN0 (i := 34) hM (by decide) (by exact jD) (by exact (gt hc4680).symm)))
   ·rintro D ρo wo nD eD cD jD aD ⟨f0, f140, _⟩
    refine go_lz 140 rfl ((gB_t f140).trans hg3782.symm) ?_ (fun hc4681 => (kN0 (i := 35) hM (by decide) (by exact jD) (by exact (gf hc4681).symm)))
    intro hc4681
    exact id (op_move v_l (f0.trans q3157_0) (kN0 (i := 35) hM (by decide) (by exact jD) (by exact (gt hc4681).symm)))
   ·rintro D ρo wo nD eD cD jD aD ⟨f3, f140, _⟩
    refine go_lz 140 rfl ((gB_t f140).trans hg3782.symm) ?_ (fun hc4682 => (kN0 (i := 36) hM (by decide) (by exact jD) (by exact (gf hc4682).symm)))
    intro hc4682
    exact id (op_move vo (f3.trans q3157_3) (kN0 (i := 36) hM (by decide) (by exact jD) (by exact (gt hc4682).symm)))
   ·rintro D ρo wo nD eD cD jD aD ⟨f7, f140, _⟩
    refine go_lz 140 rfl ((gB_t f140).trans hg3782.symm) ?_ (fun hc4683 => (kN0 (i := 37) hM (by decide) (by exact jD) (by exact (gf hc4683).symm)))
    intro hc4683
    exact id (op_move (iV (k : Int)) (f7.trans q3157_7) (kN0 (i := 37) hM (by decide) (by exact jD) (by exact (gt hc4683).symm)))
   ·rintro D ρo wo nD eD cD jD aD ⟨f143, f140, _⟩
    refine go_lz 140 rfl ((gB_t f140).trans hg3782.symm) ?_ (fun hc4684 => (kN0 (i := 38) hM (by decide) (by exact jD) (by exact (gf hc4684).symm)))
    intro hc4684
    have c4685 : 0 < (k : Int) := of_decide_eq_true (and_l (hg3311.symm.trans (and_l (hg3782.symm.trans hc4684))))
    have c4686 : ¬ (((gd l i).From) < ((gd l (Int.toNat (gd (intsN ps) (k - 1)))).From)) := of_decide_eq_false (not_t (and_r (hg3311.symm.trans (and_l (hg3782.symm.trans hc4684)))))
    have c4687 : ((gd l (Int.toNat (gd (intsN ps) (k - 1)))).From) = ((gd l i).From) := of_decide_eq_true (and_r (hg3782.symm.trans hc4684))
    exact id (op_sub (k := .i64) (a := (k : Int)) (b := 1) ((k : Int) - 1) (f143.trans (gt hc4684)) rfl (xi64 (by omega) (by omega)) (kN0 (i := 38) hM (by decide) (by exact jD) (by exact (gt hc4684).symm)))
   ·rintro D ρo wo nD eD cD jD aD ⟨f142, f144, f140, _⟩
    refine go_lz 140 rfl ((gB_t f140).trans hg3782.symm) ?_ (fun hc4688 => (kN0 (i := 39) hM (by decide) (by exact jD) (by exact fun h => absurd (show _ = true from h) (by rw [hc4688]; decide))))
    intro hc4688
    have c4689 : 0 < (k : Int) := of_decide_eq_true (and_l (hg3311.symm.trans (and_l (hg3782.symm.trans hc4688))))
    have c4690 : ¬ (((gd l i).From) < ((gd l (Int.toNat (gd (intsN ps) (k - 1)))).From)) := of_decide_eq_false (not_t (and_r (hg3311.symm.trans (and_l (hg3782.symm.trans hc4688)))))
    have c4691 : ((gd l (Int.toNat (gd (intsN ps) (k - 1)))).From) = ((gd l i).From) := of_decide_eq_true (and_r (hg3782.symm.trans hc4688))
    have hst := jD.2 
    refine id (op_indexAddrD (E := (intE .i64)) (xs := (intsN ps)) (k - 1) Try.underlying43 Try.sizeOf3 (f142.trans (gt hc4688)) (hst.sl 0 rfl) (f144.trans (gt hc4688)) (by omega) (by omega) (fun a4692 o4693 p4694 => ?_))
    exact (kN0 (i := 39) hM (by decide) (by exact jD) (by exact fun _ => ⟨_, _, rfl, p4694⟩))
   ·rintro D ρo wo nD eD cD jD aD ⟨f145, f140, _⟩
    refine go_lz 140 rfl ((gB_t f140).trans hg3782.symm) ?_ (fun hc4695 => (kN0 (i := 40) hM (by decide) (by exact jD) (by exact (gf hc4695).symm)))
    intro hc4695
    obtain ⟨a4696, o4697, e4698, p4699⟩ := f145 hc4695
    exact id (op_load1 (u := (iV (gd (intsN ps) (k - 1)))) Try.isAgg3 e4698 p4699 (kN0 (i := 40) hM (by decide) (by exact jD) (by exact (gt hc4695).symm)))
   ·rintro D ρo wo nD eD cD jD aD ⟨f141, f146, f140, _⟩
    refine go_lz 140 rfl ((gB_t f140).trans hg3782.symm) ?_ (fun hc4700 => (kN0 (i := 41) hM (by decide) (by exact jD) (by exact fun h => absurd (show _ = true from h) (by rw [hc4700]; decide))))
    intro hc4700
    have c4701 : 0 < (k : Int) := of_decide_eq_true (and_l (hg3311.symm.trans (and_l (hg3782.symm.trans hc4700))))
    have c4702 : ¬ (((gd l i).From) < ((gd l (Int.toNat (gd (intsN ps) (k - 1)))).From)) := of_decide_eq_false (not_t (and_r (hg3311.symm.trans (and_l (hg3782.symm.trans hc4700)))))
    have c4703 : ((gd l (Int.toNat (gd (intsN ps) (k - 1)))).From) = ((gd l i).From) := of_decide_eq_true (and_r (hg3782.symm.trans hc4700))
    refine id (op_indexAddrD (E := infoE) (xs := l) (Int.toNat (gd (intsN ps) (k - 1))) Try.underlying26 Try.sizeOf65 (f141.trans (gt hc4700)) h_l (f146.trans (gt hc4700)) (by omega) (by omega) (fun a4704 o4705 p4706 => ?_))
    exact (kN0 (i := 41) hM (by decide) (by exact jD) (by exact fun _ => ⟨_, _, rfl, p4706⟩))
   ·rintro D ρo wo nD eD cD jD aD ⟨f147, f140, _⟩
    refine go_lz 140 rfl ((gB_t f140).trans hg3782.symm) ?_ (fun hc4707 => (kN0 (i := 42) hM (by decide) (by exact jD) (by exact fun h => absurd (show _ = true from h) (by rw [hc4707]; decide))))
    intro hc4707
    obtain ⟨a4708, o4709, e4710, p4711⟩ := f147 hc4707
    exact id (op_fieldAddr (s := 0) Try.underlying65 rfl rfl Try.sizeOf2 e4710 (kN0 (i := 42) hM (by decide) (by exact jD) (by exact fun _ => ⟨_, _, rfl, (p4711.drop 3)⟩)))
   ·rintro D ρo wo nD eD cD jD aD ⟨f148, f140, _⟩
    refine go_lz 140 rfl ((gB_t f140).trans hg3782.symm) ?_ (fun hc4712 => (kN0 (i := 43) hM (by decide) (by exact jD) (by exact (gf hc4712).symm)))
    intro hc4712
    have hst := jD.2 
    obtain ⟨a4713, o4714, e4715, p4716⟩ := f148 hc4712
    exact id (op_load1 (u := (iV ((gd l (Int.toNat (gd (intsN ps) (k - 1)))).To))) Try.isAgg2 e4715 (p4716.below hst.below) (kN0 (i := 43) hM (by decide) (by exact jD) (by exact (gt hc4712).symm)))
   ·rintro D ρo wo nD eD cD jD aD ⟨f0, f140, _⟩
    refine go_lz 140 rfl ((gB_t f140).trans hg3782.symm) ?_ (fun hc4717 => (kN0 (i := 44) hM (by decide) (by exact jD) (by exact (gf hc4717).symm)))
    intro hc4717
    exact id (op_move v_l (f0.trans q3157_0) (kN0 (i := 44) hM (by decide) (by exact jD) (by exact (gt hc4717).symm)))
   ·rintro D ρo wo nD eD cD jD aD ⟨f4, f140, _⟩
    refine go_lz 140 rfl ((gB_t f140).trans hg3782.symm) ?_ (fun hc4718 => (kN0 (i := 45) hM (by decide) (by exact jD) (by exact (gf hc4718).symm)))
    intro hc4718
    exact id (op_move (iV (i : Int)) (f4.trans q3157_4) (kN0 (i := 45) hM (by decide) (by exact jD) (by exact (gt hc4718).symm)))
   ·rintro D ρo wo nD eD cD jD aD ⟨f150, f151, f140, _⟩
    refine go_lz 140 rfl ((gB_t f140).trans hg3782.symm) ?_ (fun hc4719 => (kN0 (i := 46) hM (by decide) (by exact jD) (by exact fun h => absurd (show _ = true from h) (by rw [hc4719]; decide))))
    intro hc4719
    have c4720 : 0 < (k : Int) := of_decide_eq_true (and_l (hg3311.symm.trans (and_l (hg3782.symm.trans hc4719))))
    have c4721 : ¬ (((gd l i).From) < ((gd l (Int.toNat (gd (intsN ps) (k - 1)))).From)) := of_decide_eq_false (not_t (and_r (hg3311.symm.trans (and_l (hg3782.symm.trans hc4719)))))
    have c4722 : ((gd l (Int.toNat (gd (intsN ps) (k - 1)))).From) = ((gd l i).From) := of_decide_eq_true (and_r (hg3782.symm.trans hc4719))
    refine id (op_indexAddrD (E := infoE) (xs := l) i Try.underlying26 Try.sizeOf65 (f150.trans (gt hc4719)) h_l (f151.trans (gt hc4719)) (by omega) (by omega) (fun a4723 o4724 p4725 => ?_))
    exact (kN0 (i := 46) hM (by decide) (by exact jD) (by exact fun _ => ⟨_, _, rfl, p4725⟩))
   ·rintro D ρo wo nD eD cD jD aD ⟨f152, f140, _⟩
    refine go_lz 140 rfl ((gB_t f140).trans hg3782.symm) ?_ (fun hc4726 => (kN0 (i := 47) hM (by decide) (by exact jD) (by exact fun h => absurd (show _ = true from h) (by rw [hc4726]; decide))))
    intro hc4726
    obtain ⟨a4727, o4728, e4729, p4730⟩ := f152 hc4726
    exact id (op_fieldAddr (s := 0) Try.underlying65 rfl rfl Try.sizeOf2 e4729 (kN0 (i := 47) hM (by decide) (by exact jD) (by exact fun _ => ⟨_, _, rfl, (p4730.drop 3)⟩)))
   ·rintro D ρo wo nD eD cD jD aD ⟨f153, f140, _⟩
    refine go_lz 140 rfl ((gB_t f140).trans hg3782.symm) ?_ (fun hc4731 => (kN0 (i := 48) hM (by decide) (by exact jD) (by exact (gf hc4731).symm)))
    intro hc4731
    have hst := jD.2 
    obtain ⟨a4732, o4733, e4734, p4735⟩ := f153 hc4731
    exact id (op_load1 (u := (iV ((gd l i).To))) Try.isAgg2 e4734 (p4735.below hst.below) (kN0 (i := 48) hM (by decide) (by exact jD) (by exact (gt hc4731).symm)))
   ·rintro D ρo wo nD eD cD jD aD ⟨f149, f154, f140, _⟩
    refine go_lz 140 rfl ((gB_t f140).trans hg3782.symm) ?_ (fun hc4736 => (kN0 (i := 49) hM (by decide) (by exact jD) (by exact (gf hc4736).symm)))
    intro hc4736
    exact id (op_gtr (k := .i64) (a := (gd l (Int.toNat (gd (intsN ps) (k - 1)))).To) (b := (gd l i).To) (f149.trans (gt hc4736)) (f154.trans (gt hc4736)) (kN0 (i := 49) hM (by decide) (by exact jD) (by exact (gt hc4736).symm)))
   ·rintro D ρo wo nD eD cD jD aD ⟨f140, f155, f124, _⟩
    refine go_lz 124 rfl ((gB_f f124).trans hg3311.symm) ?_ (fun hc4737 => (kN0 (i := 50) hM (by decide) (by exact jD) (by exact (gf hc4737).symm)))
    intro hc4737
    refine id (op_pick_and (f140.trans (gt hc4737)) f155 (fun hp => (hg3782.trans (and_i hc4737 hp))) rfl ?_)
    exact (kN0 (i := 50) hM (by decide) (by exact jD) (by exact ((congrArg Value.bool hg4553.symm).trans (gt hc4737).symm)))
   ·rintro D ρo wo nD eD cD jD aD ⟨f124, f156, f108, _⟩
    refine go_lz 108 rfl (gA_t f108) ?_ (fun hc4738 => (kN0 (i := 51) hM (by decide) (by exact jD) (by exact (gf hc4738).symm)))
    intro hc4738
    refine id (op_pick_or (f124.trans (gt hc4738)) rfl f156 (fun hp => (hg3311.trans (and_i hc4738 (congrArg (! ·) hp)))) ?_)
    exact (kN0 (i := 51) hM (by decide) (by exact jD) (by exact ((congrArg Value.bool hg4575.symm).trans (gt hc4738).symm)))
   ·rintro D ρo wo nD eD cD jD aD ⟨f108, f157, _⟩
    refine go_plain (op_pick_and f108 f157 (fun hp => hp) rfl ?_)
    exact (kN0 (i := 52) hM (by decide) (by exact jD) (by exact (congrArg Value.bool hg4577.symm)))
   intro ρ4739 w4740 Dw4740 hallw4740 hJw4740 hRw4740 hkw4740
   have hst : St w0 w4740 [rowT 3 (intE .i64) vo (intsN ps)] := hJw4740.2 
   have uw4740_0 := (hkw4740 0 rfl).trans q3157_0
   have uw4740_2 := (hkw4740 2 rfl).trans q3157_2
   have uw4740_3 := (hkw4740 3 rfl).trans q3157_3
   have uw4740_4 := (hkw4740 4 rfl).trans q3157_4
   have uw4740_5 := (hkw4740 5 rfl).trans q3157_5
   have uw4740_6 := (hkw4740 6 rfl).trans q3157_6
   have uw4740_7 := (hkw4740 7 rfl).trans q3157_7
   have uw4740_158 : ρ4739 158 = (.bool g4576) := hRw4740 52 158 rfl
   refine then_n ?_
   rcases Bool.eq_false_or_eq_true g4576 with b4741 | b4741
   ·have c4742 : 0 < (k : Int) := of_decide_eq_true (and_l (hg4577.symm.trans b4741))
    have c4743 : (((gd l i).From) < ((gd l (Int.toNat (gd (intsN ps) (k - 1)))).From)) ∨ ((((gd l (Int.toNat (gd (intsN ps) (k - 1)))).From) = ((gd l i).From)) ∧ (((gd l i).To) < ((gd l (Int.toNat (gd (intsN ps) (k - 1)))).To))) := (pi_or pi_dec (pi_name hg4553 (pi_and pi_dec pi_dec))).1 (hg4575.symm.trans (and_r (hg4577.symm.trans b4741)))
    refine cE_cond true (uw4740_158.trans (congrArg Value.bool b4741)) (fun _ => ?_) (fun h => by cases h)
    refine cE_skip (then_n (cE_block (cE_region rfl (s_cons (op_move (iV (k : Int)) uw4740_7 (s_cons (op_sub (k := .i64) (a := (k : Int)) (b := 1) ((k : Int) - 1) rfl rfl (xi64 (by omega) (by omega)) (s_cons (op_assign (iV ((k : Int) - 1)) rfl (s_nil (block_n (then_n ?_))))))))))))
    exact ⟨_, ⟨(k - 1), rfl, uw4740_0, uw4740_2, uw4740_3, uw4740_4, uw4740_5, uw4740_6, (congrArg iV (show ((k : Int) - 1) = _ from by omega)), hst, (by omega), (by exact hS.trans (seatN_go (by omega) (by omega) (by omega)))⟩, (by simp only [id]; omega)⟩
   have c4744 : ¬ ((0 < (k : Int)) ∧ ((((gd l i).From) < ((gd l (Int.toNat (gd (intsN ps) (k - 1)))).From)) ∨ ((((gd l (Int.toNat (gd (intsN ps) (k - 1)))).From) = ((gd l i).From)) ∧ (((gd l i).To) < ((gd l (Int.toNat (gd (intsN ps) (k - 1)))).To))))) := pi_f (pi_and pi_dec (pi_name hg4575 (pi_or pi_dec (pi_name hg4553 (pi_and pi_dec pi_dec))))) (hg4577.symm.trans b4741)
   refine cE_cond false (uw4740_158.trans (congrArg Value.bool b4741)) (fun h => by cases h) (fun _ => ?_)
   refine cE_exit (then_x (then_x (block_hit (then_n (cE_seq (cE_region rfl (s_cons (op_buildSlice (E := (intE .i64)) [] hst Try.underlying43 Try.sizeOf3 Try.zeroValue3 evp_nil parts_nil rfl (by decide) (fun v4745 w4746 hst => ?_)))))))))
   refine s_cons (op_move vo uw4740_3 (s_cons (op_move (iV (k : Int)) uw4740_7 (s_cons (op_slice_toN k (E := (intE .i64)) (xs := (intsN ps)) Try.underlying43 Try.sizeOf3 rfl (hst.sl 1 rfl) rfl (by omega) (by omega) (fun v4747 hs4748 => ?_))))))
   refine s_cons (op_append (E := (intE .i64)) (xs := []) (ys := ((intsN ps).take k)) (z := (iV 0)) (bytes := 8) hst 0 rfl Try.underlying43 (by kernel_rfl) rfl rfl rfl hs4748 (by (simp; omega)) (by (simp; omega)) (fun v4749 w4750 hst => ?_))
   refine s_cons (op_assign v4749 rfl (s_nil (then_n (cE_regionM (fun (D : Nat → Bool) (w : World) => St w0 w [rowT 3 (intE .i64) vo (intsN ps)] ∧ (D 3 = false → St w0 w [rowT 3 (intE .i64) v4749 ((intsN ps).take k), rowT 3 (intE .i64) vo (intsN ps)])) [[(8, none)], [(4, none)], [(167, some 1)], [(166, some 0), (168, some 2)], [(3, none)], [(7, none)], [(170, some 4), (171, some 5)], [(169, some 3), (172, some 6)], [(173, some 7)]] [3, 7] [(kEq v4749), (kEq (iV (i : Int))), (kSlU [3, 7] (intE .i64) ([(i : Int)])), (fun (D : Nat → Bool) (v4753 : Value) (w : World) => (D 3 = true → D 7 = false → St w0 w [rowT 3 (intE .i64) v4753 (((intsN ps).take k) ++ ([(i : Int)])), rowT 3 (intE .i64) vo (intsN ps)])), (kEq vo), (kEq (iV (k : Int))), (kSlF (intE .i64) vo (intsN ps) ((intsN ps).drop k)), (fun (D : Nat → Bool) (v4757 : Value) (w : World) => (D 7 = true → St w0 w [rowT 3 (intE .i64) v4757 (intsN (insN ps k i)), rowT 3 (intE .i64) vo (intsN ps)])), (fun (D : Nat → Bool) (v4757 : Value) (w : World) => (D 7 = true → St w0 w [rowT 3 (intE .i64) v4757 (intsN (insN ps k i)), rowT 3 (intE .i64) vo (intsN ps)]))] ⟨mEq, mEq, (mSlUs (by decide)), (fun D D' v w w' hD hb h2 => (fun x0 x1 => (h2 ((hD 3 (by decide)).symm.trans x0) ((hD 7 (by decide)).symm.trans x1)).ext hb)), mEq, mEq, mSlF, (fun D D' v w w' hD hb h2 => (fun x0 => (h2 ((hD 7 (by decide)).symm.trans x0)).ext hb)), (fun D D' v w w' hD hb h2 => (fun x0 => (h2 ((hD 7 (by decide)).symm.trans x0)).ext hb)), trivial⟩ (by kernel_rfl) rfl (by kernel_rfl) ⟨hst.drewW.sub (.cons _ (.cons_cons _ .slnil)), (fun _ => hst.drewW)⟩ (fun hM => ⟨?_, ?_, ?_, ?_, ?_, ?_, ?_, ?_, ?_, trivial⟩) ?_))))
   ·rintro D ρo wo nD eD cD jD aD ⟨f8, _⟩
    exact go_plain (op_move v4749 (f8.trans rfl) (kN0 (i := 0) hM (by decide) (by exact jD) (by exact rfl)))
   ·rintro D ρo wo nD eD cD jD aD ⟨f4, _⟩
    exact go_plain (op_move (iV (i : Int)) (f4.trans uw4740_4) (kN0 (i := 1) hM (by decide) (by exact jD) (by exact rfl)))
   ·rintro D ρo wo nD eD cD jD aD ⟨f167, _⟩
    have hst := jD.2 (not_yet nD (fun hm => (cD 3 2 hm (by kernel_rfl))))
    have hst := St.start wo
    refine go_plain (op_buildSlice (E := (intE .i64)) [(i : Int)] hst Try.underlying43 Try.sizeOf3 Try.zeroValue3 (evp_cons (v := (iV (i : Int))) f167 evp_nil) (parts_cons rfl parts_nil) rfl (by decide) (fun v4760 w4761 hst => ?_))
    exact kN (i := 2) hM (by decide) hst.below (by exact ⟨(jD.1).ext hst.below, (fun x0 => (jD.2 x0).ext hst.below)⟩) (by exact fun _ => hst.sl 0 rfl)
   ·rintro D ρo wo nD eD cD jD aD ⟨f166, f168, _⟩
    have hst := jD.2 nD
    obtain ⟨v4763, e4764⟩ : ∃ x, ρo 168 = x := ⟨_, rfl⟩
    have hs4762 := f168 (by intro m hm; simp only [List.mem_cons, List.not_mem_nil, or_false] at hm; rcases hm with rfl | rfl; exact nD; exact (not_yet nD (fun hm => (cD 7 3 hm (by kernel_rfl)))))
    replace hs4762 : Sl wo (intE .i64) v4763 ([(i : Int)]) := e4764 ▸ hs4762
    refine go_plain (op_append (E := (intE .i64)) (xs := ((intsN ps).take k)) (ys := [(i : Int)]) (z := (iV 0)) (bytes := 8) hst 0 rfl Try.underlying43 (by kernel_rfl) rfl f166 e4764 hs4762 (by (simp; omega)) (by (simp; omega)) (fun v4765 w4766 hst => ?_))
    refine ⟨by exact ⟨hst.sub (.cons _ (.cons_cons _ .slnil)), (fun y0 => absurd y0 (fun h => Bool.noConfusion h))⟩, by exact (fun y0 y1 => hst.sub (.cons_cons _ (.cons_cons _ .slnil))), kX [] (by exact ⟨Or.inr (Or.inr (Or.inr iEq)), Or.inr (Or.inr (Or.inr iEq)), Or.inr (Or.inr (Or.inr (iSlU (by decide)))), Or.inl rfl, Or.inr (Or.inr (Or.inr iEq)), Or.inr (Or.inr (Or.inr iEq)), Or.inr (Or.inr (Or.inr iSlF)), Or.inr (Or.inr (Or.inl (not_yet nD (fun hm => (cD 7 3 hm (by kernel_rfl)))))), Or.inr (Or.inr (Or.inl (not_yet nD (fun hm => (cD 8 3 hm (by kernel_rfl)))))), trivial⟩) ?_⟩
    intro j d hj; cases hj
   ·rintro D ρo wo nD eD cD jD aD ⟨f3, _⟩
    exact go_plain (op_move vo (f3.trans uw4740_3) (kN0 (i := 4) hM (by decide) (by exact jD) (by exact rfl)))
   ·rintro D ρo wo nD eD cD jD aD ⟨f7, _⟩
    exact go_plain (op_move (iV (k : Int)) (f7.trans uw4740_7) (kN0 (i := 5) hM (by decide) (by exact jD) (by exact rfl)))
   ·rintro D ρo wo nD eD cD jD aD ⟨f170, f171, _⟩
    have hst := jD.1
    refine go_plain (op_slice_fromF k (E := (intE .i64)) (xs := (intsN ps)) Try.underlying43 Try.sizeOf3 f170 (hst.sl 0 rfl) f171 (by omega) (by omega) (fun v4768 hs4769 => ?_))
    exact (kN0 (i := 6) hM (by decide) (by exact jD) (by exact hs4769))
   ·rintro D ρo wo nD eD cD jD aD ⟨f169, f172, _⟩
    obtain ⟨v4770, e4771⟩ : ∃ x, ρo 169 = x := ⟨_, rfl⟩
    have hh4772 := aD 3 169 (eD 3 (by kernel_rfl)) rfl
    have hst : St w0 wo [rowT 3 (intE .i64) v4770 (((intsN ps).take k) ++ ([(i : Int)])), rowT 3 (intE .i64) vo (intsN ps)] := by have h := hh4772 (eD 3 (by kernel_rfl)) nD; rw [e4771] at h; exact h
    obtain ⟨v4774, e4775⟩ : ∃ x, ρo 172 = x := ⟨_, rfl⟩
    have hs4773 : Sl wo (intE .i64) v4774 ((intsN ps).drop k) := e4775 ▸ f172 _ (hst.sl 1 rfl)
    refine go_plain (op_append (E := (intE .i64)) (xs := (((intsN ps).take k) ++ ([(i : Int)]))) (ys := ((intsN ps).drop k)) (z := (iV 0)) (bytes := 8) hst 0 rfl Try.underlying43 (by kernel_rfl) rfl e4771 e4775 hs4773 (by (simp; omega)) (by (simp; omega)) (fun v4776 w4777 hst => ?_))
    replace hst : St w0 w4777 [rowT 3 (intE .i64) v4776 (intsN (insN ps k i)), rowT 3 (intE .i64) vo (intsN ps)] := by rw [show ((((intsN ps).take k) ++ ([(i : Int)])) ++ ((intsN ps).drop k)) = (intsN (insN ps k i)) from (intsN_ins ps k i)] at hst; exact hst
    refine ⟨by exact ⟨hst.sub (.cons _ (.cons_cons _ .slnil)), (fun y0 => absurd (show D 3 = false from y0) (by rw [(eD 3 (by kernel_rfl))]; decide))⟩, by exact (fun y0 => hst.sub (.cons_cons _ (.cons_cons _ .slnil))), kX [3] (by exact ⟨Or.inr (Or.inr (Or.inr iEq)), Or.inr (Or.inr (Or.inr iEq)), Or.inr (Or.inr (Or.inr (iSlU (by decide)))), Or.inr (Or.inl (by decide)), Or.inr (Or.inr (Or.inr iEq)), Or.inr (Or.inr (Or.inr iEq)), Or.inr (Or.inr (Or.inr iSlF)), Or.inl rfl, Or.inr (Or.inr (Or.inl (not_yet nD (fun hm => (cD 8 7 hm (by kernel_rfl)))))), trivial⟩) ?_⟩
    intro j d hj hjd hDj h
    simp only [List.mem_cons, List.not_mem_nil, or_false] at hj
    subst hj
    obtain rfl : 169 = d := Option.some.inj hjd
    exact (by rw [e4771]; exact (fun y0 y1 => absurd y1 (fun h => Bool.noConfusion h)))
   ·rintro D ρo wo nD eD cD jD aD ⟨f173, _⟩
    obtain ⟨v4779, e4780⟩ : ∃ x, ρo 173 = x := ⟨_, rfl⟩
    have hh4781 := aD 7 173 (eD 7 (by kernel_rfl)) rfl
    have hst : St w0 wo [rowT 3 (intE .i64) v4779 (intsN (insN ps k i)), rowT 3 (intE .i64) vo (intsN ps)] := by have h := hh4781 (eD 7 (by kernel_rfl)); rw [e4780] at h; exact h
    exact go_plain (op_assign _ rfl (kN0 (i := 8) hM (by decide) (by exact jD) (by exact f173)))
   intro ρ4782 w4783 Dw4783 hallw4783 hJw4783 hRw4783 hkw4783
   obtain ⟨v4784, uw4783_3⟩ : ∃ x, ρ4782 3 = x := ⟨_, rfl⟩
   have hst : St w0 w4783 [rowT 3 (intE .i64) v4784 (intsN (insN ps k i)), rowT 3 (intE .i64) vo (intsN ps)] := by have h := hRw4783 8 3 rfl; rw [uw4783_3] at h; exact (h (hallw4783 7 (show 7 < 9 from by decide)))
   have uw4783_0 := (hkw4783 0 rfl).trans uw4740_0
   have uw4783_2 := (hkw4783 2 rfl).trans uw4740_2
   have uw4783_4 := (hkw4783 4 rfl).trans uw4740_4
   refine block_n (then_n ?_)
   have hbe : True := trivial
   refine cE_region rfl (s_cons (op_move (iV (i : Int)) uw4783_4 (s_cons (op_add (k := .i64) (a := (i : Int)) (b := 1) ((i : Int) + 1) rfl rfl (xi64 (by omega) (by omega)) (s_cons (op_assign (iV ((i : Int) + 1)) rfl (s_nil (then_n ?_))))))))
   exact ⟨_, ⟨v4784, (insN ps k i), (i + 1), rfl, uw4783_0, uw4783_2, uw4783_3, (congrArg iV (show ((i : Int) + 1) = _ from by omega)), (hst.sub (.cons_cons _ (.cons _ .slnil))), (by omega), (by exact outN_take hI (by assumption) (hS.trans (seatN_no hk (by omega))))⟩, (by simp only [id]; omega)⟩
  have hbf : bestTo l i l.length = false := by rw [show l.length = n by omega]; exact b3156
  refine cE_cond true (congrArg Value.bool (congrArg (! ·) b3156)) (fun _ => ?_) (fun h => by cases h)
  refine cE_exit (then_x (block_hit (then_n ?_)))
  have hbe : True := trivial
  refine cE_region rfl (s_cons (op_move (iV (i : Int)) q7_4 (s_cons (op_add (k := .i64) (a := (i : Int)) (b := 1) ((i : Int) + 1) rfl rfl (xi64 (by omega) (by omega)) (s_cons (op_assign (iV ((i : Int) + 1)) rfl (s_nil (then_n ?_))))))))
  exact ⟨_, ⟨vo, ps, (i + 1), rfl, q7_0, q7_2, q7_3, (congrArg iV (show ((i : Int) + 1) = _ from by omega)), hst, (by omega), (by exact outN_skip hI (by assumption))⟩, (by simp only [id]; omega)⟩
 have c4785 := of_decide_eq_false b5
 refine cE_cond false (congrArg Value.bool b5) (fun h => by cases h) (fun _ => ?_)
 refine cE_exit (then_x (then_x (block_hit (then_n (cE_seq (cE_region rfl (s_cons (op_move vo q1_3 (s_cons (op_assign vo rfl (s_nil (then_n (cE_ret (post_r _ (res1 (v := vo) rfl) ?_))))))))))))))
 exact ⟨vo, (intsN ps), rfl, hst.sub (.cons_cons _ .slnil), (pickR_of (by omega) hI)⟩

end Go.Proofs.Ythanfecefjfbjaa
