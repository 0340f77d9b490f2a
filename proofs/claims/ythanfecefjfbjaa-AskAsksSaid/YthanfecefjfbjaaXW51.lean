/- twinkeeplaw22.wins -/
import Derived.Test.YthanfecefjfbjaaXTW
import Derived.Test.YthanfecefjfbjaaXLA
namespace Go.Proofs.Ythanfecefjfbjaa
open Go.RowKit

set_option maxRecDepth 8000 in
set_option maxHeartbeats 8000000 in
theorem c_wins (w0 : World) (v_a : Value) (a : List Win) (h_a : Sl w0 winE v_a a) (v_b : Value) (b : List Win) (h_b : Sl w0 winE v_b b) :
  Calls Try.prog 16 #[v_a, v_b] w0 fun e w' => e = .returned (.bool (decide (a = b))) ∧ St w0 w' [] := by
 refine calls_E (n := 67) (ts := [4]) Try.func16 rfl rfl rfl (by simp) ?_
 have hst := St.start w0
 refine cE_seq (cE_region rfl (s_cons (op_assign (.bool false) rfl (s_nil (then_n (cE_seq (cE_seq (cE_region rfl (s_cons (op_move v_a rfl (s_cons (op_len (E := winE) (xs := a) Try.underlying29 rfl h_a (s_cons (op_move v_b rfl (s_cons (op_len (E := winE) (xs := b) Try.underlying33 rfl h_b (s_cons (op_neq (k := .i64) (a := (a.length : Int)) (b := (b.length : Int)) rfl rfl (s_nil ?_)))))))))))))))))))
 refine then_n ?_
 rcases Bool.eq_false_or_eq_true (decide ((a.length : Int) = (b.length : Int))) with b1 | b1
 ·have c2 := of_decide_eq_true b1
  refine cE_cond false (congrArg Value.bool (congrArg (! ·) b1)) (fun h => by cases h) (fun _ => ?_)
  refine cE_skip (then_n (cE_seq (cE_seq (cE_region rfl (s_cons (op_assign (iV 0) rfl (s_nil (then_n (cE_block (cE_loop (fun (m : Nat) (ρ : Env) (w : World) => ∃ (i : Nat), m = a.length - i ∧ ρ 0 = v_a ∧ ρ 1 = v_b ∧ ρ 5 = (iV (i : Int)) ∧ St w0 w [] ∧ (i ≤ a.length) ∧ (a.take i = b.take i)) id _ ⟨0, rfl, rfl, rfl, (congrArg iV (show 0 = _ from by omega)), hst, (by omega), (by rfl)⟩ ?_))))))))))
  rintro m4 ρ5 w6 ⟨i, hm4, q3_0, q3_1, q3_5, hst, hi, he⟩
  have hlen := h_a.len
  refine cE_seq (cE_seq (cE_region rfl (s_cons (op_move (iV (i : Int)) q3_5 (s_cons (op_move v_a q3_0 (s_cons (op_len (E := winE) (xs := a) Try.underlying29 rfl h_a (s_cons (op_lss (k := .i64) (a := (i : Int)) (b := (a.length : Int)) rfl rfl (s_nil (then_n ?_))))))))))))
  rcases Bool.eq_false_or_eq_true (decide ((i : Int) < (a.length : Int))) with b7 | b7
  ·have c8 := of_decide_eq_true b7
   refine cE_cond true (congrArg Value.bool b7) (fun _ => ?_) (fun h => by cases h)
   refine cE_skip (then_n (cE_seq (cE_block (cE_seq ?_))))
   obtain ⟨g15, hg16⟩ : ∃ x : Bool, x = !(!decide (((gd a i).Tier) = ((gd b i).Tier))) := ⟨_, rfl⟩
   obtain ⟨g103, hg104⟩ : ∃ x : Bool, x = ((!decide (((gd a i).Tier) = ((gd b i).Tier))) || (!decide (((gd a i).Lo) = ((gd b i).Lo)))) := ⟨_, rfl⟩
   obtain ⟨g367, hg368⟩ : ∃ x : Bool, x = (g103 || (!decide (((gd a i).Hi) = ((gd b i).Hi)))) := ⟨_, rfl⟩
   obtain ⟨g807, hg808⟩ : ∃ x : Bool, x = (g367 || (!decide (((gd a i).Agg) = ((gd b i).Agg)))) := ⟨_, rfl⟩
   refine cE_regionM (fun (D : Nat → Bool) (w : World) => St w0 w [] ∧ (St w0 w [])) [[(0, none)], [(5, none)], [(17, some 0), (18, some 1)], [(19, some 2)], [(20, some 3)], [(1, none)], [(5, none)], [(22, some 5), (23, some 6)], [(24, some 7)], [(25, some 8)], [(21, some 4), (26, some 9)], [(27, some 10)], [(0, none), (28, some 11)], [(5, none), (28, some 11)], [(29, some 12), (30, some 13), (28, some 11)], [(31, some 14), (28, some 11)], [(32, some 15), (28, some 11)], [(1, none), (28, some 11)], [(5, none), (28, some 11)], [(34, some 17), (35, some 18), (28, some 11)], [(36, some 19), (28, some 11)], [(37, some 20), (28, some 11)], [(33, some 16), (38, some 21), (28, some 11)], [(28, some 11), (39, some 22)], [(40, some 23)], [(0, none), (41, some 24)], [(5, none), (41, some 24)], [(42, some 25), (43, some 26), (41, some 24)], [(44, some 27), (41, some 24)], [(45, some 28), (41, some 24)], [(1, none), (41, some 24)], [(5, none), (41, some 24)], [(47, some 30), (48, some 31), (41, some 24)], [(49, some 32), (41, some 24)], [(50, some 33), (41, some 24)], [(46, some 29), (51, some 34), (41, some 24)], [(41, some 24), (52, some 35)], [(53, some 36)], [(0, none), (54, some 37)], [(5, none), (54, some 37)], [(55, some 38), (56, some 39), (54, some 37)], [(57, some 40), (54, some 37)], [(58, some 41), (54, some 37)], [(1, none), (54, some 37)], [(5, none), (54, some 37)], [(60, some 43), (61, some 44), (54, some 37)], [(62, some 45), (54, some 37)], [(63, some 46), (54, some 37)], [(59, some 42), (64, some 47), (54, some 37)], [(54, some 37), (65, some 48)]] [] [(kEq v_a), (kEq (iV (i : Int))), (kPt0 w0 [(iV ((gd a i).Tier)), (iV ((gd a i).Lo)), (iV ((gd a i).Hi)), (iV (((gd a i).Agg).From)), (iV (((gd a i).Agg).Count)), (iV (((gd a i).Agg).Sum)), (iV (((gd a i).Agg).Min)), (iV (((gd a i).Agg).Max)), (iV (((gd a i).Agg).First)), (iV (((gd a i).Agg).Last))]), (kPt0 w0 [(iV ((gd a i).Tier)), (iV ((gd a i).Lo)), (iV ((gd a i).Hi)), (iV (((gd a i).Agg).From)), (iV (((gd a i).Agg).Count)), (iV (((gd a i).Agg).Sum)), (iV (((gd a i).Agg).Min)), (iV (((gd a i).Agg).Max)), (iV (((gd a i).Agg).First)), (iV (((gd a i).Agg).Last))]), (kEq (iV ((gd a i).Tier))), (kEq v_b), (kEq (iV (i : Int))), (kPt0 w0 [(iV ((gd b i).Tier)), (iV ((gd b i).Lo)), (iV ((gd b i).Hi)), (iV (((gd b i).Agg).From)), (iV (((gd b i).Agg).Count)), (iV (((gd b i).Agg).Sum)), (iV (((gd b i).Agg).Min)), (iV (((gd b i).Agg).Max)), (iV (((gd b i).Agg).First)), (iV (((gd b i).Agg).Last))]), (kPt0 w0 [(iV ((gd b i).Tier)), (iV ((gd b i).Lo)), (iV ((gd b i).Hi)), (iV (((gd b i).Agg).From)), (iV (((gd b i).Agg).Count)), (iV (((gd b i).Agg).Sum)), (iV (((gd b i).Agg).Min)), (iV (((gd b i).Agg).Max)), (iV (((gd b i).Agg).First)), (iV (((gd b i).Agg).Last))]), (kEq (iV ((gd b i).Tier))), (kEq (.bool (!decide (((gd a i).Tier) = ((gd b i).Tier))))), (kEq (.bool (!decide (((gd a i).Tier) = ((gd b i).Tier))))), (kEq (bif g15 then v_a else undef)), (kEq (bif g15 then (iV (i : Int)) else undef)), (kPtc w0 g15 [(iV ((gd a i).Tier)), (iV ((gd a i).Lo)), (iV ((gd a i).Hi)), (iV (((gd a i).Agg).From)), (iV (((gd a i).Agg).Count)), (iV (((gd a i).Agg).Sum)), (iV (((gd a i).Agg).Min)), (iV (((gd a i).Agg).Max)), (iV (((gd a i).Agg).First)), (iV (((gd a i).Agg).Last))]), (kPtc w0 g15 [(iV ((gd a i).Lo)), (iV ((gd a i).Hi)), (iV (((gd a i).Agg).From)), (iV (((gd a i).Agg).Count)), (iV (((gd a i).Agg).Sum)), (iV (((gd a i).Agg).Min)), (iV (((gd a i).Agg).Max)), (iV (((gd a i).Agg).First)), (iV (((gd a i).Agg).Last))]), (kEq (bif g15 then (iV ((gd a i).Lo)) else undef)), (kEq (bif g15 then v_b else undef)), (kEq (bif g15 then (iV (i : Int)) else undef)), (kPtc w0 g15 [(iV ((gd b i).Tier)), (iV ((gd b i).Lo)), (iV ((gd b i).Hi)), (iV (((gd b i).Agg).From)), (iV (((gd b i).Agg).Count)), (iV (((gd b i).Agg).Sum)), (iV (((gd b i).Agg).Min)), (iV (((gd b i).Agg).Max)), (iV (((gd b i).Agg).First)), (iV (((gd b i).Agg).Last))]), (kPtc w0 g15 [(iV ((gd b i).Lo)), (iV ((gd b i).Hi)), (iV (((gd b i).Agg).From)), (iV (((gd b i).Agg).Count)), (iV (((gd b i).Agg).Sum)), (iV (((gd b i).Agg).Min)), (iV (((gd b i).Agg).Max)), (iV (((gd b i).Agg).First)), (iV (((gd b i).Agg).Last))]), (kEq (bif g15 then (iV ((gd b i).Lo)) else undef)), (kEq (bif g15 then (.bool (!decide (((gd a i).Lo) = ((gd b i).Lo)))) else undef)), (kEq (.bool g103)), (kEq (.bool g103)), (kEq (bif (!g103) then v_a else undef)), (kEq (bif (!g103) then (iV (i : Int)) else undef)), (kPtc w0 (!g103) [(iV ((gd a i).Tier)), (iV ((gd a i).Lo)), (iV ((gd a i).Hi)), (iV (((gd a i).Agg).From)), (iV (((gd a i).Agg).Count)), (iV (((gd a i).Agg).Sum)), (iV (((gd a i).Agg).Min)), (iV (((gd a i).Agg).Max)), (iV (((gd a i).Agg).First)), (iV (((gd a i).Agg).Last))]), (kPtc w0 (!g103) [(iV ((gd a i).Hi)), (iV (((gd a i).Agg).From)), (iV (((gd a i).Agg).Count)), (iV (((gd a i).Agg).Sum)), (iV (((gd a i).Agg).Min)), (iV (((gd a i).Agg).Max)), (iV (((gd a i).Agg).First)), (iV (((gd a i).Agg).Last))]), (kEq (bif (!g103) then (iV ((gd a i).Hi)) else undef)), (kEq (bif (!g103) then v_b else undef)), (kEq (bif (!g103) then (iV (i : Int)) else undef)), (kPtc w0 (!g103) [(iV ((gd b i).Tier)), (iV ((gd b i).Lo)), (iV ((gd b i).Hi)), (iV (((gd b i).Agg).From)), (iV (((gd b i).Agg).Count)), (iV (((gd b i).Agg).Sum)), (iV (((gd b i).Agg).Min)), (iV (((gd b i).Agg).Max)), (iV (((gd b i).Agg).First)), (iV (((gd b i).Agg).Last))]), (kPtc w0 (!g103) [(iV ((gd b i).Hi)), (iV (((gd b i).Agg).From)), (iV (((gd b i).Agg).Count)), (iV (((gd b i).Agg).Sum)), (iV (((gd b i).Agg).Min)), (iV (((gd b i).Agg).Max)), (iV (((gd b i).Agg).First)), (iV (((gd b i).Agg).Last))]), (kEq (bif (!g103) then (iV ((gd b i).Hi)) else undef)), (kEq (bif (!g103) then (.bool (!decide (((gd a i).Hi) = ((gd b i).Hi)))) else undef)), (kEq (.bool g367)), (kEq (.bool g367)), (kEq (bif (!g367) then v_a else undef)), (kEq (bif (!g367) then (iV (i : Int)) else undef)), (kPtc w0 (!g367) [(iV ((gd a i).Tier)), (iV ((gd a i).Lo)), (iV ((gd a i).Hi)), (iV (((gd a i).Agg).From)), (iV (((gd a i).Agg).Count)), (iV (((gd a i).Agg).Sum)), (iV (((gd a i).Agg).Min)), (iV (((gd a i).Agg).Max)), (iV (((gd a i).Agg).First)), (iV (((gd a i).Agg).Last))]), (kPtc w0 (!g367) (aggC ((gd a i).Agg))), (kEq (bif (!g367) then (.agg (aggA ((gd a i).Agg))) else undef)), (kEq (bif (!g367) then v_b else undef)), (kEq (bif (!g367) then (iV (i : Int)) else undef)), (kPtc w0 (!g367) [(iV ((gd b i).Tier)), (iV ((gd b i).Lo)), (iV ((gd b i).Hi)), (iV (((gd b i).Agg).From)), (iV (((gd b i).Agg).Count)), (iV (((gd b i).Agg).Sum)), (iV (((gd b i).Agg).Min)), (iV (((gd b i).Agg).Max)), (iV (((gd b i).Agg).First)), (iV (((gd b i).Agg).Last))]), (kPtc w0 (!g367) (aggC ((gd b i).Agg))), (kEq (bif (!g367) then (.agg (aggA ((gd b i).Agg))) else undef)), (kEq (bif (!g367) then (.bool (!decide (((gd a i).Agg) = ((gd b i).Agg)))) else undef)), (kEq (.bool g807))] ⟨mEq, mEq, mPt0, mPt0, mEq, mEq, mEq, mPt0, mPt0, mEq, mEq, mEq, mEq, mEq, mPtc, mPtc, mEq, mEq, mEq, mPtc, mPtc, mEq, mEq, mEq, mEq, mEq, mEq, mPtc, mPtc, mEq, mEq, mEq, mPtc, mPtc, mEq, mEq, mEq, mEq, mEq, mEq, mPtc, mPtc, mEq, mEq, mEq, mPtc, mPtc, mEq, mEq, mEq, trivial⟩ (by kernel_rfl) rfl (by kernel_rfl) ⟨hst.drewW.sub .slnil, hst.drewW⟩ (fun hM => ⟨?_, ?_, ?_, ?_, ?_, ?_, ?_, ?_, ?_, ?_, ?_, ?_, ?_, ?_, ?_, ?_, ?_, ?_, ?_, ?_, ?_, ?_, ?_, ?_, ?_, ?_, ?_, ?_, ?_, ?_, ?_, ?_, ?_, ?_, ?_, ?_, ?_, ?_, ?_, ?_, ?_, ?_, ?_, ?_, ?_, ?_, ?_, ?_, ?_, ?_, trivial⟩) ?_
   ·rintro D ρo wo nD eD cD jD aD ⟨f0, _⟩
    exact go_plain (op_move v_a (f0.trans q3_0) (kN0 (i := 0) hM (by decide) (by exact jD) (by exact rfl)))
   ·rintro D ρo wo nD eD cD jD aD ⟨f5, _⟩
    exact go_plain (op_move (iV (i : Int)) (f5.trans q3_5) (kN0 (i := 1) hM (by decide) (by exact jD) (by exact rfl)))
   ·rintro D ρo wo nD eD cD jD aD ⟨f17, f18, _⟩
    refine go_plain (op_indexAddrD (E := winE) (xs := a) i Try.underlying29 Try.sizeOf56 f17 h_a f18 (by omega) (by omega) (fun a810 o811 p812 => ?_))
    exact (kN0 (i := 2) hM (by decide) (by exact jD) (by exact ⟨_, _, rfl, p812⟩))
   ·rintro D ρo wo nD eD cD jD aD ⟨f19, _⟩
    obtain ⟨a813, o814, e815, p816⟩ := f19
    exact go_plain (op_fieldAddr (s := 0) Try.underlying56 rfl rfl Try.sizeOf3 e815 (kN0 (i := 3) hM (by decide) (by exact jD) (by exact ⟨_, _, rfl, p816⟩)))
   ·rintro D ρo wo nD eD cD jD aD ⟨f20, _⟩
    have hst := jD.2 
    obtain ⟨a817, o818, e819, p820⟩ := f20
    exact go_plain (op_load1 (u := (iV ((gd a i).Tier))) Try.isAgg3 e819 (p820.below hst.below) (kN0 (i := 4) hM (by decide) (by exact jD) (by exact rfl)))
   ·rintro D ρo wo nD eD cD jD aD ⟨f1, _⟩
    exact go_plain (op_move v_b (f1.trans q3_1) (kN0 (i := 5) hM (by decide) (by exact jD) (by exact rfl)))
   ·rintro D ρo wo nD eD cD jD aD ⟨f5, _⟩
    exact go_plain (op_move (iV (i : Int)) (f5.trans q3_5) (kN0 (i := 6) hM (by decide) (by exact jD) (by exact rfl)))
   ·rintro D ρo wo nD eD cD jD aD ⟨f22, f23, _⟩
    refine go_plain (op_indexAddrD (E := winE) (xs := b) i Try.underlying33 Try.sizeOf73 f22 h_b f23 (by omega) (by omega) (fun a821 o822 p823 => ?_))
    exact (kN0 (i := 7) hM (by decide) (by exact jD) (by exact ⟨_, _, rfl, p823⟩))
   ·rintro D ρo wo nD eD cD jD aD ⟨f24, _⟩
    obtain ⟨a824, o825, e826, p827⟩ := f24
    exact go_plain (op_fieldAddr (s := 0) Try.underlying73 rfl rfl Try.sizeOf3 e826 (kN0 (i := 8) hM (by decide) (by exact jD) (by exact ⟨_, _, rfl, p827⟩)))
   ·rintro D ρo wo nD eD cD jD aD ⟨f25, _⟩
    have hst := jD.2 
    obtain ⟨a828, o829, e830, p831⟩ := f25
    exact go_plain (op_load1 (u := (iV ((gd b i).Tier))) Try.isAgg3 e830 (p831.below hst.below) (kN0 (i := 9) hM (by decide) (by exact jD) (by exact rfl)))
   ·rintro D ρo wo nD eD cD jD aD ⟨f21, f26, _⟩
    exact go_plain (op_neq (k := .i64) (a := (gd a i).Tier) (b := (gd b i).Tier) f21 f26 (kN0 (i := 10) hM (by decide) (by exact jD) (by exact rfl)))
   ·rintro D ρo wo nD eD cD jD aD ⟨f27, _⟩
    exact go_plain (op_move (.bool (!decide (((gd a i).Tier) = ((gd b i).Tier)))) f27 (kN0 (i := 11) hM (by decide) (by exact jD) (by exact rfl)))
   ·rintro D ρo wo nD eD cD jD aD ⟨f0, f28, _⟩
    refine go_lz 28 rfl ((gA_f f28).trans hg16.symm) ?_ (fun hc832 => (kN0 (i := 12) hM (by decide) (by exact jD) (by exact (gf hc832).symm)))
    intro hc832
    exact id (op_move v_a (f0.trans q3_0) (kN0 (i := 12) hM (by decide) (by exact jD) (by exact (gt hc832).symm)))
   ·rintro D ρo wo nD eD cD jD aD ⟨f5, f28, _⟩
    refine go_lz 28 rfl ((gA_f f28).trans hg16.symm) ?_ (fun hc833 => (kN0 (i := 13) hM (by decide) (by exact jD) (by exact (gf hc833).symm)))
    intro hc833
    exact id (op_move (iV (i : Int)) (f5.trans q3_5) (kN0 (i := 13) hM (by decide) (by exact jD) (by exact (gt hc833).symm)))
   ·rintro D ρo wo nD eD cD jD aD ⟨f29, f30, f28, _⟩
    refine go_lz 28 rfl ((gA_f f28).trans hg16.symm) ?_ (fun hc834 => (kN0 (i := 14) hM (by decide) (by exact jD) (by exact fun h => absurd (show _ = true from h) (by rw [hc834]; decide))))
    intro hc834
    have c835 : ((gd a i).Tier) = ((gd b i).Tier) := of_decide_eq_true (not_f (not_t (hg16.symm.trans hc834)))
    refine id (op_indexAddrD (E := winE) (xs := a) i Try.underlying29 Try.sizeOf56 (f29.trans (gt hc834)) h_a (f30.trans (gt hc834)) (by omega) (by omega) (fun a836 o837 p838 => ?_))
    exact (kN0 (i := 14) hM (by decide) (by exact jD) (by exact fun _ => ⟨_, _, rfl, p838⟩))
   ·rintro D ρo wo nD eD cD jD aD ⟨f31, f28, _⟩
    refine go_lz 28 rfl ((gA_f f28).trans hg16.symm) ?_ (fun hc839 => (kN0 (i := 15) hM (by decide) (by exact jD) (by exact fun h => absurd (show _ = true from h) (by rw [hc839]; decide))))
    intro hc839
    obtain ⟨a840, o841, e842, p843⟩ := f31 hc839
    exact id (op_fieldAddr (s := 0) Try.underlying56 rfl rfl Try.sizeOf2 e842 (kN0 (i := 15) hM (by decide) (by exact jD) (by exact fun _ => ⟨_, _, rfl, (p843.drop 1)⟩)))
   ·rintro D ρo wo nD eD cD jD aD ⟨f32, f28, _⟩
    refine go_lz 28 rfl ((gA_f f28).trans hg16.symm) ?_ (fun hc844 => (kN0 (i := 16) hM (by decide) (by exact jD) (by exact (gf hc844).symm)))
    intro hc844
    have hst := jD.2 
    obtain ⟨a845, o846, e847, p848⟩ := f32 hc844
    exact id (op_load1 (u := (iV ((gd a i).Lo))) Try.isAgg2 e847 (p848.below hst.below) (kN0 (i := 16) hM (by decide) (by exact jD) (by exact (gt hc844).symm)))
   ·rintro D ρo wo nD eD cD jD aD ⟨f1, f28, _⟩
    refine go_lz 28 rfl ((gA_f f28).trans hg16.symm) ?_ (fun hc849 => (kN0 (i := 17) hM (by decide) (by exact jD) (by exact (gf hc849).symm)))
    intro hc849
    exact id (op_move v_b (f1.trans q3_1) (kN0 (i := 17) hM (by decide) (by exact jD) (by exact (gt hc849).symm)))
   ·rintro D ρo wo nD eD cD jD aD ⟨f5, f28, _⟩
    refine go_lz 28 rfl ((gA_f f28).trans hg16.symm) ?_ (fun hc850 => (kN0 (i := 18) hM (by decide) (by exact jD) (by exact (gf hc850).symm)))
    intro hc850
    exact id (op_move (iV (i : Int)) (f5.trans q3_5) (kN0 (i := 18) hM (by decide) (by exact jD) (by exact (gt hc850).symm)))
   ·rintro D ρo wo nD eD cD jD aD ⟨f34, f35, f28, _⟩
    refine go_lz 28 rfl ((gA_f f28).trans hg16.symm) ?_ (fun hc851 => (kN0 (i := 19) hM (by decide) (by exact jD) (by exact fun h => absurd (show _ = true from h) (by rw [hc851]; decide))))
    intro hc851
    have c852 : ((gd a i).Tier) = ((gd b i).Tier) := of_decide_eq_true (not_f (not_t (hg16.symm.trans hc851)))
    refine id (op_indexAddrD (E := winE) (xs := b) i Try.underlying33 Try.sizeOf73 (f34.trans (gt hc851)) h_b (f35.trans (gt hc851)) (by omega) (by omega) (fun a853 o854 p855 => ?_))
    exact (kN0 (i := 19) hM (by decide) (by exact jD) (by exact fun _ => ⟨_, _, rfl, p855⟩))
   ·rintro D ρo wo nD eD cD jD aD ⟨f36, f28, _⟩
    refine go_lz 28 rfl ((gA_f f28).trans hg16.symm) ?_ (fun hc856 => (kN0 (i := 20) hM (by decide) (by exact jD) (by exact fun h => absurd (show _ = true from h) (by rw [hc856]; decide))))
    intro hc856
    obtain ⟨a857, o858, e859, p860⟩ := f36 hc856
    exact id (op_fieldAddr (s := 0) Try.underlying73 rfl rfl Try.sizeOf2 e859 (kN0 (i := 20) hM (by decide) (by exact jD) (by exact fun _ => ⟨_, _, rfl, (p860.drop 1)⟩)))
   ·rintro D ρo wo nD eD cD jD aD ⟨f37, f28, _⟩
    refine go_lz 28 rfl ((gA_f f28).trans hg16.symm) ?_ (fun hc861 => (kN0 (i := 21) hM (by decide) (by exact jD) (by exact (gf hc861).symm)))
    intro hc861
    have hst := jD.2 
    obtain ⟨a862, o863, e864, p865⟩ := f37 hc861
    exact id (op_load1 (u := (iV ((gd b i).Lo))) Try.isAgg2 e864 (p865.below hst.below) (kN0 (i := 21) hM (by decide) (by exact jD) (by exact (gt hc861).symm)))
   ·rintro D ρo wo nD eD cD jD aD ⟨f33, f38, f28, _⟩
    refine go_lz 28 rfl ((gA_f f28).trans hg16.symm) ?_ (fun hc866 => (kN0 (i := 22) hM (by decide) (by exact jD) (by exact (gf hc866).symm)))
    intro hc866
    exact id (op_neq (k := .i64) (a := (gd a i).Lo) (b := (gd b i).Lo) (f33.trans (gt hc866)) (f38.trans (gt hc866)) (kN0 (i := 22) hM (by decide) (by exact jD) (by exact (gt hc866).symm)))
   ·rintro D ρo wo nD eD cD jD aD ⟨f28, f39, _⟩
    refine go_plain (op_pick_or f28 rfl f39 (fun hp => (hg16.trans (congrArg (! ·) (congrArg (! ·) (not_f hp))))) ?_)
    exact (kN0 (i := 23) hM (by decide) (by exact jD) (by exact (congrArg Value.bool hg104.symm)))
   ·rintro D ρo wo nD eD cD jD aD ⟨f40, _⟩
    exact go_plain (op_move (.bool g103) f40 (kN0 (i := 24) hM (by decide) (by exact jD) (by exact rfl)))
   ·rintro D ρo wo nD eD cD jD aD ⟨f0, f41, _⟩
    refine go_lz 41 rfl (gA_f f41) ?_ (fun hc867 => (kN0 (i := 25) hM (by decide) (by exact jD) (by exact (gf hc867).symm)))
    intro hc867
    exact id (op_move v_a (f0.trans q3_0) (kN0 (i := 25) hM (by decide) (by exact jD) (by exact (gt hc867).symm)))
   ·rintro D ρo wo nD eD cD jD aD ⟨f5, f41, _⟩
    refine go_lz 41 rfl (gA_f f41) ?_ (fun hc868 => (kN0 (i := 26) hM (by decide) (by exact jD) (by exact (gf hc868).symm)))
    intro hc868
    exact id (op_move (iV (i : Int)) (f5.trans q3_5) (kN0 (i := 26) hM (by decide) (by exact jD) (by exact (gt hc868).symm)))
   ·rintro D ρo wo nD eD cD jD aD ⟨f42, f43, f41, _⟩
    refine go_lz 41 rfl (gA_f f41) ?_ (fun hc869 => (kN0 (i := 27) hM (by decide) (by exact jD) (by exact fun h => absurd (show _ = true from h) (by rw [hc869]; decide))))
    intro hc869
    have c870 : ((gd a i).Tier) = ((gd b i).Tier) := of_decide_eq_true (not_f (or_l (hg104.symm.trans (not_t hc869))))
    have c871 : ((gd a i).Lo) = ((gd b i).Lo) := of_decide_eq_true (not_f (or_r (hg104.symm.trans (not_t hc869))))
    refine id (op_indexAddrD (E := winE) (xs := a) i Try.underlying29 Try.sizeOf56 (f42.trans (gt (congrArg (! ·) (not_t hc869)))) h_a (f43.trans (gt (congrArg (! ·) (not_t hc869)))) (by omega) (by omega) (fun a872 o873 p874 => ?_))
    exact (kN0 (i := 27) hM (by decide) (by exact jD) (by exact fun _ => ⟨_, _, rfl, p874⟩))
   ·rintro D ρo wo nD eD cD jD aD ⟨f44, f41, _⟩
    refine go_lz 41 rfl (gA_f f41) ?_ (fun hc875 => (kN0 (i := 28) hM (by decide) (by exact jD) (by exact fun h => absurd (show _ = true from h) (by rw [hc875]; decide))))
    intro hc875
    obtain ⟨a876, o877, e878, p879⟩ := f44 (congrArg (! ·) (not_t hc875))
    exact id (op_fieldAddr (s := 0) Try.underlying56 rfl rfl Try.sizeOf2 e878 (kN0 (i := 28) hM (by decide) (by exact jD) (by exact fun _ => ⟨_, _, rfl, (p879.drop 2)⟩)))
   ·rintro D ρo wo nD eD cD jD aD ⟨f45, f41, _⟩
    refine go_lz 41 rfl (gA_f f41) ?_ (fun hc880 => (kN0 (i := 29) hM (by decide) (by exact jD) (by exact (gf hc880).symm)))
    intro hc880
    have hst := jD.2 
    obtain ⟨a881, o882, e883, p884⟩ := f45 (congrArg (! ·) (not_t hc880))
    exact id (op_load1 (u := (iV ((gd a i).Hi))) Try.isAgg2 e883 (p884.below hst.below) (kN0 (i := 29) hM (by decide) (by exact jD) (by exact (gt hc880).symm)))
   ·rintro D ρo wo nD eD cD jD aD ⟨f1, f41, _⟩
    refine go_lz 41 rfl (gA_f f41) ?_ (fun hc885 => (kN0 (i := 30) hM (by decide) (by exact jD) (by exact (gf hc885).symm)))
    intro hc885
    exact id (op_move v_b (f1.trans q3_1) (kN0 (i := 30) hM (by decide) (by exact jD) (by exact (gt hc885).symm)))
   ·rintro D ρo wo nD eD cD jD aD ⟨f5, f41, _⟩
    refine go_lz 41 rfl (gA_f f41) ?_ (fun hc886 => (kN0 (i := 31) hM (by decide) (by exact jD) (by exact (gf hc886).symm)))
    intro hc886
    exact id (op_move (iV (i : Int)) (f5.trans q3_5) (kN0 (i := 31) hM (by decide) (by exact jD) (by exact (gt hc886).symm)))
   ·rintro D ρo wo nD eD cD jD aD ⟨f47, f48, f41, _⟩
    refine go_lz 41 rfl (gA_f f41) ?_ (fun hc887 => (kN0 (i := 32) hM (by decide) (by exact jD) (by exact fun h => absurd (show _ = true from h) (by rw [hc887]; decide))))
    intro hc887
    have c888 : ((gd a i).Tier) = ((gd b i).Tier) := of_decide_eq_true (not_f (or_l (hg104.symm.trans (not_t hc887))))
    have c889 : ((gd a i).Lo) = ((gd b i).Lo) := of_decide_eq_true (not_f (or_r (hg104.symm.trans (not_t hc887))))
    refine id (op_indexAddrD (E := winE) (xs := b) i Try.underlying33 Try.sizeOf73 (f47.trans (gt (congrArg (! ·) (not_t hc887)))) h_b (f48.trans (gt (congrArg (! ·) (not_t hc887)))) (by omega) (by omega) (fun a890 o891 p892 => ?_))
    exact (kN0 (i := 32) hM (by decide) (by exact jD) (by exact fun _ => ⟨_, _, rfl, p892⟩))
   ·rintro D ρo wo nD eD cD jD aD ⟨f49, f41, _⟩
    refine go_lz 41 rfl (gA_f f41) ?_ (fun hc893 => (kN0 (i := 33) hM (by decide) (by exact jD) (by exact fun h => absurd (show _ = true from h) (by rw [hc893]; decide))))
    intro hc893
    obtain ⟨a894, o895, e896, p897⟩ := f49 (congrArg (! ·) (not_t hc893))
    exact id (op_fieldAddr (s := 0) Try.underlying73 rfl rfl Try.sizeOf2 e896 (kN0 (i := 33) hM (by decide) (by exact jD) (by exact fun _ => ⟨_, _, rfl, (p897.drop 2)⟩)))
   ·rintro D ρo wo nD eD cD jD aD ⟨f50, f41, _⟩
    refine go_lz 41 rfl (gA_f f41) ?_ (fun hc898 => (kN0 (i := 34) hM (by decide) (by exact jD) (by exact (gf hc898).symm)))
    intro hc898
    have hst := jD.2 
    obtain ⟨a899, o900, e901, p902⟩ := f50 (congrArg (! ·) (not_t hc898))
    exact id (op_load1 (u := (iV ((gd b i).Hi))) Try.isAgg2 e901 (p902.below hst.below) (kN0 (i := 34) hM (by decide) (by exact jD) (by exact (gt hc898).symm)))
   ·rintro D ρo wo nD eD cD jD aD ⟨f46, f51, f41, _⟩
    refine go_lz 41 rfl (gA_f f41) ?_ (fun hc903 => (kN0 (i := 35) hM (by decide) (by exact jD) (by exact (gf hc903).symm)))
    intro hc903
    exact id (op_neq (k := .i64) (a := (gd a i).Hi) (b := (gd b i).Hi) (f46.trans (gt (congrArg (! ·) (not_t hc903)))) (f51.trans (gt (congrArg (! ·) (not_t hc903)))) (kN0 (i := 35) hM (by decide) (by exact jD) (by exact (gt hc903).symm)))
   ·rintro D ρo wo nD eD cD jD aD ⟨f41, f52, _⟩
    refine go_plain (op_pick_or f41 rfl f52 (fun hp => (congrArg (! ·) hp)) ?_)
    exact (kN0 (i := 36) hM (by decide) (by exact jD) (by exact (congrArg Value.bool hg368.symm)))
   ·rintro D ρo wo nD eD cD jD aD ⟨f53, _⟩
    exact go_plain (op_move (.bool g367) f53 (kN0 (i := 37) hM (by decide) (by exact jD) (by exact rfl)))
   ·rintro D ρo wo nD eD cD jD aD ⟨f0, f54, _⟩
    refine go_lz 54 rfl (gA_f f54) ?_ (fun hc904 => (kN0 (i := 38) hM (by decide) (by exact jD) (by exact (gf hc904).symm)))
    intro hc904
    exact id (op_move v_a (f0.trans q3_0) (kN0 (i := 38) hM (by decide) (by exact jD) (by exact (gt hc904).symm)))
   ·rintro D ρo wo nD eD cD jD aD ⟨f5, f54, _⟩
    refine go_lz 54 rfl (gA_f f54) ?_ (fun hc905 => (kN0 (i := 39) hM (by decide) (by exact jD) (by exact (gf hc905).symm)))
    intro hc905
    exact id (op_move (iV (i : Int)) (f5.trans q3_5) (kN0 (i := 39) hM (by decide) (by exact jD) (by exact (gt hc905).symm)))
   ·rintro D ρo wo nD eD cD jD aD ⟨f55, f56, f54, _⟩
    refine go_lz 54 rfl (gA_f f54) ?_ (fun hc906 => (kN0 (i := 40) hM (by decide) (by exact jD) (by exact fun h => absurd (show _ = true from h) (by rw [hc906]; decide))))
    intro hc906
    have c907 : ((gd a i).Tier) = ((gd b i).Tier) := of_decide_eq_true (not_f (or_l (hg104.symm.trans (or_l (hg368.symm.trans (not_t hc906))))))
    have c908 : ((gd a i).Lo) = ((gd b i).Lo) := of_decide_eq_true (not_f (or_r (hg104.symm.trans (or_l (hg368.symm.trans (not_t hc906))))))
    have c909 : ((gd a i).Hi) = ((gd b i).Hi) := of_decide_eq_true (not_f (or_r (hg368.symm.trans (not_t hc906))))
    refine id (op_indexAddrD (E := winE) (xs := a) i Try.underlying29 Try.sizeOf56 (f55.trans (gt (congrArg (! ·) (not_t hc906)))) h_a (f56.trans (gt (congrArg (! ·) (not_t hc906)))) (by omega) (by omega) (fun a910 o911 p912 => ?_))
    exact (kN0 (i := 40) hM (by decide) (by exact jD) (by exact fun _ => ⟨_, _, rfl, p912⟩))
   ·rintro D ρo wo nD eD cD jD aD ⟨f57, f54, _⟩
    refine go_lz 54 rfl (gA_f f54) ?_ (fun hc913 => (kN0 (i := 41) hM (by decide) (by exact jD) (by exact fun h => absurd (show _ = true from h) (by rw [hc913]; decide))))
    intro hc913
    obtain ⟨a914, o915, e916, p917⟩ := f57 (congrArg (! ·) (not_t hc913))
    exact id (op_fieldAddr (s := 6) Try.underlying56 rfl rfl Try.sizeOf37 e916 (kN0 (i := 41) hM (by decide) (by exact jD) (by exact fun _ => ⟨_, _, rfl, (p917.drop 3)⟩)))
   ·rintro D ρo wo nD eD cD jD aD ⟨f58, f54, _⟩
    refine go_lz 54 rfl (gA_f f54) ?_ (fun hc918 => (kN0 (i := 42) hM (by decide) (by exact jD) (by exact (gf hc918).symm)))
    intro hc918
    have hst := jD.2 
    obtain ⟨a919, o920, e921, p922⟩ := f58 (congrArg (! ·) (not_t hc918))
    exact id (op_loadN (cs := (aggC ((gd a i).Agg))) Try.isAgg37 Try.sizeOf37 e921 (Pt.of (p922.below hst.below) rfl) rfl (kN0 (i := 42) hM (by decide) (by exact jD) (by exact (gt hc918).symm)))
   ·rintro D ρo wo nD eD cD jD aD ⟨f1, f54, _⟩
    refine go_lz 54 rfl (gA_f f54) ?_ (fun hc923 => (kN0 (i := 43) hM (by decide) (by exact jD) (by exact (gf hc923).symm)))
    intro hc923
    exact id (op_move v_b (f1.trans q3_1) (kN0 (i := 43) hM (by decide) (by exact jD) (by exact (gt hc923).symm)))
   ·rintro D ρo wo nD eD cD jD aD ⟨f5, f54, _⟩
    refine go_lz 54 rfl (gA_f f54) ?_ (fun hc924 => (kN0 (i := 44) hM (by decide) (by exact jD) (by exact (gf hc924).symm)))
    intro hc924
    exact id (op_move (iV (i : Int)) (f5.trans q3_5) (kN0 (i := 44) hM (by decide) (by exact jD) (by exact (gt hc924).symm)))
   ·rintro D ρo wo nD eD cD jD aD ⟨f60, f61, f54, _⟩
    refine go_lz 54 rfl (gA_f f54) ?_ (fun hc925 => (kN0 (i := 45) hM (by decide) (by exact jD) (by exact fun h => absurd (show _ = true from h) (by rw [hc925]; decide))))
    intro hc925
    have c926 : ((gd a i).Tier) = ((gd b i).Tier) := of_decide_eq_true (not_f (or_l (hg104.symm.trans (or_l (hg368.symm.trans (not_t hc925))))))
    have c927 : ((gd a i).Lo) = ((gd b i).Lo) := of_decide_eq_true (not_f (or_r (hg104.symm.trans (or_l (hg368.symm.trans (not_t hc925))))))
    have c928 : ((gd a i).Hi) = ((gd b i).Hi) := of_decide_eq_true (not_f (or_r (hg368.symm.trans (not_t hc925))))
    refine id (op_indexAddrD (E := winE) (xs := b) i Try.underlying33 Try.sizeOf73 (f60.trans (gt (congrArg (! ·) (not_t hc925)))) h_b (f61.trans (gt (congrArg (! ·) (not_t hc925)))) (by omega) (by omega) (fun a929 o930 p931 => ?_))
    exact (kN0 (i := 45) hM (by decide) (by exact jD) (by exact fun _ => ⟨_, _, rfl, p931⟩))
   ·rintro D ρo wo nD eD cD jD aD ⟨f62, f54, _⟩
    refine go_lz 54 rfl (gA_f f54) ?_ (fun hc932 => (kN0 (i := 46) hM (by decide) (by exact jD) (by exact fun h => absurd (show _ = true from h) (by rw [hc932]; decide))))
    intro hc932
    obtain ⟨a933, o934, e935, p936⟩ := f62 (congrArg (! ·) (not_t hc932))
    exact id (op_fieldAddr (s := 6) Try.underlying73 rfl rfl Try.sizeOf37 e935 (kN0 (i := 46) hM (by decide) (by exact jD) (by exact fun _ => ⟨_, _, rfl, (p936.drop 3)⟩)))
   ·rintro D ρo wo nD eD cD jD aD ⟨f63, f54, _⟩
    refine go_lz 54 rfl (gA_f f54) ?_ (fun hc937 => (kN0 (i := 47) hM (by decide) (by exact jD) (by exact (gf hc937).symm)))
    intro hc937
    have hst := jD.2 
    obtain ⟨a938, o939, e940, p941⟩ := f63 (congrArg (! ·) (not_t hc937))
    exact id (op_loadN (cs := (aggC ((gd b i).Agg))) Try.isAgg37 Try.sizeOf37 e940 (Pt.of (p941.below hst.below) rfl) rfl (kN0 (i := 47) hM (by decide) (by exact jD) (by exact (gt hc937).symm)))
   ·rintro D ρo wo nD eD cD jD aD ⟨f59, f64, f54, _⟩
    refine go_lz 54 rfl (gA_f f54) ?_ (fun hc942 => (kN0 (i := 48) hM (by decide) (by exact jD) (by exact (gf hc942).symm)))
    intro hc942
    exact id (op_neqG Try.eqGuardType37 (Try.eqAgg ((gd a i).Agg) ((gd b i).Agg) _) (f59.trans (gt (congrArg (! ·) (not_t hc942)))) (f64.trans (gt (congrArg (! ·) (not_t hc942)))) (kN0 (i := 48) hM (by decide) (by exact jD) (by exact (gt hc942).symm)))
   ·rintro D ρo wo nD eD cD jD aD ⟨f54, f65, _⟩
    refine go_plain (op_pick_or f54 rfl f65 (fun hp => (congrArg (! ·) hp)) ?_)
    exact (kN0 (i := 49) hM (by decide) (by exact jD) (by exact (congrArg Value.bool hg808.symm)))
   intro ρ943 w944 Dw944 hallw944 hJw944 hRw944 hkw944
   have hst : St w0 w944 [] := hJw944.2 
   have uw944_0 := (hkw944 0 rfl).trans q3_0
   have uw944_1 := (hkw944 1 rfl).trans q3_1
   have uw944_5 := (hkw944 5 rfl).trans q3_5
   have uw944_66 : ρ943 66 = (.bool g807) := hRw944 49 66 rfl
   refine then_n ?_
   rcases Bool.eq_false_or_eq_true g807 with b945 | b945
   ·have c946 : (((¬ (((gd a i).Tier) = ((gd b i).Tier))) ∨ (¬ (((gd a i).Lo) = ((gd b i).Lo)))) ∨ (¬ (((gd a i).Hi) = ((gd b i).Hi)))) ∨ (¬ (((gd a i).Agg) = ((gd b i).Agg))) := (pi_or (pi_name hg368 (pi_or (pi_name hg104 (pi_or (pi_not pi_dec) (pi_not pi_dec))) (pi_not pi_dec))) (pi_not pi_dec)).1 (hg808.symm.trans b945)
    refine cE_cond true (uw944_66.trans (congrArg Value.bool b945)) (fun _ => ?_) (fun h => by cases h)
    refine cE_seq (cE_region rfl (s_cons (op_assign (.bool false) rfl (s_nil (then_n (cE_ret (block_r (then_r (then_r (block_r (then_r (post_r _ (res1 (v := (.bool false)) rfl) ?_))))))))))))
    exact ⟨(retv1 (congrArg Value.bool (show false = (decide (a = b)) from by exact same_no (i := i) (by omega) (by omega) (win_other (by assumption))))), hst.bare⟩
   have c947 : ((gd a i).Tier) = ((gd b i).Tier) := of_decide_eq_true (not_f (or_l (hg104.symm.trans (or_l (hg368.symm.trans (or_l (hg808.symm.trans b945)))))))
   have c948 : ((gd a i).Lo) = ((gd b i).Lo) := of_decide_eq_true (not_f (or_r (hg104.symm.trans (or_l (hg368.symm.trans (or_l (hg808.symm.trans b945)))))))
   have c949 : ((gd a i).Hi) = ((gd b i).Hi) := of_decide_eq_true (not_f (or_r (hg368.symm.trans (or_l (hg808.symm.trans b945)))))
   have c950 : ((gd a i).Agg) = ((gd b i).Agg) := of_decide_eq_true (not_f (or_r (hg808.symm.trans b945)))
   refine cE_cond false (uw944_66.trans (congrArg Value.bool b945)) (fun h => by cases h) (fun _ => ?_)
   refine cE_skip (block_n (then_n (cE_region rfl (s_cons (op_move (iV (i : Int)) uw944_5 (s_cons (op_add (k := .i64) (a := (i : Int)) (b := 1) ((i : Int) + 1) rfl rfl (xi64 (by omega) (by omega)) (s_cons (op_assign (iV ((i : Int) + 1)) rfl (s_nil (then_n ?_)))))))))))
   exact ⟨_, ⟨(i + 1), rfl, uw944_0, uw944_1, (congrArg iV (show ((i : Int) + 1) = _ from by omega)), hst, (by omega), (by exact same_step he (by omega) (by omega) (win_same (by omega) (by omega) (by omega) (by assumption)))⟩, (by simp only [id]; omega)⟩
  have c951 := of_decide_eq_false b7
  refine cE_cond false (congrArg Value.bool b7) (fun h => by cases h) (fun _ => ?_)
  refine cE_exit (then_x (then_x (block_hit (then_n (cE_seq (cE_region rfl (s_cons (op_assign (.bool true) rfl (s_nil (then_n (cE_ret (post_r _ (res1 (v := (.bool true)) rfl) ?_))))))))))))
  exact ⟨(retv1 (congrArg Value.bool (show true = (decide (a = b)) from by exact same_end (i := i) (by omega) (by omega) he))), hst.bare⟩
 have c952 := of_decide_eq_false b1
 refine cE_cond true (congrArg Value.bool (congrArg (! ·) b1)) (fun _ => ?_) (fun h => by cases h)
 refine cE_seq (cE_region rfl (s_cons (op_assign (.bool false) rfl (s_nil (then_n (cE_ret (then_r (post_r _ (res1 (v := (.bool false)) rfl) ?_))))))))
 exact ⟨(retv1 (congrArg Value.bool (show false = (decide (a = b)) from by exact same_len (by assumption)))), hst.bare⟩

end Go.Proofs.Ythanfecefjfbjaa
