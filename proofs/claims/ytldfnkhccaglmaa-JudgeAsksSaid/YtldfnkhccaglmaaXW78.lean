/- twinkeeplaw23.JudgeAsks -/
import Derived.Test.YtldfnkhccaglmaaXW71
import Derived.Test.YtldfnkhccaglmaaXLA
import Derived.Test.YtldfnkhccaglmaaXW72
import Derived.Test.YtldfnkhccaglmaaXW73
import Derived.Test.YtldfnkhccaglmaaXW63
import Derived.Test.YtldfnkhccaglmaaXW68
namespace Go.Proofs.Ytldfnkhccaglmaa
open Go.RowKit

set_option maxRecDepth 8000 in
set_option maxHeartbeats 8000000 in
theorem c_JudgeAsks (w0 : World) (v_t : Value) (t : List Told) (h_t : Sl w0 toldE v_t t) (v_h : Value) (h : List Sample) (h_h : Sl w0 sampE v_h h) (v_l : Value) (l : List Win) (h_l : Sl w0 winE v_l l) (v_gs : Value) (gs : List Grant) (h_gs : Sl w0 grantE v_gs gs) (fr : Int) (to : Int) (hho : ∀ s ∈ h, s.ok) (hwo : ∀ w ∈ l, w.ok) (fr0 : -9223372036854775808 ≤ fr) (to0 : -9223372036854775808 ≤ to) (fr1 : fr ≤ 9223372036854775807) (to1 : to ≤ 9223372036854775807) :
  Calls Try.prog 3 #[v_t, v_h, v_l, v_gs, (iV fr), (iV to)] w0 fun e w' => e = .returned (.bool true) ∧ St w0 w' [] := by
 refine calls_E (n := 102) (ts := [12]) Try.func3 rfl rfl rfl (by simp) ?_
 have hst := St.start w0
 refine cE_seq (cE_region rfl (s_cons (op_assign (.bool false) rfl (s_nil (then_n (cE_seq (cE_seq (cE_region rfl (s_cons (op_move v_t rfl (s_cons (op_len (E := toldE) (xs := t) Try.underlying22 rfl h_t (s_cons (op_gtr (k := .i64) (a := (t.length : Int)) (b := 30) rfl rfl (s_cons (op_move (.bool (decide (30 < (t.length : Int)))) rfl ?_))))))))))))))))
 obtain ⟨g1, hg2⟩ : ∃ x : Bool, x = !(decide (30 < (t.length : Int))) := ⟨_, rfl⟩
 refine s_lz 18 rfl ((gA_f rfl).trans hg2.symm) (Rlz g1 v_h w0) ?_ (fun hc3 => rlz_f hc3) ?_
 ·intro hc3
  refine op_move v_h rfl ?_
  exact rlz_t hc3
 rintro _ _ ⟨rfl, rfl⟩
 refine s_lz 18 rfl ((gA_f rfl).trans hg2.symm) (Rlz g1 (iV (h.length : Int)) w0) ?_ (fun hc4 => rlz_f hc4) ?_
 ·intro hc4
  have c5 : ¬ (30 < (t.length : Int)) := of_decide_eq_false (not_t (hg2.symm.trans hc4))
  refine op_len (E := sampE) (xs := h) Try.underlying23 (gt hc4) h_h ?_
  exact rlz_t hc4
 rintro _ _ ⟨rfl, rfl⟩
 refine s_lz 18 rfl ((gA_f rfl).trans hg2.symm) (Rlz g1 (.bool (decide (30 < (h.length : Int)))) w0) ?_ (fun hc6 => rlz_f hc6) ?_
 ·intro hc6
  refine op_gtr (k := .i64) (a := (h.length : Int)) (b := 30) (gt hc6) rfl ?_
  exact rlz_t hc6
 rintro _ _ ⟨rfl, rfl⟩
 obtain ⟨g7, hg8⟩ : ∃ x : Bool, x = ((decide (30 < (t.length : Int))) || (decide (30 < (h.length : Int)))) := ⟨_, rfl⟩
 refine s_cons (op_pick_or rfl rfl rfl (fun hp => (hg2.trans (congrArg (! ·) hp))) (s_cons (op_move (.bool g7) (congrArg Value.bool hg8.symm) (s_lz 23 rfl (gA_f rfl) (Rlz (!g7) v_l w0) ?_ (fun hc9 => rlz_f hc9) ?_))))
 ·intro hc9
  refine op_move v_l rfl ?_
  exact rlz_t hc9
 rintro _ _ ⟨rfl, rfl⟩
 refine s_lz 23 rfl (gA_f rfl) (Rlz (!g7) (iV (l.length : Int)) w0) ?_ (fun hc10 => rlz_f hc10) ?_
 ·intro hc10
  have c11 : ¬ (30 < (t.length : Int)) := of_decide_eq_false (or_l (hg8.symm.trans (not_t hc10)))
  have c12 : ¬ (30 < (h.length : Int)) := of_decide_eq_false (or_r (hg8.symm.trans (not_t hc10)))
  refine op_len (E := winE) (xs := l) Try.underlying24 (gt (congrArg (! ·) (not_t hc10))) h_l ?_
  exact rlz_t hc10
 rintro _ _ ⟨rfl, rfl⟩
 refine s_lz 23 rfl (gA_f rfl) (Rlz (!g7) (.bool (decide (30 < (l.length : Int)))) w0) ?_ (fun hc13 => rlz_f hc13) ?_
 ·intro hc13
  refine op_gtr (k := .i64) (a := (l.length : Int)) (b := 30) (gt (congrArg (! ·) (not_t hc13))) rfl ?_
  exact rlz_t hc13
 rintro _ _ ⟨rfl, rfl⟩
 obtain ⟨g14, hg15⟩ : ∃ x : Bool, x = (g7 || (decide (30 < (l.length : Int)))) := ⟨_, rfl⟩
 refine s_cons (op_pick_or rfl rfl rfl (fun hp => (congrArg (! ·) hp)) (s_cons (op_move (.bool g14) (congrArg Value.bool hg15.symm) (s_lz 28 rfl (gA_f rfl) (Rlz (!g14) v_gs w0) ?_ (fun hc16 => rlz_f hc16) ?_))))
 ·intro hc16
  refine op_move v_gs rfl ?_
  exact rlz_t hc16
 rintro _ _ ⟨rfl, rfl⟩
 refine s_lz 28 rfl (gA_f rfl) (Rlz (!g14) (iV (gs.length : Int)) w0) ?_ (fun hc17 => rlz_f hc17) ?_
 ·intro hc17
  have c18 : ¬ (30 < (t.length : Int)) := of_decide_eq_false (or_l (hg8.symm.trans (or_l (hg15.symm.trans (not_t hc17)))))
  have c19 : ¬ (30 < (h.length : Int)) := of_decide_eq_false (or_r (hg8.symm.trans (or_l (hg15.symm.trans (not_t hc17)))))
  have c20 : ¬ (30 < (l.length : Int)) := of_decide_eq_false (or_r (hg15.symm.trans (not_t hc17)))
  refine op_len (E := grantE) (xs := gs) Try.underlying25 (gt (congrArg (! ·) (not_t hc17))) h_gs ?_
  exact rlz_t hc17
 rintro _ _ ⟨rfl, rfl⟩
 refine s_lz 28 rfl (gA_f rfl) (Rlz (!g14) (.bool (decide (30 < (gs.length : Int)))) w0) ?_ (fun hc21 => rlz_f hc21) ?_
 ·intro hc21
  refine op_gtr (k := .i64) (a := (gs.length : Int)) (b := 30) (gt (congrArg (! ·) (not_t hc21))) rfl ?_
  exact rlz_t hc21
 rintro _ _ ⟨rfl, rfl⟩
 obtain ⟨g22, hg23⟩ : ∃ x : Bool, x = (g14 || (decide (30 < (gs.length : Int)))) := ⟨_, rfl⟩
 refine s_cons (op_pick_or rfl rfl rfl (fun hp => (congrArg (! ·) hp)) (s_nil (then_n ?_)))
 rcases Bool.eq_false_or_eq_true g22 with b24 | b24
 ·have c25 : (((30 < (t.length : Int)) ∨ (30 < (h.length : Int))) ∨ (30 < (l.length : Int))) ∨ (30 < (gs.length : Int)) := (pi_or (pi_name hg15 (pi_or (pi_name hg8 (pi_or pi_dec pi_dec)) pi_dec)) pi_dec).1 (hg23.symm.trans b24)
  refine cE_cond true ((congrArg Value.bool hg23.symm).trans (congrArg Value.bool b24)) (fun _ => ?_) (fun h => by cases h)
  refine cE_seq (cE_region rfl (s_cons (op_call Try.call8 evs_nil (c_told23 (w0 := w0)) ?_)))
  rintro _ w26 ⟨rfl, hcall⟩
  refine ⟨_, rfl, ?_⟩
  have hst : St w0 w26 [] := hst.call hcall
  refine s_cons (op_assign (.bool true) rfl (s_nil (then_n (cE_ret (then_r (post_r _ (res1 (v := (.bool true)) rfl) ?_))))))
  exact ⟨rfl, hst.bare⟩
 have c27 : ¬ (30 < (t.length : Int)) := of_decide_eq_false (or_l (hg8.symm.trans (or_l (hg15.symm.trans (or_l (hg23.symm.trans b24))))))
 have c28 : ¬ (30 < (h.length : Int)) := of_decide_eq_false (or_r (hg8.symm.trans (or_l (hg15.symm.trans (or_l (hg23.symm.trans b24))))))
 have c29 : ¬ (30 < (l.length : Int)) := of_decide_eq_false (or_r (hg15.symm.trans (or_l (hg23.symm.trans b24))))
 have c30 : ¬ (30 < (gs.length : Int)) := of_decide_eq_false (or_r (hg23.symm.trans b24))
 refine cE_cond false ((congrArg Value.bool hg23.symm).trans (congrArg Value.bool b24)) (fun h => by cases h) (fun _ => ?_)
 refine cE_skip (then_n (cE_seq (cE_region rfl (s_cons (op_assign nS rfl (s_nil (then_n (cE_seq (cE_seq (cE_region rfl (s_cons (op_assign (iV 0) rfl (s_nil (then_n (cE_block ?_)))))))))))))))
 replace hst : St w0 w0 [rowT 33 winE nS ([])] := hst.nilRow 33 winE
 refine cE_loop (fun (m : Nat) (ρ : Env) (w : World) => ∃ (vo : Value) (i : Nat), m = l.length - i ∧ ρ 0 = v_t ∧ ρ 1 = v_h ∧ ρ 2 = v_l ∧ ρ 3 = v_gs ∧ ρ 4 = (iV fr) ∧ ρ 5 = (iV to) ∧ ρ 12 = (.bool false) ∧ ρ 13 = vo ∧ ρ 14 = (iV (i : Int)) ∧ St w0 w [rowT 33 winE vo (l.take i)] ∧ (i ≤ l.length)) id _ ⟨nS, 0, rfl, rfl, rfl, rfl, rfl, rfl, rfl, rfl, rfl, (congrArg iV (show 0 = _ from by omega)), (by have h := hst; first | exact h | (refine (?_ : St _ _ _); simpa using h)), (by omega)⟩ ?_
 rintro m32 ρ33 w34 ⟨vo, i, hm32, q31_0, q31_1, q31_2, q31_3, q31_4, q31_5, q31_12, q31_13, q31_14, hst, hi⟩
 have hlen := h_l.len
 refine cE_seq (cE_seq (cE_region rfl (s_cons (op_move (iV (i : Int)) q31_14 (s_cons (op_move v_l q31_2 (s_cons (op_len (E := winE) (xs := l) Try.underlying24 rfl h_l (s_cons (op_lss (k := .i64) (a := (i : Int)) (b := (l.length : Int)) rfl rfl (s_nil (then_n ?_))))))))))))
 rcases Bool.eq_false_or_eq_true (decide ((i : Int) < (l.length : Int))) with b35 | b35
 ·have c36 : (i : Int) < (l.length : Int) := of_decide_eq_true b35
  refine cE_cond true (congrArg Value.bool b35) (fun _ => ?_) (fun h => by cases h)
  refine cE_skip (then_n (cE_seq (cE_block (cE_regionM (fun (D : Nat → Bool) (w : World) => St w0 w [] ∧ (D 23 = false → St w0 w [rowT 33 winE vo (l.take i)])) [[(13, none)], [(2, none)], [(14, none)], [(41, some 1), (42, some 2)], [(43, some 3)], [(44, some 4)], [(2, none)], [(14, none)], [(46, some 6), (47, some 7)], [(48, some 8)], [(49, some 9)], [(2, none)], [(14, none)], [(51, some 11), (52, some 12)], [(53, some 13)], [(54, some 14)], [(2, none)], [(14, none)], [(56, some 16), (57, some 17)], [(58, some 18)], [(59, some 19)], [(45, some 5), (50, some 10), (55, some 15), (60, some 20)], [(61, some 21)], [(40, some 0), (62, some 22)], [(63, some 23)]] [23] [(kEq vo), (kEq v_l), (kEq (iV (i : Int))), (kPt0 w0 [(iV ((gd l i).Tier)), (iV ((gd l i).Lo)), (iV ((gd l i).Hi)), (iV (((gd l i).Agg).From)), (iV (((gd l i).Agg).Count)), (iV (((gd l i).Agg).Sum)), (iV (((gd l i).Agg).Min)), (iV (((gd l i).Agg).Max)), (iV (((gd l i).Agg).First)), (iV (((gd l i).Agg).Last))]), (kPt0 w0 [(iV ((gd l i).Tier)), (iV ((gd l i).Lo)), (iV ((gd l i).Hi)), (iV (((gd l i).Agg).From)), (iV (((gd l i).Agg).Count)), (iV (((gd l i).Agg).Sum)), (iV (((gd l i).Agg).Min)), (iV (((gd l i).Agg).Max)), (iV (((gd l i).Agg).First)), (iV (((gd l i).Agg).Last))]), (kEq (iV ((gd l i).Tier))), (kEq v_l), (kEq (iV (i : Int))), (kPt0 w0 [(iV ((gd l i).Tier)), (iV ((gd l i).Lo)), (iV ((gd l i).Hi)), (iV (((gd l i).Agg).From)), (iV (((gd l i).Agg).Count)), (iV (((gd l i).Agg).Sum)), (iV (((gd l i).Agg).Min)), (iV (((gd l i).Agg).Max)), (iV (((gd l i).Agg).First)), (iV (((gd l i).Agg).Last))]), (kPt0 w0 [(iV ((gd l i).Lo)), (iV ((gd l i).Hi)), (iV (((gd l i).Agg).From)), (iV (((gd l i).Agg).Count)), (iV (((gd l i).Agg).Sum)), (iV (((gd l i).Agg).Min)), (iV (((gd l i).Agg).Max)), (iV (((gd l i).Agg).First)), (iV (((gd l i).Agg).Last))]), (kEq (iV ((gd l i).Lo))), (kEq v_l), (kEq (iV (i : Int))), (kPt0 w0 [(iV ((gd l i).Tier)), (iV ((gd l i).Lo)), (iV ((gd l i).Hi)), (iV (((gd l i).Agg).From)), (iV (((gd l i).Agg).Count)), (iV (((gd l i).Agg).Sum)), (iV (((gd l i).Agg).Min)), (iV (((gd l i).Agg).Max)), (iV (((gd l i).Agg).First)), (iV (((gd l i).Agg).Last))]), (kPt0 w0 [(iV ((gd l i).Hi)), (iV (((gd l i).Agg).From)), (iV (((gd l i).Agg).Count)), (iV (((gd l i).Agg).Sum)), (iV (((gd l i).Agg).Min)), (iV (((gd l i).Agg).Max)), (iV (((gd l i).Agg).First)), (iV (((gd l i).Agg).Last))]), (kEq (iV ((gd l i).Hi))), (kEq v_l), (kEq (iV (i : Int))), (kPt0 w0 [(iV ((gd l i).Tier)), (iV ((gd l i).Lo)), (iV ((gd l i).Hi)), (iV (((gd l i).Agg).From)), (iV (((gd l i).Agg).Count)), (iV (((gd l i).Agg).Sum)), (iV (((gd l i).Agg).Min)), (iV (((gd l i).Agg).Max)), (iV (((gd l i).Agg).First)), (iV (((gd l i).Agg).Last))]), (kPt0 w0 (aggC ((gd l i).Agg))), (kEq (.agg (aggA ((gd l i).Agg)))), (kEq (.agg #[(iV ((gd l i).Tier)), (iV ((gd l i).Lo)), (iV ((gd l i).Hi)), (iV (((gd l i).Agg).From)), (iV (((gd l i).Agg).Count)), (iV (((gd l i).Agg).Sum)), (iV (((gd l i).Agg).Min)), (iV (((gd l i).Agg).Max)), (iV (((gd l i).Agg).First)), (iV (((gd l i).Agg).Last))])), (kSlU [23] winE ([(gd l i)])), (fun (D : Nat → Bool) (v51 : Value) (w : World) => (D 23 = true → St w0 w [rowT 33 winE v51 (l.take (i + 1))])), (fun (D : Nat → Bool) (v51 : Value) (w : World) => (D 23 = true → St w0 w [rowT 33 winE v51 (l.take (i + 1))]))] ⟨mEq, mEq, mEq, mPt0, mPt0, mEq, mEq, mEq, mPt0, mPt0, mEq, mEq, mEq, mPt0, mPt0, mEq, mEq, mEq, mPt0, mPt0, mEq, mEq, (mSlUs (by decide)), (fun D D' v w w' hD hb h2 => (fun x0 => (h2 ((hD 23 (by decide)).symm.trans x0)).ext hb)), (fun D D' v w w' hD hb h2 => (fun x0 => (h2 ((hD 23 (by decide)).symm.trans x0)).ext hb)), trivial⟩ (by kernel_rfl) rfl (by kernel_rfl) ⟨hst.drewW.sub (.cons _ .slnil), (fun _ => hst.drewW)⟩ (fun hM => ⟨?_, ?_, ?_, ?_, ?_, ?_, ?_, ?_, ?_, ?_, ?_, ?_, ?_, ?_, ?_, ?_, ?_, ?_, ?_, ?_, ?_, ?_, ?_, ?_, ?_, trivial⟩) ?_))))
  ·rintro D ρo wo nD eD cD jD aD ⟨f13, _⟩
   exact go_plain (op_move vo (f13.trans q31_13) (kN0 (i := 0) hM (by decide) (by exact jD) (by exact rfl)))
  ·rintro D ρo wo nD eD cD jD aD ⟨f2, _⟩
   exact go_plain (op_move v_l (f2.trans q31_2) (kN0 (i := 1) hM (by decide) (by exact jD) (by exact rfl)))
  ·rintro D ρo wo nD eD cD jD aD ⟨f14, _⟩
   exact go_plain (op_move (iV (i : Int)) (f14.trans q31_14) (kN0 (i := 2) hM (by decide) (by exact jD) (by exact rfl)))
  ·rintro D ρo wo nD eD cD jD aD ⟨f41, f42, _⟩
   refine go_plain (op_indexAddrD (E := winE) (xs := l) i Try.underlying24 Try.sizeOf31 f41 h_l f42 (by omega) (by omega) (fun a54 o55 p56 => ?_))
   exact (kN0 (i := 3) hM (by decide) (by exact jD) (by exact ⟨_, _, rfl, p56⟩))
  ·rintro D ρo wo nD eD cD jD aD ⟨f43, _⟩
   obtain ⟨a57, o58, e59, p60⟩ := f43
   exact go_plain (op_fieldAddr (s := 0) Try.underlying31 rfl rfl Try.sizeOf3 e59 (kN0 (i := 4) hM (by decide) (by exact jD) (by exact ⟨_, _, rfl, p60⟩)))
  ·rintro D ρo wo nD eD cD jD aD ⟨f44, _⟩
   have hst := jD.2 (not_yet nD (fun hm => (cD 21 5 (cD 22 21 (cD 23 22 hm (by kernel_rfl)) (by kernel_rfl)) (by kernel_rfl))))
   replace hst : St w0 wo [rowT 33 winE vo (l.take i)] := hst
   obtain ⟨a61, o62, e63, p64⟩ := f44
   exact go_plain (op_load1 (u := (iV ((gd l i).Tier))) Try.isAgg3 e63 (p64.below hst.below) (kN0 (i := 5) hM (by decide) (by exact jD) (by exact rfl)))
  ·rintro D ρo wo nD eD cD jD aD ⟨f2, _⟩
   exact go_plain (op_move v_l (f2.trans q31_2) (kN0 (i := 6) hM (by decide) (by exact jD) (by exact rfl)))
  ·rintro D ρo wo nD eD cD jD aD ⟨f14, _⟩
   exact go_plain (op_move (iV (i : Int)) (f14.trans q31_14) (kN0 (i := 7) hM (by decide) (by exact jD) (by exact rfl)))
  ·rintro D ρo wo nD eD cD jD aD ⟨f46, f47, _⟩
   refine go_plain (op_indexAddrD (E := winE) (xs := l) i Try.underlying24 Try.sizeOf31 f46 h_l f47 (by omega) (by omega) (fun a65 o66 p67 => ?_))
   exact (kN0 (i := 8) hM (by decide) (by exact jD) (by exact ⟨_, _, rfl, p67⟩))
  ·rintro D ρo wo nD eD cD jD aD ⟨f48, _⟩
   obtain ⟨a68, o69, e70, p71⟩ := f48
   exact go_plain (op_fieldAddr (s := 0) Try.underlying31 rfl rfl Try.sizeOf2 e70 (kN0 (i := 9) hM (by decide) (by exact jD) (by exact ⟨_, _, rfl, (p71.drop 1)⟩)))
  ·rintro D ρo wo nD eD cD jD aD ⟨f49, _⟩
   have hst := jD.2 (not_yet nD (fun hm => (cD 21 10 (cD 22 21 (cD 23 22 hm (by kernel_rfl)) (by kernel_rfl)) (by kernel_rfl))))
   replace hst : St w0 wo [rowT 33 winE vo (l.take i)] := hst
   obtain ⟨a72, o73, e74, p75⟩ := f49
   exact go_plain (op_load1 (u := (iV ((gd l i).Lo))) Try.isAgg2 e74 (p75.below hst.below) (kN0 (i := 10) hM (by decide) (by exact jD) (by exact rfl)))
  ·rintro D ρo wo nD eD cD jD aD ⟨f2, _⟩
   exact go_plain (op_move v_l (f2.trans q31_2) (kN0 (i := 11) hM (by decide) (by exact jD) (by exact rfl)))
  ·rintro D ρo wo nD eD cD jD aD ⟨f14, _⟩
   exact go_plain (op_move (iV (i : Int)) (f14.trans q31_14) (kN0 (i := 12) hM (by decide) (by exact jD) (by exact rfl)))
  ·rintro D ρo wo nD eD cD jD aD ⟨f51, f52, _⟩
   refine go_plain (op_indexAddrD (E := winE) (xs := l) i Try.underlying24 Try.sizeOf31 f51 h_l f52 (by omega) (by omega) (fun a76 o77 p78 => ?_))
   exact (kN0 (i := 13) hM (by decide) (by exact jD) (by exact ⟨_, _, rfl, p78⟩))
  ·rintro D ρo wo nD eD cD jD aD ⟨f53, _⟩
   obtain ⟨a79, o80, e81, p82⟩ := f53
   exact go_plain (op_fieldAddr (s := 0) Try.underlying31 rfl rfl Try.sizeOf2 e81 (kN0 (i := 14) hM (by decide) (by exact jD) (by exact ⟨_, _, rfl, (p82.drop 2)⟩)))
  ·rintro D ρo wo nD eD cD jD aD ⟨f54, _⟩
   have hst := jD.2 (not_yet nD (fun hm => (cD 21 15 (cD 22 21 (cD 23 22 hm (by kernel_rfl)) (by kernel_rfl)) (by kernel_rfl))))
   replace hst : St w0 wo [rowT 33 winE vo (l.take i)] := hst
   obtain ⟨a83, o84, e85, p86⟩ := f54
   exact go_plain (op_load1 (u := (iV ((gd l i).Hi))) Try.isAgg2 e85 (p86.below hst.below) (kN0 (i := 15) hM (by decide) (by exact jD) (by exact rfl)))
  ·rintro D ρo wo nD eD cD jD aD ⟨f2, _⟩
   exact go_plain (op_move v_l (f2.trans q31_2) (kN0 (i := 16) hM (by decide) (by exact jD) (by exact rfl)))
  ·rintro D ρo wo nD eD cD jD aD ⟨f14, _⟩
   exact go_plain (op_move (iV (i : Int)) (f14.trans q31_14) (kN0 (i := 17) hM (by decide) (by exact jD) (by exact rfl)))
  ·rintro D ρo wo nD eD cD jD aD ⟨f56, f57, _⟩
   refine go_plain (op_indexAddrD (E := winE) (xs := l) i Try.underlying24 Try.sizeOf31 f56 h_l f57 (by omega) (by omega) (fun a87 o88 p89 => ?_))
   exact (kN0 (i := 18) hM (by decide) (by exact jD) (by exact ⟨_, _, rfl, p89⟩))
  ·rintro D ρo wo nD eD cD jD aD ⟨f58, _⟩
   obtain ⟨a90, o91, e92, p93⟩ := f58
   exact go_plain (op_fieldAddr (s := 6) Try.underlying31 rfl rfl Try.sizeOf29 e92 (kN0 (i := 19) hM (by decide) (by exact jD) (by exact ⟨_, _, rfl, (p93.drop 3)⟩)))
  ·rintro D ρo wo nD eD cD jD aD ⟨f59, _⟩
   have hst := jD.2 (not_yet nD (fun hm => (cD 21 20 (cD 22 21 (cD 23 22 hm (by kernel_rfl)) (by kernel_rfl)) (by kernel_rfl))))
   replace hst : St w0 wo [rowT 33 winE vo (l.take i)] := hst
   obtain ⟨a94, o95, e96, p97⟩ := f59
   exact go_plain (op_loadN (cs := (aggC ((gd l i).Agg))) Try.isAgg29 Try.sizeOf29 e96 (Pt.of (p97.below hst.below) rfl) rfl (kN0 (i := 20) hM (by decide) (by exact jD) (by exact rfl)))
  ·rintro D ρo wo nD eD cD jD aD ⟨f45, f50, f55, f60, _⟩
   exact go_plain (op_build (r := (.agg #[(iV ((gd l i).Tier)), (iV ((gd l i).Lo)), (iV ((gd l i).Hi)), (iV (((gd l i).Agg).From)), (iV (((gd l i).Agg).Count)), (iV (((gd l i).Agg).Sum)), (iV (((gd l i).Agg).Min)), (iV (((gd l i).Agg).Max)), (iV (((gd l i).Agg).First)), (iV (((gd l i).Agg).Last))])) (evp_cons (v := (iV ((gd l i).Tier))) f45 (evp_cons (v := (iV ((gd l i).Lo))) f50 (evp_cons (v := (iV ((gd l i).Hi))) f55 (evp_cons (v := (.agg (aggA ((gd l i).Agg)))) f60 evp_nil)))) (by simp [Instr.build, Instr.fill, Value.cells, Try.runUnderlying33, Try.zeroValue33]) (kN0 (i := 21) hM (by decide) (by exact jD) (by exact rfl)))
  ·rintro D ρo wo nD eD cD jD aD ⟨f61, _⟩
   have hst := jD.2 (not_yet nD (fun hm => (cD 23 22 hm (by kernel_rfl))))
   replace hst : St w0 wo [rowT 33 winE vo (l.take i)] := hst
   have hst := St.start wo
   refine go_plain (op_buildSlice (E := winE) [(gd l i)] hst Try.underlying27 Try.sizeOf33 Try.zeroValue33 (evp_cons (v := (.agg #[(iV ((gd l i).Tier)), (iV ((gd l i).Lo)), (iV ((gd l i).Hi)), (iV (((gd l i).Agg).From)), (iV (((gd l i).Agg).Count)), (iV (((gd l i).Agg).Sum)), (iV (((gd l i).Agg).Min)), (iV (((gd l i).Agg).Max)), (iV (((gd l i).Agg).First)), (iV (((gd l i).Agg).Last))])) f61 evp_nil) (parts_cons rfl parts_nil) rfl (by decide) (fun v98 w99 hst => ?_))
   exact kN (i := 22) hM (by decide) hst.below (by exact ⟨(jD.1).ext hst.below, (fun x0 => (jD.2 x0).ext hst.below)⟩) (by exact fun _ => hst.sl 0 rfl)
  ·rintro D ρo wo nD eD cD jD aD ⟨f40, f62, _⟩
   have hst := jD.2 nD
   replace hst : St w0 wo [rowT 33 winE vo (l.take i)] := hst
   obtain ⟨v101, e102⟩ : ∃ x, ρo 62 = x := ⟨_, rfl⟩
   have hs100 := f62 (by intro m hm; obtain rfl := List.mem_singleton.1 hm; exact nD)
   replace hs100 : Sl wo winE v101 ([(gd l i)]) := e102 ▸ hs100
   refine go_plain (op_append (E := winE) (xs := (l.take i)) (ys := [(gd l i)]) (z := (.agg #[(iV 0), (iV 0), (iV 0), (iV 0), (iV 0), (iV 0), (iV 0), (iV 0), (iV 0), (iV 0)])) (bytes := 80) hst 0 rfl Try.underlying27 (by kernel_rfl) rfl f40 e102 hs100 (by first | omega | (simp only [List.length_cons, List.length_nil, List.length_take]; omega)) (by first | omega | (simp only [List.length_cons, List.length_nil, List.length_take]; omega)) (fun v103 w104 hst => ?_))
   replace hst : St w0 w104 [rowT 33 winE v103 (l.take (i + 1))] := by rw [show ((l.take i) ++ ([(gd l i)])) = (l.take (i + 1)) from (take_gd (by omega)).symm] at hst; exact hst
   have hI105 : stabIXs 23 [] D 0 [(kEq vo), (kEq v_l), (kEq (iV (i : Int))), (kPt0 w0 [(iV ((gd l i).Tier)), (iV ((gd l i).Lo)), (iV ((gd l i).Hi)), (iV (((gd l i).Agg).From)), (iV (((gd l i).Agg).Count)), (iV (((gd l i).Agg).Sum)), (iV (((gd l i).Agg).Min)), (iV (((gd l i).Agg).Max)), (iV (((gd l i).Agg).First)), (iV (((gd l i).Agg).Last))]), (kPt0 w0 [(iV ((gd l i).Tier)), (iV ((gd l i).Lo)), (iV ((gd l i).Hi)), (iV (((gd l i).Agg).From)), (iV (((gd l i).Agg).Count)), (iV (((gd l i).Agg).Sum)), (iV (((gd l i).Agg).Min)), (iV (((gd l i).Agg).Max)), (iV (((gd l i).Agg).First)), (iV (((gd l i).Agg).Last))]), (kEq (iV ((gd l i).Tier))), (kEq v_l), (kEq (iV (i : Int))), (kPt0 w0 [(iV ((gd l i).Tier)), (iV ((gd l i).Lo)), (iV ((gd l i).Hi)), (iV (((gd l i).Agg).From)), (iV (((gd l i).Agg).Count)), (iV (((gd l i).Agg).Sum)), (iV (((gd l i).Agg).Min)), (iV (((gd l i).Agg).Max)), (iV (((gd l i).Agg).First)), (iV (((gd l i).Agg).Last))]), (kPt0 w0 [(iV ((gd l i).Lo)), (iV ((gd l i).Hi)), (iV (((gd l i).Agg).From)), (iV (((gd l i).Agg).Count)), (iV (((gd l i).Agg).Sum)), (iV (((gd l i).Agg).Min)), (iV (((gd l i).Agg).Max)), (iV (((gd l i).Agg).First)), (iV (((gd l i).Agg).Last))]), (kEq (iV ((gd l i).Lo))), (kEq v_l), (kEq (iV (i : Int))), (kPt0 w0 [(iV ((gd l i).Tier)), (iV ((gd l i).Lo)), (iV ((gd l i).Hi)), (iV (((gd l i).Agg).From)), (iV (((gd l i).Agg).Count)), (iV (((gd l i).Agg).Sum)), (iV (((gd l i).Agg).Min)), (iV (((gd l i).Agg).Max)), (iV (((gd l i).Agg).First)), (iV (((gd l i).Agg).Last))]), (kPt0 w0 [(iV ((gd l i).Hi)), (iV (((gd l i).Agg).From)), (iV (((gd l i).Agg).Count)), (iV (((gd l i).Agg).Sum)), (iV (((gd l i).Agg).Min)), (iV (((gd l i).Agg).Max)), (iV (((gd l i).Agg).First)), (iV (((gd l i).Agg).Last))]), (kEq (iV ((gd l i).Hi))), (kEq v_l), (kEq (iV (i : Int))), (kPt0 w0 [(iV ((gd l i).Tier)), (iV ((gd l i).Lo)), (iV ((gd l i).Hi)), (iV (((gd l i).Agg).From)), (iV (((gd l i).Agg).Count)), (iV (((gd l i).Agg).Sum)), (iV (((gd l i).Agg).Min)), (iV (((gd l i).Agg).Max)), (iV (((gd l i).Agg).First)), (iV (((gd l i).Agg).Last))]), (kPt0 w0 (aggC ((gd l i).Agg))), (kEq (.agg (aggA ((gd l i).Agg)))), (kEq (.agg #[(iV ((gd l i).Tier)), (iV ((gd l i).Lo)), (iV ((gd l i).Hi)), (iV (((gd l i).Agg).From)), (iV (((gd l i).Agg).Count)), (iV (((gd l i).Agg).Sum)), (iV (((gd l i).Agg).Min)), (iV (((gd l i).Agg).Max)), (iV (((gd l i).Agg).First)), (iV (((gd l i).Agg).Last))])), (kSlU [23] winE ([(gd l i)])), (fun (D : Nat → Bool) (v51 : Value) (w : World) => (D 23 = true → St w0 w [rowT 33 winE v51 (l.take (i + 1))])), (fun (D : Nat → Bool) (v51 : Value) (w : World) => (D 23 = true → St w0 w [rowT 33 winE v51 (l.take (i + 1))]))] := ⟨Or.inr (Or.inr (Or.inr iEq)), Or.inr (Or.inr (Or.inr iEq)), Or.inr (Or.inr (Or.inr iEq)), Or.inr (Or.inr (Or.inr iPt0)), Or.inr (Or.inr (Or.inr iPt0)), Or.inr (Or.inr (Or.inr iEq)), Or.inr (Or.inr (Or.inr iEq)), Or.inr (Or.inr (Or.inr iEq)), Or.inr (Or.inr (Or.inr iPt0)), Or.inr (Or.inr (Or.inr iPt0)), Or.inr (Or.inr (Or.inr iEq)), Or.inr (Or.inr (Or.inr iEq)), Or.inr (Or.inr (Or.inr iEq)), Or.inr (Or.inr (Or.inr iPt0)), Or.inr (Or.inr (Or.inr iPt0)), Or.inr (Or.inr (Or.inr iEq)), Or.inr (Or.inr (Or.inr iEq)), Or.inr (Or.inr (Or.inr iEq)), Or.inr (Or.inr (Or.inr iPt0)), Or.inr (Or.inr (Or.inr iPt0)), Or.inr (Or.inr (Or.inr iEq)), Or.inr (Or.inr (Or.inr iEq)), Or.inr (Or.inr (Or.inr (iSlU (by decide)))), Or.inl rfl, Or.inr (Or.inr (Or.inl (not_yet nD (fun hm => (cD 24 23 hm (by kernel_rfl)))))), trivial⟩
   refine ⟨by exact ⟨hst.sub (.cons _ .slnil), (fun y0 => absurd y0 (fun h => Bool.noConfusion h))⟩, by exact (fun y0 => hst.sub (.cons_cons _ .slnil)), kX [] hI105 ?_⟩
   intro j d hj; cases hj
  ·rintro D ρo wo nD eD cD jD aD ⟨f63, _⟩
   obtain ⟨v106, e107⟩ : ∃ x, ρo 63 = x := ⟨_, rfl⟩
   have hh108 := aD 23 63 (eD 23 (by kernel_rfl)) rfl
   have hst : St w0 wo [rowT 33 winE v106 (l.take (i + 1))] := by have h := hh108 (eD 23 (by kernel_rfl)); rw [e107] at h; exact h
   exact go_plain (op_assign _ rfl (kN0 (i := 24) hM (by decide) (by exact jD) (by exact f63)))
  intro ρ109 w110 Dw110 hallw110 hJw110 hRw110 hkw110
  obtain ⟨v111, uw110_13⟩ : ∃ x, ρ109 13 = x := ⟨_, rfl⟩
  have hst : St w0 w110 [rowT 33 winE v111 (l.take (i + 1))] := by have h := hRw110 24 13 rfl; rw [uw110_13] at h; exact (h (hallw110 23 (show 23 < 25 from by decide)))
  have uw110_0 : ρ109 0 = v_t := (hkw110 0 rfl).trans q31_0
  have uw110_1 : ρ109 1 = v_h := (hkw110 1 rfl).trans q31_1
  have uw110_2 : ρ109 2 = v_l := (hkw110 2 rfl).trans q31_2
  have uw110_3 : ρ109 3 = v_gs := (hkw110 3 rfl).trans q31_3
  have uw110_4 : ρ109 4 = (iV fr) := (hkw110 4 rfl).trans q31_4
  have uw110_5 : ρ109 5 = (iV to) := (hkw110 5 rfl).trans q31_5
  have uw110_12 : ρ109 12 = (.bool false) := (hkw110 12 rfl).trans q31_12
  have uw110_14 : ρ109 14 = (iV (i : Int)) := (hkw110 14 rfl).trans q31_14
  have uw110_34 : ρ109 34 = (iV (i : Int)) := (hkw110 34 rfl).trans rfl
  have uw110_35 : ρ109 35 = v_l := (hkw110 35 rfl).trans rfl
  have uw110_36 : ρ109 36 = (iV (l.length : Int)) := (hkw110 36 rfl).trans rfl
  have uw110_37 : ρ109 37 = (.bool (decide ((i : Int) < (l.length : Int)))) := (hkw110 37 rfl).trans rfl
  refine block_n (then_n (cE_region rfl (s_cons (op_move (iV (i : Int)) uw110_14 (s_cons (op_add (k := .i64) (a := (i : Int)) (b := 1) ((i : Int) + 1) rfl rfl (xi64 (by omega) (by omega)) (s_cons (op_assign (iV ((i : Int) + 1)) rfl (s_nil (then_n ?_))))))))))
  exact ⟨_, ⟨v111, (i + 1), rfl, uw110_0, uw110_1, uw110_2, uw110_3, uw110_4, uw110_5, uw110_12, uw110_13, (congrArg iV (show ((i : Int) + 1) = _ from by omega)), hst, (by omega)⟩, (by simp only [id]; omega)⟩
 have c112 : ¬ ((i : Int) < (l.length : Int)) := of_decide_eq_false b35
 refine cE_cond false (congrArg Value.bool b35) (fun h => by cases h) (fun _ => ?_)
 refine cE_exit (then_x (then_x (block_hit (then_n (cE_seq ?_)))))
 have hTA : l.take i = l := List.take_of_length_le (by omega)
 replace hst : St w0 w34 [rowT 33 winE vo l] := by rw [hTA] at hst; exact hst
 refine cE_region rfl (s_cons (op_call Try.call8 evs_nil (c_told23 (w0 := w34)) ?_))
 rintro _ w113 ⟨rfl, hcall⟩
 refine ⟨_, rfl, ?_⟩
 have hst : St w0 w113 [rowT 33 winE vo l] := hst.call hcall
 refine s_cons (op_move (.bool true) rfl (s_yes 65 rfl rfl (op_move v_t q31_0 (s_yes 65 rfl rfl (op_call Try.call9 (evs_cons (v := v_t) rfl evs_nil) (c_Told (w0 := w113) (v_l := v_t) (l := t) (h_l := (h_t.below hst.below))) ?_)))))
 rintro _ w114 ⟨rfl, hcall⟩
 refine ⟨_, rfl, ?_⟩
 have hst : St w0 w114 [rowT 33 winE vo l] := hst.call hcall
 refine s_yes 65 rfl rfl (op_move v_t q31_0 (s_yes 65 rfl rfl (op_call Try.call10 (evs_cons (v := v_t) rfl evs_nil) (c_rTold (w0 := w114) (v_l := v_t) (l := t) (h_l := (h_t.below hst.below))) ?_)))
 rintro _ w115 ⟨rfl, hcall⟩
 refine ⟨_, rfl, ?_⟩
 have hst : St w0 w115 [rowT 33 winE vo l] := hst.call hcall
 refine s_yes 65 rfl rfl (op_eqlb (a := (toldJ t)) (b := (toldJ t)) Try.underlying4 rfl rfl (s_cons (op_pick_t (.bool ((toldJ t) == (toldJ t))) rfl rfl (s_cons (op_move (.bool ((toldJ t) == (toldJ t))) rfl (s_yes 72 rfl (congrArg Value.bool (show ((toldJ t) == (toldJ t)) = true from (beq_self_eq_true _))) (op_move v_t q31_0 (s_yes 72 rfl (congrArg Value.bool (show ((toldJ t) == (toldJ t)) = true from (beq_self_eq_true _))) (op_move v_h q31_1 ?_)))))))))
 refine s_yes 72 rfl (congrArg Value.bool (show ((toldJ t) == (toldJ t)) = true from (beq_self_eq_true _))) (op_call Try.call11 (evs_cons (v := v_t) rfl (evs_cons (v := v_h) rfl evs_nil)) (c_Content (w0 := w115) (v_l := v_t) (l := t) (h_l := (h_t.below hst.below)) (v_h := v_h) (h := h) (h_h := (h_h.below hst.below)) (hho := hho)) ?_)
 rintro _ w116 ⟨rfl, hcall⟩
 refine ⟨_, rfl, ?_⟩
 have hst : St w0 w116 [rowT 33 winE vo l] := hst.call hcall
 refine s_yes 72 rfl (congrArg Value.bool (show ((toldJ t) == (toldJ t)) = true from (beq_self_eq_true _))) (op_move v_t q31_0 (s_yes 72 rfl (congrArg Value.bool (show ((toldJ t) == (toldJ t)) = true from (beq_self_eq_true _))) (op_move v_h q31_1 (s_yes 72 rfl (congrArg Value.bool (show ((toldJ t) == (toldJ t)) = true from (beq_self_eq_true _))) (op_call Try.call12 (evs_cons (v := v_t) rfl (evs_cons (v := v_h) rfl evs_nil)) (c_rContent (w0 := w116) (v_l := v_t) (l := t) (h_l := (h_t.below hst.below)) (v_h := v_h) (h := h) (h_h := (h_h.below hst.below)) (hho := hho)) ?_)))))
 rintro _ w117 ⟨rfl, hcall⟩
 refine ⟨_, rfl, ?_⟩
 have hst : St w0 w117 [rowT 33 winE vo l] := hst.call hcall
 refine s_yes 72 rfl (congrArg Value.bool (show ((toldJ t) == (toldJ t)) = true from (beq_self_eq_true _))) (op_eql (k := .i64) (a := (contentC t h)) (b := (contentC t h)) rfl rfl (s_cons (op_pick_t (.bool (decide ((contentC t h) = (contentC t h)))) (congrArg Value.bool (show ((toldJ t) == (toldJ t)) = true from (beq_self_eq_true _))) rfl (s_cons (op_move (.bool (decide ((contentC t h) = (contentC t h)))) rfl ?_)))))
 refine s_yes 81 rfl (congrArg Value.bool (show (decide ((contentC t h) = (contentC t h))) = true from (decide_eq_true rfl))) (op_move v_h q31_1 (s_yes 81 rfl (congrArg Value.bool (show (decide ((contentC t h) = (contentC t h))) = true from (decide_eq_true rfl))) (op_move vo q31_13 (s_yes 81 rfl (congrArg Value.bool (show (decide ((contentC t h) = (contentC t h))) = true from (decide_eq_true rfl))) (op_move (iV fr) q31_4 ?_)))))
 refine s_yes 81 rfl (congrArg Value.bool (show (decide ((contentC t h) = (contentC t h))) = true from (decide_eq_true rfl))) (op_move (iV to) q31_5 (s_yes 81 rfl (congrArg Value.bool (show (decide ((contentC t h) = (contentC t h))) = true from (decide_eq_true rfl))) (op_call Try.call13 (evs_cons (v := v_h) rfl (evs_cons (v := vo) rfl (evs_cons (v := (iV fr)) rfl (evs_cons (v := (iV to)) rfl evs_nil)))) (c_Answer (w0 := w117) (v_h := v_h) (h := h) (h_h := (h_h.below hst.below)) (v_ws := vo) (ws := l) (h_ws := (hst.sl 0 rfl)) (fr := fr) (to := to) (hho := hho) (hwo := hwo) (hhl := (by omega)) (fr0 := (by omega)) (to0 := (by omega)) (fr1 := (by omega)) (to1 := (by omega))) ?_)))
 rintro _ w118 ⟨rfl, hcall⟩
 refine ⟨_, rfl, ?_⟩
 have hst : St w0 w118 [rowT 33 winE vo l] := hst.call hcall
 refine s_yes 81 rfl (congrArg Value.bool (show (decide ((contentC t h) = (contentC t h))) = true from (decide_eq_true rfl))) (op_move v_h q31_1 (s_yes 81 rfl (congrArg Value.bool (show (decide ((contentC t h) = (contentC t h))) = true from (decide_eq_true rfl))) (op_move vo q31_13 (s_yes 81 rfl (congrArg Value.bool (show (decide ((contentC t h) = (contentC t h))) = true from (decide_eq_true rfl))) (op_call Try.call15 (evs_cons (v := vo) rfl evs_nil) (c_of (w0 := w118) (v_l := vo) (l := l) (h_l := (hst.sl 0 rfl)) (hll := (by omega))) ?_)))))
 rintro _ w120 ⟨r119, rfl, hcall⟩
 refine ⟨_, rfl, ?_⟩
 have hst : St w0 w120 [rowT 70 winE r119 l, rowT 33 winE vo l] := hst.call hcall
 refine s_yes 81 rfl (congrArg Value.bool (show (decide ((contentC t h) = (contentC t h))) = true from (decide_eq_true rfl))) (op_move (iV fr) q31_4 (s_yes 81 rfl (congrArg Value.bool (show (decide ((contentC t h) = (contentC t h))) = true from (decide_eq_true rfl))) (op_move (iV to) q31_5 (s_yes 81 rfl (congrArg Value.bool (show (decide ((contentC t h) = (contentC t h))) = true from (decide_eq_true rfl))) (op_call Try.call14 (evs_cons (v := v_h) rfl (evs_cons (v := r119) rfl (evs_cons (v := (iV fr)) rfl (evs_cons (v := (iV to)) rfl evs_nil)))) (c_rAnswer (w0 := w120) (v_h := v_h) (h := h) (h_h := (h_h.below hst.below)) (v_ws := r119) (ws := l) (h_ws := (hst.sl 0 rfl)) (fr := fr) (to := to) (hho := hho) (hwo := hwo) (hhl := (by omega)) (fr0 := (by omega)) (to0 := (by omega)) (fr1 := (by omega)) (to1 := (by omega))) ?_)))))
 rintro _ w121 ⟨rfl, hcall⟩
 refine ⟨_, rfl, ?_⟩
 have hst : St w0 w121 [rowT 70 winE r119 l, rowT 33 winE vo l] := hst.call hcall
 refine s_yes 81 rfl (congrArg Value.bool (show (decide ((contentC t h) = (contentC t h))) = true from (decide_eq_true rfl))) (op_eql (k := .i64) (a := (answerC h l fr to)) (b := (answerC h l fr to)) rfl rfl (s_cons (op_pick_t (.bool (decide ((answerC h l fr to) = (answerC h l fr to)))) (congrArg Value.bool (show (decide ((contentC t h) = (contentC t h))) = true from (decide_eq_true rfl))) rfl ?_)))
 refine s_cons (op_move (.bool (decide ((answerC h l fr to) = (answerC h l fr to)))) rfl (s_yes 95 rfl (congrArg Value.bool (show (decide ((answerC h l fr to) = (answerC h l fr to))) = true from (decide_eq_true rfl))) (op_move v_gs q31_3 (s_yes 95 rfl (congrArg Value.bool (show (decide ((answerC h l fr to) = (answerC h l fr to))) = true from (decide_eq_true rfl))) (op_call Try.call16 (evs_cons (v := v_gs) rfl evs_nil) (c_Grants (w0 := w121) (v_l := v_gs) (l := gs) (h_l := (h_gs.below hst.below))) ?_)))))
 rintro _ w122 ⟨rfl, hcall⟩
 refine ⟨_, rfl, ?_⟩
 have hst : St w0 w122 [rowT 70 winE r119 l, rowT 33 winE vo l] := hst.call hcall
 refine s_yes 95 rfl (congrArg Value.bool (show (decide ((answerC h l fr to) = (answerC h l fr to))) = true from (decide_eq_true rfl))) (op_move v_gs q31_3 (s_yes 95 rfl (congrArg Value.bool (show (decide ((answerC h l fr to) = (answerC h l fr to))) = true from (decide_eq_true rfl))) (op_call Try.call17 (evs_cons (v := v_gs) rfl evs_nil) (c_rGrants (w0 := w122) (v_l := v_gs) (l := gs) (h_l := (h_gs.below hst.below))) ?_)))
 rintro _ w123 ⟨rfl, hcall⟩
 refine ⟨_, rfl, ?_⟩
 have hst : St w0 w123 [rowT 70 winE r119 l, rowT 33 winE vo l] := hst.call hcall
 refine s_yes 95 rfl (congrArg Value.bool (show (decide ((answerC h l fr to) = (answerC h l fr to))) = true from (decide_eq_true rfl))) (op_eql (k := .i64) (a := (grantsC gs)) (b := (grantsC gs)) rfl rfl (s_cons (op_pick_t (.bool (decide ((grantsC gs) = (grantsC gs)))) (congrArg Value.bool (show (decide ((answerC h l fr to) = (answerC h l fr to))) = true from (decide_eq_true rfl))) rfl (s_cons (op_assign (.bool (decide ((grantsC gs) = (grantsC gs)))) rfl ?_)))))
 refine s_nil (then_n (cE_ret (post_r _ (res1 (v := (.bool true)) (congrArg Value.bool (show (decide ((grantsC gs) = (grantsC gs))) = true from (decide_eq_true rfl)))) ?_)))
 exact ⟨rfl, hst.bare⟩

end Go.Proofs.Ytldfnkhccaglmaa
