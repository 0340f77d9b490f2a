/- twinkeepref17.Answer -/
import Derived.Test.YtldfnkhccaglmaaXLA
import Derived.Test.YtldfnkhccaglmaaXW74
namespace Go.Proofs.Ytldfnkhccaglmaa
open Go.RowKit

set_option maxRecDepth 8000 in
set_option maxHeartbeats 8000000 in
theorem c_rAnswer (w0 : World) (v_h : Value) (h : List Sample) (h_h : Sl w0 sampE v_h h) (v_ws : Value) (ws : List Win) (h_ws : Sl w0 winE v_ws ws) (fr : Int) (to : Int) (hho : ∀ s ∈ h, s.ok) (hwo : ∀ w ∈ ws, w.ok) (hhl : h.length ≤ 1000000) (fr0 : -9223372036854775808 ≤ fr) (to0 : -9223372036854775808 ≤ to) (fr1 : fr ≤ 9223372036854775807) (to1 : to ≤ 9223372036854775807) :
  Calls Try.prog 14 #[v_h, v_ws, (iV fr), (iV to)] w0 fun e w' => e = .returned (iV (answerC h ws fr to)) ∧ St w0 w' [] := by
 refine calls_E (n := 223) (ts := [8]) Try.func14 rfl rfl rfl (by simp) ?_
 have hst := St.start w0
 refine cE_seq (cE_region rfl (s_cons (op_assign (iV 0) rfl (s_nil (then_n (cE_seq (cE_seq (cE_region rfl (s_cons (op_assign (iV 0) rfl (s_nil (then_n (cE_block (cE_loop (fun (m : Nat) (ρ : Env) (w : World) => ∃ (i : Nat), m = ws.length - i ∧ ρ 0 = v_h ∧ ρ 1 = v_ws ∧ ρ 2 = (iV fr) ∧ ρ 3 = (iV to) ∧ ρ 9 = (iV (i : Int)) ∧ St w0 w [] ∧ (i ≤ ws.length) ∧ ((ws.take i).any (fun (y : Win) => !(mayW y)) = false)) id _ ⟨0, rfl, rfl, rfl, rfl, rfl, (congrArg iV (show 0 = _ from by omega)), hst, (by omega), (by first | rfl | exact may_stepR (by omega) hM (mayW_yes (by omega) (by assumption) (by omega)))⟩ ?_))))))))))))))
 rintro m2 ρ3 w4 ⟨i, hm2, q1_0, q1_1, q1_2, q1_3, q1_9, hst, hi, hM⟩
 have hlen := h_ws.len
 have hlen2 := h_h.len
 refine cE_seq (cE_seq (cE_region rfl (s_cons (op_move (iV (i : Int)) q1_9 (s_cons (op_move v_ws q1_1 (s_cons (op_len (E := winE) (xs := ws) Try.underlying38 rfl h_ws (s_cons (op_lss (k := .i64) (a := (i : Int)) (b := (ws.length : Int)) rfl rfl (s_nil (then_n ?_))))))))))))
 rcases Bool.eq_false_or_eq_true (decide ((i : Int) < (ws.length : Int))) with b5 | b5
 ·have c6 : (i : Int) < (ws.length : Int) := of_decide_eq_true b5
  refine cE_cond true (congrArg Value.bool b5) (fun _ => ?_) (fun h => by cases h)
  refine cE_skip (then_n (cE_seq (cE_block (cE_seq ?_))))
  have hwi : (gd ws i).ok := by rw [gd_eq (by omega)]; exact hwo _ (List.getElem_mem _)
  have hwr := width_r (gd ws i).Tier
  have hx1 : i64R (gd ws i).Tier := hwi.1
  refine cE_region rfl (s_cons (op_move v_ws q1_1 (s_cons (op_move (iV (i : Int)) q1_9 (s_cons (op_indexAddrD (E := winE) (xs := ws) i Try.underlying38 Try.sizeOf70 rfl h_ws rfl (by omega) (by omega) (fun a7 o8 p9 => ?_)))))))
  refine s_cons (op_loadN (cs := [(iV ((gd ws i).Tier)), (iV ((gd ws i).Lo)), (iV ((gd ws i).Hi)), (iV (((gd ws i).Agg).From)), (iV (((gd ws i).Agg).Count)), (iV (((gd ws i).Agg).Sum)), (iV (((gd ws i).Agg).Min)), (iV (((gd ws i).Agg).Max)), (iV (((gd ws i).Agg).First)), (iV (((gd ws i).Agg).Last))]) Try.isAgg70 Try.sizeOf70 rfl (Pt.of (p9.below hst.below) rfl) rfl (s_cons (op_alloc (cs := #[(iV 0), (iV 0), (iV 0), (iV 0), (iV 0), (iV 0), (iV 0), (iV 0), (iV 0), (iV 0)]) hst Try.zeroValue70 rfl (fun g10 w11 hst _ => ?_))))
  replace hst : St w0 w11 [.blk g10 70 #[(iV 0), (iV 0), (iV 0), (iV 0), (iV 0), (iV 0), (iV 0), (iV 0), (iV 0), (iV 0)]] := hst
  refine s_cons0 (op_storeAll hst 0 rfl Try.sizeOf70 rfl rfl rfl rfl (by simp [Value.oneCell']) (fun w12 hst => ?_))
  replace hst : St w0 w12 [.blk g10 70 #[(iV ((gd ws i).Tier)), (iV ((gd ws i).Lo)), (iV ((gd ws i).Hi)), (iV (((gd ws i).Agg).From)), (iV (((gd ws i).Agg).Count)), (iV (((gd ws i).Agg).Sum)), (iV (((gd ws i).Agg).Min)), (iV (((gd ws i).Agg).Max)), (iV (((gd ws i).Agg).First)), (iV (((gd ws i).Agg).Last))]] := hst
  refine s_nil (then_n (cE_seq ?_))
  obtain ⟨g13, hg14⟩ : ∃ x : Bool, x = !(decide (((gd ws i).Tier) < 0)) := ⟨_, rfl⟩
  obtain ⟨g15, hg16⟩ : ∃ x : Bool, x = ((decide (((gd ws i).Tier) < 0)) || (decide (3 < ((gd ws i).Tier)))) := ⟨_, rfl⟩
  obtain ⟨g18, hg19⟩ : ∃ x : Bool, x = (g15 || (!(mayA ((gd ws i).Agg)))) := ⟨_, rfl⟩
  obtain ⟨g21, hg22⟩ : ∃ x : Bool, x = (g18 || (!decide ((floorA (((gd ws i).Agg).From) ((gd ws i).Tier)) = (((gd ws i).Agg).From)))) := ⟨_, rfl⟩
  obtain ⟨g23, hg24⟩ : ∃ x : Bool, x = (g21 || (decide (((gd ws i).Lo) < (((gd ws i).Agg).From)))) := ⟨_, rfl⟩
  obtain ⟨g25, hg26⟩ : ∃ x : Bool, x = (g23 || (decide (((gd ws i).Hi) ≤ ((gd ws i).Lo)))) := ⟨_, rfl⟩
  obtain ⟨g28, hg29⟩ : ∃ x : Bool, x = (g25 || (decide (((((gd ws i).Agg).From) + (widthA ((gd ws i).Tier))) < ((gd ws i).Hi)))) := ⟨_, rfl⟩
  refine cE_regionM (fun (D : Nat → Bool) (w : World) => St w0 w [.blk g10 70 #[(iV ((gd ws i).Tier)), (iV ((gd ws i).Lo)), (iV ((gd ws i).Hi)), (iV (((gd ws i).Agg).From)), (iV (((gd ws i).Agg).Count)), (iV (((gd ws i).Agg).Sum)), (iV (((gd ws i).Agg).Min)), (iV (((gd ws i).Agg).Max)), (iV (((gd ws i).Agg).First)), (iV (((gd ws i).Agg).Last))]] ∧ (St w0 w [.blk g10 70 #[(iV ((gd ws i).Tier)), (iV ((gd ws i).Lo)), (iV ((gd ws i).Hi)), (iV (((gd ws i).Agg).From)), (iV (((gd ws i).Agg).Count)), (iV (((gd ws i).Agg).Sum)), (iV (((gd ws i).Agg).Min)), (iV (((gd ws i).Agg).Max)), (iV (((gd ws i).Agg).First)), (iV (((gd ws i).Agg).Last))]])) [[(10, none)], [(30, some 0)], [(31, some 1)], [(32, some 2)], [(10, none), (33, some 3)], [(34, some 4), (33, some 3)], [(35, some 5), (33, some 3)], [(33, some 3), (36, some 6)], [(37, some 7)], [(10, none), (38, some 8)], [(39, some 9), (38, some 8)], [(40, some 10), (38, some 8)], [(41, some 11), (38, some 8)], [(38, some 8), (42, some 12)], [(43, some 13)], [(10, none), (44, some 14)], [(45, some 15), (44, some 14)], [(46, some 16), (44, some 14)], [(10, none), (44, some 14)], [(48, some 18), (44, some 14)], [(47, some 17), (49, some 19), (44, some 14)], [(10, none), (44, some 14)], [(51, some 21), (44, some 14)], [(52, some 22), (44, some 14)], [(50, some 20), (53, some 23), (44, some 14)], [(44, some 14), (54, some 24)], [(55, some 25)], [(10, none), (56, some 26)], [(57, some 27), (56, some 26)], [(10, none), (56, some 26)], [(59, some 29), (56, some 26)], [(60, some 30), (56, some 26)], [(58, some 28), (61, some 31), (56, some 26)], [(56, some 26), (62, some 32)], [(63, some 33)], [(10, none), (64, some 34)], [(65, some 35), (64, some 34)], [(10, none), (64, some 34)], [(67, some 37), (64, some 34)], [(66, some 36), (68, some 38), (64, some 34)], [(64, some 34), (69, some 39)], [(70, some 40)], [(10, none), (71, some 41)], [(72, some 42), (71, some 41)], [(10, none), (71, some 41)], [(74, some 44), (71, some 41)], [(75, some 45), (71, some 41)], [(10, none), (71, some 41)], [(77, some 47), (71, some 41)], [(78, some 48), (71, some 41)], [(76, some 46), (79, some 49), (71, some 41)], [(73, some 43), (80, some 50), (71, some 41)], [(71, some 41), (81, some 51)]] [] [(kEq (.pointer (some ⟨g10, (0 + 0), none⟩))), (kEq (iV ((gd ws i).Tier))), (kEq (.bool (decide (((gd ws i).Tier) < 0)))), (kEq (.bool (decide (((gd ws i).Tier) < 0)))), (kEq (bif g13 then (.pointer (some ⟨g10, (0 + 0), none⟩)) else undef)), (kEq (bif g13 then (iV ((gd ws i).Tier)) else undef)), (kEq (bif g13 then (.bool (decide (3 < ((gd ws i).Tier)))) else undef)), (kEq (.bool g15)), (kEq (.bool g15)), (kEq (bif (!g15) then (.pointer (some ⟨g10, (0 + 3), none⟩)) else undef)), (kEq (bif (!g15) then (.agg (aggA ((gd ws i).Agg))) else undef)), (kEq (bif (!g15) then (.bool (mayA ((gd ws i).Agg))) else undef)), (kEq (bif (!g15) then (.bool (!(mayA ((gd ws i).Agg)))) else undef)), (kEq (.bool g18)), (kEq (.bool g18)), (kEq (bif (!g18) then (.pointer (some ⟨g10, (0 + 3), none⟩)) else undef)), (kEq (bif (!g18) then (.pointer (some ⟨g10, ((0 + 3) + 0), none⟩)) else undef)), (kEq (bif (!g18) then (iV (((gd ws i).Agg).From)) else undef)), (kEq (bif (!g18) then (.pointer (some ⟨g10, (0 + 0), none⟩)) else undef)), (kEq (bif (!g18) then (iV ((gd ws i).Tier)) else undef)), (kEq (bif (!g18) then (iV (floorA (((gd ws i).Agg).From) ((gd ws i).Tier))) else undef)), (kEq (bif (!g18) then (.pointer (some ⟨g10, (0 + 3), none⟩)) else undef)), (kEq (bif (!g18) then (.pointer (some ⟨g10, ((0 + 3) + 0), none⟩)) else undef)), (kEq (bif (!g18) then (iV (((gd ws i).Agg).From)) else undef)), (kEq (bif (!g18) then (.bool (!decide ((floorA (((gd ws i).Agg).From) ((gd ws i).Tier)) = (((gd ws i).Agg).From)))) else undef)), (kEq (.bool g21)), (kEq (.bool g21)), (kEq (bif (!g21) then (.pointer (some ⟨g10, (0 + 1), none⟩)) else undef)), (kEq (bif (!g21) then (iV ((gd ws i).Lo)) else undef)), (kEq (bif (!g21) then (.pointer (some ⟨g10, (0 + 3), none⟩)) else undef)), (kEq (bif (!g21) then (.pointer (some ⟨g10, ((0 + 3) + 0), none⟩)) else undef)), (kEq (bif (!g21) then (iV (((gd ws i).Agg).From)) else undef)), (kEq (bif (!g21) then (.bool (decide (((gd ws i).Lo) < (((gd ws i).Agg).From)))) else undef)), (kEq (.bool g23)), (kEq (.bool g23)), (kEq (bif (!g23) then (.pointer (some ⟨g10, (0 + 1), none⟩)) else undef)), (kEq (bif (!g23) then (iV ((gd ws i).Lo)) else undef)), (kEq (bif (!g23) then (.pointer (some ⟨g10, (0 + 2), none⟩)) else undef)), (kEq (bif (!g23) then (iV ((gd ws i).Hi)) else undef)), (kEq (bif (!g23) then (.bool (decide (((gd ws i).Hi) ≤ ((gd ws i).Lo)))) else undef)), (kEq (.bool g25)), (kEq (.bool g25)), (kEq (bif (!g25) then (.pointer (some ⟨g10, (0 + 2), none⟩)) else undef)), (kEq (bif (!g25) then (iV ((gd ws i).Hi)) else undef)), (kEq (bif (!g25) then (.pointer (some ⟨g10, (0 + 3), none⟩)) else undef)), (kEq (bif (!g25) then (.pointer (some ⟨g10, ((0 + 3) + 0), none⟩)) else undef)), (kEq (bif (!g25) then (iV (((gd ws i).Agg).From)) else undef)), (kEq (bif (!g25) then (.pointer (some ⟨g10, (0 + 0), none⟩)) else undef)), (kEq (bif (!g25) then (iV ((gd ws i).Tier)) else undef)), (kEq (bif (!g25) then (iV (widthA ((gd ws i).Tier))) else undef)), (kEq (bif (!g25) then (iV ((((gd ws i).Agg).From) + (widthA ((gd ws i).Tier)))) else undef)), (kEq (bif (!g25) then (.bool (decide (((((gd ws i).Agg).From) + (widthA ((gd ws i).Tier))) < ((gd ws i).Hi)))) else undef)), (kEq (.bool g28))] ⟨mEq, mEq, mEq, mEq, mEq, mEq, mEq, mEq, mEq, mEq, mEq, mEq, mEq, mEq, mEq, mEq, mEq, mEq, mEq, mEq, mEq, mEq, mEq, mEq, mEq, mEq, mEq, mEq, mEq, mEq, mEq, mEq, mEq, mEq, mEq, mEq, mEq, mEq, mEq, mEq, mEq, mEq, mEq, mEq, mEq, mEq, mEq, mEq, mEq, mEq, mEq, mEq, mEq, trivial⟩ (by kernel_rfl) rfl (by kernel_rfl) ⟨hst.drewW.sub (.cons_cons _ .slnil), hst.drewW⟩ (fun hM => ⟨?_, ?_, ?_, ?_, ?_, ?_, ?_, ?_, ?_, ?_, ?_, ?_, ?_, ?_, ?_, ?_, ?_, ?_, ?_, ?_, ?_, ?_, ?_, ?_, ?_, ?_, ?_, ?_, ?_, ?_, ?_, ?_, ?_, ?_, ?_, ?_, ?_, ?_, ?_, ?_, ?_, ?_, ?_, ?_, ?_, ?_, ?_, ?_, ?_, ?_, ?_, ?_, ?_, trivial⟩) ?_
  ·rintro D ρo wo nD eD cD jD aD ⟨f10, _⟩
   exact go_plain (op_fieldAddr (s := 0) Try.underlying70 rfl rfl Try.sizeOf3 (f10.trans rfl) (kN0 (i := 0) hM (by decide) (by exact jD) (by exact rfl)))
  ·rintro D ρo wo nD eD cD jD aD ⟨f30, _⟩
   have hst := jD.2 
   replace hst : St w0 wo [.blk g10 70 #[(iV ((gd ws i).Tier)), (iV ((gd ws i).Lo)), (iV ((gd ws i).Hi)), (iV (((gd ws i).Agg).From)), (iV (((gd ws i).Agg).Count)), (iV (((gd ws i).Agg).Sum)), (iV (((gd ws i).Agg).Min)), (iV (((gd ws i).Agg).Max)), (iV (((gd ws i).Agg).First)), (iV (((gd ws i).Agg).Last))]] := hst
   exact go_plain (op_load1 (u := (iV ((gd ws i).Tier))) Try.isAgg3 f30 (hst.cell 0 rfl) (kN0 (i := 1) hM (by decide) (by exact jD) (by exact rfl)))
  ·rintro D ρo wo nD eD cD jD aD ⟨f31, _⟩
   exact go_plain (op_lss (k := .i64) (a := (gd ws i).Tier) (b := 0) f31 rfl (kN0 (i := 2) hM (by decide) (by exact jD) (by exact rfl)))
  ·rintro D ρo wo nD eD cD jD aD ⟨f32, _⟩
   exact go_plain (op_move (.bool (decide (((gd ws i).Tier) < 0))) f32 (kN0 (i := 3) hM (by decide) (by exact jD) (by exact rfl)))
  ·rintro D ρo wo nD eD cD jD aD ⟨f10, f33, _⟩
   refine go_lz 33 rfl ((gA_f f33).trans hg14.symm) ?_ (fun hc31 => (kN0 (i := 4) hM (by decide) (by exact jD) (by exact (gf hc31).symm)))
   intro hc31
   exact id (op_fieldAddr (s := 0) Try.underlying70 rfl rfl Try.sizeOf3 (f10.trans rfl) (kN0 (i := 4) hM (by decide) (by exact jD) (by exact (gt hc31).symm)))
  ·rintro D ρo wo nD eD cD jD aD ⟨f34, f33, _⟩
   refine go_lz 33 rfl ((gA_f f33).trans hg14.symm) ?_ (fun hc32 => (kN0 (i := 5) hM (by decide) (by exact jD) (by exact (gf hc32).symm)))
   intro hc32
   have hst := jD.2 
   replace hst : St w0 wo [.blk g10 70 #[(iV ((gd ws i).Tier)), (iV ((gd ws i).Lo)), (iV ((gd ws i).Hi)), (iV (((gd ws i).Agg).From)), (iV (((gd ws i).Agg).Count)), (iV (((gd ws i).Agg).Sum)), (iV (((gd ws i).Agg).Min)), (iV (((gd ws i).Agg).Max)), (iV (((gd ws i).Agg).First)), (iV (((gd ws i).Agg).Last))]] := hst
   exact id (op_load1 (u := (iV ((gd ws i).Tier))) Try.isAgg3 (f34.trans (gt hc32)) (hst.cell 0 rfl) (kN0 (i := 5) hM (by decide) (by exact jD) (by exact (gt hc32).symm)))
  ·rintro D ρo wo nD eD cD jD aD ⟨f35, f33, _⟩
   refine go_lz 33 rfl ((gA_f f33).trans hg14.symm) ?_ (fun hc33 => (kN0 (i := 6) hM (by decide) (by exact jD) (by exact (gf hc33).symm)))
   intro hc33
   exact id (op_gtr (k := .i64) (a := (gd ws i).Tier) (b := 3) (f35.trans (gt hc33)) rfl (kN0 (i := 6) hM (by decide) (by exact jD) (by exact (gt hc33).symm)))
  ·rintro D ρo wo nD eD cD jD aD ⟨f33, f36, _⟩
   refine go_plain (op_pick_or f33 rfl f36 (fun hp => (hg14.trans (congrArg (! ·) hp))) ?_)
   exact (kN0 (i := 7) hM (by decide) (by exact jD) (by exact (congrArg Value.bool hg16.symm)))
  ·rintro D ρo wo nD eD cD jD aD ⟨f37, _⟩
   exact go_plain (op_move (.bool g15) f37 (kN0 (i := 8) hM (by decide) (by exact jD) (by exact rfl)))
  ·rintro D ρo wo nD eD cD jD aD ⟨f10, f38, _⟩
   refine go_lz 38 rfl (gA_f f38) ?_ (fun hc34 => (kN0 (i := 9) hM (by decide) (by exact jD) (by exact (gf hc34).symm)))
   intro hc34
   exact id (op_fieldAddr (s := 6) Try.underlying70 rfl rfl Try.sizeOf29 (f10.trans rfl) (kN0 (i := 9) hM (by decide) (by exact jD) (by exact (gt hc34).symm)))
  ·rintro D ρo wo nD eD cD jD aD ⟨f39, f38, _⟩
   refine go_lz 38 rfl (gA_f f38) ?_ (fun hc35 => (kN0 (i := 10) hM (by decide) (by exact jD) (by exact (gf hc35).symm)))
   intro hc35
   have hst := jD.2 
   replace hst : St w0 wo [.blk g10 70 #[(iV ((gd ws i).Tier)), (iV ((gd ws i).Lo)), (iV ((gd ws i).Hi)), (iV (((gd ws i).Agg).From)), (iV (((gd ws i).Agg).Count)), (iV (((gd ws i).Agg).Sum)), (iV (((gd ws i).Agg).Min)), (iV (((gd ws i).Agg).Max)), (iV (((gd ws i).Agg).First)), (iV (((gd ws i).Agg).Last))]] := hst
   exact id (op_loadN (cs := (aggC ((gd ws i).Agg))) Try.isAgg29 Try.sizeOf29 (f39.trans (gt (congrArg (! ·) (not_t hc35)))) (Pt.of ((hst.cell 0 rfl).drop 3) rfl) rfl (kN0 (i := 10) hM (by decide) (by exact jD) (by exact (gt hc35).symm)))
  ·rintro D ρo wo nD eD cD jD aD ⟨f40, f38, _⟩
   refine go_lz 38 rfl (gA_f f38) ?_ (fun hc36 => (kN0 (i := 11) hM (by decide) (by exact jD) (by exact (gf hc36).symm)))
   intro hc36
   have c37 : ¬ (((gd ws i).Tier) < 0) := of_decide_eq_false (or_l (hg16.symm.trans (not_t hc36)))
   have c38 : ¬ (3 < ((gd ws i).Tier)) := of_decide_eq_false (or_r (hg16.symm.trans (not_t hc36)))
   refine id (op_call Try.call30 (evs_cons (v := (.agg (aggA ((gd ws i).Agg)))) (f40.trans (gt (congrArg (! ·) (not_t hc36)))) evs_nil) (c_rMay (w0 := wo) (a := ((gd ws i).Agg))) ?_)
   rintro _ w39 ⟨rfl, hcall⟩
   refine ⟨_, rfl, ?_⟩
   exact kN (i := 11) hM (by decide) hcall.below (by exact ⟨(jD.1).ext hcall.below, (jD.2).ext hcall.below⟩) (by exact (gt hc36).symm)
  ·rintro D ρo wo nD eD cD jD aD ⟨f41, f38, _⟩
   refine go_lz 38 rfl (gA_f f38) ?_ (fun hc40 => (kN0 (i := 12) hM (by decide) (by exact jD) (by exact (gf hc40).symm)))
   intro hc40
   have c41 : ¬ (((gd ws i).Tier) < 0) := of_decide_eq_false (or_l (hg16.symm.trans (not_t hc40)))
   have c42 : ¬ (3 < ((gd ws i).Tier)) := of_decide_eq_false (or_r (hg16.symm.trans (not_t hc40)))
   exact id (op_not (b := mayA ((gd ws i).Agg)) (f41.trans (gt (congrArg (! ·) (not_t hc40)))) (kN0 (i := 12) hM (by decide) (by exact jD) (by exact (gt hc40).symm)))
  ·rintro D ρo wo nD eD cD jD aD ⟨f38, f42, _⟩
   refine go_plain (op_pick_or f38 rfl f42 (fun hp => (congrArg (! ·) hp)) ?_)
   exact (kN0 (i := 13) hM (by decide) (by exact jD) (by exact (congrArg Value.bool hg19.symm)))
  ·rintro D ρo wo nD eD cD jD aD ⟨f43, _⟩
   exact go_plain (op_move (.bool g18) f43 (kN0 (i := 14) hM (by decide) (by exact jD) (by exact rfl)))
  ·rintro D ρo wo nD eD cD jD aD ⟨f10, f44, _⟩
   refine go_lz 44 rfl (gA_f f44) ?_ (fun hc43 => (kN0 (i := 15) hM (by decide) (by exact jD) (by exact (gf hc43).symm)))
   intro hc43
   exact id (op_fieldAddr (s := 6) Try.underlying70 rfl rfl Try.sizeOf29 (f10.trans rfl) (kN0 (i := 15) hM (by decide) (by exact jD) (by exact (gt hc43).symm)))
  ·rintro D ρo wo nD eD cD jD aD ⟨f45, f44, _⟩
   refine go_lz 44 rfl (gA_f f44) ?_ (fun hc44 => (kN0 (i := 16) hM (by decide) (by exact jD) (by exact (gf hc44).symm)))
   intro hc44
   exact id (op_fieldAddr (s := 0) Try.underlying29 rfl rfl Try.sizeOf2 (f45.trans (gt (congrArg (! ·) (not_t hc44)))) (kN0 (i := 16) hM (by decide) (by exact jD) (by exact (gt hc44).symm)))
  ·rintro D ρo wo nD eD cD jD aD ⟨f46, f44, _⟩
   refine go_lz 44 rfl (gA_f f44) ?_ (fun hc45 => (kN0 (i := 17) hM (by decide) (by exact jD) (by exact (gf hc45).symm)))
   intro hc45
   have hst := jD.2 
   replace hst : St w0 wo [.blk g10 70 #[(iV ((gd ws i).Tier)), (iV ((gd ws i).Lo)), (iV ((gd ws i).Hi)), (iV (((gd ws i).Agg).From)), (iV (((gd ws i).Agg).Count)), (iV (((gd ws i).Agg).Sum)), (iV (((gd ws i).Agg).Min)), (iV (((gd ws i).Agg).Max)), (iV (((gd ws i).Agg).First)), (iV (((gd ws i).Agg).Last))]] := hst
   exact id (op_load1 (u := (iV (((gd ws i).Agg).From))) Try.isAgg2 (f46.trans (gt (congrArg (! ·) (not_t hc45)))) ((hst.cell 0 rfl).drop 3) (kN0 (i := 17) hM (by decide) (by exact jD) (by exact (gt hc45).symm)))
  ·rintro D ρo wo nD eD cD jD aD ⟨f10, f44, _⟩
   refine go_lz 44 rfl (gA_f f44) ?_ (fun hc46 => (kN0 (i := 18) hM (by decide) (by exact jD) (by exact (gf hc46).symm)))
   intro hc46
   exact id (op_fieldAddr (s := 0) Try.underlying70 rfl rfl Try.sizeOf3 (f10.trans rfl) (kN0 (i := 18) hM (by decide) (by exact jD) (by exact (gt hc46).symm)))
  ·rintro D ρo wo nD eD cD jD aD ⟨f48, f44, _⟩
   refine go_lz 44 rfl (gA_f f44) ?_ (fun hc47 => (kN0 (i := 19) hM (by decide) (by exact jD) (by exact (gf hc47).symm)))
   intro hc47
   have hst := jD.2 
   replace hst : St w0 wo [.blk g10 70 #[(iV ((gd ws i).Tier)), (iV ((gd ws i).Lo)), (iV ((gd ws i).Hi)), (iV (((gd ws i).Agg).From)), (iV (((gd ws i).Agg).Count)), (iV (((gd ws i).Agg).Sum)), (iV (((gd ws i).Agg).Min)), (iV (((gd ws i).Agg).Max)), (iV (((gd ws i).Agg).First)), (iV (((gd ws i).Agg).Last))]] := hst
   exact id (op_load1 (u := (iV ((gd ws i).Tier))) Try.isAgg3 (f48.trans (gt (congrArg (! ·) (not_t hc47)))) (hst.cell 0 rfl) (kN0 (i := 19) hM (by decide) (by exact jD) (by exact (gt hc47).symm)))
  ·rintro D ρo wo nD eD cD jD aD ⟨f47, f49, f44, _⟩
   refine go_lz 44 rfl (gA_f f44) ?_ (fun hc48 => (kN0 (i := 20) hM (by decide) (by exact jD) (by exact (gf hc48).symm)))
   intro hc48
   have c49 : ¬ (((gd ws i).Tier) < 0) := of_decide_eq_false (or_l (hg16.symm.trans (or_l (hg19.symm.trans (not_t hc48)))))
   have c50 : ¬ (3 < ((gd ws i).Tier)) := of_decide_eq_false (or_r (hg16.symm.trans (or_l (hg19.symm.trans (not_t hc48)))))
   have c51 : (mayA ((gd ws i).Agg)) = true := (not_f (or_r (hg19.symm.trans (not_t hc48))))
   have hmp := mayA_true c51
   simp only [mayP] at hmp
   refine id (op_call Try.call31 (evs_cons (v := (iV (((gd ws i).Agg).From))) (f47.trans (gt (congrArg (! ·) (not_t hc48)))) (evs_cons (v := (iV ((gd ws i).Tier))) (f49.trans (gt (congrArg (! ·) (not_t hc48)))) evs_nil)) (c_rFloor (w0 := wo) (t := ((gd ws i).Agg).From) (k := (gd ws i).Tier) (t0 := (by omega)) (k0 := (by omega)) (t1 := (by omega)) (k1 := (by omega))) ?_)
   rintro _ w52 ⟨rfl, hcall⟩
   refine ⟨_, rfl, ?_⟩
   exact kN (i := 20) hM (by decide) hcall.below (by exact ⟨(jD.1).ext hcall.below, (jD.2).ext hcall.below⟩) (by exact (gt hc48).symm)
  ·rintro D ρo wo nD eD cD jD aD ⟨f10, f44, _⟩
   refine go_lz 44 rfl (gA_f f44) ?_ (fun hc53 => (kN0 (i := 21) hM (by decide) (by exact jD) (by exact (gf hc53).symm)))
   intro hc53
   exact id (op_fieldAddr (s := 6) Try.underlying70 rfl rfl Try.sizeOf29 (f10.trans rfl) (kN0 (i := 21) hM (by decide) (by exact jD) (by exact (gt hc53).symm)))
  ·rintro D ρo wo nD eD cD jD aD ⟨f51, f44, _⟩
   refine go_lz 44 rfl (gA_f f44) ?_ (fun hc54 => (kN0 (i := 22) hM (by decide) (by exact jD) (by exact (gf hc54).symm)))
   intro hc54
   exact id (op_fieldAddr (s := 0) Try.underlying29 rfl rfl Try.sizeOf2 (f51.trans (gt (congrArg (! ·) (not_t hc54)))) (kN0 (i := 22) hM (by decide) (by exact jD) (by exact (gt hc54).symm)))
  ·rintro D ρo wo nD eD cD jD aD ⟨f52, f44, _⟩
   refine go_lz 44 rfl (gA_f f44) ?_ (fun hc55 => (kN0 (i := 23) hM (by decide) (by exact jD) (by exact (gf hc55).symm)))
   intro hc55
   have hst := jD.2 
   replace hst : St w0 wo [.blk g10 70 #[(iV ((gd ws i).Tier)), (iV ((gd ws i).Lo)), (iV ((gd ws i).Hi)), (iV (((gd ws i).Agg).From)), (iV (((gd ws i).Agg).Count)), (iV (((gd ws i).Agg).Sum)), (iV (((gd ws i).Agg).Min)), (iV (((gd ws i).Agg).Max)), (iV (((gd ws i).Agg).First)), (iV (((gd ws i).Agg).Last))]] := hst
   exact id (op_load1 (u := (iV (((gd ws i).Agg).From))) Try.isAgg2 (f52.trans (gt (congrArg (! ·) (not_t hc55)))) ((hst.cell 0 rfl).drop 3) (kN0 (i := 23) hM (by decide) (by exact jD) (by exact (gt hc55).symm)))
  ·rintro D ρo wo nD eD cD jD aD ⟨f50, f53, f44, _⟩
   refine go_lz 44 rfl (gA_f f44) ?_ (fun hc56 => (kN0 (i := 24) hM (by decide) (by exact jD) (by exact (gf hc56).symm)))
   intro hc56
   exact id (op_neq (k := .i64) (a := (floorA (((gd ws i).Agg).From) ((gd ws i).Tier))) (b := ((gd ws i).Agg).From) (f50.trans (gt (congrArg (! ·) (not_t hc56)))) (f53.trans (gt (congrArg (! ·) (not_t hc56)))) (kN0 (i := 24) hM (by decide) (by exact jD) (by exact (gt hc56).symm)))
  ·rintro D ρo wo nD eD cD jD aD ⟨f44, f54, _⟩
   refine go_plain (op_pick_or f44 rfl f54 (fun hp => (congrArg (! ·) hp)) ?_)
   exact (kN0 (i := 25) hM (by decide) (by exact jD) (by exact (congrArg Value.bool hg22.symm)))
  ·rintro D ρo wo nD eD cD jD aD ⟨f55, _⟩
   exact go_plain (op_move (.bool g21) f55 (kN0 (i := 26) hM (by decide) (by exact jD) (by exact rfl)))
  ·rintro D ρo wo nD eD cD jD aD ⟨f10, f56, _⟩
   refine go_lz 56 rfl (gA_f f56) ?_ (fun hc57 => (kN0 (i := 27) hM (by decide) (by exact jD) (by exact (gf hc57).symm)))
   intro hc57
   exact id (op_fieldAddr (s := 0) Try.underlying70 rfl rfl Try.sizeOf2 (f10.trans rfl) (kN0 (i := 27) hM (by decide) (by exact jD) (by exact (gt hc57).symm)))
  ·rintro D ρo wo nD eD cD jD aD ⟨f57, f56, _⟩
   refine go_lz 56 rfl (gA_f f56) ?_ (fun hc58 => (kN0 (i := 28) hM (by decide) (by exact jD) (by exact (gf hc58).symm)))
   intro hc58
   have hst := jD.2 
   replace hst : St w0 wo [.blk g10 70 #[(iV ((gd ws i).Tier)), (iV ((gd ws i).Lo)), (iV ((gd ws i).Hi)), (iV (((gd ws i).Agg).From)), (iV (((gd ws i).Agg).Count)), (iV (((gd ws i).Agg).Sum)), (iV (((gd ws i).Agg).Min)), (iV (((gd ws i).Agg).Max)), (iV (((gd ws i).Agg).First)), (iV (((gd ws i).Agg).Last))]] := hst
   exact id (op_load1 (u := (iV ((gd ws i).Lo))) Try.isAgg2 (f57.trans (gt (congrArg (! ·) (not_t hc58)))) ((hst.cell 0 rfl).drop 1) (kN0 (i := 28) hM (by decide) (by exact jD) (by exact (gt hc58).symm)))
  ·rintro D ρo wo nD eD cD jD aD ⟨f10, f56, _⟩
   refine go_lz 56 rfl (gA_f f56) ?_ (fun hc59 => (kN0 (i := 29) hM (by decide) (by exact jD) (by exact (gf hc59).symm)))
   intro hc59
   exact id (op_fieldAddr (s := 6) Try.underlying70 rfl rfl Try.sizeOf29 (f10.trans rfl) (kN0 (i := 29) hM (by decide) (by exact jD) (by exact (gt hc59).symm)))
  ·rintro D ρo wo nD eD cD jD aD ⟨f59, f56, _⟩
   refine go_lz 56 rfl (gA_f f56) ?_ (fun hc60 => (kN0 (i := 30) hM (by decide) (by exact jD) (by exact (gf hc60).symm)))
   intro hc60
   exact id (op_fieldAddr (s := 0) Try.underlying29 rfl rfl Try.sizeOf2 (f59.trans (gt (congrArg (! ·) (not_t hc60)))) (kN0 (i := 30) hM (by decide) (by exact jD) (by exact (gt hc60).symm)))
  ·rintro D ρo wo nD eD cD jD aD ⟨f60, f56, _⟩
   refine go_lz 56 rfl (gA_f f56) ?_ (fun hc61 => (kN0 (i := 31) hM (by decide) (by exact jD) (by exact (gf hc61).symm)))
   intro hc61
   have hst := jD.2 
   replace hst : St w0 wo [.blk g10 70 #[(iV ((gd ws i).Tier)), (iV ((gd ws i).Lo)), (iV ((gd ws i).Hi)), (iV (((gd ws i).Agg).From)), (iV (((gd ws i).Agg).Count)), (iV (((gd ws i).Agg).Sum)), (iV (((gd ws i).Agg).Min)), (iV (((gd ws i).Agg).Max)), (iV (((gd ws i).Agg).First)), (iV (((gd ws i).Agg).Last))]] := hst
   exact id (op_load1 (u := (iV (((gd ws i).Agg).From))) Try.isAgg2 (f60.trans (gt (congrArg (! ·) (not_t hc61)))) ((hst.cell 0 rfl).drop 3) (kN0 (i := 31) hM (by decide) (by exact jD) (by exact (gt hc61).symm)))
  ·rintro D ρo wo nD eD cD jD aD ⟨f58, f61, f56, _⟩
   refine go_lz 56 rfl (gA_f f56) ?_ (fun hc62 => (kN0 (i := 32) hM (by decide) (by exact jD) (by exact (gf hc62).symm)))
   intro hc62
   exact id (op_lss (k := .i64) (a := (gd ws i).Lo) (b := ((gd ws i).Agg).From) (f58.trans (gt (congrArg (! ·) (not_t hc62)))) (f61.trans (gt (congrArg (! ·) (not_t hc62)))) (kN0 (i := 32) hM (by decide) (by exact jD) (by exact (gt hc62).symm)))
  ·rintro D ρo wo nD eD cD jD aD ⟨f56, f62, _⟩
   refine go_plain (op_pick_or f56 rfl f62 (fun hp => (congrArg (! ·) hp)) ?_)
   exact (kN0 (i := 33) hM (by decide) (by exact jD) (by exact (congrArg Value.bool hg24.symm)))
  ·rintro D ρo wo nD eD cD jD aD ⟨f63, _⟩
   exact go_plain (op_move (.bool g23) f63 (kN0 (i := 34) hM (by decide) (by exact jD) (by exact rfl)))
  ·rintro D ρo wo nD eD cD jD aD ⟨f10, f64, _⟩
   refine go_lz 64 rfl (gA_f f64) ?_ (fun hc63 => (kN0 (i := 35) hM (by decide) (by exact jD) (by exact (gf hc63).symm)))
   intro hc63
   exact id (op_fieldAddr (s := 0) Try.underlying70 rfl rfl Try.sizeOf2 (f10.trans rfl) (kN0 (i := 35) hM (by decide) (by exact jD) (by exact (gt hc63).symm)))
  ·rintro D ρo wo nD eD cD jD aD ⟨f65, f64, _⟩
   refine go_lz 64 rfl (gA_f f64) ?_ (fun hc64 => (kN0 (i := 36) hM (by decide) (by exact jD) (by exact (gf hc64).symm)))
   intro hc64
   have hst := jD.2 
   replace hst : St w0 wo [.blk g10 70 #[(iV ((gd ws i).Tier)), (iV ((gd ws i).Lo)), (iV ((gd ws i).Hi)), (iV (((gd ws i).Agg).From)), (iV (((gd ws i).Agg).Count)), (iV (((gd ws i).Agg).Sum)), (iV (((gd ws i).Agg).Min)), (iV (((gd ws i).Agg).Max)), (iV (((gd ws i).Agg).First)), (iV (((gd ws i).Agg).Last))]] := hst
   exact id (op_load1 (u := (iV ((gd ws i).Lo))) Try.isAgg2 (f65.trans (gt (congrArg (! ·) (not_t hc64)))) ((hst.cell 0 rfl).drop 1) (kN0 (i := 36) hM (by decide) (by exact jD) (by exact (gt hc64).symm)))
  ·rintro D ρo wo nD eD cD jD aD ⟨f10, f64, _⟩
   refine go_lz 64 rfl (gA_f f64) ?_ (fun hc65 => (kN0 (i := 37) hM (by decide) (by exact jD) (by exact (gf hc65).symm)))
   intro hc65
   exact id (op_fieldAddr (s := 0) Try.underlying70 rfl rfl Try.sizeOf2 (f10.trans rfl) (kN0 (i := 37) hM (by decide) (by exact jD) (by exact (gt hc65).symm)))
  ·rintro D ρo wo nD eD cD jD aD ⟨f67, f64, _⟩
   refine go_lz 64 rfl (gA_f f64) ?_ (fun hc66 => (kN0 (i := 38) hM (by decide) (by exact jD) (by exact (gf hc66).symm)))
   intro hc66
   have hst := jD.2 
   replace hst : St w0 wo [.blk g10 70 #[(iV ((gd ws i).Tier)), (iV ((gd ws i).Lo)), (iV ((gd ws i).Hi)), (iV (((gd ws i).Agg).From)), (iV (((gd ws i).Agg).Count)), (iV (((gd ws i).Agg).Sum)), (iV (((gd ws i).Agg).Min)), (iV (((gd ws i).Agg).Max)), (iV (((gd ws i).Agg).First)), (iV (((gd ws i).Agg).Last))]] := hst
   exact id (op_load1 (u := (iV ((gd ws i).Hi))) Try.isAgg2 (f67.trans (gt (congrArg (! ·) (not_t hc66)))) ((hst.cell 0 rfl).drop 2) (kN0 (i := 38) hM (by decide) (by exact jD) (by exact (gt hc66).symm)))
  ·rintro D ρo wo nD eD cD jD aD ⟨f66, f68, f64, _⟩
   refine go_lz 64 rfl (gA_f f64) ?_ (fun hc67 => (kN0 (i := 39) hM (by decide) (by exact jD) (by exact (gf hc67).symm)))
   intro hc67
   exact id (op_geq (k := .i64) (a := (gd ws i).Lo) (b := (gd ws i).Hi) (f66.trans (gt (congrArg (! ·) (not_t hc67)))) (f68.trans (gt (congrArg (! ·) (not_t hc67)))) (kN0 (i := 39) hM (by decide) (by exact jD) (by exact (gt hc67).symm)))
  ·rintro D ρo wo nD eD cD jD aD ⟨f64, f69, _⟩
   refine go_plain (op_pick_or f64 rfl f69 (fun hp => (congrArg (! ·) hp)) ?_)
   exact (kN0 (i := 40) hM (by decide) (by exact jD) (by exact (congrArg Value.bool hg26.symm)))
  ·rintro D ρo wo nD eD cD jD aD ⟨f70, _⟩
   exact go_plain (op_move (.bool g25) f70 (kN0 (i := 41) hM (by decide) (by exact jD) (by exact rfl)))
  ·rintro D ρo wo nD eD cD jD aD ⟨f10, f71, _⟩
   refine go_lz 71 rfl (gA_f f71) ?_ (fun hc68 => (kN0 (i := 42) hM (by decide) (by exact jD) (by exact (gf hc68).symm)))
   intro hc68
   exact id (op_fieldAddr (s := 0) Try.underlying70 rfl rfl Try.sizeOf2 (f10.trans rfl) (kN0 (i := 42) hM (by decide) (by exact jD) (by exact (gt hc68).symm)))
  ·rintro D ρo wo nD eD cD jD aD ⟨f72, f71, _⟩
   refine go_lz 71 rfl (gA_f f71) ?_ (fun hc69 => (kN0 (i := 43) hM (by decide) (by exact jD) (by exact (gf hc69).symm)))
   intro hc69
   have hst := jD.2 
   replace hst : St w0 wo [.blk g10 70 #[(iV ((gd ws i).Tier)), (iV ((gd ws i).Lo)), (iV ((gd ws i).Hi)), (iV (((gd ws i).Agg).From)), (iV (((gd ws i).Agg).Count)), (iV (((gd ws i).Agg).Sum)), (iV (((gd ws i).Agg).Min)), (iV (((gd ws i).Agg).Max)), (iV (((gd ws i).Agg).First)), (iV (((gd ws i).Agg).Last))]] := hst
   exact id (op_load1 (u := (iV ((gd ws i).Hi))) Try.isAgg2 (f72.trans (gt (congrArg (! ·) (not_t hc69)))) ((hst.cell 0 rfl).drop 2) (kN0 (i := 43) hM (by decide) (by exact jD) (by exact (gt hc69).symm)))
  ·rintro D ρo wo nD eD cD jD aD ⟨f10, f71, _⟩
   refine go_lz 71 rfl (gA_f f71) ?_ (fun hc70 => (kN0 (i := 44) hM (by decide) (by exact jD) (by exact (gf hc70).symm)))
   intro hc70
   exact id (op_fieldAddr (s := 6) Try.underlying70 rfl rfl Try.sizeOf29 (f10.trans rfl) (kN0 (i := 44) hM (by decide) (by exact jD) (by exact (gt hc70).symm)))
  ·rintro D ρo wo nD eD cD jD aD ⟨f74, f71, _⟩
   refine go_lz 71 rfl (gA_f f71) ?_ (fun hc71 => (kN0 (i := 45) hM (by decide) (by exact jD) (by exact (gf hc71).symm)))
   intro hc71
   exact id (op_fieldAddr (s := 0) Try.underlying29 rfl rfl Try.sizeOf2 (f74.trans (gt (congrArg (! ·) (not_t hc71)))) (kN0 (i := 45) hM (by decide) (by exact jD) (by exact (gt hc71).symm)))
  ·rintro D ρo wo nD eD cD jD aD ⟨f75, f71, _⟩
   refine go_lz 71 rfl (gA_f f71) ?_ (fun hc72 => (kN0 (i := 46) hM (by decide) (by exact jD) (by exact (gf hc72).symm)))
   intro hc72
   have hst := jD.2 
   replace hst : St w0 wo [.blk g10 70 #[(iV ((gd ws i).Tier)), (iV ((gd ws i).Lo)), (iV ((gd ws i).Hi)), (iV (((gd ws i).Agg).From)), (iV (((gd ws i).Agg).Count)), (iV (((gd ws i).Agg).Sum)), (iV (((gd ws i).Agg).Min)), (iV (((gd ws i).Agg).Max)), (iV (((gd ws i).Agg).First)), (iV (((gd ws i).Agg).Last))]] := hst
   exact id (op_load1 (u := (iV (((gd ws i).Agg).From))) Try.isAgg2 (f75.trans (gt (congrArg (! ·) (not_t hc72)))) ((hst.cell 0 rfl).drop 3) (kN0 (i := 46) hM (by decide) (by exact jD) (by exact (gt hc72).symm)))
  ·rintro D ρo wo nD eD cD jD aD ⟨f10, f71, _⟩
   refine go_lz 71 rfl (gA_f f71) ?_ (fun hc73 => (kN0 (i := 47) hM (by decide) (by exact jD) (by exact (gf hc73).symm)))
   intro hc73
   exact id (op_fieldAddr (s := 0) Try.underlying70 rfl rfl Try.sizeOf3 (f10.trans rfl) (kN0 (i := 47) hM (by decide) (by exact jD) (by exact (gt hc73).symm)))
  ·rintro D ρo wo nD eD cD jD aD ⟨f77, f71, _⟩
   refine go_lz 71 rfl (gA_f f71) ?_ (fun hc74 => (kN0 (i := 48) hM (by decide) (by exact jD) (by exact (gf hc74).symm)))
   intro hc74
   have hst := jD.2 
   replace hst : St w0 wo [.blk g10 70 #[(iV ((gd ws i).Tier)), (iV ((gd ws i).Lo)), (iV ((gd ws i).Hi)), (iV (((gd ws i).Agg).From)), (iV (((gd ws i).Agg).Count)), (iV (((gd ws i).Agg).Sum)), (iV (((gd ws i).Agg).Min)), (iV (((gd ws i).Agg).Max)), (iV (((gd ws i).Agg).First)), (iV (((gd ws i).Agg).Last))]] := hst
   exact id (op_load1 (u := (iV ((gd ws i).Tier))) Try.isAgg3 (f77.trans (gt (congrArg (! ·) (not_t hc74)))) (hst.cell 0 rfl) (kN0 (i := 48) hM (by decide) (by exact jD) (by exact (gt hc74).symm)))
  ·rintro D ρo wo nD eD cD jD aD ⟨f78, f71, _⟩
   refine go_lz 71 rfl (gA_f f71) ?_ (fun hc75 => (kN0 (i := 49) hM (by decide) (by exact jD) (by exact (gf hc75).symm)))
   intro hc75
   have c76 : ¬ (((gd ws i).Tier) < 0) := of_decide_eq_false (or_l (hg16.symm.trans (or_l (hg19.symm.trans (or_l (hg22.symm.trans (or_l (hg24.symm.trans (or_l (hg26.symm.trans (not_t hc75)))))))))))
   have c77 : ¬ (3 < ((gd ws i).Tier)) := of_decide_eq_false (or_r (hg16.symm.trans (or_l (hg19.symm.trans (or_l (hg22.symm.trans (or_l (hg24.symm.trans (or_l (hg26.symm.trans (not_t hc75)))))))))))
   have c78 : (mayA ((gd ws i).Agg)) = true := (not_f (or_r (hg19.symm.trans (or_l (hg22.symm.trans (or_l (hg24.symm.trans (or_l (hg26.symm.trans (not_t hc75))))))))))
   have hmp := mayA_true c78
   simp only [mayP] at hmp
   have c79 : (floorA (((gd ws i).Agg).From) ((gd ws i).Tier)) = (((gd ws i).Agg).From) := of_decide_eq_true (not_f (or_r (hg22.symm.trans (or_l (hg24.symm.trans (or_l (hg26.symm.trans (not_t hc75))))))))
   have c80 : ¬ (((gd ws i).Lo) < (((gd ws i).Agg).From)) := of_decide_eq_false (or_r (hg24.symm.trans (or_l (hg26.symm.trans (not_t hc75)))))
   have c81 : ¬ (((gd ws i).Hi) ≤ ((gd ws i).Lo)) := of_decide_eq_false (or_r (hg26.symm.trans (not_t hc75)))
   refine id (op_call Try.call32 (evs_cons (v := (iV ((gd ws i).Tier))) (f78.trans (gt (congrArg (! ·) (not_t hc75)))) evs_nil) (c_rWidth (w0 := wo) (k := (gd ws i).Tier) (k0 := (by omega)) (k1 := (by omega))) ?_)
   rintro _ w82 ⟨rfl, hcall⟩
   refine ⟨_, rfl, ?_⟩
   exact kN (i := 49) hM (by decide) hcall.below (by exact ⟨(jD.1).ext hcall.below, (jD.2).ext hcall.below⟩) (by exact (gt hc75).symm)
  ·rintro D ρo wo nD eD cD jD aD ⟨f76, f79, f71, _⟩
   refine go_lz 71 rfl (gA_f f71) ?_ (fun hc83 => (kN0 (i := 50) hM (by decide) (by exact jD) (by exact (gf hc83).symm)))
   intro hc83
   have c84 : ¬ (((gd ws i).Tier) < 0) := of_decide_eq_false (or_l (hg16.symm.trans (or_l (hg19.symm.trans (or_l (hg22.symm.trans (or_l (hg24.symm.trans (or_l (hg26.symm.trans (not_t hc83)))))))))))
   have c85 : ¬ (3 < ((gd ws i).Tier)) := of_decide_eq_false (or_r (hg16.symm.trans (or_l (hg19.symm.trans (or_l (hg22.symm.trans (or_l (hg24.symm.trans (or_l (hg26.symm.trans (not_t hc83)))))))))))
   have c86 : (mayA ((gd ws i).Agg)) = true := (not_f (or_r (hg19.symm.trans (or_l (hg22.symm.trans (or_l (hg24.symm.trans (or_l (hg26.symm.trans (not_t hc83))))))))))
   have hmp := mayA_true c86
   simp only [mayP] at hmp
   have c87 : (floorA (((gd ws i).Agg).From) ((gd ws i).Tier)) = (((gd ws i).Agg).From) := of_decide_eq_true (not_f (or_r (hg22.symm.trans (or_l (hg24.symm.trans (or_l (hg26.symm.trans (not_t hc83))))))))
   have c88 : ¬ (((gd ws i).Lo) < (((gd ws i).Agg).From)) := of_decide_eq_false (or_r (hg24.symm.trans (or_l (hg26.symm.trans (not_t hc83)))))
   have c89 : ¬ (((gd ws i).Hi) ≤ ((gd ws i).Lo)) := of_decide_eq_false (or_r (hg26.symm.trans (not_t hc83)))
   exact id (op_add (k := .i64) (a := ((gd ws i).Agg).From) (b := (widthA ((gd ws i).Tier))) ((((gd ws i).Agg).From) + (widthA ((gd ws i).Tier))) (f76.trans (gt (congrArg (! ·) (not_t hc83)))) (f79.trans (gt (congrArg (! ·) (not_t hc83)))) (xi64 (by omega) (by omega)) (kN0 (i := 50) hM (by decide) (by exact jD) (by exact (gt hc83).symm)))
  ·rintro D ρo wo nD eD cD jD aD ⟨f73, f80, f71, _⟩
   refine go_lz 71 rfl (gA_f f71) ?_ (fun hc90 => (kN0 (i := 51) hM (by decide) (by exact jD) (by exact (gf hc90).symm)))
   intro hc90
   exact id (op_gtr (k := .i64) (a := (gd ws i).Hi) (b := ((((gd ws i).Agg).From) + (widthA ((gd ws i).Tier)))) (f73.trans (gt (congrArg (! ·) (not_t hc90)))) (f80.trans (gt (congrArg (! ·) (not_t hc90)))) (kN0 (i := 51) hM (by decide) (by exact jD) (by exact (gt hc90).symm)))
  ·rintro D ρo wo nD eD cD jD aD ⟨f71, f81, _⟩
   refine go_plain (op_pick_or f71 rfl f81 (fun hp => (congrArg (! ·) hp)) ?_)
   exact (kN0 (i := 52) hM (by decide) (by exact jD) (by exact (congrArg Value.bool hg29.symm)))
  intro ρ91 w92 Dw92 hallw92 hJw92 hRw92 hkw92
  have hst : St w0 w92 [.blk g10 70 #[(iV ((gd ws i).Tier)), (iV ((gd ws i).Lo)), (iV ((gd ws i).Hi)), (iV (((gd ws i).Agg).From)), (iV (((gd ws i).Agg).Count)), (iV (((gd ws i).Agg).Sum)), (iV (((gd ws i).Agg).Min)), (iV (((gd ws i).Agg).Max)), (iV (((gd ws i).Agg).First)), (iV (((gd ws i).Agg).Last))]] := hJw92.2 
  have uw92_0 : ρ91 0 = v_h := (hkw92 0 rfl).trans q1_0
  have uw92_1 : ρ91 1 = v_ws := (hkw92 1 rfl).trans q1_1
  have uw92_2 : ρ91 2 = (iV fr) := (hkw92 2 rfl).trans q1_2
  have uw92_3 : ρ91 3 = (iV to) := (hkw92 3 rfl).trans q1_3
  have uw92_9 : ρ91 9 = (iV (i : Int)) := (hkw92 9 rfl).trans q1_9
  have uw92_20 : ρ91 20 = (iV (i : Int)) := (hkw92 20 rfl).trans rfl
  have uw92_21 : ρ91 21 = v_ws := (hkw92 21 rfl).trans rfl
  have uw92_22 : ρ91 22 = (iV (ws.length : Int)) := (hkw92 22 rfl).trans rfl
  have uw92_23 : ρ91 23 = (.bool (decide ((i : Int) < (ws.length : Int)))) := (hkw92 23 rfl).trans rfl
  have uw92_26 : ρ91 26 = v_ws := (hkw92 26 rfl).trans rfl
  have uw92_27 : ρ91 27 = (iV (i : Int)) := (hkw92 27 rfl).trans rfl
  have uw92_28 : ρ91 28 = (.pointer (some ⟨a7, o8, none⟩)) := (hkw92 28 rfl).trans rfl
  have uw92_29 : ρ91 29 = (.agg #[(iV ((gd ws i).Tier)), (iV ((gd ws i).Lo)), (iV ((gd ws i).Hi)), (iV (((gd ws i).Agg).From)), (iV (((gd ws i).Agg).Count)), (iV (((gd ws i).Agg).Sum)), (iV (((gd ws i).Agg).Min)), (iV (((gd ws i).Agg).Max)), (iV (((gd ws i).Agg).First)), (iV (((gd ws i).Agg).Last))]) := (hkw92 29 rfl).trans rfl
  have uw92_10 : ρ91 10 = (.pointer (some ⟨g10, 0, none⟩)) := (hkw92 10 rfl).trans rfl
  have uw92_82 : ρ91 82 = (.bool g28) := hRw92 52 82 rfl
  refine then_n ?_
  rcases Bool.eq_false_or_eq_true g28 with b93 | b93
  ·have c94 : ((((((((gd ws i).Tier) < 0) ∨ (3 < ((gd ws i).Tier))) ∨ (¬ ((mayA ((gd ws i).Agg)) = true))) ∨ (¬ ((floorA (((gd ws i).Agg).From) ((gd ws i).Tier)) = (((gd ws i).Agg).From)))) ∨ (((gd ws i).Lo) < (((gd ws i).Agg).From))) ∨ (((gd ws i).Hi) ≤ ((gd ws i).Lo))) ∨ (((((gd ws i).Agg).From) + (widthA ((gd ws i).Tier))) < ((gd ws i).Hi)) := (pi_or (pi_name hg26 (pi_or (pi_name hg24 (pi_or (pi_name hg22 (pi_or (pi_name hg19 (pi_or (pi_name hg16 (pi_or pi_dec pi_dec)) (pi_not pi_self))) (pi_not pi_dec))) pi_dec)) pi_dec)) pi_dec).1 (hg29.symm.trans b93)
   refine cE_cond true (uw92_82.trans (congrArg Value.bool b93)) (fun _ => ?_) (fun h => by cases h)
   refine cE_seq (cE_region rfl (s_cons (op_assign (iV 1) rfl (s_nil (then_n (cE_ret (block_r (then_r (then_r (block_r (then_r (post_r _ (res1 (v := (iV 1)) rfl) ?_))))))))))))
   exact ⟨(retv1 (congrArg iV (show 1 = (answerC h ws fr to) from by first | exact (ans_1R (i := i) (by omega) (mayW_no2 (by assumption))).symm | exact (ans_2 hMA (i := u) (by omega) (by omega) (by omega)).symm | exact (ans_3R hMA hIA (i := j) (k := k) (by omega) (by assumption) (by omega)).symm | exact (ans_4 hMA hIA hCA (q := q) (by omega) (by first | assumption | omega)).symm | exact (ans_0 hMA hIA hCA hR (by omega)).symm))), hst.bare⟩
  have c95 : ¬ (((gd ws i).Tier) < 0) := of_decide_eq_false (or_l (hg16.symm.trans (or_l (hg19.symm.trans (or_l (hg22.symm.trans (or_l (hg24.symm.trans (or_l (hg26.symm.trans (or_l (hg29.symm.trans b93))))))))))))
  have c96 : ¬ (3 < ((gd ws i).Tier)) := of_decide_eq_false (or_r (hg16.symm.trans (or_l (hg19.symm.trans (or_l (hg22.symm.trans (or_l (hg24.symm.trans (or_l (hg26.symm.trans (or_l (hg29.symm.trans b93))))))))))))
  have c97 : (mayA ((gd ws i).Agg)) = true := (not_f (or_r (hg19.symm.trans (or_l (hg22.symm.trans (or_l (hg24.symm.trans (or_l (hg26.symm.trans (or_l (hg29.symm.trans b93)))))))))))
  have hmp := mayA_true c97
  simp only [mayP] at hmp
  have c98 : (floorA (((gd ws i).Agg).From) ((gd ws i).Tier)) = (((gd ws i).Agg).From) := of_decide_eq_true (not_f (or_r (hg22.symm.trans (or_l (hg24.symm.trans (or_l (hg26.symm.trans (or_l (hg29.symm.trans b93)))))))))
  have c99 : ¬ (((gd ws i).Lo) < (((gd ws i).Agg).From)) := of_decide_eq_false (or_r (hg24.symm.trans (or_l (hg26.symm.trans (or_l (hg29.symm.trans b93))))))
  have c100 : ¬ (((gd ws i).Hi) ≤ ((gd ws i).Lo)) := of_decide_eq_false (or_r (hg26.symm.trans (or_l (hg29.symm.trans b93))))
  have c101 : ¬ (((((gd ws i).Agg).From) + (widthA ((gd ws i).Tier))) < ((gd ws i).Hi)) := of_decide_eq_false (or_r (hg29.symm.trans b93))
  refine cE_cond false (uw92_82.trans (congrArg Value.bool b93)) (fun h => by cases h) (fun _ => ?_)
  refine cE_skip (block_n (then_n (cE_region rfl (s_cons (op_move (iV (i : Int)) uw92_9 (s_cons (op_add (k := .i64) (a := (i : Int)) (b := 1) ((i : Int) + 1) rfl rfl (xi64 (by omega) (by omega)) (s_cons (op_assign (iV ((i : Int) + 1)) rfl (s_nil (then_n ?_)))))))))))
  exact ⟨_, ⟨(i + 1), rfl, uw92_0, uw92_1, uw92_2, uw92_3, (congrArg iV (show ((i : Int) + 1) = _ from by omega)), (hst.sub (.cons _ .slnil)), (by omega), (by first | rfl | exact may_stepR (by omega) hM (mayW_yes (by omega) (by assumption) (by omega)))⟩, (by simp only [id]; omega)⟩
 have c102 : ¬ ((i : Int) < (ws.length : Int)) := of_decide_eq_false b5
 refine cE_cond false (congrArg Value.bool b5) (fun h => by cases h) (fun _ => ?_)
 refine cE_exit (then_x (then_x (block_hit (then_n (cE_seq (cE_seq ?_))))))
 have hMA := any_end hM (by omega)
 refine cE_region rfl (s_cons (op_assign (iV 1) rfl (s_nil (then_n (cE_block (cE_loop (fun (m : Nat) (ρ : Env) (w : World) => ∃ (u : Nat), m = ws.length - u ∧ ρ 0 = v_h ∧ ρ 1 = v_ws ∧ ρ 2 = (iV fr) ∧ ρ 3 = (iV to) ∧ ρ 9 = (iV (i : Int)) ∧ ρ 11 = (iV (u : Int)) ∧ St w0 w [] ∧ (1 ≤ u) ∧ (u = 1 ∨ u ≤ ws.length) ∧ (apartTo ws u = true)) id _ ⟨1, rfl, q1_0, q1_1, q1_2, q1_3, q1_9, (congrArg iV (show 1 = _ from by omega)), hst, (by omega), (by omega), (by first | rfl | exact apart_step hA (by omega))⟩ ?_))))))
 rintro m104 ρ105 w106 ⟨u, hm104, q103_0, q103_1, q103_2, q103_3, q103_9, q103_11, hst, hu1, hu, hA⟩
 refine cE_seq (cE_seq (cE_region rfl (s_cons (op_move (iV (u : Int)) q103_11 (s_cons (op_move v_ws q103_1 (s_cons (op_len (E := winE) (xs := ws) Try.underlying38 rfl h_ws (s_cons (op_lss (k := .i64) (a := (u : Int)) (b := (ws.length : Int)) rfl rfl (s_nil (then_n ?_))))))))))))
 rcases Bool.eq_false_or_eq_true (decide ((u : Int) < (ws.length : Int))) with b107 | b107
 ·have c108 : (u : Int) < (ws.length : Int) := of_decide_eq_true b107
  refine cE_cond true (congrArg Value.bool b107) (fun _ => ?_) (fun h => by cases h)
  refine cE_skip (then_n (cE_seq (cE_block (cE_seq (cE_regionM (fun (D : Nat → Bool) (w : World) => St w0 w [] ∧ (St w0 w [])) [[(1, none)], [(11, none)], [(89, some 0), (90, some 1)], [(91, some 2)], [(92, some 3)], [(1, none)], [(11, none)], [(95, some 6)], [(94, some 5), (96, some 7)], [(97, some 8)], [(98, some 9)], [(93, some 4), (99, some 10)]] [] [(kEq v_ws), (kEq (iV (u : Int))), (kPt0 w0 [(iV ((gd ws u).Tier)), (iV ((gd ws u).Lo)), (iV ((gd ws u).Hi)), (iV (((gd ws u).Agg).From)), (iV (((gd ws u).Agg).Count)), (iV (((gd ws u).Agg).Sum)), (iV (((gd ws u).Agg).Min)), (iV (((gd ws u).Agg).Max)), (iV (((gd ws u).Agg).First)), (iV (((gd ws u).Agg).Last))]), (kPt0 w0 [(iV ((gd ws u).Lo)), (iV ((gd ws u).Hi)), (iV (((gd ws u).Agg).From)), (iV (((gd ws u).Agg).Count)), (iV (((gd ws u).Agg).Sum)), (iV (((gd ws u).Agg).Min)), (iV (((gd ws u).Agg).Max)), (iV (((gd ws u).Agg).First)), (iV (((gd ws u).Agg).Last))]), (kEq (iV ((gd ws u).Lo))), (kEq v_ws), (kEq (iV (u : Int))), (kEq (iV ((u : Int) - 1))), (kPt0 w0 [(iV ((gd ws (u - 1)).Tier)), (iV ((gd ws (u - 1)).Lo)), (iV ((gd ws (u - 1)).Hi)), (iV (((gd ws (u - 1)).Agg).From)), (iV (((gd ws (u - 1)).Agg).Count)), (iV (((gd ws (u - 1)).Agg).Sum)), (iV (((gd ws (u - 1)).Agg).Min)), (iV (((gd ws (u - 1)).Agg).Max)), (iV (((gd ws (u - 1)).Agg).First)), (iV (((gd ws (u - 1)).Agg).Last))]), (kPt0 w0 [(iV ((gd ws (u - 1)).Hi)), (iV (((gd ws (u - 1)).Agg).From)), (iV (((gd ws (u - 1)).Agg).Count)), (iV (((gd ws (u - 1)).Agg).Sum)), (iV (((gd ws (u - 1)).Agg).Min)), (iV (((gd ws (u - 1)).Agg).Max)), (iV (((gd ws (u - 1)).Agg).First)), (iV (((gd ws (u - 1)).Agg).Last))]), (kEq (iV ((gd ws (u - 1)).Hi))), (kEq (.bool (decide (((gd ws u).Lo) < ((gd ws (u - 1)).Hi)))))] ⟨mEq, mEq, mPt0, mPt0, mEq, mEq, mEq, mEq, mPt0, mPt0, mEq, mEq, trivial⟩ (by kernel_rfl) rfl (by kernel_rfl) ⟨hst.drewW.sub .slnil, hst.drewW⟩ (fun hM => ⟨?_, ?_, ?_, ?_, ?_, ?_, ?_, ?_, ?_, ?_, ?_, ?_, trivial⟩) ?_)))))
  ·rintro D ρo wo nD eD cD jD aD ⟨f1, _⟩
   exact go_plain (op_move v_ws (f1.trans q103_1) (kN0 (i := 0) hM (by decide) (by exact jD) (by exact rfl)))
  ·rintro D ρo wo nD eD cD jD aD ⟨f11, _⟩
   exact go_plain (op_move (iV (u : Int)) (f11.trans q103_11) (kN0 (i := 1) hM (by decide) (by exact jD) (by exact rfl)))
  ·rintro D ρo wo nD eD cD jD aD ⟨f89, f90, _⟩
   refine go_plain (op_indexAddrD (E := winE) (xs := ws) u Try.underlying38 Try.sizeOf70 f89 h_ws f90 (by omega) (by omega) (fun a116 o117 p118 => ?_))
   exact (kN0 (i := 2) hM (by decide) (by exact jD) (by exact ⟨_, _, rfl, p118⟩))
  ·rintro D ρo wo nD eD cD jD aD ⟨f91, _⟩
   obtain ⟨a119, o120, e121, p122⟩ := f91
   exact go_plain (op_fieldAddr (s := 0) Try.underlying70 rfl rfl Try.sizeOf2 e121 (kN0 (i := 3) hM (by decide) (by exact jD) (by exact ⟨_, _, rfl, (p122.drop 1)⟩)))
  ·rintro D ρo wo nD eD cD jD aD ⟨f92, _⟩
   have hst := jD.2 
   replace hst : St w0 wo [] := hst
   obtain ⟨a123, o124, e125, p126⟩ := f92
   exact go_plain (op_load1 (u := (iV ((gd ws u).Lo))) Try.isAgg2 e125 (p126.below hst.below) (kN0 (i := 4) hM (by decide) (by exact jD) (by exact rfl)))
  ·rintro D ρo wo nD eD cD jD aD ⟨f1, _⟩
   exact go_plain (op_move v_ws (f1.trans q103_1) (kN0 (i := 5) hM (by decide) (by exact jD) (by exact rfl)))
  ·rintro D ρo wo nD eD cD jD aD ⟨f11, _⟩
   exact go_plain (op_move (iV (u : Int)) (f11.trans q103_11) (kN0 (i := 6) hM (by decide) (by exact jD) (by exact rfl)))
  ·rintro D ρo wo nD eD cD jD aD ⟨f95, _⟩
   exact go_plain (op_sub (k := .i64) (a := (u : Int)) (b := 1) ((u : Int) - 1) f95 rfl (xi64 (by omega) (by omega)) (kN0 (i := 7) hM (by decide) (by exact jD) (by exact rfl)))
  ·rintro D ρo wo nD eD cD jD aD ⟨f94, f96, _⟩
   refine go_plain (op_indexAddrD (E := winE) (xs := ws) (u - 1) Try.underlying38 Try.sizeOf70 f94 h_ws f96 (by omega) (by omega) (fun a127 o128 p129 => ?_))
   exact (kN0 (i := 8) hM (by decide) (by exact jD) (by exact ⟨_, _, rfl, p129⟩))
  ·rintro D ρo wo nD eD cD jD aD ⟨f97, _⟩
   obtain ⟨a130, o131, e132, p133⟩ := f97
   exact go_plain (op_fieldAddr (s := 0) Try.underlying70 rfl rfl Try.sizeOf2 e132 (kN0 (i := 9) hM (by decide) (by exact jD) (by exact ⟨_, _, rfl, (p133.drop 2)⟩)))
  ·rintro D ρo wo nD eD cD jD aD ⟨f98, _⟩
   have hst := jD.2 
   replace hst : St w0 wo [] := hst
   obtain ⟨a134, o135, e136, p137⟩ := f98
   exact go_plain (op_load1 (u := (iV ((gd ws (u - 1)).Hi))) Try.isAgg2 e136 (p137.below hst.below) (kN0 (i := 10) hM (by decide) (by exact jD) (by exact rfl)))
  ·rintro D ρo wo nD eD cD jD aD ⟨f93, f99, _⟩
   exact go_plain (op_lss (k := .i64) (a := (gd ws u).Lo) (b := (gd ws (u - 1)).Hi) f93 f99 (kN0 (i := 11) hM (by decide) (by exact jD) (by exact rfl)))
  intro ρ138 w139 Dw139 hallw139 hJw139 hRw139 hkw139
  have hst : St w0 w139 [] := hJw139.2 
  have uw139_0 : ρ138 0 = v_h := (hkw139 0 rfl).trans q103_0
  have uw139_1 : ρ138 1 = v_ws := (hkw139 1 rfl).trans q103_1
  have uw139_2 : ρ138 2 = (iV fr) := (hkw139 2 rfl).trans q103_2
  have uw139_3 : ρ138 3 = (iV to) := (hkw139 3 rfl).trans q103_3
  have uw139_9 : ρ138 9 = (iV (i : Int)) := (hkw139 9 rfl).trans q103_9
  have uw139_11 : ρ138 11 = (iV (u : Int)) := (hkw139 11 rfl).trans q103_11
  have uw139_83 : ρ138 83 = (iV (u : Int)) := (hkw139 83 rfl).trans rfl
  have uw139_84 : ρ138 84 = v_ws := (hkw139 84 rfl).trans rfl
  have uw139_85 : ρ138 85 = (iV (ws.length : Int)) := (hkw139 85 rfl).trans rfl
  have uw139_86 : ρ138 86 = (.bool (decide ((u : Int) < (ws.length : Int)))) := (hkw139 86 rfl).trans rfl
  have uw139_100 : ρ138 100 = (.bool (decide (((gd ws u).Lo) < ((gd ws (u - 1)).Hi)))) := hRw139 11 100 rfl
  refine then_n ?_
  rcases Bool.eq_false_or_eq_true (decide (((gd ws u).Lo) < ((gd ws (u - 1)).Hi))) with b140 | b140
  ·have c141 : ((gd ws u).Lo) < ((gd ws (u - 1)).Hi) := of_decide_eq_true b140
   refine cE_cond true (uw139_100.trans (congrArg Value.bool b140)) (fun _ => ?_) (fun h => by cases h)
   refine cE_seq (cE_region rfl (s_cons (op_assign (iV 2) rfl (s_nil (then_n (cE_ret (block_r (then_r (then_r (block_r (then_r (post_r _ (res1 (v := (iV 2)) rfl) ?_))))))))))))
   exact ⟨(retv1 (congrArg iV (show 2 = (answerC h ws fr to) from by first | exact (ans_1R (i := i) (by omega) (mayW_no2 (by assumption))).symm | exact (ans_2 hMA (i := u) (by omega) (by omega) (by omega)).symm | exact (ans_3R hMA hIA (i := j) (k := k) (by omega) (by assumption) (by omega)).symm | exact (ans_4 hMA hIA hCA (q := q) (by omega) (by first | assumption | omega)).symm | exact (ans_0 hMA hIA hCA hR (by omega)).symm))), hst.bare⟩
  have c142 : ¬ (((gd ws u).Lo) < ((gd ws (u - 1)).Hi)) := of_decide_eq_false b140
  refine cE_cond false (uw139_100.trans (congrArg Value.bool b140)) (fun h => by cases h) (fun _ => ?_)
  refine cE_skip (block_n (then_n (cE_region rfl (s_cons (op_move (iV (u : Int)) uw139_11 (s_cons (op_add (k := .i64) (a := (u : Int)) (b := 1) ((u : Int) + 1) rfl rfl (xi64 (by omega) (by omega)) (s_cons (op_assign (iV ((u : Int) + 1)) rfl (s_nil (then_n ?_)))))))))))
  exact ⟨_, ⟨(u + 1), rfl, uw139_0, uw139_1, uw139_2, uw139_3, uw139_9, (congrArg iV (show ((u : Int) + 1) = _ from by omega)), hst, (by omega), (by omega), (by first | rfl | exact apart_step hA (by omega))⟩, (by simp only [id]; omega)⟩
 have c143 : ¬ ((u : Int) < (ws.length : Int)) := of_decide_eq_false b107
 refine cE_cond false (congrArg Value.bool b107) (fun h => by cases h) (fun _ => ?_)
 refine cE_exit (then_x (then_x (block_hit (then_n (cE_seq (cE_seq ?_))))))
 have hIA := apart_endR hA hu (by omega) hu1
 refine cE_region rfl (s_cons (op_assign (iV 0) rfl (s_nil (then_n (cE_block (cE_loop (fun (m : Nat) (ρ : Env) (w : World) => ∃ (j : Nat), m = h.length - j ∧ ρ 0 = v_h ∧ ρ 1 = v_ws ∧ ρ 2 = (iV fr) ∧ ρ 3 = (iV to) ∧ ρ 9 = (iV (i : Int)) ∧ ρ 11 = (iV (u : Int)) ∧ ρ 12 = (iV (j : Int)) ∧ St w0 w [] ∧ (j ≤ h.length) ∧ ((h.take j).any (missB ws fr to) = false)) id _ ⟨0, rfl, q103_0, q103_1, q103_2, q103_3, q103_9, q103_11, (congrArg iV (show 0 = _ from by omega)), hst, (by omega), (by first | rfl | exact miss_step (k := k) (by omega) hC (by assumption) (by omega))⟩ ?_))))))
 rintro m145 ρ146 w147 ⟨j, hm145, q144_0, q144_1, q144_2, q144_3, q144_9, q144_11, q144_12, hst, hj, hC⟩
 refine cE_seq (cE_seq (cE_region rfl (s_cons (op_move (iV (j : Int)) q144_12 (s_cons (op_move v_h q144_0 (s_cons (op_len (E := sampE) (xs := h) Try.underlying23 rfl h_h (s_cons (op_lss (k := .i64) (a := (j : Int)) (b := (h.length : Int)) rfl rfl (s_nil (then_n ?_))))))))))))
 rcases Bool.eq_false_or_eq_true (decide ((j : Int) < (h.length : Int))) with b148 | b148
 ·have c149 : (j : Int) < (h.length : Int) := of_decide_eq_true b148
  refine cE_cond true (congrArg Value.bool b148) (fun _ => ?_) (fun h => by cases h)
  refine cE_skip (then_n (cE_seq (cE_block (cE_seq (cE_region rfl (s_cons (op_move v_h q144_0 (s_cons (op_move (iV (j : Int)) q144_12 (s_cons (op_indexAddrD (E := sampE) (xs := h) j Try.underlying23 Try.sizeOf51 rfl h_h rfl (by omega) (by omega) (fun a150 o151 p152 => ?_))))))))))))
  refine s_cons (op_fieldAddr (s := 0) Try.underlying51 rfl rfl Try.sizeOf2 rfl (s_cons (op_load1 (u := (iV ((gd h j).T))) Try.isAgg2 rfl (p152.below hst.below) (s_cons (op_move (iV fr) q144_2 (s_cons (op_lss (k := .i64) (a := (gd h j).T) (b := fr) rfl rfl (s_cons (op_move (.bool (decide (((gd h j).T) < fr))) rfl (s_lz 114 rfl (gA_f rfl) (Rlz (!(decide (((gd h j).T) < fr))) v_h w147) ?_ (fun hc153 => rlz_f hc153) ?_))))))))))
  ·intro hc153
   refine op_move v_h q144_0 ?_
   exact rlz_t hc153
  rintro _ _ ⟨rfl, rfl⟩
  refine s_lz 114 rfl (gA_f rfl) (Rlz (!(decide (((gd h j).T) < fr))) (iV (j : Int)) w147) ?_ (fun hc154 => rlz_f hc154) ?_
  ·intro hc154
   refine op_move (iV (j : Int)) q144_12 ?_
   exact rlz_t hc154
  rintro _ _ ⟨rfl, rfl⟩
  refine s_lz 114 rfl (gA_f rfl) (RlzP (!(decide (((gd h j).T) < fr))) w0 w147 [(iV ((gd h j).T)), (iV ((gd h j).V))]) ?_ (fun hc155 => ⟨fun h => absurd (show _ = true from h) (by rw [hc155]; decide), rfl⟩) ?_
  ·intro hc155
   have c156 : ¬ (((gd h j).T) < fr) := of_decide_eq_false (not_t hc155)
   refine op_indexAddrD (E := sampE) (xs := h) j Try.underlying23 Try.sizeOf51 (gt (congrArg (! ·) (not_t hc155))) h_h (gt (congrArg (! ·) (not_t hc155))) (by omega) (by omega) (fun a157 o158 p159 => ?_)
   exact ⟨fun _ => ⟨_, _, rfl, p159⟩, rfl⟩
  rintro v160 _ ⟨hp161, rfl⟩
  refine s_lz 114 rfl (gA_f rfl) (RlzP (!(decide (((gd h j).T) < fr))) w0 w147 [(iV ((gd h j).T)), (iV ((gd h j).V))]) ?_ (fun hc162 => ⟨fun h => absurd (show _ = true from h) (by rw [hc162]; decide), rfl⟩) ?_
  ·intro hc162
   obtain ⟨a163, o164, e165, p166⟩ := hp161 (congrArg (! ·) (not_t hc162))
   refine op_fieldAddr (s := 0) Try.underlying51 rfl rfl Try.sizeOf2 e165 ?_
   exact ⟨fun _ => ⟨_, _, rfl, p166⟩, rfl⟩
  rintro v167 _ ⟨hp168, rfl⟩
  refine s_lz 114 rfl (gA_f rfl) (Rlz (!(decide (((gd h j).T) < fr))) (iV ((gd h j).T)) w147) ?_ (fun hc169 => rlz_f hc169) ?_
  ·intro hc169
   obtain ⟨a170, o171, e172, p173⟩ := hp161 (congrArg (! ·) (not_t hc169))
   obtain ⟨a174, o175, e176, p177⟩ := hp168 (congrArg (! ·) (not_t hc169))
   refine op_load1 (u := (iV ((gd h j).T))) Try.isAgg2 e176 (p177.below hst.below) ?_
   exact rlz_t hc169
  rintro _ _ ⟨rfl, rfl⟩
  refine s_lz 114 rfl (gA_f rfl) (Rlz (!(decide (((gd h j).T) < fr))) (iV to) w147) ?_ (fun hc178 => rlz_f hc178) ?_
  ·intro hc178
   obtain ⟨a179, o180, e181, p182⟩ := hp161 (congrArg (! ·) (not_t hc178))
   obtain ⟨a183, o184, e185, p186⟩ := hp168 (congrArg (! ·) (not_t hc178))
   refine op_move (iV to) q144_3 ?_
   exact rlz_t hc178
  rintro _ _ ⟨rfl, rfl⟩
  refine s_lz 114 rfl (gA_f rfl) (Rlz (!(decide (((gd h j).T) < fr))) (.bool (decide (to ≤ ((gd h j).T)))) w147) ?_ (fun hc187 => rlz_f hc187) ?_
  ·intro hc187
   obtain ⟨a188, o189, e190, p191⟩ := hp161 (congrArg (! ·) (not_t hc187))
   obtain ⟨a192, o193, e194, p195⟩ := hp168 (congrArg (! ·) (not_t hc187))
   refine op_geq (k := .i64) (a := (gd h j).T) (b := to) (gt (congrArg (! ·) (not_t hc187))) (gt (congrArg (! ·) (not_t hc187))) ?_
   exact rlz_t hc187
  rintro _ _ ⟨rfl, rfl⟩
  obtain ⟨g196, hg197⟩ : ∃ x : Bool, x = ((decide (((gd h j).T) < fr)) || (decide (to ≤ ((gd h j).T)))) := ⟨_, rfl⟩
  refine s_cons (op_pick_or rfl rfl rfl (fun hp => (congrArg (! ·) hp)) (s_cons (op_assign (.bool g196) (congrArg Value.bool hg197.symm) (s_nil (then_n (cE_seq (cE_seq (cE_region rfl (s_cons (op_assign (iV 0) rfl (s_nil (then_n (cE_block (cE_loop (fun (m : Nat) (ρ : Env) (w : World) => ∃ (k : Nat), m = ws.length - k ∧ ρ 0 = v_h ∧ ρ 1 = v_ws ∧ ρ 2 = (iV fr) ∧ ρ 3 = (iV to) ∧ ρ 9 = (iV (i : Int)) ∧ ρ 11 = (iV (u : Int)) ∧ ρ 12 = (iV (j : Int)) ∧ ρ 13 = (.bool ((!inT fr to (gd h j)) || coverB (ws.take k) (gd h j))) ∧ ρ 14 = (iV (k : Int)) ∧ St w0 w [] ∧ (k ≤ ws.length)) id _ ⟨0, rfl, q144_0, q144_1, q144_2, q144_3, q144_9, q144_11, q144_12, (congrArg Value.bool (show g196 = _ from by first | rfl | (rw [hg197]; first | exact (cover_nil2 _) | exact (Bool.decide_or _ _).trans (cover_nil2 _) | exact cover_snoc2 (by omega) _ _))), (congrArg iV (show 0 = _ from by omega)), hst, (by omega)⟩ ?_))))))))))))))
  rintro m199 ρ200 w201 ⟨k, hm199, q198_0, q198_1, q198_2, q198_3, q198_9, q198_11, q198_12, q198_13, q198_14, hst, hk⟩
  refine cE_seq (cE_seq (cE_region rfl (s_cons (op_move (iV (k : Int)) q198_14 (s_cons (op_move v_ws q198_1 (s_cons (op_len (E := winE) (xs := ws) Try.underlying38 rfl h_ws (s_cons (op_lss (k := .i64) (a := (k : Int)) (b := (ws.length : Int)) rfl rfl (s_nil (then_n ?_))))))))))))
  rcases Bool.eq_false_or_eq_true (decide ((k : Int) < (ws.length : Int))) with b202 | b202
  ·have c203 : (k : Int) < (ws.length : Int) := of_decide_eq_true b202
   refine cE_cond true (congrArg Value.bool b202) (fun _ => ?_) (fun h => by cases h)
   refine cE_skip (then_n (cE_seq (cE_block ?_)))
   obtain ⟨g204, hg205⟩ : ∃ x : Bool, x = !((!inT fr to (gd h j)) || coverB (ws.take k) (gd h j)) := ⟨_, rfl⟩
   obtain ⟨g308, hg309⟩ : ∃ x : Bool, x = (g204 && (decide (((gd ws k).Lo) ≤ ((gd h j).T)))) := ⟨_, rfl⟩
   obtain ⟨g588, hg589⟩ : ∃ x : Bool, x = ((decide (((gd ws k).Lo) ≤ ((gd h j).T))) && (decide (((gd h j).T) < ((gd ws k).Hi)))) := ⟨_, rfl⟩
   obtain ⟨g590, hg591⟩ : ∃ x : Bool, x = (((!inT fr to (gd h j)) || coverB (ws.take k) (gd h j)) || g588) := ⟨_, rfl⟩
   refine cE_regionM (fun (D : Nat → Bool) (w : World) => St w0 w [] ∧ (St w0 w [])) [[(13, none)], [(129, some 0)], [(0, none), (130, some 1)], [(12, none), (130, some 1)], [(131, some 2), (132, some 3), (130, some 1)], [(133, some 4), (130, some 1)], [(134, some 5), (130, some 1)], [(1, none), (130, some 1)], [(14, none), (130, some 1)], [(136, some 7), (137, some 8), (130, some 1)], [(138, some 9), (130, some 1)], [(139, some 10), (130, some 1)], [(135, some 6), (140, some 11), (130, some 1)], [(141, some 12), (130, some 1)], [(0, none), (142, some 13)], [(12, none), (142, some 13)], [(143, some 14), (144, some 15), (142, some 13)], [(145, some 16), (142, some 13)], [(146, some 17), (142, some 13)], [(1, none), (142, some 13)], [(14, none), (142, some 13)], [(148, some 19), (149, some 20), (142, some 13)], [(150, some 21), (142, some 13)], [(151, some 22), (142, some 13)], [(147, some 18), (152, some 23), (142, some 13)], [(142, some 13), (153, some 24), (130, some 1)], [(130, some 1), (154, some 25)], [(155, some 26)]] [] [(kEq (.bool ((!inT fr to (gd h j)) || coverB (ws.take k) (gd h j)))), (kEq (.bool ((!inT fr to (gd h j)) || coverB (ws.take k) (gd h j)))), (kEq (bif g204 then v_h else undef)), (kEq (bif g204 then (iV (j : Int)) else undef)), (kPtc w0 g204 [(iV ((gd h j).T)), (iV ((gd h j).V))]), (kPtc w0 g204 [(iV ((gd h j).T)), (iV ((gd h j).V))]), (kEq (bif g204 then (iV ((gd h j).T)) else undef)), (kEq (bif g204 then v_ws else undef)), (kEq (bif g204 then (iV (k : Int)) else undef)), (kPtc w0 g204 [(iV ((gd ws k).Tier)), (iV ((gd ws k).Lo)), (iV ((gd ws k).Hi)), (iV (((gd ws k).Agg).From)), (iV (((gd ws k).Agg).Count)), (iV (((gd ws k).Agg).Sum)), (iV (((gd ws k).Agg).Min)), (iV (((gd ws k).Agg).Max)), (iV (((gd ws k).Agg).First)), (iV (((gd ws k).Agg).Last))]), (kPtc w0 g204 [(iV ((gd ws k).Lo)), (iV ((gd ws k).Hi)), (iV (((gd ws k).Agg).From)), (iV (((gd ws k).Agg).Count)), (iV (((gd ws k).Agg).Sum)), (iV (((gd ws k).Agg).Min)), (iV (((gd ws k).Agg).Max)), (iV (((gd ws k).Agg).First)), (iV (((gd ws k).Agg).Last))]), (kEq (bif g204 then (iV ((gd ws k).Lo)) else undef)), (kEq (bif g204 then (.bool (decide (((gd ws k).Lo) ≤ ((gd h j).T)))) else undef)), (kEq (bif g204 then (.bool (decide (((gd ws k).Lo) ≤ ((gd h j).T)))) else undef)), (kEq (bif g308 then v_h else undef)), (kEq (bif g308 then (iV (j : Int)) else undef)), (kPtc w0 g308 [(iV ((gd h j).T)), (iV ((gd h j).V))]), (kPtc w0 g308 [(iV ((gd h j).T)), (iV ((gd h j).V))]), (kEq (bif g308 then (iV ((gd h j).T)) else undef)), (kEq (bif g308 then v_ws else undef)), (kEq (bif g308 then (iV (k : Int)) else undef)), (kPtc w0 g308 [(iV ((gd ws k).Tier)), (iV ((gd ws k).Lo)), (iV ((gd ws k).Hi)), (iV (((gd ws k).Agg).From)), (iV (((gd ws k).Agg).Count)), (iV (((gd ws k).Agg).Sum)), (iV (((gd ws k).Agg).Min)), (iV (((gd ws k).Agg).Max)), (iV (((gd ws k).Agg).First)), (iV (((gd ws k).Agg).Last))]), (kPtc w0 g308 [(iV ((gd ws k).Hi)), (iV (((gd ws k).Agg).From)), (iV (((gd ws k).Agg).Count)), (iV (((gd ws k).Agg).Sum)), (iV (((gd ws k).Agg).Min)), (iV (((gd ws k).Agg).Max)), (iV (((gd ws k).Agg).First)), (iV (((gd ws k).Agg).Last))]), (kEq (bif g308 then (iV ((gd ws k).Hi)) else undef)), (kEq (bif g308 then (.bool (decide (((gd h j).T) < ((gd ws k).Hi)))) else undef)), (kEq (bif g204 then (.bool g588) else undef)), (kEq (.bool g590)), (kEq (.bool g590))] ⟨mEq, mEq, mEq, mEq, mPtc, mPtc, mEq, mEq, mEq, mPtc, mPtc, mEq, mEq, mEq, mEq, mEq, mPtc, mPtc, mEq, mEq, mEq, mPtc, mPtc, mEq, mEq, mEq, mEq, mEq, trivial⟩ (by kernel_rfl) rfl (by kernel_rfl) ⟨hst.drewW.sub .slnil, hst.drewW⟩ (fun hM => ⟨?_, ?_, ?_, ?_, ?_, ?_, ?_, ?_, ?_, ?_, ?_, ?_, ?_, ?_, ?_, ?_, ?_, ?_, ?_, ?_, ?_, ?_, ?_, ?_, ?_, ?_, ?_, ?_, trivial⟩) ?_
   ·rintro D ρo wo nD eD cD jD aD ⟨f13, _⟩
    exact go_plain (op_move (.bool ((!inT fr to (gd h j)) || coverB (ws.take k) (gd h j))) (f13.trans q198_13) (kN0 (i := 0) hM (by decide) (by exact jD) (by exact rfl)))
   ·rintro D ρo wo nD eD cD jD aD ⟨f129, _⟩
    exact go_plain (op_move (.bool ((!inT fr to (gd h j)) || coverB (ws.take k) (gd h j))) f129 (kN0 (i := 1) hM (by decide) (by exact jD) (by exact rfl)))
   ·rintro D ρo wo nD eD cD jD aD ⟨f0, f130, _⟩
    refine go_lz 130 rfl ((gA_f f130).trans hg205.symm) ?_ (fun hc593 => (kN0 (i := 2) hM (by decide) (by exact jD) (by exact (gf hc593).symm)))
    intro hc593
    exact id (op_move v_h (f0.trans q198_0) (kN0 (i := 2) hM (by decide) (by exact jD) (by exact (gt hc593).symm)))
   ·rintro D ρo wo nD eD cD jD aD ⟨f12, f130, _⟩
    refine go_lz 130 rfl ((gA_f f130).trans hg205.symm) ?_ (fun hc594 => (kN0 (i := 3) hM (by decide) (by exact jD) (by exact (gf hc594).symm)))
    intro hc594
    exact id (op_move (iV (j : Int)) (f12.trans q198_12) (kN0 (i := 3) hM (by decide) (by exact jD) (by exact (gt hc594).symm)))
   ·rintro D ρo wo nD eD cD jD aD ⟨f131, f132, f130, _⟩
    refine go_lz 130 rfl ((gA_f f130).trans hg205.symm) ?_ (fun hc595 => (kN0 (i := 4) hM (by decide) (by exact jD) (by exact fun h => absurd (show _ = true from h) (by rw [hc595]; decide))))
    intro hc595
    have c596 : ((!inT fr to (gd h j)) || coverB (ws.take k) (gd h j)) = false := (not_t (hg205.symm.trans hc595))
    refine id (op_indexAddrD (E := sampE) (xs := h) j Try.underlying23 Try.sizeOf51 (f131.trans (gt hc595)) h_h (f132.trans (gt hc595)) (by omega) (by omega) (fun a597 o598 p599 => ?_))
    exact (kN0 (i := 4) hM (by decide) (by exact jD) (by exact fun _ => ⟨_, _, rfl, p599⟩))
   ·rintro D ρo wo nD eD cD jD aD ⟨f133, f130, _⟩
    refine go_lz 130 rfl ((gA_f f130).trans hg205.symm) ?_ (fun hc600 => (kN0 (i := 5) hM (by decide) (by exact jD) (by exact fun h => absurd (show _ = true from h) (by rw [hc600]; decide))))
    intro hc600
    obtain ⟨a601, o602, e603, p604⟩ := f133 hc600
    exact id (op_fieldAddr (s := 0) Try.underlying51 rfl rfl Try.sizeOf2 e603 (kN0 (i := 5) hM (by decide) (by exact jD) (by exact fun _ => ⟨_, _, rfl, p604⟩)))
   ·rintro D ρo wo nD eD cD jD aD ⟨f134, f130, _⟩
    refine go_lz 130 rfl ((gA_f f130).trans hg205.symm) ?_ (fun hc605 => (kN0 (i := 6) hM (by decide) (by exact jD) (by exact (gf hc605).symm)))
    intro hc605
    have hst := jD.2 
    replace hst : St w0 wo [] := hst
    obtain ⟨a606, o607, e608, p609⟩ := f134 hc605
    exact id (op_load1 (u := (iV ((gd h j).T))) Try.isAgg2 e608 (p609.below hst.below) (kN0 (i := 6) hM (by decide) (by exact jD) (by exact (gt hc605).symm)))
   ·rintro D ρo wo nD eD cD jD aD ⟨f1, f130, _⟩
    refine go_lz 130 rfl ((gA_f f130).trans hg205.symm) ?_ (fun hc610 => (kN0 (i := 7) hM (by decide) (by exact jD) (by exact (gf hc610).symm)))
    intro hc610
    exact id (op_move v_ws (f1.trans q198_1) (kN0 (i := 7) hM (by decide) (by exact jD) (by exact (gt hc610).symm)))
   ·rintro D ρo wo nD eD cD jD aD ⟨f14, f130, _⟩
    refine go_lz 130 rfl ((gA_f f130).trans hg205.symm) ?_ (fun hc611 => (kN0 (i := 8) hM (by decide) (by exact jD) (by exact (gf hc611).symm)))
    intro hc611
    exact id (op_move (iV (k : Int)) (f14.trans q198_14) (kN0 (i := 8) hM (by decide) (by exact jD) (by exact (gt hc611).symm)))
   ·rintro D ρo wo nD eD cD jD aD ⟨f136, f137, f130, _⟩
    refine go_lz 130 rfl ((gA_f f130).trans hg205.symm) ?_ (fun hc612 => (kN0 (i := 9) hM (by decide) (by exact jD) (by exact fun h => absurd (show _ = true from h) (by rw [hc612]; decide))))
    intro hc612
    have c613 : ((!inT fr to (gd h j)) || coverB (ws.take k) (gd h j)) = false := (not_t (hg205.symm.trans hc612))
    refine id (op_indexAddrD (E := winE) (xs := ws) k Try.underlying38 Try.sizeOf70 (f136.trans (gt hc612)) h_ws (f137.trans (gt hc612)) (by omega) (by omega) (fun a614 o615 p616 => ?_))
    exact (kN0 (i := 9) hM (by decide) (by exact jD) (by exact fun _ => ⟨_, _, rfl, p616⟩))
   ·rintro D ρo wo nD eD cD jD aD ⟨f138, f130, _⟩
    refine go_lz 130 rfl ((gA_f f130).trans hg205.symm) ?_ (fun hc617 => (kN0 (i := 10) hM (by decide) (by exact jD) (by exact fun h => absurd (show _ = true from h) (by rw [hc617]; decide))))
    intro hc617
    obtain ⟨a618, o619, e620, p621⟩ := f138 hc617
    exact id (op_fieldAddr (s := 0) Try.underlying70 rfl rfl Try.sizeOf2 e620 (kN0 (i := 10) hM (by decide) (by exact jD) (by exact fun _ => ⟨_, _, rfl, (p621.drop 1)⟩)))
   ·rintro D ρo wo nD eD cD jD aD ⟨f139, f130, _⟩
    refine go_lz 130 rfl ((gA_f f130).trans hg205.symm) ?_ (fun hc622 => (kN0 (i := 11) hM (by decide) (by exact jD) (by exact (gf hc622).symm)))
    intro hc622
    have hst := jD.2 
    replace hst : St w0 wo [] := hst
    obtain ⟨a623, o624, e625, p626⟩ := f139 hc622
    exact id (op_load1 (u := (iV ((gd ws k).Lo))) Try.isAgg2 e625 (p626.below hst.below) (kN0 (i := 11) hM (by decide) (by exact jD) (by exact (gt hc622).symm)))
   ·rintro D ρo wo nD eD cD jD aD ⟨f135, f140, f130, _⟩
    refine go_lz 130 rfl ((gA_f f130).trans hg205.symm) ?_ (fun hc627 => (kN0 (i := 12) hM (by decide) (by exact jD) (by exact (gf hc627).symm)))
    intro hc627
    exact id (op_geq (k := .i64) (a := (gd h j).T) (b := (gd ws k).Lo) (f135.trans (gt hc627)) (f140.trans (gt hc627)) (kN0 (i := 12) hM (by decide) (by exact jD) (by exact (gt hc627).symm)))
   ·rintro D ρo wo nD eD cD jD aD ⟨f141, f130, _⟩
    refine go_lz 130 rfl ((gA_f f130).trans hg205.symm) ?_ (fun hc628 => (kN0 (i := 13) hM (by decide) (by exact jD) (by exact (gf hc628).symm)))
    intro hc628
    exact id (op_move (.bool (decide (((gd ws k).Lo) ≤ ((gd h j).T)))) (f141.trans (gt hc628)) (kN0 (i := 13) hM (by decide) (by exact jD) (by exact (gt hc628).symm)))
   ·rintro D ρo wo nD eD cD jD aD ⟨f0, f142, _⟩
    refine go_lz 142 rfl ((gB_t f142).trans hg309.symm) ?_ (fun hc629 => (kN0 (i := 14) hM (by decide) (by exact jD) (by exact (gf hc629).symm)))
    intro hc629
    exact id (op_move v_h (f0.trans q198_0) (kN0 (i := 14) hM (by decide) (by exact jD) (by exact (gt hc629).symm)))
   ·rintro D ρo wo nD eD cD jD aD ⟨f12, f142, _⟩
    refine go_lz 142 rfl ((gB_t f142).trans hg309.symm) ?_ (fun hc630 => (kN0 (i := 15) hM (by decide) (by exact jD) (by exact (gf hc630).symm)))
    intro hc630
    exact id (op_move (iV (j : Int)) (f12.trans q198_12) (kN0 (i := 15) hM (by decide) (by exact jD) (by exact (gt hc630).symm)))
   ·rintro D ρo wo nD eD cD jD aD ⟨f143, f144, f142, _⟩
    refine go_lz 142 rfl ((gB_t f142).trans hg309.symm) ?_ (fun hc631 => (kN0 (i := 16) hM (by decide) (by exact jD) (by exact fun h => absurd (show _ = true from h) (by rw [hc631]; decide))))
    intro hc631
    have c632 : ((!inT fr to (gd h j)) || coverB (ws.take k) (gd h j)) = false := (not_t (hg205.symm.trans (and_l (hg309.symm.trans hc631))))
    have c633 : ((gd ws k).Lo) ≤ ((gd h j).T) := of_decide_eq_true (and_r (hg309.symm.trans hc631))
    refine id (op_indexAddrD (E := sampE) (xs := h) j Try.underlying23 Try.sizeOf51 (f143.trans (gt hc631)) h_h (f144.trans (gt hc631)) (by omega) (by omega) (fun a634 o635 p636 => ?_))
    exact (kN0 (i := 16) hM (by decide) (by exact jD) (by exact fun _ => ⟨_, _, rfl, p636⟩))
   ·rintro D ρo wo nD eD cD jD aD ⟨f145, f142, _⟩
    refine go_lz 142 rfl ((gB_t f142).trans hg309.symm) ?_ (fun hc637 => (kN0 (i := 17) hM (by decide) (by exact jD) (by exact fun h => absurd (show _ = true from h) (by rw [hc637]; decide))))
    intro hc637
    obtain ⟨a638, o639, e640, p641⟩ := f145 hc637
    exact id (op_fieldAddr (s := 0) Try.underlying51 rfl rfl Try.sizeOf2 e640 (kN0 (i := 17) hM (by decide) (by exact jD) (by exact fun _ => ⟨_, _, rfl, p641⟩)))
   ·rintro D ρo wo nD eD cD jD aD ⟨f146, f142, _⟩
    refine go_lz 142 rfl ((gB_t f142).trans hg309.symm) ?_ (fun hc642 => (kN0 (i := 18) hM (by decide) (by exact jD) (by exact (gf hc642).symm)))
    intro hc642
    have hst := jD.2 
    replace hst : St w0 wo [] := hst
    obtain ⟨a643, o644, e645, p646⟩ := f146 hc642
    exact id (op_load1 (u := (iV ((gd h j).T))) Try.isAgg2 e645 (p646.below hst.below) (kN0 (i := 18) hM (by decide) (by exact jD) (by exact (gt hc642).symm)))
   ·rintro D ρo wo nD eD cD jD aD ⟨f1, f142, _⟩
    refine go_lz 142 rfl ((gB_t f142).trans hg309.symm) ?_ (fun hc647 => (kN0 (i := 19) hM (by decide) (by exact jD) (by exact (gf hc647).symm)))
    intro hc647
    exact id (op_move v_ws (f1.trans q198_1) (kN0 (i := 19) hM (by decide) (by exact jD) (by exact (gt hc647).symm)))
   ·rintro D ρo wo nD eD cD jD aD ⟨f14, f142, _⟩
    refine go_lz 142 rfl ((gB_t f142).trans hg309.symm) ?_ (fun hc648 => (kN0 (i := 20) hM (by decide) (by exact jD) (by exact (gf hc648).symm)))
    intro hc648
    exact id (op_move (iV (k : Int)) (f14.trans q198_14) (kN0 (i := 20) hM (by decide) (by exact jD) (by exact (gt hc648).symm)))
   ·rintro D ρo wo nD eD cD jD aD ⟨f148, f149, f142, _⟩
    refine go_lz 142 rfl ((gB_t f142).trans hg309.symm) ?_ (fun hc649 => (kN0 (i := 21) hM (by decide) (by exact jD) (by exact fun h => absurd (show _ = true from h) (by rw [hc649]; decide))))
    intro hc649
    have c650 : ((!inT fr to (gd h j)) || coverB (ws.take k) (gd h j)) = false := (not_t (hg205.symm.trans (and_l (hg309.symm.trans hc649))))
    have c651 : ((gd ws k).Lo) ≤ ((gd h j).T) := of_decide_eq_true (and_r (hg309.symm.trans hc649))
    refine id (op_indexAddrD (E := winE) (xs := ws) k Try.underlying38 Try.sizeOf70 (f148.trans (gt hc649)) h_ws (f149.trans (gt hc649)) (by omega) (by omega) (fun a652 o653 p654 => ?_))
    exact (kN0 (i := 21) hM (by decide) (by exact jD) (by exact fun _ => ⟨_, _, rfl, p654⟩))
   ·rintro D ρo wo nD eD cD jD aD ⟨f150, f142, _⟩
    refine go_lz 142 rfl ((gB_t f142).trans hg309.symm) ?_ (fun hc655 => (kN0 (i := 22) hM (by decide) (by exact jD) (by exact fun h => absurd (show _ = true from h) (by rw [hc655]; decide))))
    intro hc655
    obtain ⟨a656, o657, e658, p659⟩ := f150 hc655
    exact id (op_fieldAddr (s := 0) Try.underlying70 rfl rfl Try.sizeOf2 e658 (kN0 (i := 22) hM (by decide) (by exact jD) (by exact fun _ => ⟨_, _, rfl, (p659.drop 2)⟩)))
   ·rintro D ρo wo nD eD cD jD aD ⟨f151, f142, _⟩
    refine go_lz 142 rfl ((gB_t f142).trans hg309.symm) ?_ (fun hc660 => (kN0 (i := 23) hM (by decide) (by exact jD) (by exact (gf hc660).symm)))
    intro hc660
    have hst := jD.2 
    replace hst : St w0 wo [] := hst
    obtain ⟨a661, o662, e663, p664⟩ := f151 hc660
    exact id (op_load1 (u := (iV ((gd ws k).Hi))) Try.isAgg2 e663 (p664.below hst.below) (kN0 (i := 23) hM (by decide) (by exact jD) (by exact (gt hc660).symm)))
   ·rintro D ρo wo nD eD cD jD aD ⟨f147, f152, f142, _⟩
    refine go_lz 142 rfl ((gB_t f142).trans hg309.symm) ?_ (fun hc665 => (kN0 (i := 24) hM (by decide) (by exact jD) (by exact (gf hc665).symm)))
    intro hc665
    exact id (op_lss (k := .i64) (a := (gd h j).T) (b := (gd ws k).Hi) (f147.trans (gt hc665)) (f152.trans (gt hc665)) (kN0 (i := 24) hM (by decide) (by exact jD) (by exact (gt hc665).symm)))
   ·rintro D ρo wo nD eD cD jD aD ⟨f142, f153, f130, _⟩
    refine go_lz 130 rfl ((gA_f f130).trans hg205.symm) ?_ (fun hc666 => (kN0 (i := 25) hM (by decide) (by exact jD) (by exact (gf hc666).symm)))
    intro hc666
    refine id (op_pick_and (f142.trans (gt hc666)) f153 (fun hp => (hg309.trans (and_i hc666 hp))) rfl ?_)
    exact (kN0 (i := 25) hM (by decide) (by exact jD) (by exact ((congrArg Value.bool hg589.symm).trans (gt hc666).symm)))
   ·rintro D ρo wo nD eD cD jD aD ⟨f130, f154, _⟩
    refine go_plain (op_pick_or f130 rfl f154 (fun hp => (hg205.trans (congrArg (! ·) hp))) ?_)
    exact (kN0 (i := 26) hM (by decide) (by exact jD) (by exact (congrArg Value.bool hg591.symm)))
   ·rintro D ρo wo nD eD cD jD aD ⟨f155, _⟩
    exact go_plain (op_assign (.bool g590) f155 (kN0 (i := 27) hM (by decide) (by exact jD) (by exact rfl)))
   intro ρ667 w668 Dw668 hallw668 hJw668 hRw668 hkw668
   have hst : St w0 w668 [] := hJw668.2 
   have uw668_0 : ρ667 0 = v_h := (hkw668 0 rfl).trans q198_0
   have uw668_1 : ρ667 1 = v_ws := (hkw668 1 rfl).trans q198_1
   have uw668_2 : ρ667 2 = (iV fr) := (hkw668 2 rfl).trans q198_2
   have uw668_3 : ρ667 3 = (iV to) := (hkw668 3 rfl).trans q198_3
   have uw668_9 : ρ667 9 = (iV (i : Int)) := (hkw668 9 rfl).trans q198_9
   have uw668_11 : ρ667 11 = (iV (u : Int)) := (hkw668 11 rfl).trans q198_11
   have uw668_12 : ρ667 12 = (iV (j : Int)) := (hkw668 12 rfl).trans q198_12
   have uw668_14 : ρ667 14 = (iV (k : Int)) := (hkw668 14 rfl).trans q198_14
   have uw668_123 : ρ667 123 = (iV (k : Int)) := (hkw668 123 rfl).trans rfl
   have uw668_124 : ρ667 124 = v_ws := (hkw668 124 rfl).trans rfl
   have uw668_125 : ρ667 125 = (iV (ws.length : Int)) := (hkw668 125 rfl).trans rfl
   have uw668_126 : ρ667 126 = (.bool (decide ((k : Int) < (ws.length : Int)))) := (hkw668 126 rfl).trans rfl
   have uw668_13 : ρ667 13 = (.bool g590) := hRw668 27 13 rfl
   refine block_n (then_n (cE_region rfl (s_cons (op_move (iV (k : Int)) uw668_14 (s_cons (op_add (k := .i64) (a := (k : Int)) (b := 1) ((k : Int) + 1) rfl rfl (xi64 (by omega) (by omega)) (s_cons (op_assign (iV ((k : Int) + 1)) rfl (s_nil (then_n ?_))))))))))
   exact ⟨_, ⟨(k + 1), rfl, uw668_0, uw668_1, uw668_2, uw668_3, uw668_9, uw668_11, uw668_12, (uw668_13.trans (congrArg Value.bool (show g590 = _ from by first | rfl | (rw [hg591, hg589]; first | exact (cover_nil2 _) | exact (Bool.decide_or _ _).trans (cover_nil2 _) | exact cover_snoc2 (by omega) _ _)))), (congrArg iV (show ((k : Int) + 1) = _ from by omega)), hst, (by omega)⟩, (by simp only [id]; omega)⟩
  have c669 : ¬ ((k : Int) < (ws.length : Int)) := of_decide_eq_false b202
  refine cE_cond false (congrArg Value.bool b202) (fun h => by cases h) (fun _ => ?_)
  refine cE_exit (then_x (then_x (block_hit (then_n (cE_seq (cE_region rfl (s_cons (op_move (.bool ((!inT fr to (gd h j)) || coverB (ws.take k) (gd h j))) q198_13 (s_cons (op_not (b := ((!inT fr to (gd h j)) || coverB (ws.take k) (gd h j))) rfl (s_nil (then_n ?_))))))))))))
  rcases Bool.eq_false_or_eq_true ((!inT fr to (gd h j)) || coverB (ws.take k) (gd h j)) with b670 | b670
  ·refine cE_cond false (congrArg Value.bool (congrArg (! ·) b670)) (fun h => by cases h) (fun _ => ?_)
   refine cE_skip (block_n (then_n (cE_region rfl (s_cons (op_move (iV (j : Int)) q198_12 (s_cons (op_add (k := .i64) (a := (j : Int)) (b := 1) ((j : Int) + 1) rfl rfl (xi64 (by omega) (by omega)) (s_cons (op_assign (iV ((j : Int) + 1)) rfl (s_nil (then_n ?_)))))))))))
   exact ⟨_, ⟨(j + 1), rfl, q198_0, q198_1, q198_2, q198_3, q198_9, q198_11, (congrArg iV (show ((j : Int) + 1) = _ from by omega)), hst, (by omega), (by first | rfl | exact miss_step (k := k) (by omega) hC (by assumption) (by omega))⟩, (by simp only [id]; omega)⟩
  refine cE_cond true (congrArg Value.bool (congrArg (! ·) b670)) (fun _ => ?_) (fun h => by cases h)
  refine cE_seq (cE_region rfl (s_cons (op_assign (iV 3) rfl (s_nil (then_n (cE_ret (block_r (then_r (then_r (block_r (then_r (post_r _ (res1 (v := (iV 3)) rfl) ?_))))))))))))
  exact ⟨(retv1 (congrArg iV (show 3 = (answerC h ws fr to) from by first | exact (ans_1R (i := i) (by omega) (mayW_no2 (by assumption))).symm | exact (ans_2 hMA (i := u) (by omega) (by omega) (by omega)).symm | exact (ans_3R hMA hIA (i := j) (k := k) (by omega) (by assumption) (by omega)).symm | exact (ans_4 hMA hIA hCA (q := q) (by omega) (by first | assumption | omega)).symm | exact (ans_0 hMA hIA hCA hR (by omega)).symm))), hst.bare⟩
 have c671 : ¬ ((j : Int) < (h.length : Int)) := of_decide_eq_false b148
 refine cE_cond false (congrArg Value.bool b148) (fun h => by cases h) (fun _ => ?_)
 refine cE_exit (then_x (then_x (block_hit (then_n (cE_seq (cE_seq ?_))))))
 have hCA := miss_end hC (by omega)
 refine cE_region rfl (s_cons (op_assign (iV 0) rfl (s_nil (then_n (cE_block (cE_loop (fun (m : Nat) (ρ : Env) (w : World) => ∃ (q : Nat), m = ws.length - q ∧ ρ 0 = v_h ∧ ρ 1 = v_ws ∧ ρ 2 = (iV fr) ∧ ρ 3 = (iV to) ∧ ρ 9 = (iV (i : Int)) ∧ ρ 11 = (iV (u : Int)) ∧ ρ 12 = (iV (j : Int)) ∧ ρ 15 = (iV (q : Int)) ∧ St w0 w [] ∧ (q ≤ ws.length) ∧ ((ws.take q).any (fun w => !rightW h w) = false)) id _ ⟨0, rfl, q144_0, q144_1, q144_2, q144_3, q144_9, q144_11, q144_12, (congrArg iV (show 0 = _ from by omega)), hst, (by omega), (by first | rfl | exact right_step (by omega) hR (by assumption) (by assumption))⟩ ?_))))))
 rintro m673 ρ674 w675 ⟨q, hm673, q672_0, q672_1, q672_2, q672_3, q672_9, q672_11, q672_12, q672_15, hst, hq, hR⟩
 refine cE_seq (cE_seq (cE_region rfl (s_cons (op_move (iV (q : Int)) q672_15 (s_cons (op_move v_ws q672_1 (s_cons (op_len (E := winE) (xs := ws) Try.underlying38 rfl h_ws (s_cons (op_lss (k := .i64) (a := (q : Int)) (b := (ws.length : Int)) rfl rfl (s_nil (then_n ?_))))))))))))
 rcases Bool.eq_false_or_eq_true (decide ((q : Int) < (ws.length : Int))) with b676 | b676
 ·have c677 : (q : Int) < (ws.length : Int) := of_decide_eq_true b676
  refine cE_cond true (congrArg Value.bool b676) (fun _ => ?_) (fun h => by cases h)
  refine cE_skip (then_n (cE_seq (cE_block (cE_seq (cE_region rfl (s_cons (op_assign nS rfl (s_nil (then_n (cE_seq (cE_seq (cE_region rfl (s_cons (op_assign (iV 0) rfl (s_nil (then_n (cE_block ?_)))))))))))))))))
  replace hst : St w0 w675 [rowT 51 sampE nS ([])] := hst.nilRow 51 sampE
  refine cE_loop (fun (m : Nat) (ρ : Env) (w : World) => ∃ (vo : Value) (ys : List Sample) (z : Nat), m = h.length - z ∧ ρ 0 = v_h ∧ ρ 1 = v_ws ∧ ρ 2 = (iV fr) ∧ ρ 3 = (iV to) ∧ ρ 9 = (iV (i : Int)) ∧ ρ 11 = (iV (u : Int)) ∧ ρ 12 = (iV (j : Int)) ∧ ρ 15 = (iV (q : Int)) ∧ ρ 16 = vo ∧ ρ 17 = (iV (z : Int)) ∧ St w0 w [rowT 51 sampE vo ys] ∧ (z ≤ h.length) ∧ (ys = (h.take z).filter (inT (gd ws q).Lo (gd ws q).Hi))) id _ ⟨nS, [], 0, rfl, q672_0, q672_1, q672_2, q672_3, q672_9, q672_11, q672_12, q672_15, rfl, (congrArg iV (show 0 = _ from by omega)), hst, (by omega), (by first | rfl | exact without_gd (by omega) hY (by omega) | exact within_gd (by omega) hY (by omega))⟩ ?_
  rintro m679 ρ680 w681 ⟨vo, ys, z, hm679, q678_0, q678_1, q678_2, q678_3, q678_9, q678_11, q678_12, q678_15, q678_16, q678_17, hst, hz, hY⟩
  have hyl : ys.length ≤ z := by rw [hY]; have := filt_len (h.take z) (inT (gd ws q).Lo (gd ws q).Hi); rw [List.length_take] at this; omega
  refine cE_seq (cE_seq (cE_region rfl (s_cons (op_move (iV (z : Int)) q678_17 (s_cons (op_move v_h q678_0 (s_cons (op_len (E := sampE) (xs := h) Try.underlying23 rfl h_h (s_cons (op_lss (k := .i64) (a := (z : Int)) (b := (h.length : Int)) rfl rfl (s_nil (then_n ?_))))))))))))
  rcases Bool.eq_false_or_eq_true (decide ((z : Int) < (h.length : Int))) with b682 | b682
  ·have c683 : (z : Int) < (h.length : Int) := of_decide_eq_true b682
   refine cE_cond true (congrArg Value.bool b682) (fun _ => ?_) (fun h => by cases h)
   refine cE_skip (then_n (cE_seq (cE_block (cE_seq ?_))))
   obtain ⟨g690, hg691⟩ : ∃ x : Bool, x = decide (((gd ws q).Lo) ≤ ((gd h z).T)) := ⟨_, rfl⟩
   obtain ⟨g778, hg779⟩ : ∃ x : Bool, x = ((decide (((gd ws q).Lo) ≤ ((gd h z).T))) && (decide (((gd h z).T) < ((gd ws q).Hi)))) := ⟨_, rfl⟩
   refine cE_regionM (fun (D : Nat → Bool) (w : World) => St w0 w [rowT 51 sampE vo ys] ∧ (St w0 w [rowT 51 sampE vo ys])) [[(0, none)], [(17, none)], [(170, some 0), (171, some 1)], [(172, some 2)], [(173, some 3)], [(1, none)], [(15, none)], [(175, some 5), (176, some 6)], [(177, some 7)], [(178, some 8)], [(174, some 4), (179, some 9)], [(180, some 10)], [(0, none), (181, some 11)], [(17, none), (181, some 11)], [(182, some 12), (183, some 13), (181, some 11)], [(184, some 14), (181, some 11)], [(185, some 15), (181, some 11)], [(1, none), (181, some 11)], [(15, none), (181, some 11)], [(187, some 17), (188, some 18), (181, some 11)], [(189, some 19), (181, some 11)], [(190, some 20), (181, some 11)], [(186, some 16), (191, some 21), (181, some 11)], [(181, some 11), (192, some 22)]] [] [(kEq v_h), (kEq (iV (z : Int))), (kPt0 w0 [(iV ((gd h z).T)), (iV ((gd h z).V))]), (kPt0 w0 [(iV ((gd h z).T)), (iV ((gd h z).V))]), (kEq (iV ((gd h z).T))), (kEq v_ws), (kEq (iV (q : Int))), (kPt0 w0 [(iV ((gd ws q).Tier)), (iV ((gd ws q).Lo)), (iV ((gd ws q).Hi)), (iV (((gd ws q).Agg).From)), (iV (((gd ws q).Agg).Count)), (iV (((gd ws q).Agg).Sum)), (iV (((gd ws q).Agg).Min)), (iV (((gd ws q).Agg).Max)), (iV (((gd ws q).Agg).First)), (iV (((gd ws q).Agg).Last))]), (kPt0 w0 [(iV ((gd ws q).Lo)), (iV ((gd ws q).Hi)), (iV (((gd ws q).Agg).From)), (iV (((gd ws q).Agg).Count)), (iV (((gd ws q).Agg).Sum)), (iV (((gd ws q).Agg).Min)), (iV (((gd ws q).Agg).Max)), (iV (((gd ws q).Agg).First)), (iV (((gd ws q).Agg).Last))]), (kEq (iV ((gd ws q).Lo))), (kEq (.bool (decide (((gd ws q).Lo) ≤ ((gd h z).T))))), (kEq (.bool (decide (((gd ws q).Lo) ≤ ((gd h z).T))))), (kEq (bif g690 then v_h else undef)), (kEq (bif g690 then (iV (z : Int)) else undef)), (kPtc w0 g690 [(iV ((gd h z).T)), (iV ((gd h z).V))]), (kPtc w0 g690 [(iV ((gd h z).T)), (iV ((gd h z).V))]), (kEq (bif g690 then (iV ((gd h z).T)) else undef)), (kEq (bif g690 then v_ws else undef)), (kEq (bif g690 then (iV (q : Int)) else undef)), (kPtc w0 g690 [(iV ((gd ws q).Tier)), (iV ((gd ws q).Lo)), (iV ((gd ws q).Hi)), (iV (((gd ws q).Agg).From)), (iV (((gd ws q).Agg).Count)), (iV (((gd ws q).Agg).Sum)), (iV (((gd ws q).Agg).Min)), (iV (((gd ws q).Agg).Max)), (iV (((gd ws q).Agg).First)), (iV (((gd ws q).Agg).Last))]), (kPtc w0 g690 [(iV ((gd ws q).Hi)), (iV (((gd ws q).Agg).From)), (iV (((gd ws q).Agg).Count)), (iV (((gd ws q).Agg).Sum)), (iV (((gd ws q).Agg).Min)), (iV (((gd ws q).Agg).Max)), (iV (((gd ws q).Agg).First)), (iV (((gd ws q).Agg).Last))]), (kEq (bif g690 then (iV ((gd ws q).Hi)) else undef)), (kEq (bif g690 then (.bool (decide (((gd h z).T) < ((gd ws q).Hi)))) else undef)), (kEq (.bool g778))] ⟨mEq, mEq, mPt0, mPt0, mEq, mEq, mEq, mPt0, mPt0, mEq, mEq, mEq, mEq, mEq, mPtc, mPtc, mEq, mEq, mEq, mPtc, mPtc, mEq, mEq, mEq, trivial⟩ (by kernel_rfl) rfl (by kernel_rfl) ⟨hst.drewW.sub (.cons_cons _ .slnil), hst.drewW⟩ (fun hM => ⟨?_, ?_, ?_, ?_, ?_, ?_, ?_, ?_, ?_, ?_, ?_, ?_, ?_, ?_, ?_, ?_, ?_, ?_, ?_, ?_, ?_, ?_, ?_, ?_, trivial⟩) ?_
   ·rintro D ρo wo nD eD cD jD aD ⟨f0, _⟩
    exact go_plain (op_move v_h (f0.trans q678_0) (kN0 (i := 0) hM (by decide) (by exact jD) (by exact rfl)))
   ·rintro D ρo wo nD eD cD jD aD ⟨f17, _⟩
    exact go_plain (op_move (iV (z : Int)) (f17.trans q678_17) (kN0 (i := 1) hM (by decide) (by exact jD) (by exact rfl)))
   ·rintro D ρo wo nD eD cD jD aD ⟨f170, f171, _⟩
    refine go_plain (op_indexAddrD (E := sampE) (xs := h) z Try.underlying23 Try.sizeOf51 f170 h_h f171 (by omega) (by omega) (fun a781 o782 p783 => ?_))
    exact (kN0 (i := 2) hM (by decide) (by exact jD) (by exact ⟨_, _, rfl, p783⟩))
   ·rintro D ρo wo nD eD cD jD aD ⟨f172, _⟩
    obtain ⟨a784, o785, e786, p787⟩ := f172
    exact go_plain (op_fieldAddr (s := 0) Try.underlying51 rfl rfl Try.sizeOf2 e786 (kN0 (i := 3) hM (by decide) (by exact jD) (by exact ⟨_, _, rfl, p787⟩)))
   ·rintro D ρo wo nD eD cD jD aD ⟨f173, _⟩
    have hst := jD.2 
    replace hst : St w0 wo [rowT 51 sampE vo ys] := hst
    obtain ⟨a788, o789, e790, p791⟩ := f173
    exact go_plain (op_load1 (u := (iV ((gd h z).T))) Try.isAgg2 e790 (p791.below hst.below) (kN0 (i := 4) hM (by decide) (by exact jD) (by exact rfl)))
   ·rintro D ρo wo nD eD cD jD aD ⟨f1, _⟩
    exact go_plain (op_move v_ws (f1.trans q678_1) (kN0 (i := 5) hM (by decide) (by exact jD) (by exact rfl)))
   ·rintro D ρo wo nD eD cD jD aD ⟨f15, _⟩
    exact go_plain (op_move (iV (q : Int)) (f15.trans q678_15) (kN0 (i := 6) hM (by decide) (by exact jD) (by exact rfl)))
   ·rintro D ρo wo nD eD cD jD aD ⟨f175, f176, _⟩
    refine go_plain (op_indexAddrD (E := winE) (xs := ws) q Try.underlying38 Try.sizeOf70 f175 h_ws f176 (by omega) (by omega) (fun a792 o793 p794 => ?_))
    exact (kN0 (i := 7) hM (by decide) (by exact jD) (by exact ⟨_, _, rfl, p794⟩))
   ·rintro D ρo wo nD eD cD jD aD ⟨f177, _⟩
    obtain ⟨a795, o796, e797, p798⟩ := f177
    exact go_plain (op_fieldAddr (s := 0) Try.underlying70 rfl rfl Try.sizeOf2 e797 (kN0 (i := 8) hM (by decide) (by exact jD) (by exact ⟨_, _, rfl, (p798.drop 1)⟩)))
   ·rintro D ρo wo nD eD cD jD aD ⟨f178, _⟩
    have hst := jD.2 
    replace hst : St w0 wo [rowT 51 sampE vo ys] := hst
    obtain ⟨a799, o800, e801, p802⟩ := f178
    exact go_plain (op_load1 (u := (iV ((gd ws q).Lo))) Try.isAgg2 e801 (p802.below hst.below) (kN0 (i := 9) hM (by decide) (by exact jD) (by exact rfl)))
   ·rintro D ρo wo nD eD cD jD aD ⟨f174, f179, _⟩
    exact go_plain (op_geq (k := .i64) (a := (gd h z).T) (b := (gd ws q).Lo) f174 f179 (kN0 (i := 10) hM (by decide) (by exact jD) (by exact rfl)))
   ·rintro D ρo wo nD eD cD jD aD ⟨f180, _⟩
    exact go_plain (op_move (.bool (decide (((gd ws q).Lo) ≤ ((gd h z).T)))) f180 (kN0 (i := 11) hM (by decide) (by exact jD) (by exact rfl)))
   ·rintro D ρo wo nD eD cD jD aD ⟨f0, f181, _⟩
    refine go_lz 181 rfl ((gA_t f181).trans hg691.symm) ?_ (fun hc803 => (kN0 (i := 12) hM (by decide) (by exact jD) (by exact (gf hc803).symm)))
    intro hc803
    exact id (op_move v_h (f0.trans q678_0) (kN0 (i := 12) hM (by decide) (by exact jD) (by exact (gt hc803).symm)))
   ·rintro D ρo wo nD eD cD jD aD ⟨f17, f181, _⟩
    refine go_lz 181 rfl ((gA_t f181).trans hg691.symm) ?_ (fun hc804 => (kN0 (i := 13) hM (by decide) (by exact jD) (by exact (gf hc804).symm)))
    intro hc804
    exact id (op_move (iV (z : Int)) (f17.trans q678_17) (kN0 (i := 13) hM (by decide) (by exact jD) (by exact (gt hc804).symm)))
   ·rintro D ρo wo nD eD cD jD aD ⟨f182, f183, f181, _⟩
    refine go_lz 181 rfl ((gA_t f181).trans hg691.symm) ?_ (fun hc805 => (kN0 (i := 14) hM (by decide) (by exact jD) (by exact fun h => absurd (show _ = true from h) (by rw [hc805]; decide))))
    intro hc805
    have c806 : ((gd ws q).Lo) ≤ ((gd h z).T) := of_decide_eq_true (hg691.symm.trans hc805)
    refine id (op_indexAddrD (E := sampE) (xs := h) z Try.underlying23 Try.sizeOf51 (f182.trans (gt hc805)) h_h (f183.trans (gt hc805)) (by omega) (by omega) (fun a807 o808 p809 => ?_))
    exact (kN0 (i := 14) hM (by decide) (by exact jD) (by exact fun _ => ⟨_, _, rfl, p809⟩))
   ·rintro D ρo wo nD eD cD jD aD ⟨f184, f181, _⟩
    refine go_lz 181 rfl ((gA_t f181).trans hg691.symm) ?_ (fun hc810 => (kN0 (i := 15) hM (by decide) (by exact jD) (by exact fun h => absurd (show _ = true from h) (by rw [hc810]; decide))))
    intro hc810
    obtain ⟨a811, o812, e813, p814⟩ := f184 hc810
    exact id (op_fieldAddr (s := 0) Try.underlying51 rfl rfl Try.sizeOf2 e813 (kN0 (i := 15) hM (by decide) (by exact jD) (by exact fun _ => ⟨_, _, rfl, p814⟩)))
   ·rintro D ρo wo nD eD cD jD aD ⟨f185, f181, _⟩
    refine go_lz 181 rfl ((gA_t f181).trans hg691.symm) ?_ (fun hc815 => (kN0 (i := 16) hM (by decide) (by exact jD) (by exact (gf hc815).symm)))
    intro hc815
    have hst := jD.2 
    replace hst : St w0 wo [rowT 51 sampE vo ys] := hst
    obtain ⟨a816, o817, e818, p819⟩ := f185 hc815
    exact id (op_load1 (u := (iV ((gd h z).T))) Try.isAgg2 e818 (p819.below hst.below) (kN0 (i := 16) hM (by decide) (by exact jD) (by exact (gt hc815).symm)))
   ·rintro D ρo wo nD eD cD jD aD ⟨f1, f181, _⟩
    refine go_lz 181 rfl ((gA_t f181).trans hg691.symm) ?_ (fun hc820 => (kN0 (i := 17) hM (by decide) (by exact jD) (by exact (gf hc820).symm)))
    intro hc820
    exact id (op_move v_ws (f1.trans q678_1) (kN0 (i := 17) hM (by decide) (by exact jD) (by exact (gt hc820).symm)))
   ·rintro D ρo wo nD eD cD jD aD ⟨f15, f181, _⟩
    refine go_lz 181 rfl ((gA_t f181).trans hg691.symm) ?_ (fun hc821 => (kN0 (i := 18) hM (by decide) (by exact jD) (by exact (gf hc821).symm)))
    intro hc821
    exact id (op_move (iV (q : Int)) (f15.trans q678_15) (kN0 (i := 18) hM (by decide) (by exact jD) (by exact (gt hc821).symm)))
   ·rintro D ρo wo nD eD cD jD aD ⟨f187, f188, f181, _⟩
    refine go_lz 181 rfl ((gA_t f181).trans hg691.symm) ?_ (fun hc822 => (kN0 (i := 19) hM (by decide) (by exact jD) (by exact fun h => absurd (show _ = true from h) (by rw [hc822]; decide))))
    intro hc822
    have c823 : ((gd ws q).Lo) ≤ ((gd h z).T) := of_decide_eq_true (hg691.symm.trans hc822)
    refine id (op_indexAddrD (E := winE) (xs := ws) q Try.underlying38 Try.sizeOf70 (f187.trans (gt hc822)) h_ws (f188.trans (gt hc822)) (by omega) (by omega) (fun a824 o825 p826 => ?_))
    exact (kN0 (i := 19) hM (by decide) (by exact jD) (by exact fun _ => ⟨_, _, rfl, p826⟩))
   ·rintro D ρo wo nD eD cD jD aD ⟨f189, f181, _⟩
    refine go_lz 181 rfl ((gA_t f181).trans hg691.symm) ?_ (fun hc827 => (kN0 (i := 20) hM (by decide) (by exact jD) (by exact fun h => absurd (show _ = true from h) (by rw [hc827]; decide))))
    intro hc827
    obtain ⟨a828, o829, e830, p831⟩ := f189 hc827
    exact id (op_fieldAddr (s := 0) Try.underlying70 rfl rfl Try.sizeOf2 e830 (kN0 (i := 20) hM (by decide) (by exact jD) (by exact fun _ => ⟨_, _, rfl, (p831.drop 2)⟩)))
   ·rintro D ρo wo nD eD cD jD aD ⟨f190, f181, _⟩
    refine go_lz 181 rfl ((gA_t f181).trans hg691.symm) ?_ (fun hc832 => (kN0 (i := 21) hM (by decide) (by exact jD) (by exact (gf hc832).symm)))
    intro hc832
    have hst := jD.2 
    replace hst : St w0 wo [rowT 51 sampE vo ys] := hst
    obtain ⟨a833, o834, e835, p836⟩ := f190 hc832
    exact id (op_load1 (u := (iV ((gd ws q).Hi))) Try.isAgg2 e835 (p836.below hst.below) (kN0 (i := 21) hM (by decide) (by exact jD) (by exact (gt hc832).symm)))
   ·rintro D ρo wo nD eD cD jD aD ⟨f186, f191, f181, _⟩
    refine go_lz 181 rfl ((gA_t f181).trans hg691.symm) ?_ (fun hc837 => (kN0 (i := 22) hM (by decide) (by exact jD) (by exact (gf hc837).symm)))
    intro hc837
    exact id (op_lss (k := .i64) (a := (gd h z).T) (b := (gd ws q).Hi) (f186.trans (gt hc837)) (f191.trans (gt hc837)) (kN0 (i := 22) hM (by decide) (by exact jD) (by exact (gt hc837).symm)))
   ·rintro D ρo wo nD eD cD jD aD ⟨f181, f192, _⟩
    refine go_plain (op_pick_and f181 f192 (fun hp => (hg691.trans hp)) rfl ?_)
    exact (kN0 (i := 23) hM (by decide) (by exact jD) (by exact (congrArg Value.bool hg779.symm)))
   intro ρ838 w839 Dw839 hallw839 hJw839 hRw839 hkw839
   have hst : St w0 w839 [rowT 51 sampE vo ys] := hJw839.2 
   have uw839_0 : ρ838 0 = v_h := (hkw839 0 rfl).trans q678_0
   have uw839_1 : ρ838 1 = v_ws := (hkw839 1 rfl).trans q678_1
   have uw839_2 : ρ838 2 = (iV fr) := (hkw839 2 rfl).trans q678_2
   have uw839_3 : ρ838 3 = (iV to) := (hkw839 3 rfl).trans q678_3
   have uw839_9 : ρ838 9 = (iV (i : Int)) := (hkw839 9 rfl).trans q678_9
   have uw839_11 : ρ838 11 = (iV (u : Int)) := (hkw839 11 rfl).trans q678_11
   have uw839_12 : ρ838 12 = (iV (j : Int)) := (hkw839 12 rfl).trans q678_12
   have uw839_15 : ρ838 15 = (iV (q : Int)) := (hkw839 15 rfl).trans q678_15
   have uw839_16 : ρ838 16 = vo := (hkw839 16 rfl).trans q678_16
   have uw839_17 : ρ838 17 = (iV (z : Int)) := (hkw839 17 rfl).trans q678_17
   have uw839_164 : ρ838 164 = (iV (z : Int)) := (hkw839 164 rfl).trans rfl
   have uw839_165 : ρ838 165 = v_h := (hkw839 165 rfl).trans rfl
   have uw839_166 : ρ838 166 = (iV (h.length : Int)) := (hkw839 166 rfl).trans rfl
   have uw839_167 : ρ838 167 = (.bool (decide ((z : Int) < (h.length : Int)))) := (hkw839 167 rfl).trans rfl
   have uw839_193 : ρ838 193 = (.bool g778) := hRw839 23 193 rfl
   refine then_n ?_
   rcases Bool.eq_false_or_eq_true g778 with b840 | b840
   ·have c841 : ((gd ws q).Lo) ≤ ((gd h z).T) := of_decide_eq_true (and_l (hg779.symm.trans b840))
    have c842 : ((gd h z).T) < ((gd ws q).Hi) := of_decide_eq_true (and_r (hg779.symm.trans b840))
    refine cE_cond true (uw839_193.trans (congrArg Value.bool b840)) (fun _ => ?_) (fun h => by cases h)
    refine cE_region rfl (s_cons (op_move vo uw839_16 (s_cons (op_move v_h uw839_0 (s_cons (op_move (iV (z : Int)) uw839_17 (s_cons (op_indexAddrD (E := sampE) (xs := h) z Try.underlying23 Try.sizeOf51 rfl h_h rfl (by omega) (by omega) (fun a843 o844 p845 => ?_)))))))))
    refine s_cons (op_loadN (cs := [(iV ((gd h z).T)), (iV ((gd h z).V))]) Try.isAgg51 Try.sizeOf51 rfl (Pt.of (p845.below hst.below) rfl) rfl (s_cons (op_buildSlice (E := sampE) [(gd h z)] hst Try.underlying23 Try.sizeOf51 Try.zeroValue51 (evp_cons (v := (.agg #[(iV ((gd h z).T)), (iV ((gd h z).V))])) rfl evp_nil) (parts_cons rfl parts_nil) rfl (by decide) (fun v846 w847 hst => ?_))))
    replace hst : St w0 w847 [rowT 51 sampE v846 ([(gd h z)]), rowT 51 sampE vo ys] := hst
    refine s_cons (op_append (E := sampE) (xs := ys) (ys := [(gd h z)]) (z := (.agg #[(iV 0), (iV 0)])) (bytes := 16) hst 1 rfl Try.underlying23 (by kernel_rfl) rfl rfl rfl (hst.sl 0 rfl) (by first | omega | (simp; omega) | (simp; done)) (by first | omega | (simp; omega) | (simp; done)) (fun v848 w849 hst => ?_))
    replace hst : St w0 w849 [rowT 51 sampE v846 ([(gd h z)]), rowT 51 sampE v848 (ys ++ ([(gd h z)]))] := hst
    refine s_cons (op_assign v848 rfl (s_nil (block_n (then_n (cE_region rfl (s_cons (op_move (iV (z : Int)) uw839_17 (s_cons (op_add (k := .i64) (a := (z : Int)) (b := 1) ((z : Int) + 1) rfl rfl (xi64 (by omega) (by omega)) (s_cons (op_assign (iV ((z : Int) + 1)) rfl (s_nil (then_n ?_)))))))))))))
    exact ⟨_, ⟨v848, (ys ++ ([(gd h z)])), (z + 1), rfl, uw839_0, uw839_1, uw839_2, uw839_3, uw839_9, uw839_11, uw839_12, uw839_15, rfl, (congrArg iV (show ((z : Int) + 1) = _ from by omega)), (hst.sub (.cons _ (.cons_cons _ .slnil))), (by omega), (by first | rfl | exact without_gd (by omega) hY (by omega) | exact within_gd (by omega) hY (by omega))⟩, (by simp only [id]; omega)⟩
   have c850 : ¬ ((((gd ws q).Lo) ≤ ((gd h z).T)) ∧ (((gd h z).T) < ((gd ws q).Hi))) := pi_f (pi_and pi_dec pi_dec) (hg779.symm.trans b840)
   refine cE_cond false (uw839_193.trans (congrArg Value.bool b840)) (fun h => by cases h) (fun _ => ?_)
   refine cE_skip (block_n (then_n (cE_region rfl (s_cons (op_move (iV (z : Int)) uw839_17 (s_cons (op_add (k := .i64) (a := (z : Int)) (b := 1) ((z : Int) + 1) rfl rfl (xi64 (by omega) (by omega)) (s_cons (op_assign (iV ((z : Int) + 1)) rfl (s_nil (then_n ?_)))))))))))
   exact ⟨_, ⟨vo, ys, (z + 1), rfl, uw839_0, uw839_1, uw839_2, uw839_3, uw839_9, uw839_11, uw839_12, uw839_15, uw839_16, (congrArg iV (show ((z : Int) + 1) = _ from by omega)), hst, (by omega), (by first | rfl | exact without_gd (by omega) hY (by omega) | exact within_gd (by omega) hY (by omega))⟩, (by simp only [id]; omega)⟩
  have c851 : ¬ ((z : Int) < (h.length : Int)) := of_decide_eq_false b682
  refine cE_cond false (congrArg Value.bool b682) (fun h => by cases h) (fun _ => ?_)
  refine cE_exit (then_x (then_x (block_hit (then_n (cE_seq ?_)))))
  have hYA : ys = (h.filter (inT (gd ws q).Lo (gd ws q).Hi)) := by rw [hY, List.take_of_length_le (by omega)]
  replace hst : St w0 w681 [rowT 51 sampE vo (h.filter (inT (gd ws q).Lo (gd ws q).Hi))] := by rw [hYA] at hst; exact hst
  have hgl := filt_len h (inT (gd ws q).Lo (gd ws q).Hi)
  have hgo := filt_ok (p := inT (gd ws q).Lo (gd ws q).Hi) hho
  have hwq : (gd ws q).ok := by rw [gd_eq (by omega)]; exact hwo _ (List.getElem_mem _)
  refine cE_region rfl (s_cons (op_move vo q678_16 (s_cons (op_move v_ws q678_1 (s_cons (op_move (iV (q : Int)) q678_15 (s_cons (op_indexAddrD (E := winE) (xs := ws) q Try.underlying38 Try.sizeOf70 rfl h_ws rfl (by omega) (by omega) (fun a852 o853 p854 => ?_)))))))))
  refine s_cons (op_fieldAddr (s := 6) Try.underlying70 rfl rfl Try.sizeOf29 rfl (s_cons (op_fieldAddr (s := 0) Try.underlying29 rfl rfl Try.sizeOf2 rfl (s_cons (op_load1 (u := (iV (((gd ws q).Agg).From))) Try.isAgg2 rfl (((p854.below hst.below).drop 3).drop 0) (s_cons (op_call Try.call33 (evs_cons (v := vo) rfl (evs_cons (v := (iV (((gd ws q).Agg).From))) rfl evs_nil)) (c_rAll (w0 := w681) (v_l := vo) (l := (h.filter (inT (gd ws q).Lo (gd ws q).Hi))) (h_l := (hst.sl 0 rfl)) (fr := ((gd ws q).Agg).From) (hl := hgo) (fr0 := (by omega)) (fr1 := (by omega)) (hn := (by omega))) ?_)))))))
  rintro _ w855 ⟨rfl, hcall⟩
  refine ⟨_, rfl, ?_⟩
  have hst : St w0 w855 [rowT 51 sampE vo (h.filter (inT (gd ws q).Lo (gd ws q).Hi))] := hst.call hcall
  refine s_cons (op_move (.tuple #[(.agg (aggA ((allA (h.filter (inT (gd ws q).Lo (gd ws q).Hi)) (((gd ws q).Agg).From)).1))), (iV ((allA (h.filter (inT (gd ws q).Lo (gd ws q).Hi)) (((gd ws q).Agg).From)).2))]) rfl (s_cons (op_extract (.agg (aggA ((allA (h.filter (inT (gd ws q).Lo (gd ws q).Hi)) (((gd ws q).Agg).From)).1))) rfl rfl (s_cons (op_extract (iV ((allA (h.filter (inT (gd ws q).Lo (gd ws q).Hi)) (((gd ws q).Agg).From)).2)) rfl rfl ?_)))))
  refine s_cons (op_alloc (cs := #[(iV 0), (iV 0), (iV 0), (iV 0), (iV 0), (iV 0), (iV 0)]) hst Try.zeroValue29 rfl (fun g856 w857 hst _ => ?_))
  replace hst : St w0 w857 [.blk g856 29 #[(iV 0), (iV 0), (iV 0), (iV 0), (iV 0), (iV 0), (iV 0)], rowT 51 sampE vo (h.filter (inT (gd ws q).Lo (gd ws q).Hi))] := hst
  refine s_cons0 (op_storeAll hst 0 rfl Try.sizeOf29 rfl rfl rfl rfl (by simp [Value.oneCell']) (fun w858 hst => ?_))
  replace hst : St w0 w858 [.blk g856 29 (aggA ((allA (h.filter (inT (gd ws q).Lo (gd ws q).Hi)) (((gd ws q).Agg).From)).1)), rowT 51 sampE vo (h.filter (inT (gd ws q).Lo (gd ws q).Hi))] := hst
  refine s_cons (op_assign (iV ((allA (h.filter (inT (gd ws q).Lo (gd ws q).Hi)) (((gd ws q).Agg).From)).2)) rfl (s_nil (then_n (cE_seq ?_))))
  obtain ⟨g859, hg860⟩ : ∃ x : Bool, x = !(!decide (((allA (h.filter (inT (gd ws q).Lo (gd ws q).Hi)) (((gd ws q).Agg).From)).2) = 0)) := ⟨_, rfl⟩
  obtain ⟨g884, hg885⟩ : ∃ x : Bool, x = ((!decide (((allA (h.filter (inT (gd ws q).Lo (gd ws q).Hi)) (((gd ws q).Agg).From)).2) = 0)) || (!decide (((allA (h.filter (inT (gd ws q).Lo (gd ws q).Hi)) (((gd ws q).Agg).From)).1) = ((gd ws q).Agg)))) := ⟨_, rfl⟩
  refine cE_regionM (fun (D : Nat → Bool) (w : World) => St w0 w [.blk g856 29 (aggA ((allA (h.filter (inT (gd ws q).Lo (gd ws q).Hi)) (((gd ws q).Agg).From)).1)), rowT 51 sampE vo (h.filter (inT (gd ws q).Lo (gd ws q).Hi))] ∧ (St w0 w [.blk g856 29 (aggA ((allA (h.filter (inT (gd ws q).Lo (gd ws q).Hi)) (((gd ws q).Agg).From)).1)), rowT 51 sampE vo (h.filter (inT (gd ws q).Lo (gd ws q).Hi))])) [[(19, none)], [(212, some 0)], [(213, some 1)], [(18, none), (214, some 2)], [(1, none), (214, some 2)], [(15, none), (214, some 2)], [(216, some 4), (217, some 5), (214, some 2)], [(218, some 6), (214, some 2)], [(219, some 7), (214, some 2)], [(215, some 3), (220, some 8), (214, some 2)], [(214, some 2), (221, some 9)]] [] [(kEq (iV ((allA (h.filter (inT (gd ws q).Lo (gd ws q).Hi)) (((gd ws q).Agg).From)).2))), (kEq (.bool (!decide (((allA (h.filter (inT (gd ws q).Lo (gd ws q).Hi)) (((gd ws q).Agg).From)).2) = 0)))), (kEq (.bool (!decide (((allA (h.filter (inT (gd ws q).Lo (gd ws q).Hi)) (((gd ws q).Agg).From)).2) = 0)))), (kEq (bif g859 then (.agg (aggA ((allA (h.filter (inT (gd ws q).Lo (gd ws q).Hi)) (((gd ws q).Agg).From)).1))) else undef)), (kEq (bif g859 then v_ws else undef)), (kEq (bif g859 then (iV (q : Int)) else undef)), (kPtc w0 g859 [(iV ((gd ws q).Tier)), (iV ((gd ws q).Lo)), (iV ((gd ws q).Hi)), (iV (((gd ws q).Agg).From)), (iV (((gd ws q).Agg).Count)), (iV (((gd ws q).Agg).Sum)), (iV (((gd ws q).Agg).Min)), (iV (((gd ws q).Agg).Max)), (iV (((gd ws q).Agg).First)), (iV (((gd ws q).Agg).Last))]), (kPtc w0 g859 (aggC ((gd ws q).Agg))), (kEq (bif g859 then (.agg (aggA ((gd ws q).Agg))) else undef)), (kEq (bif g859 then (.bool (!decide (((allA (h.filter (inT (gd ws q).Lo (gd ws q).Hi)) (((gd ws q).Agg).From)).1) = ((gd ws q).Agg)))) else undef)), (kEq (.bool g884))] ⟨mEq, mEq, mEq, mEq, mEq, mEq, mPtc, mPtc, mEq, mEq, mEq, trivial⟩ (by kernel_rfl) rfl (by kernel_rfl) ⟨hst.drewW.sub (.cons_cons _ (.cons_cons _ .slnil)), hst.drewW⟩ (fun hM => ⟨?_, ?_, ?_, ?_, ?_, ?_, ?_, ?_, ?_, ?_, ?_, trivial⟩) ?_
  ·rintro D ρo wo nD eD cD jD aD ⟨f19, _⟩
   exact go_plain (op_move (iV ((allA (h.filter (inT (gd ws q).Lo (gd ws q).Hi)) (((gd ws q).Agg).From)).2)) (f19.trans rfl) (kN0 (i := 0) hM (by decide) (by exact jD) (by exact rfl)))
  ·rintro D ρo wo nD eD cD jD aD ⟨f212, _⟩
   exact go_plain (op_neq (k := .i64) (a := (allA (h.filter (inT (gd ws q).Lo (gd ws q).Hi)) (((gd ws q).Agg).From)).2) (b := 0) f212 rfl (kN0 (i := 1) hM (by decide) (by exact jD) (by exact rfl)))
  ·rintro D ρo wo nD eD cD jD aD ⟨f213, _⟩
   exact go_plain (op_move (.bool (!decide (((allA (h.filter (inT (gd ws q).Lo (gd ws q).Hi)) (((gd ws q).Agg).From)).2) = 0))) f213 (kN0 (i := 2) hM (by decide) (by exact jD) (by exact rfl)))
  ·rintro D ρo wo nD eD cD jD aD ⟨f18, f214, _⟩
   refine go_lz 214 rfl ((gA_f f214).trans hg860.symm) ?_ (fun hc887 => (kN0 (i := 3) hM (by decide) (by exact jD) (by exact (gf hc887).symm)))
   intro hc887
   have hst := jD.2 
   replace hst : St w0 wo [.blk g856 29 (aggA ((allA (h.filter (inT (gd ws q).Lo (gd ws q).Hi)) (((gd ws q).Agg).From)).1)), rowT 51 sampE vo (h.filter (inT (gd ws q).Lo (gd ws q).Hi))] := hst
   exact id (op_loadN (cs := (aggC ((allA (h.filter (inT (gd ws q).Lo (gd ws q).Hi)) (((gd ws q).Agg).From)).1))) Try.isAgg29 Try.sizeOf29 (f18.trans rfl) (Pt.of (hst.cell 0 rfl) rfl) rfl (kN0 (i := 3) hM (by decide) (by exact jD) (by exact (gt hc887).symm)))
  ·rintro D ρo wo nD eD cD jD aD ⟨f1, f214, _⟩
   refine go_lz 214 rfl ((gA_f f214).trans hg860.symm) ?_ (fun hc888 => (kN0 (i := 4) hM (by decide) (by exact jD) (by exact (gf hc888).symm)))
   intro hc888
   exact id (op_move v_ws (f1.trans q678_1) (kN0 (i := 4) hM (by decide) (by exact jD) (by exact (gt hc888).symm)))
  ·rintro D ρo wo nD eD cD jD aD ⟨f15, f214, _⟩
   refine go_lz 214 rfl ((gA_f f214).trans hg860.symm) ?_ (fun hc889 => (kN0 (i := 5) hM (by decide) (by exact jD) (by exact (gf hc889).symm)))
   intro hc889
   exact id (op_move (iV (q : Int)) (f15.trans q678_15) (kN0 (i := 5) hM (by decide) (by exact jD) (by exact (gt hc889).symm)))
  ·rintro D ρo wo nD eD cD jD aD ⟨f216, f217, f214, _⟩
   refine go_lz 214 rfl ((gA_f f214).trans hg860.symm) ?_ (fun hc890 => (kN0 (i := 6) hM (by decide) (by exact jD) (by exact fun h => absurd (show _ = true from h) (by rw [hc890]; decide))))
   intro hc890
   have c891 : ((allA (h.filter (inT (gd ws q).Lo (gd ws q).Hi)) (((gd ws q).Agg).From)).2) = 0 := of_decide_eq_true (not_f (not_t (hg860.symm.trans hc890)))
   refine id (op_indexAddrD (E := winE) (xs := ws) q Try.underlying38 Try.sizeOf70 (f216.trans (gt hc890)) h_ws (f217.trans (gt hc890)) (by omega) (by omega) (fun a892 o893 p894 => ?_))
   exact (kN0 (i := 6) hM (by decide) (by exact jD) (by exact fun _ => ⟨_, _, rfl, p894⟩))
  ·rintro D ρo wo nD eD cD jD aD ⟨f218, f214, _⟩
   refine go_lz 214 rfl ((gA_f f214).trans hg860.symm) ?_ (fun hc895 => (kN0 (i := 7) hM (by decide) (by exact jD) (by exact fun h => absurd (show _ = true from h) (by rw [hc895]; decide))))
   intro hc895
   obtain ⟨a896, o897, e898, p899⟩ := f218 hc895
   exact id (op_fieldAddr (s := 6) Try.underlying70 rfl rfl Try.sizeOf29 e898 (kN0 (i := 7) hM (by decide) (by exact jD) (by exact fun _ => ⟨_, _, rfl, (p899.drop 3)⟩)))
  ·rintro D ρo wo nD eD cD jD aD ⟨f219, f214, _⟩
   refine go_lz 214 rfl ((gA_f f214).trans hg860.symm) ?_ (fun hc900 => (kN0 (i := 8) hM (by decide) (by exact jD) (by exact (gf hc900).symm)))
   intro hc900
   have hst := jD.2 
   replace hst : St w0 wo [.blk g856 29 (aggA ((allA (h.filter (inT (gd ws q).Lo (gd ws q).Hi)) (((gd ws q).Agg).From)).1)), rowT 51 sampE vo (h.filter (inT (gd ws q).Lo (gd ws q).Hi))] := hst
   obtain ⟨a901, o902, e903, p904⟩ := f219 hc900
   exact id (op_loadN (cs := (aggC ((gd ws q).Agg))) Try.isAgg29 Try.sizeOf29 e903 (Pt.of (p904.below hst.below) rfl) rfl (kN0 (i := 8) hM (by decide) (by exact jD) (by exact (gt hc900).symm)))
  ·rintro D ρo wo nD eD cD jD aD ⟨f215, f220, f214, _⟩
   refine go_lz 214 rfl ((gA_f f214).trans hg860.symm) ?_ (fun hc905 => (kN0 (i := 9) hM (by decide) (by exact jD) (by exact (gf hc905).symm)))
   intro hc905
   exact id (op_neqG Try.eqGuardType29 (Try.eqAgg ((allA (h.filter (inT (gd ws q).Lo (gd ws q).Hi)) (((gd ws q).Agg).From)).1) ((gd ws q).Agg) _) (f215.trans (gt hc905)) (f220.trans (gt hc905)) (kN0 (i := 9) hM (by decide) (by exact jD) (by exact (gt hc905).symm)))
  ·rintro D ρo wo nD eD cD jD aD ⟨f214, f221, _⟩
   refine go_plain (op_pick_or f214 rfl f221 (fun hp => (hg860.trans (congrArg (! ·) (congrArg (! ·) (not_f hp))))) ?_)
   exact (kN0 (i := 10) hM (by decide) (by exact jD) (by exact (congrArg Value.bool hg885.symm)))
  intro ρ906 w907 Dw907 hallw907 hJw907 hRw907 hkw907
  have hst : St w0 w907 [.blk g856 29 (aggA ((allA (h.filter (inT (gd ws q).Lo (gd ws q).Hi)) (((gd ws q).Agg).From)).1)), rowT 51 sampE vo (h.filter (inT (gd ws q).Lo (gd ws q).Hi))] := hJw907.2 
  have uw907_0 : ρ906 0 = v_h := (hkw907 0 rfl).trans q678_0
  have uw907_1 : ρ906 1 = v_ws := (hkw907 1 rfl).trans q678_1
  have uw907_2 : ρ906 2 = (iV fr) := (hkw907 2 rfl).trans q678_2
  have uw907_3 : ρ906 3 = (iV to) := (hkw907 3 rfl).trans q678_3
  have uw907_9 : ρ906 9 = (iV (i : Int)) := (hkw907 9 rfl).trans q678_9
  have uw907_11 : ρ906 11 = (iV (u : Int)) := (hkw907 11 rfl).trans q678_11
  have uw907_12 : ρ906 12 = (iV (j : Int)) := (hkw907 12 rfl).trans q678_12
  have uw907_15 : ρ906 15 = (iV (q : Int)) := (hkw907 15 rfl).trans q678_15
  have uw907_16 : ρ906 16 = vo := (hkw907 16 rfl).trans q678_16
  have uw907_17 : ρ906 17 = (iV (z : Int)) := (hkw907 17 rfl).trans q678_17
  have uw907_164 : ρ906 164 = (iV (z : Int)) := (hkw907 164 rfl).trans rfl
  have uw907_165 : ρ906 165 = v_h := (hkw907 165 rfl).trans rfl
  have uw907_166 : ρ906 166 = (iV (h.length : Int)) := (hkw907 166 rfl).trans rfl
  have uw907_167 : ρ906 167 = (.bool (decide ((z : Int) < (h.length : Int)))) := (hkw907 167 rfl).trans rfl
  have uw907_202 : ρ906 202 = vo := (hkw907 202 rfl).trans rfl
  have uw907_203 : ρ906 203 = v_ws := (hkw907 203 rfl).trans rfl
  have uw907_204 : ρ906 204 = (iV (q : Int)) := (hkw907 204 rfl).trans rfl
  have uw907_205 : ρ906 205 = (.pointer (some ⟨a852, o853, none⟩)) := (hkw907 205 rfl).trans rfl
  have uw907_206 : ρ906 206 = (.pointer (some ⟨a852, (o853 + 3), none⟩)) := (hkw907 206 rfl).trans rfl
  have uw907_207 : ρ906 207 = (.pointer (some ⟨a852, ((o853 + 3) + 0), none⟩)) := (hkw907 207 rfl).trans rfl
  have uw907_208 : ρ906 208 = (iV (((gd ws q).Agg).From)) := (hkw907 208 rfl).trans rfl
  have uw907_209 : ρ906 209 = (.tuple #[(.agg (aggA ((allA (h.filter (inT (gd ws q).Lo (gd ws q).Hi)) (((gd ws q).Agg).From)).1))), (iV ((allA (h.filter (inT (gd ws q).Lo (gd ws q).Hi)) (((gd ws q).Agg).From)).2))]) := (hkw907 209 rfl).trans rfl
  have uw907_201 : ρ906 201 = (.tuple #[(.agg (aggA ((allA (h.filter (inT (gd ws q).Lo (gd ws q).Hi)) (((gd ws q).Agg).From)).1))), (iV ((allA (h.filter (inT (gd ws q).Lo (gd ws q).Hi)) (((gd ws q).Agg).From)).2))]) := (hkw907 201 rfl).trans rfl
  have uw907_210 : ρ906 210 = (.agg (aggA ((allA (h.filter (inT (gd ws q).Lo (gd ws q).Hi)) (((gd ws q).Agg).From)).1))) := (hkw907 210 rfl).trans rfl
  have uw907_211 : ρ906 211 = (iV ((allA (h.filter (inT (gd ws q).Lo (gd ws q).Hi)) (((gd ws q).Agg).From)).2)) := (hkw907 211 rfl).trans rfl
  have uw907_18 : ρ906 18 = (.pointer (some ⟨g856, 0, none⟩)) := (hkw907 18 rfl).trans rfl
  have uw907_222 : ρ906 222 = (.bool g884) := hRw907 10 222 rfl
  refine then_n ?_
  rcases Bool.eq_false_or_eq_true g884 with b908 | b908
  ·have c909 : (¬ (((allA (h.filter (inT (gd ws q).Lo (gd ws q).Hi)) (((gd ws q).Agg).From)).2) = 0)) ∨ (¬ (((allA (h.filter (inT (gd ws q).Lo (gd ws q).Hi)) (((gd ws q).Agg).From)).1) = ((gd ws q).Agg))) := (pi_or (pi_not pi_dec) (pi_not pi_dec)).1 (hg885.symm.trans b908)
   refine cE_cond true (uw907_222.trans (congrArg Value.bool b908)) (fun _ => ?_) (fun h => by cases h)
   refine cE_seq (cE_region rfl (s_cons (op_assign (iV 4) rfl (s_nil (then_n (cE_ret (block_r (then_r (then_r (block_r (then_r (post_r _ (res1 (v := (iV 4)) rfl) ?_))))))))))))
   exact ⟨(retv1 (congrArg iV (show 4 = (answerC h ws fr to) from by first | exact (ans_1R (i := i) (by omega) (mayW_no2 (by assumption))).symm | exact (ans_2 hMA (i := u) (by omega) (by omega) (by omega)).symm | exact (ans_3R hMA hIA (i := j) (k := k) (by omega) (by assumption) (by omega)).symm | exact (ans_4 hMA hIA hCA (q := q) (by omega) (by first | assumption | omega)).symm | exact (ans_0 hMA hIA hCA hR (by omega)).symm))), hst.bare⟩
  have c910 : ((allA (h.filter (inT (gd ws q).Lo (gd ws q).Hi)) (((gd ws q).Agg).From)).2) = 0 := of_decide_eq_true (not_f (or_l (hg885.symm.trans b908)))
  have c911 : ((allA (h.filter (inT (gd ws q).Lo (gd ws q).Hi)) (((gd ws q).Agg).From)).1) = ((gd ws q).Agg) := of_decide_eq_true (not_f (or_r (hg885.symm.trans b908)))
  refine cE_cond false (uw907_222.trans (congrArg Value.bool b908)) (fun h => by cases h) (fun _ => ?_)
  refine cE_skip (block_n (then_n (cE_region rfl (s_cons (op_move (iV (q : Int)) uw907_15 (s_cons (op_add (k := .i64) (a := (q : Int)) (b := 1) ((q : Int) + 1) rfl rfl (xi64 (by omega) (by omega)) (s_cons (op_assign (iV ((q : Int) + 1)) rfl (s_nil (then_n ?_)))))))))))
  exact ⟨_, ⟨(q + 1), rfl, uw907_0, uw907_1, uw907_2, uw907_3, uw907_9, uw907_11, uw907_12, (congrArg iV (show ((q : Int) + 1) = _ from by omega)), (hst.sub (.cons _ (.cons _ .slnil))), (by omega), (by first | rfl | exact right_step (by omega) hR (by assumption) (by assumption))⟩, (by simp only [id]; omega)⟩
 have c912 : ¬ ((q : Int) < (ws.length : Int)) := of_decide_eq_false b676
 refine cE_cond false (congrArg Value.bool b676) (fun h => by cases h) (fun _ => ?_)
 refine cE_exit (then_x (then_x (block_hit (then_n (cE_seq (cE_region rfl (s_cons (op_assign (iV 0) rfl (s_nil (then_n (cE_ret (post_r _ (res1 (v := (iV 0)) rfl) ?_))))))))))))
 exact ⟨(retv1 (congrArg iV (show 0 = (answerC h ws fr to) from by first | exact (ans_1R (i := i) (by omega) (mayW_no2 (by assumption))).symm | exact (ans_2 hMA (i := u) (by omega) (by omega) (by omega)).symm | exact (ans_3R hMA hIA (i := j) (k := k) (by omega) (by assumption) (by omega)).symm | exact (ans_4 hMA hIA hCA (q := q) (by omega) (by first | assumption | omega)).symm | exact (ans_0 hMA hIA hCA hR (by omega)).symm))), hst.bare⟩

end Go.Proofs.Ytldfnkhccaglmaa
