/- twinkeeplaw22.AskAll -/
import Derived.Test.YthanfecefjfbjaaXTW
import Derived.Test.YthanfecefjfbjaaXLA
import Derived.Test.YthanfecefjfbjaaXLB
import Derived.Test.YthanfecefjfbjaaXW42
import Derived.Test.YthanfecefjfbjaaXW37
import Derived.Test.YthanfecefjfbjaaXW33
namespace Go.Proofs.Ythanfecefjfbjaa
open Go.RowKit

set_option maxRecDepth 8000 in
set_option maxHeartbeats 8000000 in
theorem c_AskAll (w0 : World) (n : Int) (v_steps : Value) (steps : List Int) (h_steps : Sl w0 (intE .i64) v_steps steps) (v_values : Value) (values : List Int) (h_values : Sl w0 (intE .i64) v_values values) (mask : Int) (hv : ∀ v ∈ values, i64R v) (hs : ∀ v ∈ steps, i64R v) (n0 : -9223372036854775808 ≤ n) (mask0 : -9223372036854775808 ≤ mask) (n1 : n ≤ 9223372036854775807) (mask1 : mask ≤ 9223372036854775807) :
  Calls Try.prog 5 #[(iV n), v_steps, v_values, (iV mask)] w0 fun e w' => e = .returned (.bool true) ∧ St w0 w' [] := by
 refine calls_E (n := 86) (ts := [8]) Try.func5 rfl rfl rfl (by simp) ?_
 have hst := St.start w0
 refine cE_seq (cE_region rfl (s_cons (op_assign (.bool false) rfl (s_nil (then_n (cE_seq (cE_region rfl (s_cons (op_move (iV n) rfl (s_cons (op_move v_steps rfl (s_cons (op_move v_values rfl (s_cons (op_move (iV mask) rfl (s_cons (op_call Try.call20 (evs_cons (v := (iV n)) rfl (evs_cons (v := v_steps) rfl (evs_cons (v := v_values) rfl (evs_cons (v := (iV mask)) rfl evs_nil)))) (c_Row (w0 := w0) (n := n) (v_steps := v_steps) (steps := steps) (h_steps := (h_steps.below hst.below)) (v_values := v_values) (values := values) (h_values := (h_values.below hst.below)) (mask := mask) (hv := hv) (hs := hs) (n0 := (by omega)) (mask0 := (by omega)) (n1 := (by omega)) (mask1 := (by omega))) ?_)))))))))))))))))
 rintro _ w5 ⟨r1, r2, r3, r4, rfl, hcall, Row_hys, Row_hF⟩
 refine ⟨_, rfl, ?_⟩
 have hst := (hst.call hcall).perm (List.Perm.cons _ (List.Perm.cons _ (List.perm_append_comm)))
 refine s_cons (op_move (.tuple #[r1, r2]) rfl (s_cons (op_extract r1 rfl rfl (s_cons (op_extract r2 rfl rfl (s_cons (op_assign r1 rfl (s_cons (op_assign r2 rfl (s_nil (then_n (cE_seq ?_))))))))))))
 obtain ⟨R, hR⟩ : ∃ R : RowD, R = rowM steps values mask (1 + (n % 18446744073709551616 % 4).toNat) := ⟨_, rfl⟩
 replace hst : St w0 w5 (rowT 25 segE r1 r3 :: rowT 51 sampE r2 R.all :: r4) := by rw [← hR] at hst; exact hst
 have hys := Row_hys.trans (congrArg RowD.l hR.symm)
 have hlen := row_lenY (by omega) (by omega) Row_hys
 have hto : 0 ≤ R.to ∧ R.to ≤ 2000 * (((1 + (n % 18446744073709551616 % 4).toNat) : Nat) : Int) := by rw [hR]; exact rowM_to steps values mask (by omega)
 have hok := row_okY (by omega) Row_hys hv
 have hbst := row_bestY (by omega) Row_hys
 have hF := Row_hF
 refine cE_region rfl (s_cons (op_move r1 rfl (s_cons (op_call Try.call12 (evs_cons (v := r1) rfl (evs_cons (v := nS) rfl (evs_cons (v := (iV 0)) rfl (evs_cons (v := (iV 1099511627776)) rfl evs_nil)))) (c_Range (w0 := w5) (v_segs := r1) (segs := r3) (h_segs := (hst.sl 0 rfl)) (v_head := nS) (head := []) (h_head := (Sl.nil sampE _)) (fr := 0) (to := 1099511627776) (hsg := (hF.segs hst 2 rfl)) (hso := hok) (hho := (by simp)) (fr0 := (by omega)) (to0 := (by omega)) (fr1 := (by omega)) (to1 := (by omega)) (hll := (by omega)) (hhl := (by decide)) (hbl := hbst)) ?_))))
 rintro _ w7 ⟨r6, rfl, hcall⟩
 refine ⟨_, rfl, ?_⟩
 have hst := hst.call hcall
 refine s_cons (op_move (.tuple #[r6, (iV ((rangeW (ds r3) ([]) 0 1099511627776).2))]) rfl (s_cons (op_extract r6 rfl rfl (s_cons (op_extract (iV ((rangeW (ds r3) ([]) 0 1099511627776).2)) rfl rfl (s_cons (op_assign r6 rfl (s_cons (op_assign (iV ((rangeW (ds r3) ([]) 0 1099511627776).2)) rfl (s_nil (then_n (cE_seq ?_))))))))))))
 obtain ⟨A, hA, gA, eA⟩ := range_wideY (fr := 0) (to := 1099511627776) (by omega) hR hys (by omega) (by omega) (by omega)
 replace hst : St w0 w7 (rowT 56 winE r6 A :: rowT 25 segE r1 r3 :: rowT 51 sampE r2 R.all :: r4) := by rw [hA] at hst; exact hst
 obtain ⟨⟨hA0, hT2, hU2, hT1⟩, hap⟩ := rows_all (by omega) (by omega) hR eA
 have hwo : ∀ w ∈ A, w.Agg.ok := by rw [eA]; exact win_oks (fin_ok hv (by omega))
 have hAl := (hst.sl 0 rfl).len
 have hal : R.all.length ≤ 24 := by rw [hR]; exact Nat.le_trans (rowM_all steps values mask (by omega)) (by omega)
 have hRok : ∀ s ∈ R.all, s.ok := by rw [hR]; exact row_allok steps values mask hv (by omega)
 refine cE_region rfl (s_cons (op_move r6 rfl (s_cons (op_call Try.call14 (evs_cons (v := r6) rfl evs_nil) (c_Total (w0 := w7) (v_l := r6) (l := A) (h_l := (hst.sl 0 rfl)) (hl := hwo)) ?_))))
 rintro _ w8 ⟨rfl, hcall⟩
 refine ⟨_, rfl, ?_⟩
 have hst := hst.call hcall
 refine s_cons (op_move (.tuple #[(.agg (aggA ((totW A).1))), (iV ((totW A).2))]) rfl (s_cons (op_extract (.agg (aggA ((totW A).1))) rfl rfl (s_cons (op_extract (iV ((totW A).2)) rfl rfl (s_cons (op_alloc (cs := #[(iV 0), (iV 0), (iV 0), (iV 0), (iV 0), (iV 0), (iV 0)]) hst Try.zeroValue37 rfl (fun g9 w10 hst _ => ?_))))))))
 refine s_cons0 (op_storeAll hst 0 rfl Try.sizeOf37 rfl rfl rfl rfl (by simp [Value.oneCell']) (fun w11 hst => ?_))
 refine s_cons (op_assign (iV ((totW A).2)) rfl (s_nil (then_n (cE_seq (cE_region rfl (s_cons (op_move r2 rfl (s_cons (op_call Try.call22 (evs_cons (v := r2) rfl (evs_cons (v := (iV 0)) rfl evs_nil)) (c_rAll (w0 := w11) (v_l := r2) (l := R.all) (h_l := (hst.sl 3 rfl)) (fr := 0) (hl := hRok) (fr0 := (by omega)) (fr1 := (by omega)) (hn := (by omega))) ?_)))))))))
 rintro _ w12 ⟨rfl, hcall⟩
 refine ⟨_, rfl, ?_⟩
 have hst := hst.call hcall
 refine s_cons (op_move (.tuple #[(.agg (aggA ((allA R.all 0).1))), (iV ((allA R.all 0).2))]) rfl (s_cons (op_extract (.agg (aggA ((allA R.all 0).1))) rfl rfl (s_cons (op_extract (iV ((allA R.all 0).2)) rfl rfl (s_cons (op_alloc (cs := #[(iV 0), (iV 0), (iV 0), (iV 0), (iV 0), (iV 0), (iV 0)]) hst Try.zeroValue37 rfl (fun g13 w14 hst _ => ?_))))))))
 refine s_cons0 (op_storeAll hst 0 rfl Try.sizeOf37 rfl rfl rfl rfl (by simp [Value.oneCell']) (fun w15 hst => ?_))
 refine s_cons (op_assign (iV ((allA R.all 0).2)) rfl (s_nil (then_n (cE_seq (cE_seq (cE_region rfl (s_cons (op_move (iV ((rangeW (ds r3) ([]) 0 1099511627776).2)) rfl (s_cons (op_neq (k := .i64) (a := (rangeW (ds r3) ([]) 0 1099511627776).2) (b := 0) rfl rfl (s_cons (op_move (.bool (!decide (((rangeW (ds r3) ([]) 0 1099511627776).2) = 0))) rfl (s_yes 43 rfl (congrArg Value.bool (congrArg (! ·) (show (decide (((rangeW (ds r3) ([]) 0 1099511627776).2) = 0)) = true from (decide_eq_true (by assumption))))) (op_move (iV ((totW A).2)) rfl ?_))))))))))))))
 refine s_yes 43 rfl (congrArg Value.bool (congrArg (! ·) (show (decide (((rangeW (ds r3) ([]) 0 1099511627776).2) = 0)) = true from (decide_eq_true (by assumption))))) (op_neq (k := .i64) (a := (totW A).2) (b := 0) rfl rfl (s_cons (op_pick_f (.bool (!decide (((totW A).2) = 0))) (congrArg Value.bool (congrArg (! ·) (show (decide (((rangeW (ds r3) ([]) 0 1099511627776).2) = 0)) = true from (decide_eq_true (by assumption))))) rfl ?_)))
 refine s_cons (op_move (.bool (!decide (((totW A).2) = 0))) rfl (s_yes 47 rfl (congrArg Value.bool (congrArg (! ·) (show (decide (((totW A).2) = 0)) = true from (decide_eq_true hT2)))) (op_move (iV ((allA R.all 0).2)) rfl (s_yes 47 rfl (congrArg Value.bool (congrArg (! ·) (show (decide (((totW A).2) = 0)) = true from (decide_eq_true hT2)))) (op_neq (k := .i64) (a := (allA R.all 0).2) (b := 0) rfl rfl ?_)))))
 refine s_cons (op_pick_f (.bool (!decide (((allA R.all 0).2) = 0))) (congrArg Value.bool (congrArg (! ·) (show (decide (((totW A).2) = 0)) = true from (decide_eq_true hT2)))) rfl (s_cons (op_move (.bool (!decide (((allA R.all 0).2) = 0))) rfl (s_yes 51 rfl (congrArg Value.bool (congrArg (! ·) (show (decide (((allA R.all 0).2) = 0)) = true from (decide_eq_true hU2)))) (op_move r6 rfl (s_yes 51 rfl (congrArg Value.bool (congrArg (! ·) (show (decide (((allA R.all 0).2) = 0)) = true from (decide_eq_true hU2)))) (op_len (E := winE) (xs := A) Try.underlying29 rfl (hst.sl 2 rfl) ?_)))))))
 refine s_yes 51 rfl (congrArg Value.bool (congrArg (! ·) (show (decide (((allA R.all 0).2) = 0)) = true from (decide_eq_true hU2)))) (op_eql (k := .i64) (a := (A.length : Int)) (b := 0) rfl rfl (s_cons (op_pick_f (.bool (decide ((A.length : Int) = 0))) (congrArg Value.bool (congrArg (! ·) (show (decide (((allA R.all 0).2) = 0)) = true from (decide_eq_true hU2)))) rfl (s_nil (then_n (cE_cond false (congrArg Value.bool (show (decide ((A.length : Int) = 0)) = false from (decide_eq_false (by omega)))) (fun h => by cases h) (fun _ => ?_)))))))
 refine cE_skip (then_n (cE_seq (cE_region rfl (s_cons (op_move r6 rfl (s_cons (op_indexAddrN (E := winE) (xs := A) 0 Try.underlying29 Try.sizeOf56 rfl (hst.sl 2 rfl) rfl (by omega) (by omega) (fun a16 o17 p18 => ?_))))))))
 refine s_cons (op_fieldAddr (s := 6) Try.underlying56 rfl rfl Try.sizeOf37 rfl (s_cons (op_fieldAddr (s := 0) Try.underlying37 rfl rfl Try.sizeOf2 rfl (s_cons (op_load1 (u := (iV (((A[0]'(by omega)).Agg).From))) Try.isAgg2 rfl ((p18.drop 3).drop 0) (s_cons (op_fieldAddr (s := 0) Try.underlying37 rfl rfl Try.sizeOf2 rfl (s_cons0 (op_store1 hst 0 rfl Try.sizeOf2 rfl rfl rfl (show 0 < 7 from by decide) (fun w19 hst => ?_))))))))))
 refine s_nil (then_n (cE_seq (cE_seq (cE_region rfl (s_cons (op_assign (iV 1) rfl (s_nil (then_n (cE_block (cE_loop (fun (m : Nat) (ρ : Env) (w : World) => ∃ (i : Nat), m = A.length - i ∧ ρ 0 = (iV n) ∧ ρ 1 = v_steps ∧ ρ 2 = v_values ∧ ρ 3 = (iV mask) ∧ ρ 9 = r1 ∧ ρ 10 = r2 ∧ ρ 11 = r6 ∧ ρ 12 = (iV ((rangeW (ds r3) ([]) 0 1099511627776).2)) ∧ ρ 13 = (.pointer (some ⟨g9, 0, none⟩)) ∧ ρ 14 = (iV ((totW A).2)) ∧ ρ 15 = (.pointer (some ⟨g13, 0, none⟩)) ∧ ρ 16 = (iV ((allA R.all 0).2)) ∧ ρ 17 = (iV (i : Int)) ∧ St w0 w (.blk g13 37 #[(iV (((A[0]'(by omega)).Agg).From)), (iV (((allA R.all 0).1).Count)), (iV (((allA R.all 0).1).Sum)), (iV (((allA R.all 0).1).Min)), (iV (((allA R.all 0).1).Max)), (iV (((allA R.all 0).1).First)), (iV (((allA R.all 0).1).Last))] :: .blk g9 37 (aggA ((totW A).1)) :: rowT 56 winE r6 A :: rowT 25 segE r1 r3 :: rowT 51 sampE r2 R.all :: r4) ∧ (1 ≤ i) ∧ (i ≤ A.length)) id _ ⟨1, rfl, rfl, rfl, rfl, rfl, rfl, rfl, rfl, rfl, rfl, rfl, rfl, rfl, (congrArg iV (show 1 = _ from by omega)), hst, (by omega), (by omega)⟩ ?_))))))))))
 rintro m21 ρ22 w23 ⟨i, hm21, q20_0, q20_1, q20_2, q20_3, q20_9, q20_10, q20_11, q20_12, q20_13, q20_14, q20_15, q20_16, q20_17, hst, hi0, hi⟩
 refine cE_seq (cE_seq (cE_region rfl (s_cons (op_move (iV (i : Int)) q20_17 (s_cons (op_move r6 q20_11 (s_cons (op_len (E := winE) (xs := A) Try.underlying29 rfl (hst.sl 2 rfl) (s_cons (op_lss (k := .i64) (a := (i : Int)) (b := (A.length : Int)) rfl rfl (s_nil (then_n ?_))))))))))))
 rcases Bool.eq_false_or_eq_true (decide ((i : Int) < (A.length : Int))) with b24 | b24
 ·have c25 := of_decide_eq_true b24
  refine cE_cond true (congrArg Value.bool b24) (fun _ => ?_) (fun h => by cases h)
  refine cE_skip (then_n (cE_seq (cE_block (cE_seq (cE_regionL hst [[(11, none)], [(17, none)], [(68, some 0), (69, some 1)], [(70, some 2)], [(71, some 3)], [(11, none)], [(17, none)], [(74, some 6)], [(73, some 5), (75, some 7)], [(76, some 8)], [(77, some 9)], [(72, some 4), (78, some 10)]] [(rEq r6), (rEq (iV (i : Int))), (rPt [(iV ((A[i]'(by omega)).Tier)), (iV ((A[i]'(by omega)).Lo)), (iV ((A[i]'(by omega)).Hi)), (iV (((A[i]'(by omega)).Agg).From)), (iV (((A[i]'(by omega)).Agg).Count)), (iV (((A[i]'(by omega)).Agg).Sum)), (iV (((A[i]'(by omega)).Agg).Min)), (iV (((A[i]'(by omega)).Agg).Max)), (iV (((A[i]'(by omega)).Agg).First)), (iV (((A[i]'(by omega)).Agg).Last))]), (rPt [(iV ((A[i]'(by omega)).Lo)), (iV ((A[i]'(by omega)).Hi)), (iV (((A[i]'(by omega)).Agg).From)), (iV (((A[i]'(by omega)).Agg).Count)), (iV (((A[i]'(by omega)).Agg).Sum)), (iV (((A[i]'(by omega)).Agg).Min)), (iV (((A[i]'(by omega)).Agg).Max)), (iV (((A[i]'(by omega)).Agg).First)), (iV (((A[i]'(by omega)).Agg).Last))]), (rEq (iV ((A[i]'(by omega)).Lo))), (rEq r6), (rEq (iV (i : Int))), (rEq (iV ((i : Int) - 1))), (rPt [(iV ((A[(i - 1)]'(by omega)).Tier)), (iV ((A[(i - 1)]'(by omega)).Lo)), (iV ((A[(i - 1)]'(by omega)).Hi)), (iV (((A[(i - 1)]'(by omega)).Agg).From)), (iV (((A[(i - 1)]'(by omega)).Agg).Count)), (iV (((A[(i - 1)]'(by omega)).Agg).Sum)), (iV (((A[(i - 1)]'(by omega)).Agg).Min)), (iV (((A[(i - 1)]'(by omega)).Agg).Max)), (iV (((A[(i - 1)]'(by omega)).Agg).First)), (iV (((A[(i - 1)]'(by omega)).Agg).Last))]), (rPt [(iV ((A[(i - 1)]'(by omega)).Hi)), (iV (((A[(i - 1)]'(by omega)).Agg).From)), (iV (((A[(i - 1)]'(by omega)).Agg).Count)), (iV (((A[(i - 1)]'(by omega)).Agg).Sum)), (iV (((A[(i - 1)]'(by omega)).Agg).Min)), (iV (((A[(i - 1)]'(by omega)).Agg).Max)), (iV (((A[(i - 1)]'(by omega)).Agg).First)), (iV (((A[(i - 1)]'(by omega)).Agg).Last))]), (rEq (iV ((A[(i - 1)]'(by omega)).Hi))), (rEq (.bool (decide (((A[i]'(by omega)).Lo) < ((A[(i - 1)]'(by omega)).Hi)))))] (by kernel_rfl) rfl (by kernel_rfl) ⟨sEq, sEq, sPt, sPt, sEq, sEq, sEq, sEq, sPt, sPt, sEq, sEq, trivial⟩ ⟨?_, ?_, ?_, ?_, ?_, ?_, ?_, ?_, ?_, ?_, ?_, ?_, trivial⟩ ?_)))))
  ·rintro ρ32 w33 hj34 ⟨f11, _⟩
   have hst := hj34.2
   exact go_plain (op_move r6 (f11.trans q20_11) (kS hj34 rfl))
  ·rintro ρ35 w36 hj37 ⟨f17, _⟩
   have hst := hj37.2
   exact go_plain (op_move (iV (i : Int)) (f17.trans q20_17) (kS hj37 rfl))
  ·rintro ρ38 w39 hj40 ⟨f68, f69, _⟩
   have hst := hj40.2
   refine go_plain (op_indexAddrN (E := winE) (xs := A) i Try.underlying29 Try.sizeOf56 f68 (hst.sl 2 rfl) f69 (by omega) (by omega) (fun a41 o42 p43 => ?_))
   exact kS hj40 ⟨_, _, rfl, p43⟩
  ·rintro ρ44 w45 hj46 ⟨f70, _⟩
   have hst := hj46.2
   obtain ⟨a47, o48, e49, p50⟩ := f70
   exact go_plain (op_fieldAddr (s := 0) Try.underlying56 rfl rfl Try.sizeOf2 e49 (kS hj46 ⟨_, _, rfl, (p50.drop 1)⟩))
  ·rintro ρ51 w52 hj53 ⟨f71, _⟩
   have hst := hj53.2
   obtain ⟨a54, o55, e56, p57⟩ := f71
   exact go_plain (op_load1 (u := (iV ((A[i]'(by omega)).Lo))) Try.isAgg2 e56 p57 (kS hj53 rfl))
  ·rintro ρ58 w59 hj60 ⟨f11, _⟩
   have hst := hj60.2
   exact go_plain (op_move r6 (f11.trans q20_11) (kS hj60 rfl))
  ·rintro ρ61 w62 hj63 ⟨f17, _⟩
   have hst := hj63.2
   exact go_plain (op_move (iV (i : Int)) (f17.trans q20_17) (kS hj63 rfl))
  ·rintro ρ64 w65 hj66 ⟨f74, _⟩
   have hst := hj66.2
   exact go_plain (op_sub (k := .i64) (a := (i : Int)) (b := 1) ((i : Int) - 1) f74 rfl (xi64 (by omega) (by omega)) (kS hj66 rfl))
  ·rintro ρ67 w68 hj69 ⟨f73, f75, _⟩
   have hst := hj69.2
   refine go_plain (op_indexAddrN (E := winE) (xs := A) (i - 1) Try.underlying29 Try.sizeOf56 f73 (hst.sl 2 rfl) f75 (by omega) (by omega) (fun a70 o71 p72 => ?_))
   exact kS hj69 ⟨_, _, rfl, p72⟩
  ·rintro ρ73 w74 hj75 ⟨f76, _⟩
   have hst := hj75.2
   obtain ⟨a76, o77, e78, p79⟩ := f76
   exact go_plain (op_fieldAddr (s := 0) Try.underlying56 rfl rfl Try.sizeOf2 e78 (kS hj75 ⟨_, _, rfl, (p79.drop 2)⟩))
  ·rintro ρ80 w81 hj82 ⟨f77, _⟩
   have hst := hj82.2
   obtain ⟨a83, o84, e85, p86⟩ := f77
   exact go_plain (op_load1 (u := (iV ((A[(i - 1)]'(by omega)).Hi))) Try.isAgg2 e85 p86 (kS hj82 rfl))
  ·rintro ρ87 w88 hj89 ⟨f72, f78, _⟩
   have hst := hj89.2
   exact go_plain (op_lss (k := .i64) (a := (A[i]'(by omega)).Lo) (b := (A[(i - 1)]'(by omega)).Hi) f72 f78 (kS hj89 rfl))
  intro ρ90 w91 hbw91 hst hRw91 hkw91
  have uw91_0 := (hkw91 0 rfl).trans q20_0
  have uw91_1 := (hkw91 1 rfl).trans q20_1
  have uw91_2 := (hkw91 2 rfl).trans q20_2
  have uw91_3 := (hkw91 3 rfl).trans q20_3
  have uw91_9 := (hkw91 9 rfl).trans q20_9
  have uw91_10 := (hkw91 10 rfl).trans q20_10
  have uw91_11 := (hkw91 11 rfl).trans q20_11
  have uw91_12 := (hkw91 12 rfl).trans q20_12
  have uw91_13 := (hkw91 13 rfl).trans q20_13
  have uw91_14 := (hkw91 14 rfl).trans q20_14
  have uw91_15 := (hkw91 15 rfl).trans q20_15
  have uw91_16 := (hkw91 16 rfl).trans q20_16
  have uw91_17 := (hkw91 17 rfl).trans q20_17
  have uw91_79 : ρ90 79 = (.bool (decide (((A[i]'(by omega)).Lo) < ((A[(i - 1)]'(by omega)).Hi)))) := hRw91 11 79 rfl
  refine then_n (cE_cond false (uw91_79.trans (congrArg Value.bool (show (decide (((A[i]'(by omega)).Lo) < ((A[(i - 1)]'(by omega)).Hi))) = false from (decide_eq_false (hap _ _ _ (by omega)))))) (fun h => by cases h) (fun _ => ?_))
  refine cE_skip (block_n (then_n (cE_region rfl (s_cons (op_move (iV (i : Int)) uw91_17 (s_cons (op_add (k := .i64) (a := (i : Int)) (b := 1) ((i : Int) + 1) rfl rfl (xi64 (by omega) (by omega)) (s_cons (op_assign (iV ((i : Int) + 1)) rfl (s_nil (then_n ?_)))))))))))
  exact ⟨_, ⟨(i + 1), rfl, uw91_0, uw91_1, uw91_2, uw91_3, uw91_9, uw91_10, uw91_11, uw91_12, uw91_13, uw91_14, uw91_15, uw91_16, (congrArg iV (show ((i : Int) + 1) = _ from by omega)), hst, (by omega), (by omega)⟩, (by simp only [id]; omega)⟩
 have c92 := of_decide_eq_false b24
 refine cE_cond false (congrArg Value.bool b24) (fun h => by cases h) (fun _ => ?_)
 refine cE_exit (then_x (then_x (block_hit (then_n (cE_seq (cE_region rfl (s_cons (op_call Try.call11 evs_nil (c_told22 (w0 := w23)) ?_))))))))
 rintro _ w93 ⟨rfl, hcall⟩
 refine ⟨_, rfl, ?_⟩
 have hst := hst.call hcall
 refine s_cons (op_move (.bool true) rfl (s_yes 81 rfl rfl (op_loadN (cs := (aggC ((totW A).1))) Try.isAgg37 Try.sizeOf37 q20_13 (Pt.of (hst.cell 1 rfl) rfl) rfl (s_yes 81 rfl rfl (op_loadN (cs := [(iV (((A[0]'(by omega)).Agg).From)), (iV (((allA R.all 0).1).Count)), (iV (((allA R.all 0).1).Sum)), (iV (((allA R.all 0).1).Min)), (iV (((allA R.all 0).1).Max)), (iV (((allA R.all 0).1).First)), (iV (((allA R.all 0).1).Last))]) Try.isAgg37 Try.sizeOf37 q20_15 (Pt.of (hst.cell 0 rfl) rfl) rfl ?_)))))
 refine s_yes 81 rfl rfl (op_eqlG Try.eqGuardType37 (Try.eqAgg ((totW A).1) (⟨((A[0]'(by omega)).Agg).From, ((allA R.all 0).1).Count, ((allA R.all 0).1).Sum, ((allA R.all 0).1).Min, ((allA R.all 0).1).Max, ((allA R.all 0).1).First, ((allA R.all 0).1).Last⟩ : Agg) _) rfl rfl (s_cons (op_pick_t (.bool (decide (((totW A).1) = (⟨((A[0]'(by omega)).Agg).From, ((allA R.all 0).1).Count, ((allA R.all 0).1).Sum, ((allA R.all 0).1).Min, ((allA R.all 0).1).Max, ((allA R.all 0).1).First, ((allA R.all 0).1).Last⟩ : Agg)))) rfl rfl ?_)))
 refine s_cons (op_assign (.bool (decide (((totW A).1) = (⟨((A[0]'(by omega)).Agg).From, ((allA R.all 0).1).Count, ((allA R.all 0).1).Sum, ((allA R.all 0).1).Min, ((allA R.all 0).1).Max, ((allA R.all 0).1).First, ((allA R.all 0).1).Last⟩ : Agg)))) rfl (s_nil (then_n (cE_ret (post_r _ (res1 (v := (.bool true)) (congrArg Value.bool (show (decide (((totW A).1) = (⟨((A[0]'(by omega)).Agg).From, ((allA R.all 0).1).Count, ((allA R.all 0).1).Sum, ((allA R.all 0).1).Min, ((allA R.all 0).1).Max, ((allA R.all 0).1).First, ((allA R.all 0).1).Last⟩ : Agg))) = true from (decide_eq_true hT1)))) ?_)))))
 exact ⟨rfl, hst.bare⟩

end Go.Proofs.Ythanfecefjfbjaa
