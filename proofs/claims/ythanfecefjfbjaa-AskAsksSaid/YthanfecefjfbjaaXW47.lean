/- twinkeepref17.Range -/
import Derived.Test.YthanfecefjfbjaaXLA
import Derived.Test.YthanfecefjfbjaaXW48
import Derived.Test.YthanfecefjfbjaaXW25
import Derived.Test.YthanfecefjfbjaaXW27
import Derived.Test.YthanfecefjfbjaaXW7
namespace Go.Proofs.Ythanfecefjfbjaa
open Go.RowKit

set_option maxRecDepth 8000 in
set_option maxHeartbeats 8000000 in
theorem c_rRange (w0 : World) (v_segs : Value) (segs : List Seg) (h_segs : Sl w0 segE v_segs segs) (v_head : Value) (head : List Sample) (h_head : Sl w0 sampE v_head head) (fr : Int) (to : Int) (hsg : SegsIn w0 segs) (hso : ∀ s ∈ segs, s.d.ok) (hho : ∀ s ∈ head, s.ok) (fr0 : -9223372036854775808 ≤ fr) (to0 : -9223372036854775808 ≤ to) (fr1 : fr ≤ 9223372036854775807) (to1 : to ≤ 9223372036854775807) (hll : segs.length ≤ 1000) (hhl : head.length ≤ 1000000) :
  Calls Try.prog 13 #[v_segs, v_head, (iV fr), (iV to)] w0 fun e w' => ∃ (v : Value), e = .returned (.tuple #[v, (iV ((rangeW (ds segs) head fr to).2))]) ∧ St w0 w' [rowT 73 winE v ((rangeW (ds segs) head fr to).1)] := by
 have hdl := ds_len segs
 refine calls_E (n := 196) (ts := [8, 9]) Try.func13 rfl rfl rfl (by simp) ?_
 have hst := St.start w0
 refine cE_seq (cE_region rfl (s_cons (op_assign nS rfl (s_cons (op_assign (iV 0) rfl (s_nil (then_n (cE_seq (cE_region rfl (s_cons (op_assign nS rfl (s_nil (then_n (cE_seq (cE_region rfl (s_cons (op_assign (iV 0) rfl (s_nil (then_n (cE_seq (cE_seq (cE_region rfl (s_cons (op_assign (iV 0) rfl (s_nil (then_n (cE_block ?_)))))))))))))))))))))))))))
 replace hst := hst.nilRow 65 infoE
 refine cE_loop (fun (m : Nat) (ρ : Env) (w : World) => ∃ (vo : Value) (i : Nat), m = segs.length - i ∧ ρ 0 = v_segs ∧ ρ 1 = v_head ∧ ρ 2 = (iV fr) ∧ ρ 3 = (iV to) ∧ ρ 10 = vo ∧ ρ 11 = (iV (endT ((ds segs).take i))) ∧ ρ 12 = (iV (i : Int)) ∧ St w0 w [rowT 65 infoE vo (infosOf ((ds segs).take i))] ∧ (i ≤ segs.length) ∧ (okTo (ds segs) i = true)) id _ ⟨nS, 0, rfl, rfl, rfl, rfl, rfl, rfl, (congrArg iV (show 0 = _ from by rfl)), (congrArg iV (show 0 = _ from by omega)), (by have h := hst; exact h), (by omega), (by rfl)⟩ ?_
 rintro m2 ρ3 w4 ⟨vo, i, hm2, q1_0, q1_1, q1_2, q1_3, q1_10, q1_11, q1_12, hst, hi, hI⟩
 have hlen := h_segs.len
 have hrx := fun (h : i < segs.length) => hso _ (List.getElem_mem h)
 have hsn := fun (h : i < segs.length) => end_snoc (l := (ds segs)) (i := i) (by omega)
 have hsg2 := fun (h : i < segs.length) => ds_gd h
 refine cE_seq (cE_seq (cE_region rfl (s_cons (op_move (iV (i : Int)) q1_12 (s_cons (op_move v_segs q1_0 (s_cons (op_len (E := segE) (xs := segs) Try.underlying32 rfl h_segs (s_cons (op_lss (k := .i64) (a := (i : Int)) (b := (segs.length : Int)) rfl rfl (s_nil (then_n ?_))))))))))))
 rcases Bool.eq_false_or_eq_true (decide ((i : Int) < (segs.length : Int))) with b5 | b5
 ·have c6 := of_decide_eq_true b5
  refine cE_cond true (congrArg Value.bool b5) (fun _ => ?_) (fun h => by cases h)
  refine cE_skip (then_n (cE_seq (cE_block (cE_seq (cE_seq (cE_region rfl (s_cons (op_move v_segs q1_0 (s_cons (op_move (iV (i : Int)) q1_12 (s_cons (op_indexAddrN (E := segE) (xs := segs) i Try.underlying32 Try.sizeOf25 rfl h_segs rfl (by omega) (by omega) (fun a7 o8 p9 => ?_)))))))))))))
  refine s_cons (op_loadN (cs := [(iV ((segs[i]'(by omega)).d.Id)), (iV ((segs[i]'(by omega)).d.Tier)), (iV ((segs[i]'(by omega)).d.From)), (iV ((segs[i]'(by omega)).d.To)), (segs[i]'(by omega)).sv.1, (segs[i]'(by omega)).av.1]) Try.isAgg25 Try.sizeOf25 rfl (Pt.of (p9.below hst.below) rfl) rfl (s_cons (op_call Try.call28 (evs_cons (v := (.agg #[(iV ((segs[i]'(by omega)).d.Id)), (iV ((segs[i]'(by omega)).d.Tier)), (iV ((segs[i]'(by omega)).d.From)), (iV ((segs[i]'(by omega)).d.To)), (segs[i]'(by omega)).sv.1, (segs[i]'(by omega)).av.1])) rfl evs_nil) (c_rMaySeg (w0 := w4) (s := (segs[i]'(by omega))) (h_s := ⟨((hsg (segs[i]'(by omega)) (List.getElem_mem _)).1.below hst.below), ((hsg (segs[i]'(by omega)) (List.getElem_mem _)).2.below hst.below)⟩) (hs := (hso _ (List.getElem_mem _)))) ?_)))
  rintro _ w10 ⟨rfl, hcall⟩
  refine ⟨_, rfl, ?_⟩
  have hst := hst.call hcall
  refine s_cons (op_not (b := (mayS (segs[i]'(by omega)).d)) rfl (s_cons (op_move (.bool (!(mayS (segs[i]'(by omega)).d))) rfl ?_)))
  rcases Bool.eq_false_or_eq_true (mayS (segs[i]'(by omega)).d) with b11 | b11
  ·refine s_yes 33 rfl (congrArg Value.bool (congrArg (! ·) b11)) (op_move vo q1_10 (s_yes 33 rfl (congrArg Value.bool (congrArg (! ·) b11)) (op_move v_segs q1_0 (s_yes 33 rfl (congrArg Value.bool (congrArg (! ·) b11)) (op_move (iV (i : Int)) q1_12 (s_yes 33 rfl (congrArg Value.bool (congrArg (! ·) b11)) (op_indexAddrN (E := segE) (xs := segs) i Try.underlying32 Try.sizeOf25 rfl h_segs rfl (by omega) (by omega) (fun a12 o13 p14 => ?_))))))))
   refine s_yes 33 rfl (congrArg Value.bool (congrArg (! ·) b11)) (op_fieldAddr (s := 0) Try.underlying25 rfl rfl Try.sizeOf3 rfl (s_yes 33 rfl (congrArg Value.bool (congrArg (! ·) b11)) (op_load1 (u := (iV ((segs[i]'(by omega)).d.Id))) Try.isAgg3 rfl (p14.below hst.below) (s_yes 33 rfl (congrArg Value.bool (congrArg (! ·) b11)) (op_call Try.call29 (evs_cons (v := vo) rfl (evs_cons (v := (iV ((segs[i]'(by omega)).d.Id))) rfl evs_nil)) (c_has (w0 := w10) (v_l := vo) (l := (infosOf ((ds segs).take i))) (h_l := (hst.sl 0 rfl)) (key := (segs[i]'(by omega)).d.Id)) ?_)))))
   rintro _ w15 ⟨rfl, hcall⟩
   refine ⟨_, rfl, ?_⟩
   have hst := hst.call hcall
   refine s_cons (op_pick_f (.bool (hasI (infosOf ((ds segs).take i)) ((segs[i]'(by omega)).d.Id))) (congrArg Value.bool (congrArg (! ·) b11)) rfl (s_nil (then_n ?_)))
   rcases Bool.eq_false_or_eq_true (hasI (infosOf ((ds segs).take i)) ((segs[i]'(by omega)).d.Id)) with b16 | b16
   ·refine cE_cond true (congrArg Value.bool b16) (fun _ => ?_) (fun h => by cases h)
    refine cE_seq (cE_region rfl (s_cons (op_assign nS rfl (s_cons (op_assign (iV 1) rfl (s_nil (then_n (cE_ret (then_r (block_r (then_r (then_r (block_r (then_r (post_r _ (res2 (v := nS) rfl (x := (iV 1)) rfl) ?_)))))))))))))))
    replace hst := hst.nilRow 73 winE
    have e17 : [] = (rangeW (ds segs) head fr to).1 := by exact fst_of (range_no (okR_no1 (okTo_bad2 (n := i) (by omega) (by rw [ds_gd (by omega)]; assumption))))
    replace hst : St w0 w15 [rowT 73 winE nS ((rangeW (ds segs) head fr to).1), rowT 65 infoE vo (infosOf ((ds segs).take i))] := by rw [congrArg (fun l => rowT 73 winE nS l) e17] at hst; exact hst
    exact ⟨nS, (retv2 rfl (congrArg iV (show 1 = (rangeW (ds segs) head fr to).2 from by exact snd_of (range_no (okR_no1 (okTo_bad2 (n := i) (by omega) (by rw [ds_gd (by omega)]; assumption))))))), hst.sub (.cons_cons _ (.cons _ .slnil))⟩
   refine cE_cond false (congrArg Value.bool b16) (fun h => by cases h) (fun _ => ?_)
   refine cE_skip (then_n (cE_seq (cE_regionM (fun (D : Nat → Bool) (w : World) => St w0 w [] ∧ (D 23 = false → St w0 w [rowT 65 infoE vo (infosOf ((ds segs).take i))])) [[(10, none)], [(0, none)], [(12, none)], [(43, some 1), (44, some 2)], [(45, some 3)], [(46, some 4)], [(0, none)], [(12, none)], [(48, some 6), (49, some 7)], [(50, some 8)], [(51, some 9)], [(0, none)], [(12, none)], [(53, some 11), (54, some 12)], [(55, some 13)], [(56, some 14)], [(0, none)], [(12, none)], [(58, some 16), (59, some 17)], [(60, some 18)], [(61, some 19)], [(47, some 5), (52, some 10), (57, some 15), (62, some 20)], [(63, some 21)], [(42, some 0), (64, some 22)], [(65, some 23)]] [23] [(kEq vo), (kEq v_segs), (kEq (iV (i : Int))), (kPt0 w0 [(iV ((segs[i]'(by omega)).d.Id)), (iV ((segs[i]'(by omega)).d.Tier)), (iV ((segs[i]'(by omega)).d.From)), (iV ((segs[i]'(by omega)).d.To)), (segs[i]'(by omega)).sv.1, (segs[i]'(by omega)).av.1]), (kPt0 w0 [(iV ((segs[i]'(by omega)).d.Id)), (iV ((segs[i]'(by omega)).d.Tier)), (iV ((segs[i]'(by omega)).d.From)), (iV ((segs[i]'(by omega)).d.To)), (segs[i]'(by omega)).sv.1, (segs[i]'(by omega)).av.1]), (kEq (iV ((segs[i]'(by omega)).d.Id))), (kEq v_segs), (kEq (iV (i : Int))), (kPt0 w0 [(iV ((segs[i]'(by omega)).d.Id)), (iV ((segs[i]'(by omega)).d.Tier)), (iV ((segs[i]'(by omega)).d.From)), (iV ((segs[i]'(by omega)).d.To)), (segs[i]'(by omega)).sv.1, (segs[i]'(by omega)).av.1]), (kPt0 w0 [(iV ((segs[i]'(by omega)).d.Tier)), (iV ((segs[i]'(by omega)).d.From)), (iV ((segs[i]'(by omega)).d.To)), (segs[i]'(by omega)).sv.1, (segs[i]'(by omega)).av.1]), (kEq (iV ((segs[i]'(by omega)).d.Tier))), (kEq v_segs), (kEq (iV (i : Int))), (kPt0 w0 [(iV ((segs[i]'(by omega)).d.Id)), (iV ((segs[i]'(by omega)).d.Tier)), (iV ((segs[i]'(by omega)).d.From)), (iV ((segs[i]'(by omega)).d.To)), (segs[i]'(by omega)).sv.1, (segs[i]'(by omega)).av.1]), (kPt0 w0 [(iV ((segs[i]'(by omega)).d.From)), (iV ((segs[i]'(by omega)).d.To)), (segs[i]'(by omega)).sv.1, (segs[i]'(by omega)).av.1]), (kEq (iV ((segs[i]'(by omega)).d.From))), (kEq v_segs), (kEq (iV (i : Int))), (kPt0 w0 [(iV ((segs[i]'(by omega)).d.Id)), (iV ((segs[i]'(by omega)).d.Tier)), (iV ((segs[i]'(by omega)).d.From)), (iV ((segs[i]'(by omega)).d.To)), (segs[i]'(by omega)).sv.1, (segs[i]'(by omega)).av.1]), (kPt0 w0 [(iV ((segs[i]'(by omega)).d.To)), (segs[i]'(by omega)).sv.1, (segs[i]'(by omega)).av.1]), (kEq (iV ((segs[i]'(by omega)).d.To))), (kEq (.agg #[(iV ((segs[i]'(by omega)).d.Id)), (iV ((segs[i]'(by omega)).d.Tier)), (iV ((segs[i]'(by omega)).d.From)), (iV ((segs[i]'(by omega)).d.To)), (.int .u32 0)])), (kSlU [23] infoE ([(⟨(segs[i]'(by omega)).d.Id, (segs[i]'(by omega)).d.Tier, (segs[i]'(by omega)).d.From, (segs[i]'(by omega)).d.To, 0⟩ : Info)])), (fun (D : Nat → Bool) (v32 : Value) (w : World) => (D 23 = true → St w0 w [rowT 65 infoE v32 (infosOf ((ds segs).take (i + 1)))])), (fun (D : Nat → Bool) (v32 : Value) (w : World) => (D 23 = true → St w0 w [rowT 65 infoE v32 (infosOf ((ds segs).take (i + 1)))]))] ⟨mEq, mEq, mEq, mPt0, mPt0, mEq, mEq, mEq, mPt0, mPt0, mEq, mEq, mEq, mPt0, mPt0, mEq, mEq, mEq, mPt0, mPt0, mEq, mEq, (mSlUs (by decide)), (fun D D' v w w' hD hb h2 => (fun x0 => (h2 ((hD 23 (by decide)).symm.trans x0)).ext hb)), (fun D D' v w w' hD hb h2 => (fun x0 => (h2 ((hD 23 (by decide)).symm.trans x0)).ext hb)), trivial⟩ (by kernel_rfl) rfl (by kernel_rfl) ⟨hst.drewW.sub (.cons _ .slnil), (fun _ => hst.drewW)⟩ (fun hM => ⟨?_, ?_, ?_, ?_, ?_, ?_, ?_, ?_, ?_, ?_, ?_, ?_, ?_, ?_, ?_, ?_, ?_, ?_, ?_, ?_, ?_, ?_, ?_, ?_, ?_, trivial⟩) ?_)))
   ·rintro D ρo wo nD eD cD jD aD ⟨f10, _⟩
    exact go_plain (op_move vo (f10.trans q1_10) (kN0 (i := 0) hM (by decide) (by exact jD) (by exact rfl)))
   ·rintro D ρo wo nD eD cD jD aD ⟨f0, _⟩
    exact go_plain (op_move v_segs (f0.trans q1_0) (kN0 (i := 1) hM (by decide) (by exact jD) (by exact rfl)))
   ·rintro D ρo wo nD eD cD jD aD ⟨f12, _⟩
    exact go_plain (op_move (iV (i : Int)) (f12.trans q1_12) (kN0 (i := 2) hM (by decide) (by exact jD) (by exact rfl)))
   ·rintro D ρo wo nD eD cD jD aD ⟨f43, f44, _⟩
    refine go_plain (op_indexAddrN (E := segE) (xs := segs) i Try.underlying32 Try.sizeOf25 f43 h_segs f44 (by omega) (by omega) (fun a35 o36 p37 => ?_))
    exact (kN0 (i := 3) hM (by decide) (by exact jD) (by exact ⟨_, _, rfl, p37⟩))
   ·rintro D ρo wo nD eD cD jD aD ⟨f45, _⟩
    obtain ⟨a38, o39, e40, p41⟩ := f45
    exact go_plain (op_fieldAddr (s := 0) Try.underlying25 rfl rfl Try.sizeOf3 e40 (kN0 (i := 4) hM (by decide) (by exact jD) (by exact ⟨_, _, rfl, p41⟩)))
   ·rintro D ρo wo nD eD cD jD aD ⟨f46, _⟩
    have hst := jD.2 (not_yet nD (fun hm => (cD 21 5 (cD 22 21 (cD 23 22 hm (by kernel_rfl)) (by kernel_rfl)) (by kernel_rfl))))
    obtain ⟨a42, o43, e44, p45⟩ := f46
    exact go_plain (op_load1 (u := (iV ((segs[i]'(by omega)).d.Id))) Try.isAgg3 e44 (p45.below hst.below) (kN0 (i := 5) hM (by decide) (by exact jD) (by exact rfl)))
   ·rintro D ρo wo nD eD cD jD aD ⟨f0, _⟩
    exact go_plain (op_move v_segs (f0.trans q1_0) (kN0 (i := 6) hM (by decide) (by exact jD) (by exact rfl)))
   ·rintro D ρo wo nD eD cD jD aD ⟨f12, _⟩
    exact go_plain (op_move (iV (i : Int)) (f12.trans q1_12) (kN0 (i := 7) hM (by decide) (by exact jD) (by exact rfl)))
   ·rintro D ρo wo nD eD cD jD aD ⟨f48, f49, _⟩
    refine go_plain (op_indexAddrN (E := segE) (xs := segs) i Try.underlying32 Try.sizeOf25 f48 h_segs f49 (by omega) (by omega) (fun a46 o47 p48 => ?_))
    exact (kN0 (i := 8) hM (by decide) (by exact jD) (by exact ⟨_, _, rfl, p48⟩))
   ·rintro D ρo wo nD eD cD jD aD ⟨f50, _⟩
    obtain ⟨a49, o50, e51, p52⟩ := f50
    exact go_plain (op_fieldAddr (s := 0) Try.underlying25 rfl rfl Try.sizeOf3 e51 (kN0 (i := 9) hM (by decide) (by exact jD) (by exact ⟨_, _, rfl, (p52.drop 1)⟩)))
   ·rintro D ρo wo nD eD cD jD aD ⟨f51, _⟩
    have hst := jD.2 (not_yet nD (fun hm => (cD 21 10 (cD 22 21 (cD 23 22 hm (by kernel_rfl)) (by kernel_rfl)) (by kernel_rfl))))
    obtain ⟨a53, o54, e55, p56⟩ := f51
    exact go_plain (op_load1 (u := (iV ((segs[i]'(by omega)).d.Tier))) Try.isAgg3 e55 (p56.below hst.below) (kN0 (i := 10) hM (by decide) (by exact jD) (by exact rfl)))
   ·rintro D ρo wo nD eD cD jD aD ⟨f0, _⟩
    exact go_plain (op_move v_segs (f0.trans q1_0) (kN0 (i := 11) hM (by decide) (by exact jD) (by exact rfl)))
   ·rintro D ρo wo nD eD cD jD aD ⟨f12, _⟩
    exact go_plain (op_move (iV (i : Int)) (f12.trans q1_12) (kN0 (i := 12) hM (by decide) (by exact jD) (by exact rfl)))
   ·rintro D ρo wo nD eD cD jD aD ⟨f53, f54, _⟩
    refine go_plain (op_indexAddrN (E := segE) (xs := segs) i Try.underlying32 Try.sizeOf25 f53 h_segs f54 (by omega) (by omega) (fun a57 o58 p59 => ?_))
    exact (kN0 (i := 13) hM (by decide) (by exact jD) (by exact ⟨_, _, rfl, p59⟩))
   ·rintro D ρo wo nD eD cD jD aD ⟨f55, _⟩
    obtain ⟨a60, o61, e62, p63⟩ := f55
    exact go_plain (op_fieldAddr (s := 0) Try.underlying25 rfl rfl Try.sizeOf2 e62 (kN0 (i := 14) hM (by decide) (by exact jD) (by exact ⟨_, _, rfl, (p63.drop 2)⟩)))
   ·rintro D ρo wo nD eD cD jD aD ⟨f56, _⟩
    have hst := jD.2 (not_yet nD (fun hm => (cD 21 15 (cD 22 21 (cD 23 22 hm (by kernel_rfl)) (by kernel_rfl)) (by kernel_rfl))))
    obtain ⟨a64, o65, e66, p67⟩ := f56
    exact go_plain (op_load1 (u := (iV ((segs[i]'(by omega)).d.From))) Try.isAgg2 e66 (p67.below hst.below) (kN0 (i := 15) hM (by decide) (by exact jD) (by exact rfl)))
   ·rintro D ρo wo nD eD cD jD aD ⟨f0, _⟩
    exact go_plain (op_move v_segs (f0.trans q1_0) (kN0 (i := 16) hM (by decide) (by exact jD) (by exact rfl)))
   ·rintro D ρo wo nD eD cD jD aD ⟨f12, _⟩
    exact go_plain (op_move (iV (i : Int)) (f12.trans q1_12) (kN0 (i := 17) hM (by decide) (by exact jD) (by exact rfl)))
   ·rintro D ρo wo nD eD cD jD aD ⟨f58, f59, _⟩
    refine go_plain (op_indexAddrN (E := segE) (xs := segs) i Try.underlying32 Try.sizeOf25 f58 h_segs f59 (by omega) (by omega) (fun a68 o69 p70 => ?_))
    exact (kN0 (i := 18) hM (by decide) (by exact jD) (by exact ⟨_, _, rfl, p70⟩))
   ·rintro D ρo wo nD eD cD jD aD ⟨f60, _⟩
    obtain ⟨a71, o72, e73, p74⟩ := f60
    exact go_plain (op_fieldAddr (s := 0) Try.underlying25 rfl rfl Try.sizeOf2 e73 (kN0 (i := 19) hM (by decide) (by exact jD) (by exact ⟨_, _, rfl, (p74.drop 3)⟩)))
   ·rintro D ρo wo nD eD cD jD aD ⟨f61, _⟩
    have hst := jD.2 (not_yet nD (fun hm => (cD 21 20 (cD 22 21 (cD 23 22 hm (by kernel_rfl)) (by kernel_rfl)) (by kernel_rfl))))
    obtain ⟨a75, o76, e77, p78⟩ := f61
    exact go_plain (op_load1 (u := (iV ((segs[i]'(by omega)).d.To))) Try.isAgg2 e77 (p78.below hst.below) (kN0 (i := 20) hM (by decide) (by exact jD) (by exact rfl)))
   ·rintro D ρo wo nD eD cD jD aD ⟨f47, f52, f57, f62, _⟩
    exact go_plain (op_build (r := (.agg #[(iV ((segs[i]'(by omega)).d.Id)), (iV ((segs[i]'(by omega)).d.Tier)), (iV ((segs[i]'(by omega)).d.From)), (iV ((segs[i]'(by omega)).d.To)), (.int .u32 0)])) (evp_cons (v := (iV ((segs[i]'(by omega)).d.Id))) f47 (evp_cons (v := (iV ((segs[i]'(by omega)).d.Tier))) f52 (evp_cons (v := (iV ((segs[i]'(by omega)).d.From))) f57 (evp_cons (v := (iV ((segs[i]'(by omega)).d.To))) f62 evp_nil)))) (by simp [Instr.build, Instr.fill, Value.cells, Try.runUnderlying65, Try.zeroValue65]) (kN0 (i := 21) hM (by decide) (by exact jD) (by exact rfl)))
   ·rintro D ρo wo nD eD cD jD aD ⟨f63, _⟩
    have hst := jD.2 (not_yet nD (fun hm => (cD 23 22 hm (by kernel_rfl))))
    have hst := St.start wo
    refine go_plain (op_buildSlice (E := infoE) [(⟨(segs[i]'(by omega)).d.Id, (segs[i]'(by omega)).d.Tier, (segs[i]'(by omega)).d.From, (segs[i]'(by omega)).d.To, 0⟩ : Info)] hst Try.underlying26 Try.sizeOf65 Try.zeroValue65 (evp_cons (v := (.agg #[(iV ((segs[i]'(by omega)).d.Id)), (iV ((segs[i]'(by omega)).d.Tier)), (iV ((segs[i]'(by omega)).d.From)), (iV ((segs[i]'(by omega)).d.To)), (.int .u32 0)])) f63 evp_nil) (parts_cons rfl parts_nil) rfl (by decide) (fun v79 w80 hst => ?_))
    exact kN (i := 22) hM (by decide) hst.below (by exact ⟨(jD.1).ext hst.below, (fun x0 => (jD.2 x0).ext hst.below)⟩) (by exact fun _ => hst.sl 0 rfl)
   ·rintro D ρo wo nD eD cD jD aD ⟨f42, f64, _⟩
    have hst := jD.2 nD
    obtain ⟨v82, e83⟩ : ∃ x, ρo 64 = x := ⟨_, rfl⟩
    have hs81 := f64 (by intro m hm; obtain rfl := List.mem_singleton.1 hm; exact nD)
    replace hs81 : Sl wo infoE v82 ([(⟨(segs[i]'(by omega)).d.Id, (segs[i]'(by omega)).d.Tier, (segs[i]'(by omega)).d.From, (segs[i]'(by omega)).d.To, 0⟩ : Info)]) := e83 ▸ hs81
    refine go_plain (op_append (E := infoE) (xs := (infosOf ((ds segs).take i))) (ys := [(⟨(segs[i]'(by omega)).d.Id, (segs[i]'(by omega)).d.Tier, (segs[i]'(by omega)).d.From, (segs[i]'(by omega)).d.To, 0⟩ : Info)]) (z := (.agg #[(iV 0), (iV 0), (iV 0), (iV 0), (.int .u32 0)])) (bytes := 40) hst 0 rfl Try.underlying26 (by kernel_rfl) rfl f42 e83 hs81 (by (simp only [List.length_cons, List.length_nil, infos_len, List.length_take]; omega)) (by (simp only [List.length_cons, List.length_nil, infos_len, List.length_take]; omega)) (fun v84 w85 hst => ?_))
    replace hst : St w0 w85 [rowT 65 infoE v84 (infosOf ((ds segs).take (i + 1)))] := by rw [show ((infosOf ((ds segs).take i)) ++ ([(⟨(segs[i]'(by omega)).d.Id, (segs[i]'(by omega)).d.Tier, (segs[i]'(by omega)).d.From, (segs[i]'(by omega)).d.To, 0⟩ : Info)])) = (infosOf ((ds segs).take (i + 1))) from (by rw [infos_snoc (by omega), ds_gd (by omega)]; rfl)] at hst; exact hst
    refine ⟨by exact ⟨hst.sub (.cons _ .slnil), (fun y0 => absurd y0 (fun h => Bool.noConfusion h))⟩, by exact (fun y0 => hst.sub (.cons_cons _ .slnil)), kX [] (by exact ⟨Or.inr (Or.inr (Or.inr iEq)), Or.inr (Or.inr (Or.inr iEq)), Or.inr (Or.inr (Or.inr iEq)), Or.inr (Or.inr (Or.inr iPt0)), Or.inr (Or.inr (Or.inr iPt0)), Or.inr (Or.inr (Or.inr iEq)), Or.inr (Or.inr (Or.inr iEq)), Or.inr (Or.inr (Or.inr iEq)), Or.inr (Or.inr (Or.inr iPt0)), Or.inr (Or.inr (Or.inr iPt0)), Or.inr (Or.inr (Or.inr iEq)), Or.inr (Or.inr (Or.inr iEq)), Or.inr (Or.inr (Or.inr iEq)), Or.inr (Or.inr (Or.inr iPt0)), Or.inr (Or.inr (Or.inr iPt0)), Or.inr (Or.inr (Or.inr iEq)), Or.inr (Or.inr (Or.inr iEq)), Or.inr (Or.inr (Or.inr iEq)), Or.inr (Or.inr (Or.inr iPt0)), Or.inr (Or.inr (Or.inr iPt0)), Or.inr (Or.inr (Or.inr iEq)), Or.inr (Or.inr (Or.inr iEq)), Or.inr (Or.inr (Or.inr (iSlU (by decide)))), Or.inl rfl, Or.inr (Or.inr (Or.inl (not_yet nD (fun hm => (cD 24 23 hm (by kernel_rfl)))))), trivial⟩) ?_⟩
    intro j d hj; cases hj
   ·rintro D ρo wo nD eD cD jD aD ⟨f65, _⟩
    obtain ⟨v87, e88⟩ : ∃ x, ρo 65 = x := ⟨_, rfl⟩
    have hh89 := aD 23 65 (eD 23 (by kernel_rfl)) rfl
    have hst : St w0 wo [rowT 65 infoE v87 (infosOf ((ds segs).take (i + 1)))] := by have h := hh89 (eD 23 (by kernel_rfl)); rw [e88] at h; exact h
    exact go_plain (op_assign _ rfl (kN0 (i := 24) hM (by decide) (by exact jD) (by exact f65)))
   intro ρ90 w91 Dw91 hallw91 hJw91 hRw91 hkw91
   obtain ⟨v92, uw91_10⟩ : ∃ x, ρ90 10 = x := ⟨_, rfl⟩
   have hst : St w0 w91 [rowT 65 infoE v92 (infosOf ((ds segs).take (i + 1)))] := by have h := hRw91 24 10 rfl; rw [uw91_10] at h; exact (h (hallw91 23 (show 23 < 25 from by decide)))
   have uw91_0 := (hkw91 0 rfl).trans q1_0
   have uw91_1 := (hkw91 1 rfl).trans q1_1
   have uw91_2 := (hkw91 2 rfl).trans q1_2
   have uw91_3 := (hkw91 3 rfl).trans q1_3
   have uw91_11 := (hkw91 11 rfl).trans q1_11
   have uw91_12 := (hkw91 12 rfl).trans q1_12
   refine then_n (cE_region rfl (s_cons (op_move (iV (endT ((ds segs).take i))) uw91_11 (s_cons (op_move v_segs uw91_0 (s_cons (op_move (iV (i : Int)) uw91_12 (s_cons (op_indexAddrN (E := segE) (xs := segs) i Try.underlying32 Try.sizeOf25 rfl h_segs rfl (by omega) (by omega) (fun a93 o94 p95 => ?_))))))))))
   refine s_cons (op_fieldAddr (s := 0) Try.underlying25 rfl rfl Try.sizeOf2 rfl (s_cons (op_load1 (u := (iV ((segs[i]'(by omega)).d.To))) Try.isAgg2 rfl ((p95.below hst.below).drop 3) (s_cons (op_max2 (k := .i64) (a := (endT ((ds segs).take i))) (b := (segs[i]'(by omega)).d.To) rfl rfl (s_cons (op_assign (iV (max (endT ((ds segs).take i)) ((segs[i]'(by omega)).d.To))) rfl (s_nil (block_n (then_n ?_))))))))))
   refine cE_region rfl (s_cons (op_move (iV (i : Int)) uw91_12 (s_cons (op_add (k := .i64) (a := (i : Int)) (b := 1) ((i : Int) + 1) rfl rfl (xi64 (by omega) (by omega)) (s_cons (op_assign (iV ((i : Int) + 1)) rfl (s_nil (then_n ?_))))))))
   exact ⟨_, ⟨v92, (i + 1), rfl, uw91_0, uw91_1, uw91_2, uw91_3, uw91_10, (congrArg iV (show (max (endT ((ds segs).take i)) ((segs[i]'(by omega)).d.To)) = _ from by (rw [end_snoc (by omega), ds_gd (by omega)]))), (congrArg iV (show ((i : Int) + 1) = _ from by omega)), hst, (by omega), (by exact okTo_step hI (by rw [ds_gd (by omega)]; assumption) (by rw [ds_gd (by omega)]; assumption))⟩, (by simp only [id]; omega)⟩
  refine s_no 33 rfl (congrArg Value.bool (congrArg (! ·) b11)) (s_no 33 rfl (congrArg Value.bool (congrArg (! ·) b11)) (s_no 33 rfl (congrArg Value.bool (congrArg (! ·) b11)) (s_no 33 rfl (congrArg Value.bool (congrArg (! ·) b11)) (s_no 33 rfl (congrArg Value.bool (congrArg (! ·) b11)) (s_no 33 rfl (congrArg Value.bool (congrArg (! ·) b11)) (s_no 33 rfl (congrArg Value.bool (congrArg (! ·) b11)) ?_))))))
  refine s_cons (op_pick_t (.bool true) (congrArg Value.bool (congrArg (! ·) b11)) rfl (s_nil (then_n (cE_cond true rfl (fun _ => ?_) (fun h => by cases h)))))
  refine cE_seq (cE_region rfl (s_cons (op_assign nS rfl (s_cons (op_assign (iV 1) rfl (s_nil (then_n (cE_ret (then_r (block_r (then_r (then_r (block_r (then_r (post_r _ (res2 (v := nS) rfl (x := (iV 1)) rfl) ?_)))))))))))))))
  replace hst := hst.nilRow 73 winE
  have e96 : [] = (rangeW (ds segs) head fr to).1 := by exact fst_of (range_no (okR_no1 (okTo_bad1 (n := i) (by omega) (by rw [ds_gd (by omega)]; assumption))))
  replace hst : St w0 w10 [rowT 73 winE nS ((rangeW (ds segs) head fr to).1), rowT 65 infoE vo (infosOf ((ds segs).take i))] := by rw [congrArg (fun l => rowT 73 winE nS l) e96] at hst; exact hst
  exact ⟨nS, (retv2 rfl (congrArg iV (show 1 = (rangeW (ds segs) head fr to).2 from by exact snd_of (range_no (okR_no1 (okTo_bad1 (n := i) (by omega) (by rw [ds_gd (by omega)]; assumption))))))), hst.sub (.cons_cons _ (.cons _ .slnil))⟩
 have c97 := of_decide_eq_false b5
 refine cE_cond false (congrArg Value.bool b5) (fun h => by cases h) (fun _ => ?_)
 refine cE_exit (then_x (then_x (block_hit (then_n (cE_seq ?_)))))
 have hIA : okTo (ds segs) (ds segs).length = true := by rw [hdl, show segs.length = i by omega]; exact hI
 have hTA : (ds segs).take i = (ds segs) := take_all (by omega)
 have hil := infos_len (ds segs)
 replace hst : St w0 w4 [rowT 65 infoE vo (infosOf (ds segs))] := by rw [hTA] at hst; exact hst
 refine cE_region rfl (s_cons (op_move vo q1_10 (s_cons (op_call Try.call30 (evs_cons (v := vo) rfl evs_nil) (c_rpicks (w0 := w4) (v_l := vo) (l := (infosOf (ds segs))) (h_l := (hst.sl 0 rfl)) (hll := (by omega))) ?_))))
 rintro _ w100 ⟨r98, r99, rfl, hcall, rpicks_hP⟩
 refine ⟨_, rfl, ?_⟩
 have hst := hst.call hcall
 refine s_cons (op_assign r98 rfl (s_nil (then_n (cE_seq (cE_seq ?_)))))
 obtain ⟨ps, hps, hlt, hpe⟩ := picks_at rpicks_hP hIA
 replace hst : St w0 w100 [rowT 3 (intE .i64) r98 (intsN ps), rowT 65 infoE vo (infosOf (ds segs))] := by rw [hps] at hst; exact hst
 have hpl := intsN_len ps
 have hQl : (pickS (ds segs)).length = (intsN ps).length := by rw [hpe, List.length_map, intsN_len]
 have hQi := pickS_in hlt hpe
 have hQm : ∀ s ∈ (pickS (ds segs)), mayS s = true := fun s h => okTo_all hIA s (hQi s h)
 have hQ0 : ∀ s ∈ (pickS (ds segs)), 0 ≤ s.From := fun s h => (headS_iff.1 (may_iff.1 (hQm s h)).1).2.2.2.2.1
 have hpi := pickI_len (infosOf (ds segs))
 have hpn := pickS_len (ds segs)
 refine cE_region rfl (s_cons (op_assign (iV 1) rfl (s_nil (then_n (cE_block (cE_loop (fun (m : Nat) (ρ : Env) (w : World) => ∃ (j : Nat), m = (intsN ps).length - j ∧ ρ 0 = v_segs ∧ ρ 1 = v_head ∧ ρ 2 = (iV fr) ∧ ρ 3 = (iV to) ∧ ρ 10 = vo ∧ ρ 11 = (iV (endT ((ds segs).take i))) ∧ ρ 12 = (iV (i : Int)) ∧ ρ 13 = r98 ∧ ρ 14 = (iV (j : Int)) ∧ St w0 w [rowT 3 (intE .i64) r98 (intsN ps), rowT 65 infoE vo (infosOf (ds segs))] ∧ (1 ≤ j) ∧ (j = 1 ∨ j ≤ (intsN ps).length) ∧ (chainS 0 ((pickS (ds segs)).take j) = true)) id _ ⟨1, rfl, q1_0, q1_1, q1_2, q1_3, q1_10, q1_11, q1_12, rfl, (congrArg iV (show 1 = _ from by omega)), hst, (by omega), (by omega), (by exact chain_one hQ0)⟩ ?_))))))
 rintro m102 ρ103 w104 ⟨j, hm102, q101_0, q101_1, q101_2, q101_3, q101_10, q101_11, q101_12, q101_13, q101_14, hst, hj0, hj, hc⟩
 refine cE_seq (cE_seq (cE_region rfl (s_cons (op_move (iV (j : Int)) q101_14 (s_cons (op_move r98 q101_13 (s_cons (op_len (E := (intE .i64)) (xs := (intsN ps)) Try.underlying43 rfl (hst.sl 0 rfl) (s_cons (op_lss (k := .i64) (a := (j : Int)) (b := ((intsN ps).length : Int)) rfl rfl (s_nil (then_n ?_))))))))))))
 rcases Bool.eq_false_or_eq_true (decide ((j : Int) < ((intsN ps).length : Int))) with b105 | b105
 ·have c106 := of_decide_eq_true b105
  refine cE_cond true (congrArg Value.bool b105) (fun _ => ?_) (fun h => by cases h)
  refine cE_skip (then_n (cE_seq (cE_block (cE_seq ?_))))
  obtain ⟨n1, hn1, hl1, he1⟩ := place hlt hpe (i := j) (by omega)
  obtain ⟨n2, hn2, hl2, he2⟩ := place hlt hpe (i := j - 1) (by omega)
  have hA1 : ((infosOf (ds segs))[n1]'(by omega)).From = (gd (pickS (ds segs)) j).From := by rw [info_at, he1]; rfl
  have hA2 : ((infosOf (ds segs))[n2]'(by omega)).To = (gd (pickS (ds segs)) (j - 1)).To := by rw [info_at, he2]; rfl
  refine cE_regionL hst [[(10, none)], [(13, none)], [(14, none)], [(82, some 1), (83, some 2)], [(84, some 3)], [(81, some 0), (85, some 4)], [(86, some 5)], [(87, some 6)], [(10, none)], [(13, none)], [(14, none)], [(91, some 10)], [(90, some 9), (92, some 11)], [(93, some 12)], [(89, some 8), (94, some 13)], [(95, some 14)], [(96, some 15)], [(88, some 7), (97, some 16)]] [(rEq vo), (rEq r98), (rEq (iV (j : Int))), (rPt [(iV ((intsN ps)[j]'(by omega)))]), (rEq (iV (n1 : Int))), (rPt [(iV (((infosOf (ds segs))[n1]'(by omega)).Id)), (iV (((infosOf (ds segs))[n1]'(by omega)).Tier)), (iV (((infosOf (ds segs))[n1]'(by omega)).From)), (iV (((infosOf (ds segs))[n1]'(by omega)).To)), (.int .u32 (((infosOf (ds segs))[n1]'(by omega)).Sum))]), (rPt [(iV (((infosOf (ds segs))[n1]'(by omega)).From)), (iV (((infosOf (ds segs))[n1]'(by omega)).To)), (.int .u32 (((infosOf (ds segs))[n1]'(by omega)).Sum))]), (rEq (iV (((infosOf (ds segs))[n1]'(by omega)).From))), (rEq vo), (rEq r98), (rEq (iV (j : Int))), (rEq (iV ((j : Int) - 1))), (rPt [(iV ((intsN ps)[(j - 1)]'(by omega)))]), (rEq (iV (n2 : Int))), (rPt [(iV (((infosOf (ds segs))[n2]'(by omega)).Id)), (iV (((infosOf (ds segs))[n2]'(by omega)).Tier)), (iV (((infosOf (ds segs))[n2]'(by omega)).From)), (iV (((infosOf (ds segs))[n2]'(by omega)).To)), (.int .u32 (((infosOf (ds segs))[n2]'(by omega)).Sum))]), (rPt [(iV (((infosOf (ds segs))[n2]'(by omega)).To)), (.int .u32 (((infosOf (ds segs))[n2]'(by omega)).Sum))]), (rEq (iV (((infosOf (ds segs))[n2]'(by omega)).To))), (rEq (.bool (decide ((((infosOf (ds segs))[n1]'(by omega)).From) < (((infosOf (ds segs))[n2]'(by omega)).To)))))] (by kernel_rfl) rfl (by kernel_rfl) ⟨sEq, sEq, sEq, sPt, sEq, sPt, sPt, sEq, sEq, sEq, sEq, sEq, sPt, sEq, sPt, sPt, sEq, sEq, trivial⟩ ⟨?_, ?_, ?_, ?_, ?_, ?_, ?_, ?_, ?_, ?_, ?_, ?_, ?_, ?_, ?_, ?_, ?_, ?_, trivial⟩ ?_
  ·rintro ρ119 w120 hj121 ⟨f10, _⟩
   have hst := hj121.2
   exact go_plain (op_move vo (f10.trans q101_10) (kS hj121 rfl))
  ·rintro ρ122 w123 hj124 ⟨f13, _⟩
   have hst := hj124.2
   exact go_plain (op_move r98 (f13.trans q101_13) (kS hj124 rfl))
  ·rintro ρ125 w126 hj127 ⟨f14, _⟩
   have hst := hj127.2
   exact go_plain (op_move (iV (j : Int)) (f14.trans q101_14) (kS hj127 rfl))
  ·rintro ρ128 w129 hj130 ⟨f82, f83, _⟩
   have hst := hj130.2
   refine go_plain (op_indexAddrN (E := (intE .i64)) (xs := (intsN ps)) j Try.underlying43 Try.sizeOf3 f82 (hst.sl 0 rfl) f83 (by omega) (by omega) (fun a131 o132 p133 => ?_))
   exact kS hj130 ⟨_, _, rfl, p133⟩
  ·rintro ρ134 w135 hj136 ⟨f84, _⟩
   have hst := hj136.2
   obtain ⟨a137, o138, e139, p140⟩ := f84
   exact go_plain (op_load1 (u := (iV (n1 : Int))) Try.isAgg3 e139 (by rw [← hn1]; exact p140) (kS hj136 rfl))
  ·rintro ρ141 w142 hj143 ⟨f81, f85, _⟩
   have hst := hj143.2
   refine go_plain (op_indexAddrN (E := infoE) (xs := (infosOf (ds segs))) n1 Try.underlying26 Try.sizeOf65 f81 (hst.sl 1 rfl) f85 (by omega) (by omega) (fun a144 o145 p146 => ?_))
   exact kS hj143 ⟨_, _, rfl, p146⟩
  ·rintro ρ147 w148 hj149 ⟨f86, _⟩
   have hst := hj149.2
   obtain ⟨a150, o151, e152, p153⟩ := f86
   exact go_plain (op_fieldAddr (s := 0) Try.underlying65 rfl rfl Try.sizeOf2 e152 (kS hj149 ⟨_, _, rfl, (p153.drop 2)⟩))
  ·rintro ρ154 w155 hj156 ⟨f87, _⟩
   have hst := hj156.2
   obtain ⟨a157, o158, e159, p160⟩ := f87
   exact go_plain (op_load1 (u := (iV (((infosOf (ds segs))[n1]'(by omega)).From))) Try.isAgg2 e159 p160 (kS hj156 rfl))
  ·rintro ρ161 w162 hj163 ⟨f10, _⟩
   have hst := hj163.2
   exact go_plain (op_move vo (f10.trans q101_10) (kS hj163 rfl))
  ·rintro ρ164 w165 hj166 ⟨f13, _⟩
   have hst := hj166.2
   exact go_plain (op_move r98 (f13.trans q101_13) (kS hj166 rfl))
  ·rintro ρ167 w168 hj169 ⟨f14, _⟩
   have hst := hj169.2
   exact go_plain (op_move (iV (j : Int)) (f14.trans q101_14) (kS hj169 rfl))
  ·rintro ρ170 w171 hj172 ⟨f91, _⟩
   have hst := hj172.2
   exact go_plain (op_sub (k := .i64) (a := (j : Int)) (b := 1) ((j : Int) - 1) f91 rfl (xi64 (by omega) (by omega)) (kS hj172 rfl))
  ·rintro ρ173 w174 hj175 ⟨f90, f92, _⟩
   have hst := hj175.2
   refine go_plain (op_indexAddrN (E := (intE .i64)) (xs := (intsN ps)) (j - 1) Try.underlying43 Try.sizeOf3 f90 (hst.sl 0 rfl) f92 (by omega) (by omega) (fun a176 o177 p178 => ?_))
   exact kS hj175 ⟨_, _, rfl, p178⟩
  ·rintro ρ179 w180 hj181 ⟨f93, _⟩
   have hst := hj181.2
   obtain ⟨a182, o183, e184, p185⟩ := f93
   exact go_plain (op_load1 (u := (iV (n2 : Int))) Try.isAgg3 e184 (by rw [← hn2]; exact p185) (kS hj181 rfl))
  ·rintro ρ186 w187 hj188 ⟨f89, f94, _⟩
   have hst := hj188.2
   refine go_plain (op_indexAddrN (E := infoE) (xs := (infosOf (ds segs))) n2 Try.underlying26 Try.sizeOf65 f89 (hst.sl 1 rfl) f94 (by omega) (by omega) (fun a189 o190 p191 => ?_))
   exact kS hj188 ⟨_, _, rfl, p191⟩
  ·rintro ρ192 w193 hj194 ⟨f95, _⟩
   have hst := hj194.2
   obtain ⟨a195, o196, e197, p198⟩ := f95
   exact go_plain (op_fieldAddr (s := 0) Try.underlying65 rfl rfl Try.sizeOf2 e197 (kS hj194 ⟨_, _, rfl, (p198.drop 3)⟩))
  ·rintro ρ199 w200 hj201 ⟨f96, _⟩
   have hst := hj201.2
   obtain ⟨a202, o203, e204, p205⟩ := f96
   exact go_plain (op_load1 (u := (iV (((infosOf (ds segs))[n2]'(by omega)).To))) Try.isAgg2 e204 p205 (kS hj201 rfl))
  ·rintro ρ206 w207 hj208 ⟨f88, f97, _⟩
   have hst := hj208.2
   exact go_plain (op_lss (k := .i64) (a := ((infosOf (ds segs))[n1]'(by omega)).From) (b := ((infosOf (ds segs))[n2]'(by omega)).To) f88 f97 (kS hj208 rfl))
  intro ρ209 w210 hbw210 hst hRw210 hkw210
  have uw210_0 := (hkw210 0 rfl).trans q101_0
  have uw210_1 := (hkw210 1 rfl).trans q101_1
  have uw210_2 := (hkw210 2 rfl).trans q101_2
  have uw210_3 := (hkw210 3 rfl).trans q101_3
  have uw210_10 := (hkw210 10 rfl).trans q101_10
  have uw210_11 := (hkw210 11 rfl).trans q101_11
  have uw210_12 := (hkw210 12 rfl).trans q101_12
  have uw210_13 := (hkw210 13 rfl).trans q101_13
  have uw210_14 := (hkw210 14 rfl).trans q101_14
  have uw210_98 : ρ209 98 = (.bool (decide ((((infosOf (ds segs))[n1]'(by omega)).From) < (((infosOf (ds segs))[n2]'(by omega)).To)))) := hRw210 17 98 rfl
  refine then_n ?_
  rcases Bool.eq_false_or_eq_true (decide ((((infosOf (ds segs))[n1]'(by omega)).From) < (((infosOf (ds segs))[n2]'(by omega)).To))) with b211 | b211
  ·have c212 := of_decide_eq_true b211
   refine cE_cond true (uw210_98.trans (congrArg Value.bool b211)) (fun _ => ?_) (fun h => by cases h)
   refine cE_seq (cE_region rfl (s_cons (op_assign nS rfl (s_cons (op_assign (iV 1) rfl (s_nil (then_n (cE_ret (block_r (then_r (then_r (block_r (then_r (post_r _ (res2 (v := nS) rfl (x := (iV 1)) rfl) ?_))))))))))))))
   replace hst := hst.nilRow 73 winE
   have e213 : [] = (rangeW (ds segs) head fr to).1 := by exact fst_of (range_no (okR_no2 (chain_falls (i := j) (by omega) (by omega) (by omega))))
   replace hst : St w0 w210 [rowT 73 winE nS ((rangeW (ds segs) head fr to).1), rowT 3 (intE .i64) r98 (intsN ps), rowT 65 infoE vo (infosOf (ds segs))] := by rw [congrArg (fun l => rowT 73 winE nS l) e213] at hst; exact hst
   exact ⟨nS, (retv2 rfl (congrArg iV (show 1 = (rangeW (ds segs) head fr to).2 from by exact snd_of (range_no (okR_no2 (chain_falls (i := j) (by omega) (by omega) (by omega))))))), hst.sub (.cons_cons _ (.cons _ (.cons _ .slnil)))⟩
  have c214 := of_decide_eq_false b211
  refine cE_cond false (uw210_98.trans (congrArg Value.bool b211)) (fun h => by cases h) (fun _ => ?_)
  refine cE_skip (block_n (then_n (cE_region rfl (s_cons (op_move (iV (j : Int)) uw210_14 (s_cons (op_add (k := .i64) (a := (j : Int)) (b := 1) ((j : Int) + 1) rfl rfl (xi64 (by omega) (by omega)) (s_cons (op_assign (iV ((j : Int) + 1)) rfl (s_nil (then_n ?_)))))))))))
  exact ⟨_, ⟨(j + 1), rfl, uw210_0, uw210_1, uw210_2, uw210_3, uw210_10, uw210_11, uw210_12, uw210_13, (congrArg iV (show ((j : Int) + 1) = _ from by omega)), hst, (by omega), (by omega), (by exact chain_next (by omega) (by omega) hc (by omega))⟩, (by simp only [id]; omega)⟩
 have c215 := of_decide_eq_false b105
 refine cE_cond false (congrArg Value.bool b105) (fun h => by cases h) (fun _ => ?_)
 refine cE_exit (then_x (then_x (block_hit (then_n (cE_seq (cE_seq ?_))))))
 have hcA := hc
 rw [List.take_of_length_le (by omega)] at hcA
 have hkR := okR_is (head := head) hIA hcA
 have hE : endT ((ds segs).take i) = lastTo 0 (pickS (ds segs)) := by rw [hTA]; exact end_is hIA hcA
 refine cE_region rfl (s_cons (op_move v_head q101_1 (s_cons (op_call Try.call31 (evs_cons (v := v_head) rfl evs_nil) (c_rRising (w0 := w104) (v_l := v_head) (l := head) (h_l := (h_head.below hst.below)) (hl := (by omega))) ?_))))
 rintro _ w216 ⟨rfl, hcall⟩
 refine ⟨_, rfl, ?_⟩
 have hst := hst.call hcall
 refine s_cons (op_not (b := risingA head) rfl (s_cons (op_move (.bool (!(risingA head))) rfl (s_lz 102 rfl (gA_f rfl) (Rlz (!(!(risingA head))) v_head w216) ?_ (fun hc217 => rlz_f hc217) ?_))))
 ·intro hc217
  refine op_move v_head q101_1 ?_
  exact rlz_t hc217
 rintro _ _ ⟨rfl, rfl⟩
 refine s_lz 102 rfl (gA_f rfl) (Rlz (!(!(risingA head))) (iV (head.length : Int)) w216) ?_ (fun hc218 => rlz_f hc218) ?_
 ·intro hc218
  have c219 : (risingA head) = true := (not_f (not_t hc218))
  refine op_len (E := sampE) (xs := head) Try.underlying22 (gt (congrArg (! ·) (congrArg (! ·) c219))) h_head ?_
  exact rlz_t hc218
 rintro _ _ ⟨rfl, rfl⟩
 refine s_lz 102 rfl (gA_f rfl) (Rlz (!(!(risingA head))) (.bool (decide (0 < (head.length : Int)))) w216) ?_ (fun hc220 => rlz_f hc220) ?_
 ·intro hc220
  refine op_gtr (k := .i64) (a := (head.length : Int)) (b := 0) (gt (congrArg (! ·) (congrArg (! ·) (not_f (not_t hc220))))) rfl ?_
  exact rlz_t hc220
 rintro _ _ ⟨rfl, rfl⟩
 refine s_lz 102 rfl (gA_f rfl) (Rlz (!(!(risingA head))) (.bool (decide (0 < (head.length : Int)))) w216) ?_ (fun hc221 => rlz_f hc221) ?_
 ·intro hc221
  refine op_move (.bool (decide (0 < (head.length : Int)))) (gt (congrArg (! ·) (congrArg (! ·) (not_f (not_t hc221))))) ?_
  exact rlz_t hc221
 rintro _ _ ⟨rfl, rfl⟩
 obtain ⟨g222, hg223⟩ : ∃ x : Bool, x = ((!(!(risingA head))) && (decide (0 < (head.length : Int)))) := ⟨_, rfl⟩
 refine s_lz 106 rfl ((gB_t rfl).trans hg223.symm) (Rlz g222 v_head w216) ?_ (fun hc224 => rlz_f hc224) ?_
 ·intro hc224
  refine op_move v_head q101_1 ?_
  exact rlz_t hc224
 rintro _ _ ⟨rfl, rfl⟩
 refine s_lz 106 rfl ((gB_t rfl).trans hg223.symm) (RlzP g222 w0 w216 [(iV ((gd head 0).T)), (iV ((gd head 0).V))]) ?_ (fun hc225 => ⟨fun h => absurd (show _ = true from h) (by rw [hc225]; decide), rfl⟩) ?_
 ·intro hc225
  have c226 : (risingA head) = true := (not_f (not_t (and_l (hg223.symm.trans hc225))))
  have c227 : 0 < (head.length : Int) := of_decide_eq_true (and_r (hg223.symm.trans hc225))
  refine op_indexAddrD (E := sampE) (xs := head) 0 Try.underlying22 Try.sizeOf51 (gt hc225) h_head rfl (by omega) (by omega) (fun a228 o229 p230 => ?_)
  exact ⟨fun _ => ⟨_, _, rfl, p230⟩, rfl⟩
 rintro v231 _ ⟨hp232, rfl⟩
 refine s_lz 106 rfl ((gB_t rfl).trans hg223.symm) (RlzP g222 w0 w216 [(iV ((gd head 0).T)), (iV ((gd head 0).V))]) ?_ (fun hc233 => ⟨fun h => absurd (show _ = true from h) (by rw [hc233]; decide), rfl⟩) ?_
 ·intro hc233
  obtain ⟨a234, o235, e236, p237⟩ := hp232 hc233
  refine op_fieldAddr (s := 0) Try.underlying51 rfl rfl Try.sizeOf2 e236 ?_
  exact ⟨fun _ => ⟨_, _, rfl, p237⟩, rfl⟩
 rintro v238 _ ⟨hp239, rfl⟩
 refine s_lz 106 rfl ((gB_t rfl).trans hg223.symm) (Rlz g222 (iV ((gd head 0).T)) w216) ?_ (fun hc240 => rlz_f hc240) ?_
 ·intro hc240
  obtain ⟨a241, o242, e243, p244⟩ := hp232 hc240
  obtain ⟨a245, o246, e247, p248⟩ := hp239 hc240
  refine op_load1 (u := (iV ((gd head 0).T))) Try.isAgg2 e247 (p248.below hst.below) ?_
  exact rlz_t hc240
 rintro _ _ ⟨rfl, rfl⟩
 refine s_lz 106 rfl ((gB_t rfl).trans hg223.symm) (Rlz g222 (iV (endT ((ds segs).take i))) w216) ?_ (fun hc249 => rlz_f hc249) ?_
 ·intro hc249
  obtain ⟨a250, o251, e252, p253⟩ := hp232 hc249
  obtain ⟨a254, o255, e256, p257⟩ := hp239 hc249
  refine op_move (iV (endT ((ds segs).take i))) q101_11 ?_
  exact rlz_t hc249
 rintro _ _ ⟨rfl, rfl⟩
 refine s_lz 106 rfl ((gB_t rfl).trans hg223.symm) (Rlz g222 (.bool (decide (((gd head 0).T) < (endT ((ds segs).take i))))) w216) ?_ (fun hc258 => rlz_f hc258) ?_
 ·intro hc258
  obtain ⟨a259, o260, e261, p262⟩ := hp232 hc258
  obtain ⟨a263, o264, e265, p266⟩ := hp239 hc258
  refine op_lss (k := .i64) (a := (gd head 0).T) (b := (endT ((ds segs).take i))) (gt hc258) (gt hc258) ?_
  exact rlz_t hc258
 rintro _ _ ⟨rfl, rfl⟩
 obtain ⟨g269, hg270⟩ : ∃ x : Bool, x = ((decide (0 < (head.length : Int))) && (decide (((gd head 0).T) < (endT ((ds segs).take i))))) := ⟨_, rfl⟩
 refine s_lz 102 rfl (gA_f rfl) (Rlz (!(!(risingA head))) (.bool g269) w216) ?_ (fun hc267 => rlz_f hc267) ?_
 ·intro hc267
  refine op_pick_and (gt (congrArg (! ·) (congrArg (! ·) (not_f (not_t hc267))))) rfl (fun hp => (hg223.trans (and_i (congrArg (! ·) (congrArg (! ·) (not_f (not_t hc267)))) hp))) rfl ?_
  exact rlz_n hg270 hc267
 rintro _ _ ⟨rfl, rfl⟩
 obtain ⟨g268, hg269⟩ : ∃ x : Bool, x = ((!(risingA head)) || g269) := ⟨_, rfl⟩
 refine s_cons (op_pick_or rfl rfl rfl (fun hp => (congrArg (! ·) (congrArg (! ·) (not_f hp)))) (s_nil (then_n ?_)))
 rcases Bool.eq_false_or_eq_true g268 with b270 | b270
 ·have c271 : (¬ ((risingA head) = true)) ∨ ((0 < (head.length : Int)) ∧ (((gd head 0).T) < (endT ((ds segs).take i)))) := (pi_or (pi_not pi_self) (pi_name hg270 (pi_and pi_dec pi_dec))).1 (hg269.symm.trans b270)
  refine cE_cond true ((congrArg Value.bool hg269.symm).trans (congrArg Value.bool b270)) (fun _ => ?_) (fun h => by cases h)
  refine cE_seq (cE_region rfl (s_cons (op_assign nS rfl (s_cons (op_assign (iV 1) rfl (s_nil (then_n (cE_ret (then_r (post_r _ (res2 (v := nS) rfl (x := (iV 1)) rfl) ?_))))))))))
  replace hst := hst.nilRow 73 winE
  have e272 : [] = (rangeW (ds segs) head fr to).1 := by exact fst_of (range_no (hkR.trans (okHead_c (by assumption) hE)))
  replace hst : St w0 w216 [rowT 73 winE nS ((rangeW (ds segs) head fr to).1), rowT 3 (intE .i64) r98 (intsN ps), rowT 65 infoE vo (infosOf (ds segs))] := by rw [congrArg (fun l => rowT 73 winE nS l) e272] at hst; exact hst
  exact ⟨nS, (retv2 rfl (congrArg iV (show 1 = (rangeW (ds segs) head fr to).2 from by exact snd_of (range_no (hkR.trans (okHead_c (by assumption) hE)))))), hst.sub (.cons_cons _ (.cons _ (.cons _ .slnil)))⟩
 have c273 : (risingA head) = true := (not_f (or_l (hg269.symm.trans b270)))
 have c274 : ¬ ((0 < (head.length : Int)) ∧ (((gd head 0).T) < (endT ((ds segs).take i)))) := pi_f (pi_and pi_dec pi_dec) (hg270.symm.trans (or_r (hg269.symm.trans b270)))
 refine cE_cond false ((congrArg Value.bool hg269.symm).trans (congrArg Value.bool b270)) (fun h => by cases h) (fun _ => ?_)
 refine cE_skip (then_n (cE_seq (cE_seq (cE_region rfl (s_cons (op_move (iV fr) q101_2 (s_cons (op_lss (k := .i64) (a := fr) (b := 0) rfl rfl (s_cons (op_move (.bool (decide (fr < 0))) rfl (s_lz 117 rfl (gA_f rfl) (Rlz (!(decide (fr < 0))) (iV fr) w216) ?_ (fun hc275 => rlz_f hc275) ?_)))))))))))
 ·intro hc275
  refine op_move (iV fr) q101_2 ?_
  exact rlz_t hc275
 rintro _ _ ⟨rfl, rfl⟩
 refine s_lz 117 rfl (gA_f rfl) (Rlz (!(decide (fr < 0))) (iV to) w216) ?_ (fun hc276 => rlz_f hc276) ?_
 ·intro hc276
  refine op_move (iV to) q101_3 ?_
  exact rlz_t hc276
 rintro _ _ ⟨rfl, rfl⟩
 refine s_lz 117 rfl (gA_f rfl) (Rlz (!(decide (fr < 0))) (.bool (decide (to ≤ fr))) w216) ?_ (fun hc277 => rlz_f hc277) ?_
 ·intro hc277
  refine op_geq (k := .i64) (a := fr) (b := to) (gt (congrArg (! ·) (not_t hc277))) (gt (congrArg (! ·) (not_t hc277))) ?_
  exact rlz_t hc277
 rintro _ _ ⟨rfl, rfl⟩
 obtain ⟨g278, hg279⟩ : ∃ x : Bool, x = ((decide (fr < 0)) || (decide (to ≤ fr))) := ⟨_, rfl⟩
 refine s_cons (op_pick_or rfl rfl rfl (fun hp => (congrArg (! ·) hp)) (s_cons (op_move (.bool g278) (congrArg Value.bool hg279.symm) (s_lz 122 rfl (gA_f rfl) (Rlz (!g278) (iV to) w216) ?_ (fun hc280 => rlz_f hc280) ?_))))
 ·intro hc280
  refine op_move (iV to) q101_3 ?_
  exact rlz_t hc280
 rintro _ _ ⟨rfl, rfl⟩
 refine s_lz 122 rfl (gA_f rfl) (Rlz (!g278) (.bool (decide (1099511627776 < to))) w216) ?_ (fun hc281 => rlz_f hc281) ?_
 ·intro hc281
  refine op_gtr (k := .i64) (a := to) (b := 1099511627776) (gt (congrArg (! ·) (not_t hc281))) rfl ?_
  exact rlz_t hc281
 rintro _ _ ⟨rfl, rfl⟩
 obtain ⟨g282, hg283⟩ : ∃ x : Bool, x = (g278 || (decide (1099511627776 < to))) := ⟨_, rfl⟩
 refine s_cons (op_pick_or rfl rfl rfl (fun hp => (congrArg (! ·) hp)) (s_nil (then_n ?_)))
 rcases Bool.eq_false_or_eq_true g282 with b284 | b284
 ·have c285 : ((fr < 0) ∨ (to ≤ fr)) ∨ (1099511627776 < to) := (pi_or (pi_name hg279 (pi_or pi_dec pi_dec)) pi_dec).1 (hg283.symm.trans b284)
  refine cE_cond true ((congrArg Value.bool hg283.symm).trans (congrArg Value.bool b284)) (fun _ => ?_) (fun h => by cases h)
  refine cE_seq (cE_region rfl (s_cons (op_assign nS rfl (s_cons (op_assign (iV 5) rfl (s_nil (then_n (cE_ret (then_r (post_r _ (res2 (v := nS) rfl (x := (iV 5)) rfl) ?_))))))))))
  replace hst := hst.nilRow 73 winE
  have e286 : [] = (rangeW (ds segs) head fr to).1 := by exact fst_of (range_out (hkR.trans (okHead_d (by assumption) (by assumption) hE)) (by omega))
  replace hst : St w0 w216 [rowT 73 winE nS ((rangeW (ds segs) head fr to).1), rowT 3 (intE .i64) r98 (intsN ps), rowT 65 infoE vo (infosOf (ds segs))] := by rw [congrArg (fun l => rowT 73 winE nS l) e286] at hst; exact hst
  exact ⟨nS, (retv2 rfl (congrArg iV (show 5 = (rangeW (ds segs) head fr to).2 from by exact snd_of (range_out (hkR.trans (okHead_d (by assumption) (by assumption) hE)) (by omega))))), hst.sub (.cons_cons _ (.cons _ (.cons _ .slnil)))⟩
 have c287 : ¬ (fr < 0) := of_decide_eq_false (or_l (hg279.symm.trans (or_l (hg283.symm.trans b284))))
 have c288 : ¬ (to ≤ fr) := of_decide_eq_false (or_r (hg279.symm.trans (or_l (hg283.symm.trans b284))))
 have c289 : ¬ (1099511627776 < to) := of_decide_eq_false (or_r (hg283.symm.trans b284))
 refine cE_cond false ((congrArg Value.bool hg283.symm).trans (congrArg Value.bool b284)) (fun h => by cases h) (fun _ => ?_)
 refine cE_skip (then_n (cE_seq (cE_region rfl (s_cons (op_assign nS rfl (s_nil (then_n (cE_seq (cE_seq (cE_region rfl (s_cons (op_assign (iV 0) rfl (s_nil (then_n (cE_block ?_)))))))))))))))
 replace hst := hst.nilRow 73 winE
 refine cE_loop (fun (m : Nat) (ρ : Env) (w : World) => ∃ (vy : Value) (ys : List Win) (m2 : Nat), m = (intsN ps).length - m2 ∧ ρ 0 = v_segs ∧ ρ 1 = v_head ∧ ρ 2 = (iV fr) ∧ ρ 3 = (iV to) ∧ ρ 10 = vo ∧ ρ 11 = (iV (endT ((ds segs).take i))) ∧ ρ 12 = (iV (i : Int)) ∧ ρ 13 = r98 ∧ ρ 14 = (iV (j : Int)) ∧ ρ 15 = vy ∧ ρ 16 = (iV (m2 : Int)) ∧ St w0 w [rowT 73 winE vy ys, rowT 3 (intE .i64) r98 (intsN ps)] ∧ (m2 ≤ (intsN ps).length) ∧ (ys = ((pickS (ds segs)).take m2).flatMap fun s => segW s fr to)) id _ ⟨nS, [], 0, rfl, q101_0, q101_1, q101_2, q101_3, q101_10, q101_11, q101_12, q101_13, q101_14, rfl, (congrArg iV (show 0 = _ from by omega)), (hst.sub (.cons_cons _ (.cons_cons _ (.cons _ .slnil)))), (by omega), (by rfl)⟩ ?_
 rintro m291 ρ292 w293 ⟨vy, ys, m2, hm291, q290_0, q290_1, q290_2, q290_3, q290_10, q290_11, q290_12, q290_13, q290_14, q290_15, q290_16, hst, hm, hJ0⟩
 have hyl : ys.length ≤ 64 * m2 := by rw [hJ0]; exact segs_len (by omega) hQm
 refine cE_seq (cE_seq (cE_region rfl (s_cons (op_move (iV (m2 : Int)) q290_16 (s_cons (op_move r98 q290_13 (s_cons (op_len (E := (intE .i64)) (xs := (intsN ps)) Try.underlying43 rfl (hst.sl 1 rfl) (s_cons (op_lss (k := .i64) (a := (m2 : Int)) (b := ((intsN ps).length : Int)) rfl rfl (s_nil (then_n ?_))))))))))))
 rcases Bool.eq_false_or_eq_true (decide ((m2 : Int) < ((intsN ps).length : Int))) with b294 | b294
 ·have c295 := of_decide_eq_true b294
  refine cE_cond true (congrArg Value.bool b294) (fun _ => ?_) (fun h => by cases h)
  refine cE_skip (then_n (cE_seq (cE_block (cE_seq ?_))))
  obtain ⟨n, hn, hln, hen⟩ := place hlt hpe (i := m2) (by omega)
  have hsd : (segs[n]'(by omega)).d = gd (pickS (ds segs)) m2 := (ds_gd (by omega)).symm.trans hen
  have hms : mayS (segs[n]'(by omega)).d = true := okTo_all hIA _ (List.mem_map_of_mem (List.getElem_mem _))
  have hsl := segS_len hms
  have hrl := rawW_len (segs[n]'(by omega)).d.Samples fr to
  refine cE_region rfl (s_cons (op_move v_segs q290_0 (s_cons (op_move r98 q290_13 (s_cons (op_move (iV (m2 : Int)) q290_16 (s_cons (op_indexAddrN (E := (intE .i64)) (xs := (intsN ps)) m2 Try.underlying43 Try.sizeOf3 rfl (hst.sl 1 rfl) rfl (by omega) (by omega) (fun a296 o297 p298 => ?_)))))))))
  refine s_cons (op_load1 (u := (iV (n : Int))) Try.isAgg3 rfl (by rw [← hn]; exact p298) (s_cons (op_indexAddrN (E := segE) (xs := segs) n Try.underlying32 Try.sizeOf25 rfl h_segs rfl (by omega) (by omega) (fun a299 o300 p301 => ?_))))
  refine s_cons (op_loadN (cs := [(iV ((segs[n]'(by omega)).d.Id)), (iV ((segs[n]'(by omega)).d.Tier)), (iV ((segs[n]'(by omega)).d.From)), (iV ((segs[n]'(by omega)).d.To)), (segs[n]'(by omega)).sv.1, (segs[n]'(by omega)).av.1]) Try.isAgg25 Try.sizeOf25 rfl (Pt.of (p301.below hst.below) rfl) rfl (s_cons (op_alloc (cs := #[(iV 0), (iV 0), (iV 0), (iV 0), nS, nS]) hst Try.zeroValue25 rfl (fun g302 w303 hst _ => ?_))))
  refine s_cons0 (op_storeAll hst 0 rfl Try.sizeOf25 rfl rfl rfl rfl (oneL_all (l := [(iV ((segs[n]'(by omega)).d.Id)), (iV ((segs[n]'(by omega)).d.Tier)), (iV ((segs[n]'(by omega)).d.From)), (iV ((segs[n]'(by omega)).d.To)), (segs[n]'(by omega)).sv.1, (segs[n]'(by omega)).av.1]) ⟨rfl, rfl, rfl, rfl, (segs[n]'(by omega)).sv.2, (segs[n]'(by omega)).av.2, trivial⟩) (fun w304 hst => ?_))
  refine s_nil (then_n (cE_seq (cE_region rfl (s_cons (op_move vy q290_15 (s_cons (op_fieldAddr (s := 0) Try.underlying25 rfl rfl Try.sizeOf22 rfl (s_cons (op_load1 (u := (segs[n]'(by omega)).sv.1) Try.isAgg22 rfl ((hst.cell 0 rfl).drop 4) (s_cons (op_move (iV fr) q290_2 (s_cons (op_move (iV to) q290_3 (s_cons (op_call Try.call32 (evs_cons (v := (segs[n]'(by omega)).sv.1) rfl (evs_cons (v := (iV fr)) rfl (evs_cons (v := (iV to)) rfl evs_nil))) (c_rraw (w0 := w304) (v_l := (segs[n]'(by omega)).sv.1) (l := (segs[n]'(by omega)).d.Samples) (h_l := ((hsg (segs[n]'(by omega)) (List.getElem_mem _)).1.below hst.below)) (fr := fr) (to := to) (hl := (hso _ (List.getElem_mem _)).2.2.2.2.1) (fr0 := (by omega)) (to0 := (by omega)) (fr1 := (by omega)) (to1 := (by omega)) (hll := (by have := segS_len hms; omega))) ?_)))))))))))))))
  rintro _ w306 ⟨r305, rfl, hcall⟩
  refine ⟨_, rfl, ?_⟩
  have hst := hst.call hcall
  refine s_cons (op_append (E := winE) (xs := ys) (ys := (rawW ((segs[n]'(by omega)).d.Samples) fr to)) (z := (.agg #[(iV 0), (iV 0), (iV 0), (iV 0), (iV 0), (iV 0), (iV 0), (iV 0), (iV 0), (iV 0)])) (bytes := 80) hst 2 rfl Try.underlying33 (by kernel_rfl) rfl rfl rfl (hst.sl 0 rfl) (by omega) (by omega) (fun v307 w308 hst => ?_))
  refine s_cons (op_assign v307 rfl (s_nil (then_n (cE_seq (cE_region rfl (s_cons (op_assign (iV 0) rfl (s_nil (then_n (cE_block ?_))))))))))
  replace hst := hst.front 3 rfl
  replace hst := hst.front 2 rfl
  replace hst := hst.front 3 rfl
  refine cE_loop (fun (m : Nat) (ρ : Env) (w : World) => ∃ (vz : Value) (zs : List Win) (q : Nat), m = (segs[n]'(by omega)).d.Aggs.length - q ∧ ρ 0 = v_segs ∧ ρ 1 = v_head ∧ ρ 2 = (iV fr) ∧ ρ 3 = (iV to) ∧ ρ 10 = vo ∧ ρ 11 = (iV (endT ((ds segs).take i))) ∧ ρ 12 = (iV (i : Int)) ∧ ρ 13 = r98 ∧ ρ 14 = (iV (j : Int)) ∧ ρ 16 = (iV (m2 : Int)) ∧ ρ 17 = (.pointer (some ⟨g302, 0, none⟩)) ∧ ρ 15 = vz ∧ ρ 18 = (iV (q : Int)) ∧ St w0 w [rowT 73 winE vz zs, .blk g302 25 #[(iV ((segs[n]'(by omega)).d.Id)), (iV ((segs[n]'(by omega)).d.Tier)), (iV ((segs[n]'(by omega)).d.From)), (iV ((segs[n]'(by omega)).d.To)), (segs[n]'(by omega)).sv.1, (segs[n]'(by omega)).av.1], rowT 3 (intE .i64) r98 (intsN ps)] ∧ (q ≤ (segs[n]'(by omega)).d.Aggs.length) ∧ (zs = (ys ++ rawW (segs[n]'(by omega)).d.Samples fr to) ++ aggW (segs[n]'(by omega)).d ((segs[n]'(by omega)).d.Aggs.take q) fr to)) id _ ⟨v307, (ys ++ (rawW ((segs[n]'(by omega)).d.Samples) fr to)), 0, rfl, q290_0, q290_1, q290_2, q290_3, q290_10, q290_11, q290_12, q290_13, q290_14, q290_16, rfl, rfl, (congrArg iV (show 0 = _ from by omega)), (hst.sub (.cons_cons _ (.cons_cons _ (.cons_cons _ (.cons _ .slnil))))), (by omega), (by exact agg_start)⟩ ?_
  rintro m310 ρ311 w312 ⟨vz, zs, q, hm310, q309_0, q309_1, q309_2, q309_3, q309_10, q309_11, q309_12, q309_13, q309_14, q309_16, q309_17, q309_15, q309_18, hst, hq, hJ⟩
  have hzl : zs.length ≤ 64 * m2 + 1000 := by rw [hJ, List.length_append, List.length_append]; have h1 := rawW_len (segs[n]'(by omega)).d.Samples fr to; have h2 := aggW_len (segs[n]'(by omega)).d ((segs[n]'(by omega)).d.Aggs.take q) fr to; have h3 := segS_len hms; simp only [List.length_take] at h2; omega
  refine cE_seq (cE_seq (cE_region rfl (s_cons (op_move (iV (q : Int)) q309_18 (s_cons (op_fieldAddr (s := 0) Try.underlying25 rfl rfl Try.sizeOf23 q309_17 (s_cons (op_load1 (u := (segs[n]'(by omega)).av.1) Try.isAgg23 rfl ((hst.cell 1 rfl).drop 5) (s_cons (op_len (E := aggE) (xs := (segs[n]'(by omega)).d.Aggs) Try.underlying23 rfl (hsg (segs[n]'(by omega)) (List.getElem_mem _)).2 (s_cons (op_lss (k := .i64) (a := (q : Int)) (b := (((segs[n]'(by omega)).d.Aggs).length : Int)) rfl rfl ?_))))))))))))
  refine s_nil (then_n ?_)
  rcases Bool.eq_false_or_eq_true (decide ((q : Int) < (((segs[n]'(by omega)).d.Aggs).length : Int))) with b313 | b313
  ·have c314 := of_decide_eq_true b313
   refine cE_cond true (congrArg Value.bool b313) (fun _ => ?_) (fun h => by cases h)
   refine cE_skip (then_n (cE_seq (cE_block (cE_seq (cE_region rfl (s_cons (op_fieldAddr (s := 0) Try.underlying25 rfl rfl Try.sizeOf23 q309_17 (s_cons (op_load1 (u := (segs[n]'(by omega)).av.1) Try.isAgg23 rfl ((hst.cell 1 rfl).drop 5) (s_cons (op_move (iV (q : Int)) q309_18 (s_cons (op_indexAddrN (E := aggE) (xs := (segs[n]'(by omega)).d.Aggs) q Try.underlying23 Try.sizeOf37 rfl (hsg (segs[n]'(by omega)) (List.getElem_mem _)).2 rfl (by omega) (by omega) (fun a315 o316 p317 => ?_))))))))))))))
   refine s_cons (op_loadN (cs := (aggC (((segs[n]'(by omega)).d.Aggs)[q]'(by omega)))) Try.isAgg37 Try.sizeOf37 rfl (Pt.of (p317.below hst.below) rfl) rfl (s_cons (op_alloc (cs := #[(iV 0), (iV 0), (iV 0), (iV 0), (iV 0), (iV 0), (iV 0)]) hst Try.zeroValue37 rfl (fun g318 w319 hst _ => ?_))))
   refine s_cons0 (op_storeAll hst 0 rfl Try.sizeOf37 rfl rfl rfl rfl (by simp [Value.oneCell']) (fun w320 hst => ?_))
   refine s_nil (then_n (cE_seq ?_))
   have hsa := seg_agg hms (List.getElem_mem (show q < (segs[n]'(by omega)).d.Aggs.length by omega))
   refine cE_regionM (fun (D : Nat → Bool) (w : World) => St w0 w [.blk g318 37 (aggA (((segs[n]'(by omega)).d.Aggs)[q]'(by omega))), rowT 73 winE vz zs, .blk g302 25 #[(iV ((segs[n]'(by omega)).d.Id)), (iV ((segs[n]'(by omega)).d.Tier)), (iV ((segs[n]'(by omega)).d.From)), (iV ((segs[n]'(by omega)).d.To)), (segs[n]'(by omega)).sv.1, (segs[n]'(by omega)).av.1], rowT 3 (intE .i64) r98 (intsN ps)] ∧ (D 19 = false → St w0 w [.blk g318 37 (aggA (((segs[n]'(by omega)).d.Aggs)[q]'(by omega))), rowT 73 winE vz zs, .blk g302 25 #[(iV ((segs[n]'(by omega)).d.Id)), (iV ((segs[n]'(by omega)).d.Tier)), (iV ((segs[n]'(by omega)).d.From)), (iV ((segs[n]'(by omega)).d.To)), (segs[n]'(by omega)).sv.1, (segs[n]'(by omega)).av.1], rowT 3 (intE .i64) r98 (intsN ps)]) ∧ (D 19 = true → St w0 w [.blk g318 37 (aggA (((segs[n]'(by omega)).d.Aggs)[q]'(by omega))), rowT 73 winE vz zs, .blk g302 25 #[(iV ((segs[n]'(by omega)).d.Id)), (iV ((segs[n]'(by omega)).d.Tier)), (iV ((segs[n]'(by omega)).d.From)), (iV ((segs[n]'(by omega)).d.To)), (segs[n]'(by omega)).sv.1, (segs[n]'(by omega)).av.1], rowT 3 (intE .i64) r98 (intsN ps)])) [[(17, none)], [(158, some 0)], [(19, none)], [(160, some 2)], [(17, none)], [(162, some 4)], [(161, some 3), (163, some 5)], [(19, none)], [(165, some 7)], [(17, none)], [(167, some 9)], [(168, some 10)], [(166, some 8), (169, some 11)], [(17, none)], [(171, some 13)], [(170, some 12), (172, some 14)], [(19, none)], [(159, some 1), (164, some 6), (173, some 15), (174, some 16)], [], [(20, some 18), (175, some 17)]] [19] [(kEq (.pointer (some ⟨g302, (0 + 1), none⟩))), (kEq (iV ((segs[n]'(by omega)).d.Tier))), (kEq (.pointer (some ⟨g318, (0 + 0), none⟩))), (kEq (iV ((((segs[n]'(by omega)).d.Aggs)[q]'(by omega)).From))), (kEq (.pointer (some ⟨g302, (0 + 2), none⟩))), (kEq (iV ((segs[n]'(by omega)).d.From))), (kEq (iV (max ((((segs[n]'(by omega)).d.Aggs)[q]'(by omega)).From) ((segs[n]'(by omega)).d.From)))), (kEq (.pointer (some ⟨g318, (0 + 0), none⟩))), (kEq (iV ((((segs[n]'(by omega)).d.Aggs)[q]'(by omega)).From))), (kEq (.pointer (some ⟨g302, (0 + 1), none⟩))), (kEq (iV ((segs[n]'(by omega)).d.Tier))), (kEq (iV (widthA ((segs[n]'(by omega)).d.Tier)))), (kEq (iV (((((segs[n]'(by omega)).d.Aggs)[q]'(by omega)).From) + (widthA ((segs[n]'(by omega)).d.Tier))))), (kEq (.pointer (some ⟨g302, (0 + 3), none⟩))), (kEq (iV ((segs[n]'(by omega)).d.To))), (kEq (iV (min (((((segs[n]'(by omega)).d.Aggs)[q]'(by omega)).From) + (widthA ((segs[n]'(by omega)).d.Tier))) ((segs[n]'(by omega)).d.To)))), (kEq (.agg (aggA (((segs[n]'(by omega)).d.Aggs)[q]'(by omega))))), (kEq (.agg #[(iV ((segs[n]'(by omega)).d.Tier)), (iV (max ((((segs[n]'(by omega)).d.Aggs)[q]'(by omega)).From) ((segs[n]'(by omega)).d.From))), (iV (min (((((segs[n]'(by omega)).d.Aggs)[q]'(by omega)).From) + (widthA ((segs[n]'(by omega)).d.Tier))) ((segs[n]'(by omega)).d.To))), (iV ((((segs[n]'(by omega)).d.Aggs)[q]'(by omega)).From)), (iV ((((segs[n]'(by omega)).d.Aggs)[q]'(by omega)).Count)), (iV ((((segs[n]'(by omega)).d.Aggs)[q]'(by omega)).Sum)), (iV ((((segs[n]'(by omega)).d.Aggs)[q]'(by omega)).Min)), (iV ((((segs[n]'(by omega)).d.Aggs)[q]'(by omega)).Max)), (iV ((((segs[n]'(by omega)).d.Aggs)[q]'(by omega)).First)), (iV ((((segs[n]'(by omega)).d.Aggs)[q]'(by omega)).Last))])), (fun (D : Nat → Bool) (v : Value) (w : World) => ∃ g322 : Nat, v = .pointer (some ⟨g322, 0, none⟩) ∧ (D 19 = false → St w0 w [.blk g322 73 #[(iV 0), (iV 0), (iV 0), (iV 0), (iV 0), (iV 0), (iV 0), (iV 0), (iV 0), (iV 0)], .blk g318 37 (aggA (((segs[n]'(by omega)).d.Aggs)[q]'(by omega))), rowT 73 winE vz zs, .blk g302 25 #[(iV ((segs[n]'(by omega)).d.Id)), (iV ((segs[n]'(by omega)).d.Tier)), (iV ((segs[n]'(by omega)).d.From)), (iV ((segs[n]'(by omega)).d.To)), (segs[n]'(by omega)).sv.1, (segs[n]'(by omega)).av.1], rowT 3 (intE .i64) r98 (intsN ps)]) ∧ (D 19 = true → St w0 w [.blk g322 73 #[(iV ((segs[n]'(by omega)).d.Tier)), (iV (max ((((segs[n]'(by omega)).d.Aggs)[q]'(by omega)).From) ((segs[n]'(by omega)).d.From))), (iV (min (((((segs[n]'(by omega)).d.Aggs)[q]'(by omega)).From) + (widthA ((segs[n]'(by omega)).d.Tier))) ((segs[n]'(by omega)).d.To))), (iV ((((segs[n]'(by omega)).d.Aggs)[q]'(by omega)).From)), (iV ((((segs[n]'(by omega)).d.Aggs)[q]'(by omega)).Count)), (iV ((((segs[n]'(by omega)).d.Aggs)[q]'(by omega)).Sum)), (iV ((((segs[n]'(by omega)).d.Aggs)[q]'(by omega)).Min)), (iV ((((segs[n]'(by omega)).d.Aggs)[q]'(by omega)).Max)), (iV ((((segs[n]'(by omega)).d.Aggs)[q]'(by omega)).First)), (iV ((((segs[n]'(by omega)).d.Aggs)[q]'(by omega)).Last))], .blk g318 37 (aggA (((segs[n]'(by omega)).d.Aggs)[q]'(by omega))), rowT 73 winE vz zs, .blk g302 25 #[(iV ((segs[n]'(by omega)).d.Id)), (iV ((segs[n]'(by omega)).d.Tier)), (iV ((segs[n]'(by omega)).d.From)), (iV ((segs[n]'(by omega)).d.To)), (segs[n]'(by omega)).sv.1, (segs[n]'(by omega)).av.1], rowT 3 (intE .i64) r98 (intsN ps)])), kAny] ⟨mEq, mEq, mEq, mEq, mEq, mEq, mEq, mEq, mEq, mEq, mEq, mEq, mEq, mEq, mEq, mEq, mEq, mEq, (fun D D' v w w' hD hb ⟨g, h1, h2⟩ => ⟨g, h1, (fun x0 => (h2.1 ((hD 19 (by decide)).symm.trans x0)).ext hb), (fun x0 => (h2.2 ((hD 19 (by decide)).symm.trans x0)).ext hb)⟩), mAny, trivial⟩ (by kernel_rfl) rfl (by kernel_rfl) ⟨hst.drewW.sub (.cons_cons _ (.cons_cons _ (.cons_cons _ (.cons_cons _ .slnil)))), (fun _ => hst.drewW), (fun h => absurd h Bool.false_ne_true)⟩ (fun hM => ⟨?_, ?_, ?_, ?_, ?_, ?_, ?_, ?_, ?_, ?_, ?_, ?_, ?_, ?_, ?_, ?_, ?_, ?_, ?_, ?_, trivial⟩) ?_
   ·rintro D ρo wo nD eD cD jD aD ⟨f17, _⟩
    exact go_plain (op_fieldAddr (s := 0) Try.underlying25 rfl rfl Try.sizeOf3 (f17.trans q309_17) (kN0 (i := 0) hM (by decide) (by exact jD) (by exact rfl)))
   ·rintro D ρo wo nD eD cD jD aD ⟨f158, _⟩
    have hst := jD.2.1 (not_yet nD (fun hm => (cD 19 1 hm (by kernel_rfl))))
    exact go_plain (op_load1 (u := (iV ((segs[n]'(by omega)).d.Tier))) Try.isAgg3 f158 ((hst.cell 2 rfl).drop 1) (kN0 (i := 1) hM (by decide) (by exact jD) (by exact rfl)))
   ·rintro D ρo wo nD eD cD jD aD ⟨f19, _⟩
    exact go_plain (op_fieldAddr (s := 0) Try.underlying37 rfl rfl Try.sizeOf2 (f19.trans rfl) (kN0 (i := 2) hM (by decide) (by exact jD) (by exact rfl)))
   ·rintro D ρo wo nD eD cD jD aD ⟨f160, _⟩
    have hst := jD.2.1 (not_yet nD (fun hm => (cD 19 3 hm (by kernel_rfl))))
    exact go_plain (op_load1 (u := (iV ((((segs[n]'(by omega)).d.Aggs)[q]'(by omega)).From))) Try.isAgg2 f160 (hst.cell 0 rfl) (kN0 (i := 3) hM (by decide) (by exact jD) (by exact rfl)))
   ·rintro D ρo wo nD eD cD jD aD ⟨f17, _⟩
    exact go_plain (op_fieldAddr (s := 0) Try.underlying25 rfl rfl Try.sizeOf2 (f17.trans q309_17) (kN0 (i := 4) hM (by decide) (by exact jD) (by exact rfl)))
   ·rintro D ρo wo nD eD cD jD aD ⟨f162, _⟩
    have hst := jD.2.1 (not_yet nD (fun hm => (cD 19 5 hm (by kernel_rfl))))
    exact go_plain (op_load1 (u := (iV ((segs[n]'(by omega)).d.From))) Try.isAgg2 f162 ((hst.cell 2 rfl).drop 2) (kN0 (i := 5) hM (by decide) (by exact jD) (by exact rfl)))
   ·rintro D ρo wo nD eD cD jD aD ⟨f161, f163, _⟩
    exact go_plain (op_max2 (k := .i64) (a := (((segs[n]'(by omega)).d.Aggs)[q]'(by omega)).From) (b := (segs[n]'(by omega)).d.From) f161 f163 (kN0 (i := 6) hM (by decide) (by exact jD) (by exact rfl)))
   ·rintro D ρo wo nD eD cD jD aD ⟨f19, _⟩
    exact go_plain (op_fieldAddr (s := 0) Try.underlying37 rfl rfl Try.sizeOf2 (f19.trans rfl) (kN0 (i := 7) hM (by decide) (by exact jD) (by exact rfl)))
   ·rintro D ρo wo nD eD cD jD aD ⟨f165, _⟩
    have hst := jD.2.1 (not_yet nD (fun hm => (cD 19 8 hm (by kernel_rfl))))
    exact go_plain (op_load1 (u := (iV ((((segs[n]'(by omega)).d.Aggs)[q]'(by omega)).From))) Try.isAgg2 f165 (hst.cell 0 rfl) (kN0 (i := 8) hM (by decide) (by exact jD) (by exact rfl)))
   ·rintro D ρo wo nD eD cD jD aD ⟨f17, _⟩
    exact go_plain (op_fieldAddr (s := 0) Try.underlying25 rfl rfl Try.sizeOf3 (f17.trans q309_17) (kN0 (i := 9) hM (by decide) (by exact jD) (by exact rfl)))
   ·rintro D ρo wo nD eD cD jD aD ⟨f167, _⟩
    have hst := jD.2.1 (not_yet nD (fun hm => (cD 19 10 hm (by kernel_rfl))))
    exact go_plain (op_load1 (u := (iV ((segs[n]'(by omega)).d.Tier))) Try.isAgg3 f167 ((hst.cell 2 rfl).drop 1) (kN0 (i := 10) hM (by decide) (by exact jD) (by exact rfl)))
   ·rintro D ρo wo nD eD cD jD aD ⟨f168, _⟩
    refine go_plain (op_call Try.call33 (evs_cons (v := (iV ((segs[n]'(by omega)).d.Tier))) f168 evs_nil) (c_rWidth (w0 := wo) (k := (segs[n]'(by omega)).d.Tier) (k0 := (by omega)) (k1 := (by omega))) ?_)
    rintro _ w326 ⟨rfl, hcall⟩
    refine ⟨_, rfl, ?_⟩
    exact kN (i := 11) hM (by decide) hcall.below (by exact ⟨(jD.1).ext hcall.below, (fun x0 => (jD.2.1 x0).ext hcall.below), (fun x0 => (jD.2.2 x0).ext hcall.below)⟩) (by exact rfl)
   ·rintro D ρo wo nD eD cD jD aD ⟨f166, f169, _⟩
    exact go_plain (op_add (k := .i64) (a := (((segs[n]'(by omega)).d.Aggs)[q]'(by omega)).From) (b := (widthA ((segs[n]'(by omega)).d.Tier))) (((((segs[n]'(by omega)).d.Aggs)[q]'(by omega)).From) + (widthA ((segs[n]'(by omega)).d.Tier))) f166 f169 (xi64 (by omega) (by omega)) (kN0 (i := 12) hM (by decide) (by exact jD) (by exact rfl)))
   ·rintro D ρo wo nD eD cD jD aD ⟨f17, _⟩
    exact go_plain (op_fieldAddr (s := 0) Try.underlying25 rfl rfl Try.sizeOf2 (f17.trans q309_17) (kN0 (i := 13) hM (by decide) (by exact jD) (by exact rfl)))
   ·rintro D ρo wo nD eD cD jD aD ⟨f171, _⟩
    have hst := jD.2.1 (not_yet nD (fun hm => (cD 19 14 hm (by kernel_rfl))))
    exact go_plain (op_load1 (u := (iV ((segs[n]'(by omega)).d.To))) Try.isAgg2 f171 ((hst.cell 2 rfl).drop 3) (kN0 (i := 14) hM (by decide) (by exact jD) (by exact rfl)))
   ·rintro D ρo wo nD eD cD jD aD ⟨f170, f172, _⟩
    exact go_plain (op_min2 (k := .i64) (a := (((((segs[n]'(by omega)).d.Aggs)[q]'(by omega)).From) + (widthA ((segs[n]'(by omega)).d.Tier)))) (b := (segs[n]'(by omega)).d.To) f170 f172 (kN0 (i := 15) hM (by decide) (by exact jD) (by exact rfl)))
   ·rintro D ρo wo nD eD cD jD aD ⟨f19, _⟩
    have hst := jD.2.1 (not_yet nD (fun hm => (cD 19 16 hm (by kernel_rfl))))
    exact go_plain (op_loadN (cs := (aggC (((segs[n]'(by omega)).d.Aggs)[q]'(by omega)))) Try.isAgg37 Try.sizeOf37 (f19.trans rfl) (Pt.of (hst.cell 0 rfl) rfl) rfl (kN0 (i := 16) hM (by decide) (by exact jD) (by exact rfl)))
   ·rintro D ρo wo nD eD cD jD aD ⟨f159, f164, f173, f174, _⟩
    exact go_plain (op_build (r := (.agg #[(iV ((segs[n]'(by omega)).d.Tier)), (iV (max ((((segs[n]'(by omega)).d.Aggs)[q]'(by omega)).From) ((segs[n]'(by omega)).d.From))), (iV (min (((((segs[n]'(by omega)).d.Aggs)[q]'(by omega)).From) + (widthA ((segs[n]'(by omega)).d.Tier))) ((segs[n]'(by omega)).d.To))), (iV ((((segs[n]'(by omega)).d.Aggs)[q]'(by omega)).From)), (iV ((((segs[n]'(by omega)).d.Aggs)[q]'(by omega)).Count)), (iV ((((segs[n]'(by omega)).d.Aggs)[q]'(by omega)).Sum)), (iV ((((segs[n]'(by omega)).d.Aggs)[q]'(by omega)).Min)), (iV ((((segs[n]'(by omega)).d.Aggs)[q]'(by omega)).Max)), (iV ((((segs[n]'(by omega)).d.Aggs)[q]'(by omega)).First)), (iV ((((segs[n]'(by omega)).d.Aggs)[q]'(by omega)).Last))])) (evp_cons (v := (iV ((segs[n]'(by omega)).d.Tier))) f159 (evp_cons (v := (iV (max ((((segs[n]'(by omega)).d.Aggs)[q]'(by omega)).From) ((segs[n]'(by omega)).d.From)))) f164 (evp_cons (v := (iV (min (((((segs[n]'(by omega)).d.Aggs)[q]'(by omega)).From) + (widthA ((segs[n]'(by omega)).d.Tier))) ((segs[n]'(by omega)).d.To)))) f173 (evp_cons (v := (.agg (aggA (((segs[n]'(by omega)).d.Aggs)[q]'(by omega))))) f174 evp_nil)))) (by simp [Instr.build, Instr.fill, Value.cells, Try.runUnderlying73, Try.zeroValue73]) (kN0 (i := 17) hM (by decide) (by exact jD) (by exact rfl)))
   ·rintro D ρo wo nD eD cD jD aD ⟨_⟩
    have hst := jD.2.1 (not_yet nD (fun hm => (cD 19 18 hm (by kernel_rfl))))
    have hst := St.start wo
    refine go_plain (op_alloc (cs := #[(iV 0), (iV 0), (iV 0), (iV 0), (iV 0), (iV 0), (iV 0), (iV 0), (iV 0), (iV 0)]) hst Try.zeroValue73 rfl (fun g327 w328 hst _ => ?_))
    exact kN (i := 18) hM (by decide) hst.below (by exact ⟨(jD.1).ext hst.below, (fun x0 => (jD.2.1 x0).ext hst.below), (fun x0 => (jD.2.2 x0).ext hst.below)⟩) (by exact ⟨_, rfl, (fun y0 => (jD.2.1 y0).call hst), (fun y0 => absurd (show D 19 = true from y0) (by rw [(not_yet nD (fun hm => (cD 19 18 hm (by kernel_rfl))))]; decide))⟩)
   ·rintro D ρo wo nD eD cD jD aD ⟨f20, f175, _⟩
    obtain ⟨g329, e330, hh331⟩ := aD 18 20 (eD 18 (by kernel_rfl)) rfl
    have hst : St w0 wo [.blk g329 73 #[(iV 0), (iV 0), (iV 0), (iV 0), (iV 0), (iV 0), (iV 0), (iV 0), (iV 0), (iV 0)], .blk g318 37 (aggA (((segs[n]'(by omega)).d.Aggs)[q]'(by omega))), rowT 73 winE vz zs, .blk g302 25 #[(iV ((segs[n]'(by omega)).d.Id)), (iV ((segs[n]'(by omega)).d.Tier)), (iV ((segs[n]'(by omega)).d.From)), (iV ((segs[n]'(by omega)).d.To)), (segs[n]'(by omega)).sv.1, (segs[n]'(by omega)).av.1], rowT 3 (intE .i64) r98 (intsN ps)] := hh331.1 nD
    refine go_plain (op_storeAll hst 0 rfl Try.sizeOf73 e330 f175 rfl rfl (by simp [Value.oneCell']) (fun w332 hst => ?_))
    refine ⟨by exact ⟨hst.sub (.cons _ (.cons_cons _ (.cons_cons _ (.cons_cons _ (.cons_cons _ .slnil))))), (fun y0 => absurd y0 (fun h => Bool.noConfusion h)), (fun y0 => hst.sub (.cons _ (.cons_cons _ (.cons_cons _ (.cons_cons _ (.cons_cons _ .slnil))))))⟩, by exact trivial, kX [18] (by exact ⟨Or.inr (Or.inr (Or.inr iEq)), Or.inr (Or.inr (Or.inr iEq)), Or.inr (Or.inr (Or.inr iEq)), Or.inr (Or.inr (Or.inr iEq)), Or.inr (Or.inr (Or.inr iEq)), Or.inr (Or.inr (Or.inr iEq)), Or.inr (Or.inr (Or.inr iEq)), Or.inr (Or.inr (Or.inr iEq)), Or.inr (Or.inr (Or.inr iEq)), Or.inr (Or.inr (Or.inr iEq)), Or.inr (Or.inr (Or.inr iEq)), Or.inr (Or.inr (Or.inr iEq)), Or.inr (Or.inr (Or.inr iEq)), Or.inr (Or.inr (Or.inr iEq)), Or.inr (Or.inr (Or.inr iEq)), Or.inr (Or.inr (Or.inr iEq)), Or.inr (Or.inr (Or.inr iEq)), Or.inr (Or.inr (Or.inr iEq)), Or.inr (Or.inl (by decide)), Or.inl rfl, trivial⟩) ?_⟩
    intro j d hj hjd hDj h
    simp only [List.mem_cons, List.not_mem_nil, or_false] at hj
    subst hj
    obtain rfl : 20 = d := Option.some.inj hjd
    exact ⟨_, e330, (fun y0 => absurd y0 (fun h => Bool.noConfusion h)), (fun y0 => hst.sub (.cons_cons _ (.cons_cons _ (.cons_cons _ (.cons_cons _ (.cons_cons _ .slnil))))))⟩
   intro ρ334 w335 Dw335 hallw335 hJw335 hRw335 hkw335
   obtain ⟨g336, uw335_20, hhw335⟩ := hRw335 18 20 rfl
   have hst : St w0 w335 [.blk g336 73 #[(iV ((segs[n]'(by omega)).d.Tier)), (iV (max ((((segs[n]'(by omega)).d.Aggs)[q]'(by omega)).From) ((segs[n]'(by omega)).d.From))), (iV (min (((((segs[n]'(by omega)).d.Aggs)[q]'(by omega)).From) + (widthA ((segs[n]'(by omega)).d.Tier))) ((segs[n]'(by omega)).d.To))), (iV ((((segs[n]'(by omega)).d.Aggs)[q]'(by omega)).From)), (iV ((((segs[n]'(by omega)).d.Aggs)[q]'(by omega)).Count)), (iV ((((segs[n]'(by omega)).d.Aggs)[q]'(by omega)).Sum)), (iV ((((segs[n]'(by omega)).d.Aggs)[q]'(by omega)).Min)), (iV ((((segs[n]'(by omega)).d.Aggs)[q]'(by omega)).Max)), (iV ((((segs[n]'(by omega)).d.Aggs)[q]'(by omega)).First)), (iV ((((segs[n]'(by omega)).d.Aggs)[q]'(by omega)).Last))], .blk g318 37 (aggA (((segs[n]'(by omega)).d.Aggs)[q]'(by omega))), rowT 73 winE vz zs, .blk g302 25 #[(iV ((segs[n]'(by omega)).d.Id)), (iV ((segs[n]'(by omega)).d.Tier)), (iV ((segs[n]'(by omega)).d.From)), (iV ((segs[n]'(by omega)).d.To)), (segs[n]'(by omega)).sv.1, (segs[n]'(by omega)).av.1], rowT 3 (intE .i64) r98 (intsN ps)] := hhw335.2 (hallw335 19 (show 19 < 20 from by decide))
   have uw335_0 := (hkw335 0 rfl).trans q309_0
   have uw335_1 := (hkw335 1 rfl).trans q309_1
   have uw335_2 := (hkw335 2 rfl).trans q309_2
   have uw335_3 := (hkw335 3 rfl).trans q309_3
   have uw335_10 := (hkw335 10 rfl).trans q309_10
   have uw335_11 := (hkw335 11 rfl).trans q309_11
   have uw335_12 := (hkw335 12 rfl).trans q309_12
   have uw335_13 := (hkw335 13 rfl).trans q309_13
   have uw335_14 := (hkw335 14 rfl).trans q309_14
   have uw335_16 := (hkw335 16 rfl).trans q309_16
   have uw335_17 := (hkw335 17 rfl).trans q309_17
   have uw335_15 := (hkw335 15 rfl).trans q309_15
   have uw335_18 := (hkw335 18 rfl).trans q309_18
   refine then_n (cE_seq (cE_region rfl (s_cons (op_fieldAddr (s := 0) Try.underlying73 rfl rfl Try.sizeOf2 uw335_20 (s_cons (op_load1 (u := (iV (max ((((segs[n]'(by omega)).d.Aggs)[q]'(by omega)).From) ((segs[n]'(by omega)).d.From)))) Try.isAgg2 rfl ((hst.cell 0 rfl).drop 1) (s_cons (op_move (iV to) uw335_3 (s_cons (op_lss (k := .i64) (a := (max ((((segs[n]'(by omega)).d.Aggs)[q]'(by omega)).From) ((segs[n]'(by omega)).d.From))) (b := to) rfl rfl ?_))))))))))
   refine s_cons (op_move (.bool (decide ((max ((((segs[n]'(by omega)).d.Aggs)[q]'(by omega)).From) ((segs[n]'(by omega)).d.From)) < to))) rfl ?_)
   rcases Bool.eq_false_or_eq_true (decide ((max ((((segs[n]'(by omega)).d.Aggs)[q]'(by omega)).From) ((segs[n]'(by omega)).d.From)) < to)) with b337 | b337
   ·have c338 := of_decide_eq_true b337
    refine s_yes 180 rfl (congrArg Value.bool b337) (op_fieldAddr (s := 0) Try.underlying73 rfl rfl Try.sizeOf2 uw335_20 (s_yes 180 rfl (congrArg Value.bool b337) (op_load1 (u := (iV (min (((((segs[n]'(by omega)).d.Aggs)[q]'(by omega)).From) + (widthA ((segs[n]'(by omega)).d.Tier))) ((segs[n]'(by omega)).d.To)))) Try.isAgg2 rfl ((hst.cell 0 rfl).drop 2) (s_yes 180 rfl (congrArg Value.bool b337) (op_move (iV fr) uw335_2 ?_)))))
    refine s_yes 180 rfl (congrArg Value.bool b337) (op_gtr (k := .i64) (a := (min (((((segs[n]'(by omega)).d.Aggs)[q]'(by omega)).From) + (widthA ((segs[n]'(by omega)).d.Tier))) ((segs[n]'(by omega)).d.To))) (b := fr) rfl rfl (s_cons (op_pick_t (.bool (decide (fr < (min (((((segs[n]'(by omega)).d.Aggs)[q]'(by omega)).From) + (widthA ((segs[n]'(by omega)).d.Tier))) ((segs[n]'(by omega)).d.To))))) (congrArg Value.bool b337) rfl ?_)))
    refine s_nil (then_n ?_)
    rcases Bool.eq_false_or_eq_true (decide (fr < (min (((((segs[n]'(by omega)).d.Aggs)[q]'(by omega)).From) + (widthA ((segs[n]'(by omega)).d.Tier))) ((segs[n]'(by omega)).d.To)))) with b339 | b339
    ·have c340 := of_decide_eq_true b339
     refine cE_cond true (congrArg Value.bool b339) (fun _ => ?_) (fun h => by cases h)
     refine cE_region rfl (s_cons (op_move vz uw335_15 (s_cons (op_loadN (cs := [(iV ((segs[n]'(by omega)).d.Tier)), (iV (max ((((segs[n]'(by omega)).d.Aggs)[q]'(by omega)).From) ((segs[n]'(by omega)).d.From))), (iV (min (((((segs[n]'(by omega)).d.Aggs)[q]'(by omega)).From) + (widthA ((segs[n]'(by omega)).d.Tier))) ((segs[n]'(by omega)).d.To))), (iV ((((segs[n]'(by omega)).d.Aggs)[q]'(by omega)).From)), (iV ((((segs[n]'(by omega)).d.Aggs)[q]'(by omega)).Count)), (iV ((((segs[n]'(by omega)).d.Aggs)[q]'(by omega)).Sum)), (iV ((((segs[n]'(by omega)).d.Aggs)[q]'(by omega)).Min)), (iV ((((segs[n]'(by omega)).d.Aggs)[q]'(by omega)).Max)), (iV ((((segs[n]'(by omega)).d.Aggs)[q]'(by omega)).First)), (iV ((((segs[n]'(by omega)).d.Aggs)[q]'(by omega)).Last))]) Try.isAgg73 Try.sizeOf73 uw335_20 (Pt.of (hst.cell 0 rfl) rfl) rfl ?_))))
     refine s_cons (op_buildSlice (E := winE) [(⟨(segs[n]'(by omega)).d.Tier, (max ((((segs[n]'(by omega)).d.Aggs)[q]'(by omega)).From) ((segs[n]'(by omega)).d.From)), (min (((((segs[n]'(by omega)).d.Aggs)[q]'(by omega)).From) + (widthA ((segs[n]'(by omega)).d.Tier))) ((segs[n]'(by omega)).d.To)), (((segs[n]'(by omega)).d.Aggs)[q]'(by omega))⟩ : Win)] hst Try.underlying33 Try.sizeOf73 Try.zeroValue73 (evp_cons (v := (.agg #[(iV ((segs[n]'(by omega)).d.Tier)), (iV (max ((((segs[n]'(by omega)).d.Aggs)[q]'(by omega)).From) ((segs[n]'(by omega)).d.From))), (iV (min (((((segs[n]'(by omega)).d.Aggs)[q]'(by omega)).From) + (widthA ((segs[n]'(by omega)).d.Tier))) ((segs[n]'(by omega)).d.To))), (iV ((((segs[n]'(by omega)).d.Aggs)[q]'(by omega)).From)), (iV ((((segs[n]'(by omega)).d.Aggs)[q]'(by omega)).Count)), (iV ((((segs[n]'(by omega)).d.Aggs)[q]'(by omega)).Sum)), (iV ((((segs[n]'(by omega)).d.Aggs)[q]'(by omega)).Min)), (iV ((((segs[n]'(by omega)).d.Aggs)[q]'(by omega)).Max)), (iV ((((segs[n]'(by omega)).d.Aggs)[q]'(by omega)).First)), (iV ((((segs[n]'(by omega)).d.Aggs)[q]'(by omega)).Last))])) rfl evp_nil) (parts_cons rfl parts_nil) rfl (by decide) (fun v341 w342 hst => ?_))
     refine s_cons (op_append (E := winE) (xs := zs) (ys := [(⟨(segs[n]'(by omega)).d.Tier, (max ((((segs[n]'(by omega)).d.Aggs)[q]'(by omega)).From) ((segs[n]'(by omega)).d.From)), (min (((((segs[n]'(by omega)).d.Aggs)[q]'(by omega)).From) + (widthA ((segs[n]'(by omega)).d.Tier))) ((segs[n]'(by omega)).d.To)), (((segs[n]'(by omega)).d.Aggs)[q]'(by omega))⟩ : Win)]) (z := (.agg #[(iV 0), (iV 0), (iV 0), (iV 0), (iV 0), (iV 0), (iV 0), (iV 0), (iV 0), (iV 0)])) (bytes := 80) hst 3 rfl Try.underlying33 (by kernel_rfl) rfl rfl rfl (hst.sl 0 rfl) (by (simp; omega)) (by (simp; omega)) (fun v343 w344 hst => ?_))
     refine s_cons (op_assign v343 rfl (s_nil (block_n (then_n (cE_region rfl (s_cons (op_move (iV (q : Int)) uw335_18 (s_cons (op_add (k := .i64) (a := (q : Int)) (b := 1) ((q : Int) + 1) rfl rfl (xi64 (by omega) (by omega)) (s_cons (op_assign (iV ((q : Int) + 1)) rfl (s_nil (then_n ?_)))))))))))))
     exact ⟨_, ⟨v343, (zs ++ ([(⟨(segs[n]'(by omega)).d.Tier, (max ((((segs[n]'(by omega)).d.Aggs)[q]'(by omega)).From) ((segs[n]'(by omega)).d.From)), (min (((((segs[n]'(by omega)).d.Aggs)[q]'(by omega)).From) + (widthA ((segs[n]'(by omega)).d.Tier))) ((segs[n]'(by omega)).d.To)), (((segs[n]'(by omega)).d.Aggs)[q]'(by omega))⟩ : Win)])), (q + 1), rfl, uw335_0, uw335_1, uw335_2, uw335_3, uw335_10, uw335_11, uw335_12, uw335_13, uw335_14, uw335_16, uw335_17, rfl, (congrArg iV (show ((q : Int) + 1) = _ from by omega)), (hst.sub (.cons _ (.cons _ (.cons _ (.cons_cons _ (.cons_cons _ (.cons_cons _ .slnil))))))), (by omega), (by exact agg_go (by omega) hJ (keepW_yes (by simp only [winOf]; omega)))⟩, (by simp only [id]; omega)⟩
    have c345 := of_decide_eq_false b339
    refine cE_cond false (congrArg Value.bool b339) (fun h => by cases h) (fun _ => ?_)
    refine cE_skip (block_n (then_n (cE_region rfl (s_cons (op_move (iV (q : Int)) uw335_18 (s_cons (op_add (k := .i64) (a := (q : Int)) (b := 1) ((q : Int) + 1) rfl rfl (xi64 (by omega) (by omega)) (s_cons (op_assign (iV ((q : Int) + 1)) rfl (s_nil (then_n ?_)))))))))))
    exact ⟨_, ⟨vz, zs, (q + 1), rfl, uw335_0, uw335_1, uw335_2, uw335_3, uw335_10, uw335_11, uw335_12, uw335_13, uw335_14, uw335_16, uw335_17, uw335_15, (congrArg iV (show ((q : Int) + 1) = _ from by omega)), (hst.sub (.cons _ (.cons _ (.cons_cons _ (.cons_cons _ (.cons_cons _ .slnil)))))), (by omega), (by exact agg_no (by omega) hJ (keepW_no (by simp only [winOf]; omega)))⟩, (by simp only [id]; omega)⟩
   have c346 := of_decide_eq_false b337
   refine s_no 180 rfl (congrArg Value.bool b337) (s_no 180 rfl (congrArg Value.bool b337) (s_no 180 rfl (congrArg Value.bool b337) (s_no 180 rfl (congrArg Value.bool b337) (s_cons (op_pick_f (.bool false) (congrArg Value.bool b337) rfl (s_nil (then_n (cE_cond false rfl (fun h => by cases h) (fun _ => ?_)))))))))
   refine cE_skip (block_n (then_n (cE_region rfl (s_cons (op_move (iV (q : Int)) uw335_18 (s_cons (op_add (k := .i64) (a := (q : Int)) (b := 1) ((q : Int) + 1) rfl rfl (xi64 (by omega) (by omega)) (s_cons (op_assign (iV ((q : Int) + 1)) rfl (s_nil (then_n ?_)))))))))))
   exact ⟨_, ⟨vz, zs, (q + 1), rfl, uw335_0, uw335_1, uw335_2, uw335_3, uw335_10, uw335_11, uw335_12, uw335_13, uw335_14, uw335_16, uw335_17, uw335_15, (congrArg iV (show ((q : Int) + 1) = _ from by omega)), (hst.sub (.cons _ (.cons _ (.cons_cons _ (.cons_cons _ (.cons_cons _ .slnil)))))), (by omega), (by exact agg_no (by omega) hJ (keepW_no (by simp only [winOf]; omega)))⟩, (by simp only [id]; omega)⟩
  have c347 := of_decide_eq_false b313
  refine cE_cond false (congrArg Value.bool b313) (fun h => by cases h) (fun _ => ?_)
  refine cE_exit (then_x (then_x (block_hit (block_n (then_n (cE_region rfl (s_cons (op_move (iV (m2 : Int)) q309_16 (s_cons (op_add (k := .i64) (a := (m2 : Int)) (b := 1) ((m2 : Int) + 1) rfl rfl (xi64 (by omega) (by omega)) (s_cons (op_assign (iV ((m2 : Int) + 1)) rfl (s_nil (then_n ?_))))))))))))))
  exact ⟨_, ⟨vz, zs, (m2 + 1), rfl, q309_0, q309_1, q309_2, q309_3, q309_10, q309_11, q309_12, q309_13, q309_14, q309_15, (congrArg iV (show ((m2 : Int) + 1) = _ from by omega)), (hst.sub (.cons_cons _ (.cons _ (.cons_cons _ .slnil)))), (by omega), (by exact seg_stepR (by omega) hsd hJ0 hJ (by omega))⟩, (by simp only [id]; omega)⟩
 have c348 := of_decide_eq_false b294
 refine cE_cond false (congrArg Value.bool b294) (fun h => by cases h) (fun _ => ?_)
 refine cE_exit (then_x (then_x (block_hit (then_n (cE_seq ?_)))))
 have hyA := seg_all hJ0 (by omega)
 have hrl := rawW_len head fr to
 refine cE_region rfl (s_cons (op_move vy q290_15 (s_cons (op_move v_head q290_1 (s_cons (op_move (iV fr) q290_2 (s_cons (op_move (iV to) q290_3 (s_cons (op_call Try.call32 (evs_cons (v := v_head) rfl (evs_cons (v := (iV fr)) rfl (evs_cons (v := (iV to)) rfl evs_nil))) (c_rraw (w0 := w293) (v_l := v_head) (l := head) (h_l := (h_head.below hst.below)) (fr := fr) (to := to) (hl := hho) (fr0 := (by omega)) (to0 := (by omega)) (fr1 := (by omega)) (to1 := (by omega)) (hll := hhl)) ?_))))))))))
 rintro _ w350 ⟨r349, rfl, hcall⟩
 refine ⟨_, rfl, ?_⟩
 have hst := hst.call hcall
 refine s_cons (op_append (E := winE) (xs := ys) (ys := (rawW head fr to)) (z := (.agg #[(iV 0), (iV 0), (iV 0), (iV 0), (iV 0), (iV 0), (iV 0), (iV 0), (iV 0), (iV 0)])) (bytes := 80) hst 1 rfl Try.underlying33 (by kernel_rfl) rfl rfl rfl (hst.sl 0 rfl) (by omega) (by omega) (fun v351 w352 hst => ?_))
 refine s_cons (op_assign v351 rfl (s_cons (op_assign (iV 0) rfl (s_nil (then_n (cE_ret (post_r _ (res2 (v := v351) rfl (x := (iV 0)) rfl) ?_)))))))
 have e353 : (ys ++ (rawW head fr to)) = (rangeW (ds segs) head fr to).1 := by (rw [hyA]; exact fst_of (range_yes (hkR.trans (okHead_d (by assumption) (by assumption) hE)) (by omega)))
 replace hst : St w0 w352 [rowT 73 winE r349 (rawW head fr to), rowT 73 winE v351 ((rangeW (ds segs) head fr to).1), rowT 3 (intE .i64) r98 (intsN ps)] := by rw [congrArg (fun l => rowT 73 winE v351 l) e353] at hst; exact hst
 exact ⟨v351, (retv2 rfl (congrArg iV (show 0 = (rangeW (ds segs) head fr to).2 from by exact snd_of (range_yes (hkR.trans (okHead_d (by assumption) (by assumption) hE)) (by omega))))), hst.sub (.cons _ (.cons_cons _ (.cons _ .slnil)))⟩

end Go.Proofs.Ythanfecefjfbjaa
