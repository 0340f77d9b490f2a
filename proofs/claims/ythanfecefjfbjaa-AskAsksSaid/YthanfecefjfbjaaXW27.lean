/- twinkeepref17.raw -/
import Derived.Test.YthanfecefjfbjaaXLA
import Derived.Test.YthanfecefjfbjaaXW34
namespace Go.Proofs.Ythanfecefjfbjaa
open Go.RowKit

set_option maxRecDepth 8000 in
set_option maxHeartbeats 4000000 in
theorem c_rraw (w0 : World) (v_l : Value) (l : List Sample) (h_l : Sl w0 sampE v_l l) (fr : Int) (to : Int) (hl : ∀ s ∈ l, s.ok) (fr0 : -9223372036854775808 ≤ fr) (to0 : -9223372036854775808 ≤ to) (fr1 : fr ≤ 9223372036854775807) (to1 : to ≤ 9223372036854775807) (hll : l.length ≤ 1000000) :
  Calls Try.prog 32 #[v_l, (iV fr), (iV to)] w0 fun e w' => ∃ (r : Value), e = .returned r ∧ St w0 w' [rowT 73 winE r (rawW l fr to)] := by
 refine calls_E (n := 57) (ts := [6]) Try.func32 rfl rfl rfl (by simp) ?_
 have hst := St.start w0
 refine cE_seq (cE_region rfl (s_cons (op_assign nS rfl (s_nil (then_n (cE_seq (cE_region rfl (s_cons (op_assign nS rfl (s_nil (then_n (cE_seq (cE_seq (cE_region rfl (s_cons (op_assign (iV 0) rfl (s_nil (then_n (cE_block ?_)))))))))))))))))))
 replace hst := hst.nilRow 73 winE
 refine cE_loop (fun (m : Nat) (ρ : Env) (w : World) => ∃ (vo : Value) (ys : List Win) (i : Nat), m = l.length - i ∧ ρ 0 = v_l ∧ ρ 1 = (iV fr) ∧ ρ 2 = (iV to) ∧ ρ 6 = nS ∧ ρ 7 = vo ∧ ρ 8 = (iV (i : Int)) ∧ St w0 w [rowT 73 winE vo ys] ∧ (i ≤ l.length) ∧ (ys = rawW (l.take i) fr to)) id _ ⟨nS, [], 0, rfl, rfl, rfl, rfl, rfl, rfl, (congrArg iV (show 0 = _ from by omega)), hst, (by omega), (by rfl)⟩ ?_
 rintro m2 ρ3 w4 ⟨vo, ys, i, hm2, q1_0, q1_1, q1_2, q1_6, q1_7, q1_8, hst, hi, hI⟩
 have hlen := h_l.len
 have hyl : ys.length ≤ i := by rw [hI]; have := rawW_len (l.take i) fr to; simp only [List.length_take] at this; omega
 refine cE_seq (cE_seq (cE_region rfl (s_cons (op_move (iV (i : Int)) q1_8 (s_cons (op_move v_l q1_0 (s_cons (op_len (E := sampE) (xs := l) Try.underlying22 rfl h_l (s_cons (op_lss (k := .i64) (a := (i : Int)) (b := (l.length : Int)) rfl rfl (s_nil (then_n ?_))))))))))))
 rcases Bool.eq_false_or_eq_true (decide ((i : Int) < (l.length : Int))) with b5 | b5
 ·have c6 := of_decide_eq_true b5
  refine cE_cond true (congrArg Value.bool b5) (fun _ => ?_) (fun h => by cases h)
  refine cE_skip (then_n (cE_seq (cE_block (cE_seq (cE_region rfl (s_cons (op_move v_l q1_0 (s_cons (op_move (iV (i : Int)) q1_8 (s_cons (op_indexAddrN (E := sampE) (xs := l) i Try.underlying22 Try.sizeOf51 rfl h_l rfl (by omega) (by omega) (fun a7 o8 p9 => ?_))))))))))))
  have hr := hl (l[i]'(by omega)) (List.getElem_mem _)
  refine s_cons (op_fieldAddr (s := 0) Try.underlying51 rfl rfl Try.sizeOf2 rfl (s_cons (op_load1 (u := (iV ((l[i]'(by omega)).T))) Try.isAgg2 rfl (p9.below hst.below) (s_cons (op_move (iV fr) q1_1 (s_cons (op_geq (k := .i64) (a := (l[i]'(by omega)).T) (b := fr) rfl rfl (s_cons (op_move (.bool (decide (fr ≤ ((l[i]'(by omega)).T)))) rfl ?_)))))))))
  rcases Bool.eq_false_or_eq_true (decide (fr ≤ ((l[i]'(by omega)).T))) with b10 | b10
  ·have c11 := of_decide_eq_true b10
   refine s_yes 22 rfl (congrArg Value.bool b10) (op_move v_l q1_0 (s_yes 22 rfl (congrArg Value.bool b10) (op_move (iV (i : Int)) q1_8 (s_yes 22 rfl (congrArg Value.bool b10) (op_indexAddrN (E := sampE) (xs := l) i Try.underlying22 Try.sizeOf51 rfl h_l rfl (by omega) (by omega) (fun a12 o13 p14 => ?_))))))
   refine s_yes 22 rfl (congrArg Value.bool b10) (op_fieldAddr (s := 0) Try.underlying51 rfl rfl Try.sizeOf2 rfl (s_yes 22 rfl (congrArg Value.bool b10) (op_load1 (u := (iV ((l[i]'(by omega)).T))) Try.isAgg2 rfl (p14.below hst.below) (s_yes 22 rfl (congrArg Value.bool b10) (op_move (iV to) q1_2 (s_yes 22 rfl (congrArg Value.bool b10) (op_lss (k := .i64) (a := (l[i]'(by omega)).T) (b := to) rfl rfl ?_)))))))
   refine s_cons (op_pick_t (.bool (decide (((l[i]'(by omega)).T) < to))) (congrArg Value.bool b10) rfl (s_nil (then_n ?_)))
   rcases Bool.eq_false_or_eq_true (decide (((l[i]'(by omega)).T) < to)) with b15 | b15
   ·have c16 := of_decide_eq_true b15
    refine cE_cond true (congrArg Value.bool b15) (fun _ => ?_) (fun h => by cases h)
    refine cE_regionM (fun (D : Nat → Bool) (w : World) => St w0 w [] ∧ (D 24 = false → St w0 w [rowT 73 winE vo ys])) [[(7, none)], [(0, none)], [(8, none)], [(32, some 1), (33, some 2)], [(34, some 3)], [(35, some 4)], [(0, none)], [(8, none)], [(37, some 6), (38, some 7)], [(39, some 8)], [(40, some 9)], [(41, some 10)], [(0, none)], [(8, none)], [(43, some 12), (44, some 13)], [(45, some 14)], [(0, none)], [(8, none)], [(47, some 16), (48, some 17)], [(49, some 18)], [(50, some 19)], [(46, some 15), (51, some 20)], [(36, some 5), (42, some 11), (52, some 21)], [(53, some 22)], [(31, some 0), (54, some 23)], [(55, some 24)]] [24] [(kEq vo), (kEq v_l), (kEq (iV (i : Int))), (kPt0 w0 [(iV ((l[i]'(by omega)).T)), (iV ((l[i]'(by omega)).V))]), (kPt0 w0 [(iV ((l[i]'(by omega)).T)), (iV ((l[i]'(by omega)).V))]), (kEq (iV ((l[i]'(by omega)).T))), (kEq v_l), (kEq (iV (i : Int))), (kPt0 w0 [(iV ((l[i]'(by omega)).T)), (iV ((l[i]'(by omega)).V))]), (kPt0 w0 [(iV ((l[i]'(by omega)).T)), (iV ((l[i]'(by omega)).V))]), (kEq (iV ((l[i]'(by omega)).T))), (kEq (iV (((l[i]'(by omega)).T) + 1))), (kEq v_l), (kEq (iV (i : Int))), (kPt0 w0 [(iV ((l[i]'(by omega)).T)), (iV ((l[i]'(by omega)).V))]), (kEq (.agg #[(iV ((l[i]'(by omega)).T)), (iV ((l[i]'(by omega)).V))])), (kEq v_l), (kEq (iV (i : Int))), (kPt0 w0 [(iV ((l[i]'(by omega)).T)), (iV ((l[i]'(by omega)).V))]), (kPt0 w0 [(iV ((l[i]'(by omega)).T)), (iV ((l[i]'(by omega)).V))]), (kEq (iV ((l[i]'(by omega)).T))), (kEq (.agg #[(iV ((l[i]'(by omega)).T)), (iV 1), (iV ((l[i]'(by omega)).V)), (iV ((l[i]'(by omega)).V)), (iV ((l[i]'(by omega)).V)), (iV ((l[i]'(by omega)).V)), (iV ((l[i]'(by omega)).V))])), (kEq (.agg #[(iV 0), (iV ((l[i]'(by omega)).T)), (iV (((l[i]'(by omega)).T) + 1)), (iV ((l[i]'(by omega)).T)), (iV 1), (iV ((l[i]'(by omega)).V)), (iV ((l[i]'(by omega)).V)), (iV ((l[i]'(by omega)).V)), (iV ((l[i]'(by omega)).V)), (iV ((l[i]'(by omega)).V))])), (kSlU [24] winE ([(⟨0, (l[i]'(by omega)).T, (((l[i]'(by omega)).T) + 1), (⟨(l[i]'(by omega)).T, 1, (l[i]'(by omega)).V, (l[i]'(by omega)).V, (l[i]'(by omega)).V, (l[i]'(by omega)).V, (l[i]'(by omega)).V⟩ : Agg)⟩ : Win)])), (fun (D : Nat → Bool) (v32 : Value) (w : World) => (D 24 = true → St w0 w [rowT 73 winE v32 (ys ++ ([(⟨0, (l[i]'(by omega)).T, (((l[i]'(by omega)).T) + 1), (⟨(l[i]'(by omega)).T, 1, (l[i]'(by omega)).V, (l[i]'(by omega)).V, (l[i]'(by omega)).V, (l[i]'(by omega)).V, (l[i]'(by omega)).V⟩ : Agg)⟩ : Win)]))])), (fun (D : Nat → Bool) (v32 : Value) (w : World) => (D 24 = true → St w0 w [rowT 73 winE v32 (ys ++ ([(⟨0, (l[i]'(by omega)).T, (((l[i]'(by omega)).T) + 1), (⟨(l[i]'(by omega)).T, 1, (l[i]'(by omega)).V, (l[i]'(by omega)).V, (l[i]'(by omega)).V, (l[i]'(by omega)).V, (l[i]'(by omega)).V⟩ : Agg)⟩ : Win)]))]))] ⟨mEq, mEq, mEq, mPt0, mPt0, mEq, mEq, mEq, mPt0, mPt0, mEq, mEq, mEq, mEq, mPt0, mEq, mEq, mEq, mPt0, mPt0, mEq, mEq, mEq, (mSlUs (by decide)), (fun D D' v w w' hD hb h2 => (fun x0 => (h2 ((hD 24 (by decide)).symm.trans x0)).ext hb)), (fun D D' v w w' hD hb h2 => (fun x0 => (h2 ((hD 24 (by decide)).symm.trans x0)).ext hb)), trivial⟩ (by kernel_rfl) rfl (by kernel_rfl) ⟨hst.drewW.sub (.cons _ .slnil), (fun _ => hst.drewW)⟩ (fun hM => ⟨?_, ?_, ?_, ?_, ?_, ?_, ?_, ?_, ?_, ?_, ?_, ?_, ?_, ?_, ?_, ?_, ?_, ?_, ?_, ?_, ?_, ?_, ?_, ?_, ?_, ?_, trivial⟩) ?_
    ·rintro D ρo wo nD eD cD jD aD ⟨f7, _⟩
     exact go_plain (op_move vo (f7.trans q1_7) (kN0 (i := 0) hM (by decide) (by exact jD) (by exact rfl)))
    ·rintro D ρo wo nD eD cD jD aD ⟨f0, _⟩
     exact go_plain (op_move v_l (f0.trans q1_0) (kN0 (i := 1) hM (by decide) (by exact jD) (by exact rfl)))
    ·rintro D ρo wo nD eD cD jD aD ⟨f8, _⟩
     exact go_plain (op_move (iV (i : Int)) (f8.trans q1_8) (kN0 (i := 2) hM (by decide) (by exact jD) (by exact rfl)))
    ·rintro D ρo wo nD eD cD jD aD ⟨f32, f33, _⟩
     refine go_plain (op_indexAddrN (E := sampE) (xs := l) i Try.underlying22 Try.sizeOf51 f32 h_l f33 (by omega) (by omega) (fun a35 o36 p37 => ?_))
     exact (kN0 (i := 3) hM (by decide) (by exact jD) (by exact ⟨_, _, rfl, p37⟩))
    ·rintro D ρo wo nD eD cD jD aD ⟨f34, _⟩
     obtain ⟨a38, o39, e40, p41⟩ := f34
     exact go_plain (op_fieldAddr (s := 0) Try.underlying51 rfl rfl Try.sizeOf2 e40 (kN0 (i := 4) hM (by decide) (by exact jD) (by exact ⟨_, _, rfl, p41⟩)))
    ·rintro D ρo wo nD eD cD jD aD ⟨f35, _⟩
     have hst := jD.2 (not_yet nD (fun hm => (cD 22 5 (cD 23 22 (cD 24 23 hm (by kernel_rfl)) (by kernel_rfl)) (by kernel_rfl))))
     obtain ⟨a42, o43, e44, p45⟩ := f35
     exact go_plain (op_load1 (u := (iV ((l[i]'(by omega)).T))) Try.isAgg2 e44 (p45.below hst.below) (kN0 (i := 5) hM (by decide) (by exact jD) (by exact rfl)))
    ·rintro D ρo wo nD eD cD jD aD ⟨f0, _⟩
     exact go_plain (op_move v_l (f0.trans q1_0) (kN0 (i := 6) hM (by decide) (by exact jD) (by exact rfl)))
    ·rintro D ρo wo nD eD cD jD aD ⟨f8, _⟩
     exact go_plain (op_move (iV (i : Int)) (f8.trans q1_8) (kN0 (i := 7) hM (by decide) (by exact jD) (by exact rfl)))
    ·rintro D ρo wo nD eD cD jD aD ⟨f37, f38, _⟩
     refine go_plain (op_indexAddrN (E := sampE) (xs := l) i Try.underlying22 Try.sizeOf51 f37 h_l f38 (by omega) (by omega) (fun a46 o47 p48 => ?_))
     exact (kN0 (i := 8) hM (by decide) (by exact jD) (by exact ⟨_, _, rfl, p48⟩))
    ·rintro D ρo wo nD eD cD jD aD ⟨f39, _⟩
     obtain ⟨a49, o50, e51, p52⟩ := f39
     exact go_plain (op_fieldAddr (s := 0) Try.underlying51 rfl rfl Try.sizeOf2 e51 (kN0 (i := 9) hM (by decide) (by exact jD) (by exact ⟨_, _, rfl, p52⟩)))
    ·rintro D ρo wo nD eD cD jD aD ⟨f40, _⟩
     have hst := jD.2 (not_yet nD (fun hm => (cD 11 10 (cD 22 11 (cD 23 22 (cD 24 23 hm (by kernel_rfl)) (by kernel_rfl)) (by kernel_rfl)) (by kernel_rfl))))
     obtain ⟨a53, o54, e55, p56⟩ := f40
     exact go_plain (op_load1 (u := (iV ((l[i]'(by omega)).T))) Try.isAgg2 e55 (p56.below hst.below) (kN0 (i := 10) hM (by decide) (by exact jD) (by exact rfl)))
    ·rintro D ρo wo nD eD cD jD aD ⟨f41, _⟩
     exact go_plain (op_add (k := .i64) (a := (l[i]'(by omega)).T) (b := 1) (((l[i]'(by omega)).T) + 1) f41 rfl (xi64 (by omega) (by omega)) (kN0 (i := 11) hM (by decide) (by exact jD) (by exact rfl)))
    ·rintro D ρo wo nD eD cD jD aD ⟨f0, _⟩
     exact go_plain (op_move v_l (f0.trans q1_0) (kN0 (i := 12) hM (by decide) (by exact jD) (by exact rfl)))
    ·rintro D ρo wo nD eD cD jD aD ⟨f8, _⟩
     exact go_plain (op_move (iV (i : Int)) (f8.trans q1_8) (kN0 (i := 13) hM (by decide) (by exact jD) (by exact rfl)))
    ·rintro D ρo wo nD eD cD jD aD ⟨f43, f44, _⟩
     refine go_plain (op_indexAddrN (E := sampE) (xs := l) i Try.underlying22 Try.sizeOf51 f43 h_l f44 (by omega) (by omega) (fun a57 o58 p59 => ?_))
     exact (kN0 (i := 14) hM (by decide) (by exact jD) (by exact ⟨_, _, rfl, p59⟩))
    ·rintro D ρo wo nD eD cD jD aD ⟨f45, _⟩
     have hst := jD.2 (not_yet nD (fun hm => (cD 21 15 (cD 24 21 hm (by kernel_rfl)) (by kernel_rfl))))
     obtain ⟨a60, o61, e62, p63⟩ := f45
     exact go_plain (op_loadN (cs := [(iV ((l[i]'(by omega)).T)), (iV ((l[i]'(by omega)).V))]) Try.isAgg51 Try.sizeOf51 e62 (Pt.of (p63.below hst.below) rfl) rfl (kN0 (i := 15) hM (by decide) (by exact jD) (by exact rfl)))
    ·rintro D ρo wo nD eD cD jD aD ⟨f0, _⟩
     exact go_plain (op_move v_l (f0.trans q1_0) (kN0 (i := 16) hM (by decide) (by exact jD) (by exact rfl)))
    ·rintro D ρo wo nD eD cD jD aD ⟨f8, _⟩
     exact go_plain (op_move (iV (i : Int)) (f8.trans q1_8) (kN0 (i := 17) hM (by decide) (by exact jD) (by exact rfl)))
    ·rintro D ρo wo nD eD cD jD aD ⟨f47, f48, _⟩
     refine go_plain (op_indexAddrN (E := sampE) (xs := l) i Try.underlying22 Try.sizeOf51 f47 h_l f48 (by omega) (by omega) (fun a64 o65 p66 => ?_))
     exact (kN0 (i := 18) hM (by decide) (by exact jD) (by exact ⟨_, _, rfl, p66⟩))
    ·rintro D ρo wo nD eD cD jD aD ⟨f49, _⟩
     obtain ⟨a67, o68, e69, p70⟩ := f49
     exact go_plain (op_fieldAddr (s := 0) Try.underlying51 rfl rfl Try.sizeOf2 e69 (kN0 (i := 19) hM (by decide) (by exact jD) (by exact ⟨_, _, rfl, p70⟩)))
    ·rintro D ρo wo nD eD cD jD aD ⟨f50, _⟩
     have hst := jD.2 (not_yet nD (fun hm => (cD 21 20 (cD 24 21 hm (by kernel_rfl)) (by kernel_rfl))))
     obtain ⟨a71, o72, e73, p74⟩ := f50
     exact go_plain (op_load1 (u := (iV ((l[i]'(by omega)).T))) Try.isAgg2 e73 (p74.below hst.below) (kN0 (i := 20) hM (by decide) (by exact jD) (by exact rfl)))
    ·rintro D ρo wo nD eD cD jD aD ⟨f46, f51, _⟩
     refine go_plain (op_call Try.call23 (evs_cons (v := (.agg #[(iV ((l[i]'(by omega)).T)), (iV ((l[i]'(by omega)).V))])) f46 (evs_cons (v := (iV ((l[i]'(by omega)).T))) f51 evs_nil)) (c_rOne (w0 := wo) (s := (l[i]'(by omega))) (fr := (l[i]'(by omega)).T)) ?_)
     rintro _ w75 ⟨rfl, hcall⟩
     refine ⟨_, rfl, ?_⟩
     exact kN (i := 21) hM (by decide) hcall.below (by exact ⟨(jD.1).ext hcall.below, (fun x0 => (jD.2 x0).ext hcall.below)⟩) (by exact rfl)
    ·rintro D ρo wo nD eD cD jD aD ⟨f36, f42, f52, _⟩
     exact go_plain (op_build (r := (.agg #[(iV 0), (iV ((l[i]'(by omega)).T)), (iV (((l[i]'(by omega)).T) + 1)), (iV ((l[i]'(by omega)).T)), (iV 1), (iV ((l[i]'(by omega)).V)), (iV ((l[i]'(by omega)).V)), (iV ((l[i]'(by omega)).V)), (iV ((l[i]'(by omega)).V)), (iV ((l[i]'(by omega)).V))])) (evp_cons (v := (iV ((l[i]'(by omega)).T))) f36 (evp_cons (v := (iV (((l[i]'(by omega)).T) + 1))) f42 (evp_cons (v := (.agg #[(iV ((l[i]'(by omega)).T)), (iV 1), (iV ((l[i]'(by omega)).V)), (iV ((l[i]'(by omega)).V)), (iV ((l[i]'(by omega)).V)), (iV ((l[i]'(by omega)).V)), (iV ((l[i]'(by omega)).V))])) f52 evp_nil))) (by simp [Instr.build, Instr.fill, Value.cells, Try.runUnderlying73, Try.zeroValue73]) (kN0 (i := 22) hM (by decide) (by exact jD) (by exact rfl)))
    ·rintro D ρo wo nD eD cD jD aD ⟨f53, _⟩
     have hst := jD.2 (not_yet nD (fun hm => (cD 24 23 hm (by kernel_rfl))))
     have hst := St.start wo
     refine go_plain (op_buildSlice (E := winE) [(⟨0, (l[i]'(by omega)).T, (((l[i]'(by omega)).T) + 1), (⟨(l[i]'(by omega)).T, 1, (l[i]'(by omega)).V, (l[i]'(by omega)).V, (l[i]'(by omega)).V, (l[i]'(by omega)).V, (l[i]'(by omega)).V⟩ : Agg)⟩ : Win)] hst Try.underlying33 Try.sizeOf73 Try.zeroValue73 (evp_cons (v := (.agg #[(iV 0), (iV ((l[i]'(by omega)).T)), (iV (((l[i]'(by omega)).T) + 1)), (iV ((l[i]'(by omega)).T)), (iV 1), (iV ((l[i]'(by omega)).V)), (iV ((l[i]'(by omega)).V)), (iV ((l[i]'(by omega)).V)), (iV ((l[i]'(by omega)).V)), (iV ((l[i]'(by omega)).V))])) f53 evp_nil) (parts_cons rfl parts_nil) rfl (by decide) (fun v76 w77 hst => ?_))
     exact kN (i := 23) hM (by decide) hst.below (by exact ⟨(jD.1).ext hst.below, (fun x0 => (jD.2 x0).ext hst.below)⟩) (by exact fun _ => hst.sl 0 rfl)
    ·rintro D ρo wo nD eD cD jD aD ⟨f31, f54, _⟩
     have hst := jD.2 nD
     obtain ⟨v79, e80⟩ : ∃ x, ρo 54 = x := ⟨_, rfl⟩
     have hs78 := f54 (by intro m hm; obtain rfl := List.mem_singleton.1 hm; exact nD)
     replace hs78 : Sl wo winE v79 ([(⟨0, (l[i]'(by omega)).T, (((l[i]'(by omega)).T) + 1), (⟨(l[i]'(by omega)).T, 1, (l[i]'(by omega)).V, (l[i]'(by omega)).V, (l[i]'(by omega)).V, (l[i]'(by omega)).V, (l[i]'(by omega)).V⟩ : Agg)⟩ : Win)]) := e80 ▸ hs78
     refine go_plain (op_append (E := winE) (xs := ys) (ys := [(⟨0, (l[i]'(by omega)).T, (((l[i]'(by omega)).T) + 1), (⟨(l[i]'(by omega)).T, 1, (l[i]'(by omega)).V, (l[i]'(by omega)).V, (l[i]'(by omega)).V, (l[i]'(by omega)).V, (l[i]'(by omega)).V⟩ : Agg)⟩ : Win)]) (z := (.agg #[(iV 0), (iV 0), (iV 0), (iV 0), (iV 0), (iV 0), (iV 0), (iV 0), (iV 0), (iV 0)])) (bytes := 80) hst 0 rfl Try.underlying33 (by kernel_rfl) rfl f31 e80 hs78 (by (simp; omega)) (by (simp; omega)) (fun v81 w82 hst => ?_))
     refine ⟨by exact ⟨hst.sub (.cons _ .slnil), (fun y0 => absurd y0 (fun h => Bool.noConfusion h))⟩, by exact (fun y0 => hst.sub (.cons_cons _ .slnil)), kX [] (by exact ⟨Or.inr (Or.inr (Or.inr iEq)), Or.inr (Or.inr (Or.inr iEq)), Or.inr (Or.inr (Or.inr iEq)), Or.inr (Or.inr (Or.inr iPt0)), Or.inr (Or.inr (Or.inr iPt0)), Or.inr (Or.inr (Or.inr iEq)), Or.inr (Or.inr (Or.inr iEq)), Or.inr (Or.inr (Or.inr iEq)), Or.inr (Or.inr (Or.inr iPt0)), Or.inr (Or.inr (Or.inr iPt0)), Or.inr (Or.inr (Or.inr iEq)), Or.inr (Or.inr (Or.inr iEq)), Or.inr (Or.inr (Or.inr iEq)), Or.inr (Or.inr (Or.inr iEq)), Or.inr (Or.inr (Or.inr iPt0)), Or.inr (Or.inr (Or.inr iEq)), Or.inr (Or.inr (Or.inr iEq)), Or.inr (Or.inr (Or.inr iEq)), Or.inr (Or.inr (Or.inr iPt0)), Or.inr (Or.inr (Or.inr iPt0)), Or.inr (Or.inr (Or.inr iEq)), Or.inr (Or.inr (Or.inr iEq)), Or.inr (Or.inr (Or.inr iEq)), Or.inr (Or.inr (Or.inr (iSlU (by decide)))), Or.inl rfl, Or.inr (Or.inr (Or.inl (not_yet nD (fun hm => (cD 25 24 hm (by kernel_rfl)))))), trivial⟩) ?_⟩
     intro j d hj; cases hj
    ·rintro D ρo wo nD eD cD jD aD ⟨f55, _⟩
     obtain ⟨v84, e85⟩ : ∃ x, ρo 55 = x := ⟨_, rfl⟩
     have hh86 := aD 24 55 (eD 24 (by kernel_rfl)) rfl
     have hst : St w0 wo [rowT 73 winE v84 (ys ++ ([(⟨0, (l[i]'(by omega)).T, (((l[i]'(by omega)).T) + 1), (⟨(l[i]'(by omega)).T, 1, (l[i]'(by omega)).V, (l[i]'(by omega)).V, (l[i]'(by omega)).V, (l[i]'(by omega)).V, (l[i]'(by omega)).V⟩ : Agg)⟩ : Win)]))] := by have h := hh86 (eD 24 (by kernel_rfl)); rw [e85] at h; exact h
     exact go_plain (op_assign _ rfl (kN0 (i := 25) hM (by decide) (by exact jD) (by exact f55)))
    intro ρ87 w88 Dw88 hallw88 hJw88 hRw88 hkw88
    obtain ⟨v89, uw88_7⟩ : ∃ x, ρ87 7 = x := ⟨_, rfl⟩
    have hst : St w0 w88 [rowT 73 winE v89 (ys ++ ([(⟨0, (l[i]'(by omega)).T, (((l[i]'(by omega)).T) + 1), (⟨(l[i]'(by omega)).T, 1, (l[i]'(by omega)).V, (l[i]'(by omega)).V, (l[i]'(by omega)).V, (l[i]'(by omega)).V, (l[i]'(by omega)).V⟩ : Agg)⟩ : Win)]))] := by have h := hRw88 25 7 rfl; rw [uw88_7] at h; exact (h (hallw88 24 (show 24 < 26 from by decide)))
    have uw88_0 := (hkw88 0 rfl).trans q1_0
    have uw88_1 := (hkw88 1 rfl).trans q1_1
    have uw88_2 := (hkw88 2 rfl).trans q1_2
    have uw88_6 := (hkw88 6 rfl).trans q1_6
    have uw88_8 := (hkw88 8 rfl).trans q1_8
    refine block_n (then_n (cE_region rfl (s_cons (op_move (iV (i : Int)) uw88_8 (s_cons (op_add (k := .i64) (a := (i : Int)) (b := 1) ((i : Int) + 1) rfl rfl (xi64 (by omega) (by omega)) (s_cons (op_assign (iV ((i : Int) + 1)) rfl (s_nil (then_n ?_))))))))))
    exact ⟨_, ⟨v89, (ys ++ ([(⟨0, (l[i]'(by omega)).T, (((l[i]'(by omega)).T) + 1), (⟨(l[i]'(by omega)).T, 1, (l[i]'(by omega)).V, (l[i]'(by omega)).V, (l[i]'(by omega)).V, (l[i]'(by omega)).V, (l[i]'(by omega)).V⟩ : Agg)⟩ : Win)])), (i + 1), rfl, uw88_0, uw88_1, uw88_2, uw88_6, uw88_7, (congrArg iV (show ((i : Int) + 1) = _ from by omega)), hst, (by omega), (by (rw [hI]; exact rawW_yes (by omega) (by omega)))⟩, (by simp only [id]; omega)⟩
   have c90 := of_decide_eq_false b15
   refine cE_cond false (congrArg Value.bool b15) (fun h => by cases h) (fun _ => ?_)
   refine cE_skip (block_n (then_n (cE_region rfl (s_cons (op_move (iV (i : Int)) q1_8 (s_cons (op_add (k := .i64) (a := (i : Int)) (b := 1) ((i : Int) + 1) rfl rfl (xi64 (by omega) (by omega)) (s_cons (op_assign (iV ((i : Int) + 1)) rfl (s_nil (then_n ?_)))))))))))
   exact ⟨_, ⟨vo, ys, (i + 1), rfl, q1_0, q1_1, q1_2, q1_6, q1_7, (congrArg iV (show ((i : Int) + 1) = _ from by omega)), hst, (by omega), (by exact hI.trans (rawW_no (by omega) (by omega)))⟩, (by simp only [id]; omega)⟩
  have c91 := of_decide_eq_false b10
  refine s_no 22 rfl (congrArg Value.bool b10) (s_no 22 rfl (congrArg Value.bool b10) (s_no 22 rfl (congrArg Value.bool b10) (s_no 22 rfl (congrArg Value.bool b10) (s_no 22 rfl (congrArg Value.bool b10) (s_no 22 rfl (congrArg Value.bool b10) (s_no 22 rfl (congrArg Value.bool b10) (s_cons (op_pick_f (.bool false) (congrArg Value.bool b10) rfl (s_nil (then_n (cE_cond false rfl (fun h => by cases h) (fun _ => ?_))))))))))))
  refine cE_skip (block_n (then_n (cE_region rfl (s_cons (op_move (iV (i : Int)) q1_8 (s_cons (op_add (k := .i64) (a := (i : Int)) (b := 1) ((i : Int) + 1) rfl rfl (xi64 (by omega) (by omega)) (s_cons (op_assign (iV ((i : Int) + 1)) rfl (s_nil (then_n ?_)))))))))))
  exact ⟨_, ⟨vo, ys, (i + 1), rfl, q1_0, q1_1, q1_2, q1_6, q1_7, (congrArg iV (show ((i : Int) + 1) = _ from by omega)), hst, (by omega), (by exact hI.trans (rawW_no (by omega) (by omega)))⟩, (by simp only [id]; omega)⟩
 have c92 := of_decide_eq_false b5
 refine cE_cond false (congrArg Value.bool b5) (fun h => by cases h) (fun _ => ?_)
 refine cE_exit (then_x (then_x (block_hit (then_n (cE_seq (cE_region rfl (s_cons (op_move vo q1_7 (s_cons (op_assign vo rfl (s_nil (then_n (cE_ret (post_r _ (res1 (v := vo) rfl) ?_))))))))))))))
 have e93 : ys = (rawW l fr to) := by exact rawW_all hI (by omega)
 replace hst : St w0 w4 [rowT 73 winE vo (rawW l fr to)] := by rw [congrArg (fun l => rowT 73 winE vo l) e93] at hst; exact hst
 exact ⟨vo, rfl, hst.sub (.cons_cons _ .slnil)⟩

end Go.Proofs.Ythanfecefjfbjaa
