/- sorting -/
import Derived.Test.YtldfnkhccaglmaaXW10
import Derived.Test.YtldfnkhccaglmaaXLA
namespace Go.Proofs.Ytldfnkhccaglmaa
open Go.RowKit

set_option maxRecDepth 8000 in
set_option maxHeartbeats 4000000 in
theorem c_insertion {w0 w : World} {L : List Item} (v_xs : Value) (xs : List Info) (a : Int) (b : Int) (an : Nat) (bn : Nat) (ha : a = (an : Int)) (hb : b = (bn : Int)) (hab : an ≤ bn) (hbl : bn ≤ xs.length) (hxl : xs.length ≤ 1000000000) (hst : St w0 w (rowT 96 infoE v_xs xs :: L)) :
  Calls Try.prog 75 #[v_xs, (iV a), (iV b), (.func (.func 66) #[] #[])] w fun e w' => ∃ (qs : List Info), e = .returned (.tuple #[]) ∧ St w0 w' (rowT 96 infoE v_xs qs :: L) ∧ TurnF xs qs an bn ∧ SrtR qs an bn := by
 refine calls_E (n := 53) (ts := []) Try.func75 rfl rfl rfl (by simp) (cE_seq (cE_region rfl (s_cons (op_move (iV a) rfl (s_cons (op_add (k := .i64) (a := a) (b := 1) (a + 1) rfl rfl (xi64 (by omega) (by omega)) (s_cons (op_assign (iV (a + 1)) rfl (s_nil (then_n (cE_block (cE_loop (fun (m : Nat) (ρ : Env) (w : World) => ∃ (ys : List Info) (i : Nat), m = bn - i ∧ ρ 1 = (iV a) ∧ ρ 2 = (iV b) ∧ ρ 3 = (.func (.func 66) #[] #[]) ∧ ρ 0 = v_xs ∧ ρ 8 = (iV (i : Int)) ∧ St w0 w (rowT 96 infoE v_xs ys :: L) ∧ (an < i) ∧ (TurnF xs ys an bn) ∧ (SrtR ys an i)) id _ ⟨xs, (an + 1), rfl, rfl, rfl, rfl, rfl, (congrArg iV (show (a + 1) = _ from by omega)), hst, (by omega), (by exact turnF_refl _ _ _), (by exact srt_one _ _)⟩ ?_))))))))))))
 rintro m2 ρ3 w4 ⟨ys, i, hm2, q1_1, q1_2, q1_3, q1_0, q1_8, hst, hi, hT, hS⟩
 have hyl := hT.1
 refine cE_seq (cE_seq (cE_region rfl (s_cons (op_move (iV (i : Int)) q1_8 (s_cons (op_move (iV b) q1_2 (s_cons (op_lss (k := .i64) (a := (i : Int)) (b := b) rfl rfl (s_nil (then_n ?_))))))))))
 rcases Bool.eq_false_or_eq_true (decide ((i : Int) < b)) with b5 | b5
 ·have c6 := of_decide_eq_true b5
  refine cE_cond true (congrArg Value.bool b5) (fun _ => ?_) (fun h => by cases h)
  refine cE_skip (then_n (cE_seq (cE_block (cE_seq (cE_region rfl (s_cons (op_move (iV (i : Int)) q1_8 (s_cons (op_assign (iV (i : Int)) rfl (s_nil (then_n (cE_block (cE_loop (fun (m : Nat) (ρ : Env) (w : World) => ∃ (zs : List Info) (j : Nat), m = j ∧ ρ 1 = (iV a) ∧ ρ 2 = (iV b) ∧ ρ 3 = (.func (.func 66) #[] #[]) ∧ ρ 8 = (iV (i : Int)) ∧ ρ 0 = v_xs ∧ ρ 9 = (iV (j : Int)) ∧ St w0 w (rowT 96 infoE v_xs zs :: L) ∧ (an ≤ j) ∧ (j ≤ i) ∧ (TurnF xs zs an bn) ∧ (Down1 zs an i j)) id _ ⟨ys, i, rfl, q1_1, q1_2, q1_3, q1_8, q1_0, rfl, hst, (by omega), (by omega), (by exact hT), (by exact down1_start hS)⟩ ?_)))))))))))))
  rintro m8 ρ9 w10 ⟨zs, j, hm8, q7_1, q7_2, q7_3, q7_8, q7_0, q7_9, hst, hja, hji, hT2, hD⟩
  have hzl := hT2.1
  refine cE_seq (cE_seq ?_)
  rcases Bool.eq_false_or_eq_true (decide (a < (j : Int))) with b11 | b11
  ·have c12 := of_decide_eq_true b11
   refine cE_regionL hst [[(9, none)], [(1, none)], [(18, some 0), (19, some 1)], [(20, some 2)], [(3, none), (21, some 3)], [(0, none), (21, some 3)], [(9, none), (21, some 3)], [(23, some 5), (24, some 6), (21, some 3)], [(25, some 7), (21, some 3)], [(0, none), (21, some 3)], [(9, none), (21, some 3)], [(28, some 10), (21, some 3)], [(27, some 9), (29, some 11), (21, some 3)], [(30, some 12), (21, some 3)], [(22, some 4), (26, some 8), (31, some 13), (21, some 3)], [(32, some 14), (21, some 3)], [(21, some 3), (33, some 15)]] [(rEq (iV (j : Int))), (rEq (iV a)), (rEq (.bool (decide (a < (j : Int))))), (rEq (.bool (decide (a < (j : Int))))), (rEq (.func (.func 66) #[] #[])), (rEq v_xs), (rEq (iV (j : Int))), (rPt [(iV ((zs[j]'(by omega)).Id)), (iV ((zs[j]'(by omega)).Tier)), (iV ((zs[j]'(by omega)).From)), (iV ((zs[j]'(by omega)).To)), (.int .u32 ((zs[j]'(by omega)).Sum))]), (rEq (.agg #[(iV ((zs[j]'(by omega)).Id)), (iV ((zs[j]'(by omega)).Tier)), (iV ((zs[j]'(by omega)).From)), (iV ((zs[j]'(by omega)).To)), (.int .u32 ((zs[j]'(by omega)).Sum))])), (rEq v_xs), (rEq (iV (j : Int))), (rEq (iV ((j : Int) - 1))), (rPt [(iV ((zs[(j - 1)]'(by omega)).Id)), (iV ((zs[(j - 1)]'(by omega)).Tier)), (iV ((zs[(j - 1)]'(by omega)).From)), (iV ((zs[(j - 1)]'(by omega)).To)), (.int .u32 ((zs[(j - 1)]'(by omega)).Sum))]), (rEq (.agg #[(iV ((zs[(j - 1)]'(by omega)).Id)), (iV ((zs[(j - 1)]'(by omega)).Tier)), (iV ((zs[(j - 1)]'(by omega)).From)), (iV ((zs[(j - 1)]'(by omega)).To)), (.int .u32 ((zs[(j - 1)]'(by omega)).Sum))])), (rEq (iV (cmpF (zs[j]'(by omega)) (zs[(j - 1)]'(by omega))))), (rEq (.bool (decide ((cmpF (zs[j]'(by omega)) (zs[(j - 1)]'(by omega))) < 0)))), (rEq (.bool (decide ((cmpF (zs[j]'(by omega)) (zs[(j - 1)]'(by omega))) < 0))))] (by kernel_rfl) rfl (by kernel_rfl) ⟨sEq, sEq, sEq, sEq, sEq, sEq, sEq, sPt, sEq, sEq, sEq, sEq, sPt, sEq, sEq, sEq, sEq, trivial⟩ ⟨?_, ?_, ?_, ?_, ?_, ?_, ?_, ?_, ?_, ?_, ?_, ?_, ?_, ?_, ?_, ?_, ?_, trivial⟩ ?_
   ·rintro ρ20 w21 hj22 ⟨f9, _⟩
    have hst := hj22.2
    exact go_plain (op_move (iV (j : Int)) (f9.trans q7_9) (kS hj22 rfl))
   ·rintro ρ23 w24 hj25 ⟨f1, _⟩
    have hst := hj25.2
    exact go_plain (op_move (iV a) (f1.trans q7_1) (kS hj25 rfl))
   ·rintro ρ26 w27 hj28 ⟨f18, f19, _⟩
    have hst := hj28.2
    exact go_plain (op_gtr (k := .i64) (a := (j : Int)) (b := a) f18 f19 (kS hj28 rfl))
   ·rintro ρ29 w30 hj31 ⟨f20, _⟩
    have hst := hj31.2
    exact go_plain (op_move (.bool (decide (a < (j : Int)))) f20 (kS hj31 rfl))
   ·rintro ρ32 w33 hj34 ⟨f3, f21, _⟩
    have hst := hj34.2
    exact go_yes 21 rfl (f21.trans (congrArg Value.bool b11)) (op_move (.func (.func 66) #[] #[]) (f3.trans q7_3) (kS hj34 rfl))
   ·rintro ρ35 w36 hj37 ⟨f0, f21, _⟩
    have hst := hj37.2
    exact go_yes 21 rfl (f21.trans (congrArg Value.bool b11)) (op_move v_xs (f0.trans q7_0) (kS hj37 rfl))
   ·rintro ρ38 w39 hj40 ⟨f9, f21, _⟩
    have hst := hj40.2
    exact go_yes 21 rfl (f21.trans (congrArg Value.bool b11)) (op_move (iV (j : Int)) (f9.trans q7_9) (kS hj40 rfl))
   ·rintro ρ41 w42 hj43 ⟨f23, f24, f21, _⟩
    have hst := hj43.2
    refine go_yes 21 rfl (f21.trans (congrArg Value.bool b11)) (op_indexAddrN (E := infoE) (xs := zs) j Try.underlying92 Try.sizeOf96 f23 (hst.sl 0 rfl) f24 (by omega) (by omega) (fun a44 o45 p46 => ?_))
    exact kS hj43 ⟨_, _, rfl, p46⟩
   ·rintro ρ47 w48 hj49 ⟨f25, f21, _⟩
    have hst := hj49.2
    obtain ⟨a50, o51, e52, p53⟩ := f25
    exact go_yes 21 rfl (f21.trans (congrArg Value.bool b11)) (op_loadN (cs := [(iV ((zs[j]'(by omega)).Id)), (iV ((zs[j]'(by omega)).Tier)), (iV ((zs[j]'(by omega)).From)), (iV ((zs[j]'(by omega)).To)), (.int .u32 ((zs[j]'(by omega)).Sum))]) Try.isAgg96 Try.sizeOf96 e52 (Pt.of p53 rfl) rfl (kS hj49 rfl))
   ·rintro ρ54 w55 hj56 ⟨f0, f21, _⟩
    have hst := hj56.2
    exact go_yes 21 rfl (f21.trans (congrArg Value.bool b11)) (op_move v_xs (f0.trans q7_0) (kS hj56 rfl))
   ·rintro ρ57 w58 hj59 ⟨f9, f21, _⟩
    have hst := hj59.2
    exact go_yes 21 rfl (f21.trans (congrArg Value.bool b11)) (op_move (iV (j : Int)) (f9.trans q7_9) (kS hj59 rfl))
   ·rintro ρ60 w61 hj62 ⟨f28, f21, _⟩
    have hst := hj62.2
    exact go_yes 21 rfl (f21.trans (congrArg Value.bool b11)) (op_sub (k := .i64) (a := (j : Int)) (b := 1) ((j : Int) - 1) f28 rfl (xi64 (by omega) (by omega)) (kS hj62 rfl))
   ·rintro ρ63 w64 hj65 ⟨f27, f29, f21, _⟩
    have hst := hj65.2
    refine go_yes 21 rfl (f21.trans (congrArg Value.bool b11)) (op_indexAddrN (E := infoE) (xs := zs) (j - 1) Try.underlying92 Try.sizeOf96 f27 (hst.sl 0 rfl) f29 (by omega) (by omega) (fun a66 o67 p68 => ?_))
    exact kS hj65 ⟨_, _, rfl, p68⟩
   ·rintro ρ69 w70 hj71 ⟨f30, f21, _⟩
    have hst := hj71.2
    obtain ⟨a72, o73, e74, p75⟩ := f30
    exact go_yes 21 rfl (f21.trans (congrArg Value.bool b11)) (op_loadN (cs := [(iV ((zs[(j - 1)]'(by omega)).Id)), (iV ((zs[(j - 1)]'(by omega)).Tier)), (iV ((zs[(j - 1)]'(by omega)).From)), (iV ((zs[(j - 1)]'(by omega)).To)), (.int .u32 ((zs[(j - 1)]'(by omega)).Sum))]) Try.isAgg96 Try.sizeOf96 e74 (Pt.of p75 rfl) rfl (kS hj71 rfl))
   ·rintro ρ76 w77 hj78 ⟨f22, f26, f31, f21, _⟩
    have hst := hj78.2
    refine go_yes 21 rfl (f21.trans (congrArg Value.bool b11)) (op_callv (cs := []) Try.call66 f22 (evs_cons (v := (.agg #[(iV ((zs[j]'(by omega)).Id)), (iV ((zs[j]'(by omega)).Tier)), (iV ((zs[j]'(by omega)).From)), (iV ((zs[j]'(by omega)).To)), (.int .u32 ((zs[j]'(by omega)).Sum))])) f26 (evs_cons (v := (.agg #[(iV ((zs[(j - 1)]'(by omega)).Id)), (iV ((zs[(j - 1)]'(by omega)).Tier)), (iV ((zs[(j - 1)]'(by omega)).From)), (iV ((zs[(j - 1)]'(by omega)).To)), (.int .u32 ((zs[(j - 1)]'(by omega)).Sum))])) f31 evs_nil)) (c_cmpF (w0 := w77) (a := (zs[j]'(by omega))) (b := (zs[(j - 1)]'(by omega)))) ?_)
    rintro _ w79 ⟨rfl, hcall⟩
    refine ⟨_, rfl, ?_⟩
    exact kD hj78 hcall rfl
   ·rintro ρ80 w81 hj82 ⟨f32, f21, _⟩
    have hst := hj82.2
    exact go_yes 21 rfl (f21.trans (congrArg Value.bool b11)) (op_lss (k := .i64) (a := (cmpF (zs[j]'(by omega)) (zs[(j - 1)]'(by omega)))) (b := 0) f32 rfl (kS hj82 rfl))
   ·rintro ρ83 w84 hj85 ⟨f21, f33, _⟩
    have hst := hj85.2
    exact go_plain (op_pick_t (.bool (decide ((cmpF (zs[j]'(by omega)) (zs[(j - 1)]'(by omega))) < 0))) (f21.trans (congrArg Value.bool b11)) f33 (kS hj85 rfl))
   intro ρ86 w87 hbw87 hst hRw87 hkw87
   have uw87_1 := (hkw87 1 rfl).trans q7_1
   have uw87_2 := (hkw87 2 rfl).trans q7_2
   have uw87_3 := (hkw87 3 rfl).trans q7_3
   have uw87_8 := (hkw87 8 rfl).trans q7_8
   have uw87_0 := (hkw87 0 rfl).trans q7_0
   have uw87_9 := (hkw87 9 rfl).trans q7_9
   have uw87_34 : ρ86 34 = (.bool (decide ((cmpF (zs[j]'(by omega)) (zs[(j - 1)]'(by omega))) < 0))) := hRw87 16 34 rfl
   refine then_n ?_
   rcases Bool.eq_false_or_eq_true (decide ((cmpF (zs[j]'(by omega)) (zs[(j - 1)]'(by omega))) < 0)) with b88 | b88
   ·have c89 := of_decide_eq_true b88
    refine cE_cond true (uw87_34.trans (congrArg Value.bool b88)) (fun _ => ?_) (fun h => by cases h)
    refine cE_skip (then_n (cE_seq (cE_block (cE_regionM (fun (D : Nat → Bool) (w : World) => St w0 w L ∧ (D 15 = false → St w0 w (rowT 96 infoE v_xs zs :: L)) ∧ (D 15 = true → D 17 = false → St w0 w (rowT 96 infoE v_xs (zs.set (j) (zs[(j - 1)]'(by omega))) :: L)) ∧ (D 17 = true → St w0 w (rowT 96 infoE v_xs ((zs.set (j) (zs[(j - 1)]'(by omega))).set ((j - 1)) (zs[j]'(by omega))) :: L))) [[(0, none)], [(9, none)], [(0, none)], [(9, none)], [(40, some 3)], [(0, none)], [(9, none)], [(43, some 6)], [(42, some 5), (44, some 7)], [(45, some 8)], [(0, none)], [(9, none)], [(47, some 10), (48, some 11)], [(49, some 12)], [(37, some 0), (38, some 1)], [(51, some 14), (46, some 9)], [(39, some 2), (41, some 4)], [(52, some 16), (50, some 13)]] [15, 17] [(kEq v_xs), (kEq (iV (j : Int))), (kEq v_xs), (kEq (iV (j : Int))), (kEq (iV ((j : Int) - 1))), (kEq v_xs), (kEq (iV (j : Int))), (kEq (iV ((j : Int) - 1))), (kPtU [15, 17] [(iV ((zs[(j - 1)]'(by omega)).Id)), (iV ((zs[(j - 1)]'(by omega)).Tier)), (iV ((zs[(j - 1)]'(by omega)).From)), (iV ((zs[(j - 1)]'(by omega)).To)), (.int .u32 ((zs[(j - 1)]'(by omega)).Sum))]), (kEq (.agg #[(iV ((zs[(j - 1)]'(by omega)).Id)), (iV ((zs[(j - 1)]'(by omega)).Tier)), (iV ((zs[(j - 1)]'(by omega)).From)), (iV ((zs[(j - 1)]'(by omega)).To)), (.int .u32 ((zs[(j - 1)]'(by omega)).Sum))])), (kEq v_xs), (kEq (iV (j : Int))), (kPtU [15, 17] [(iV ((zs[j]'(by omega)).Id)), (iV ((zs[j]'(by omega)).Tier)), (iV ((zs[j]'(by omega)).From)), (iV ((zs[j]'(by omega)).To)), (.int .u32 ((zs[j]'(by omega)).Sum))]), (kEq (.agg #[(iV ((zs[j]'(by omega)).Id)), (iV ((zs[j]'(by omega)).Tier)), (iV ((zs[j]'(by omega)).From)), (iV ((zs[j]'(by omega)).To)), (.int .u32 ((zs[j]'(by omega)).Sum))])), (kRow v_xs (j * infoE.size)), kAny, (kRow v_xs ((j - 1) * infoE.size)), kAny] ⟨mEq, mEq, mEq, mEq, mEq, mEq, mEq, mEq, (mPtUs (by decide)), mEq, mEq, mEq, (mPtUs (by decide)), mEq, mRow, mAny, mRow, mAny, trivial⟩ (by kernel_rfl) rfl (by kernel_rfl) ⟨hst.drewW.sub (.cons _ (List.Sublist.refl _)), (fun _ => hst.drewW), (fun h => absurd h Bool.false_ne_true), (fun h => absurd h Bool.false_ne_true)⟩ (fun hM => ⟨?_, ?_, ?_, ?_, ?_, ?_, ?_, ?_, ?_, ?_, ?_, ?_, ?_, ?_, ?_, ?_, ?_, ?_, trivial⟩) ?_))))
    ·rintro D ρo wo nD eD cD jD aD ⟨f0, _⟩
     exact go_plain (op_move v_xs (f0.trans uw87_0) (kN0 (i := 0) hM (by decide) (by exact jD) (by exact rfl)))
    ·rintro D ρo wo nD eD cD jD aD ⟨f9, _⟩
     exact go_plain (op_move (iV (j : Int)) (f9.trans uw87_9) (kN0 (i := 1) hM (by decide) (by exact jD) (by exact rfl)))
    ·rintro D ρo wo nD eD cD jD aD ⟨f0, _⟩
     exact go_plain (op_move v_xs (f0.trans uw87_0) (kN0 (i := 2) hM (by decide) (by exact jD) (by exact rfl)))
    ·rintro D ρo wo nD eD cD jD aD ⟨f9, _⟩
     exact go_plain (op_move (iV (j : Int)) (f9.trans uw87_9) (kN0 (i := 3) hM (by decide) (by exact jD) (by exact rfl)))
    ·rintro D ρo wo nD eD cD jD aD ⟨f40, _⟩
     exact go_plain (op_sub (k := .i64) (a := (j : Int)) (b := 1) ((j : Int) - 1) f40 rfl (xi64 (by omega) (by omega)) (kN0 (i := 4) hM (by decide) (by exact jD) (by exact rfl)))
    ·rintro D ρo wo nD eD cD jD aD ⟨f0, _⟩
     exact go_plain (op_move v_xs (f0.trans uw87_0) (kN0 (i := 5) hM (by decide) (by exact jD) (by exact rfl)))
    ·rintro D ρo wo nD eD cD jD aD ⟨f9, _⟩
     exact go_plain (op_move (iV (j : Int)) (f9.trans uw87_9) (kN0 (i := 6) hM (by decide) (by exact jD) (by exact rfl)))
    ·rintro D ρo wo nD eD cD jD aD ⟨f43, _⟩
     exact go_plain (op_sub (k := .i64) (a := (j : Int)) (b := 1) ((j : Int) - 1) f43 rfl (xi64 (by omega) (by omega)) (kN0 (i := 7) hM (by decide) (by exact jD) (by exact rfl)))
    ·rintro D ρo wo nD eD cD jD aD ⟨f42, f44, _⟩
     have hst := jD.2.1 (not_yet nD (fun hm => (cD 15 8 hm (by kernel_rfl))))
     refine go_plain (op_indexAddrN (E := infoE) (xs := zs) (j - 1) Try.underlying92 Try.sizeOf96 f42 (hst.sl 0 rfl) f44 (by omega) (by omega) (fun a109 o110 p111 => ?_))
     exact (kN0 (i := 8) hM (by decide) (by exact jD) (by exact ⟨_, _, rfl, fun _ => p111⟩))
    ·rintro D ρo wo nD eD cD jD aD ⟨f45, _⟩
     obtain ⟨a112, o113, e114, p115⟩ := f45
     have p115 := p115 (by intro m hm; simp only [List.mem_cons, List.not_mem_nil, or_false] at hm; rcases hm with rfl | rfl; exact (not_yet nD (fun hm => (cD 15 9 hm (by kernel_rfl)))); exact (not_yet nD (fun hm => (cD 17 9 hm (by kernel_rfl)))))
     exact go_plain (op_loadN (cs := [(iV ((zs[(j - 1)]'(by omega)).Id)), (iV ((zs[(j - 1)]'(by omega)).Tier)), (iV ((zs[(j - 1)]'(by omega)).From)), (iV ((zs[(j - 1)]'(by omega)).To)), (.int .u32 ((zs[(j - 1)]'(by omega)).Sum))]) Try.isAgg96 Try.sizeOf96 e114 (Pt.of p115 rfl) rfl (kN0 (i := 9) hM (by decide) (by exact jD) (by exact rfl)))
    ·rintro D ρo wo nD eD cD jD aD ⟨f0, _⟩
     exact go_plain (op_move v_xs (f0.trans uw87_0) (kN0 (i := 10) hM (by decide) (by exact jD) (by exact rfl)))
    ·rintro D ρo wo nD eD cD jD aD ⟨f9, _⟩
     exact go_plain (op_move (iV (j : Int)) (f9.trans uw87_9) (kN0 (i := 11) hM (by decide) (by exact jD) (by exact rfl)))
    ·rintro D ρo wo nD eD cD jD aD ⟨f47, f48, _⟩
     have hst := jD.2.1 (not_yet nD (fun hm => (cD 13 12 (cD 15 13 hm (by kernel_rfl)) (by kernel_rfl))))
     refine go_plain (op_indexAddrN (E := infoE) (xs := zs) j Try.underlying92 Try.sizeOf96 f47 (hst.sl 0 rfl) f48 (by omega) (by omega) (fun a116 o117 p118 => ?_))
     exact (kN0 (i := 12) hM (by decide) (by exact jD) (by exact ⟨_, _, rfl, fun _ => p118⟩))
    ·rintro D ρo wo nD eD cD jD aD ⟨f49, _⟩
     obtain ⟨a119, o120, e121, p122⟩ := f49
     have p122 := p122 (by intro m hm; simp only [List.mem_cons, List.not_mem_nil, or_false] at hm; rcases hm with rfl | rfl; exact (not_yet nD (fun hm => (cD 15 13 hm (by kernel_rfl)))); exact (not_yet nD (fun hm => (cD 17 13 hm (by kernel_rfl)))))
     exact go_plain (op_loadN (cs := [(iV ((zs[j]'(by omega)).Id)), (iV ((zs[j]'(by omega)).Tier)), (iV ((zs[j]'(by omega)).From)), (iV ((zs[j]'(by omega)).To)), (.int .u32 ((zs[j]'(by omega)).Sum))]) Try.isAgg96 Try.sizeOf96 e121 (Pt.of p122 rfl) rfl (kN0 (i := 13) hM (by decide) (by exact jD) (by exact rfl)))
    ·rintro D ρo wo nD eD cD jD aD ⟨f37, f38, _⟩
     have hst := jD.2.1 (not_yet nD (fun hm => (cD 15 14 hm (by kernel_rfl))))
     refine go_plain (op_indexRowN hst 0 rfl j Try.underlying92 Try.sizeOf96 f37 f38 (by omega) (by omega) (fun g127 hb126 p125 => ?_))
     exact (kN0 (i := 14) hM (by decide) (by exact jD) (by exact ⟨_, hb126, rfl⟩))
    ·rintro D ρo wo nD eD cD jD aD ⟨f51, f46, _⟩
     have hst := jD.2.1 nD
     obtain ⟨g128, hb130, e129⟩ := f51
     refine go_plain (op_storeRowN (y := (zs[(j - 1)]'(by omega))) hst 0 rfl hb130 Try.sizeOf96 e129 f46 (j) rfl (by omega) rfl (fun w131 hst => ?_))
     refine ⟨by exact ⟨hst.sub (.cons _ (List.Sublist.refl _)), (fun y0 => absurd y0 (fun h => Bool.noConfusion h)), (fun y0 y1 => hst.sub (.cons_cons _ (List.Sublist.refl _))), (fun y0 => absurd (show D 17 = true from y0) (by rw [(not_yet nD (fun hm => (cD 17 15 hm (by kernel_rfl))))]; decide))⟩, by exact trivial, kX [] (by exact ⟨Or.inr (Or.inr (Or.inr iEq)), Or.inr (Or.inr (Or.inr iEq)), Or.inr (Or.inr (Or.inr iEq)), Or.inr (Or.inr (Or.inr iEq)), Or.inr (Or.inr (Or.inr iEq)), Or.inr (Or.inr (Or.inr iEq)), Or.inr (Or.inr (Or.inr iEq)), Or.inr (Or.inr (Or.inr iEq)), Or.inr (Or.inr (Or.inr (iPtU (by decide)))), Or.inr (Or.inr (Or.inr iEq)), Or.inr (Or.inr (Or.inr iEq)), Or.inr (Or.inr (Or.inr iEq)), Or.inr (Or.inr (Or.inr (iPtU (by decide)))), Or.inr (Or.inr (Or.inr iEq)), Or.inr (Or.inr (Or.inr iRow)), Or.inl rfl, Or.inr (Or.inr (Or.inl (not_yet nD (fun hm => (cD 16 15 hm (by kernel_rfl)))))), Or.inr (Or.inr (Or.inl (not_yet nD (fun hm => (cD 17 15 hm (by kernel_rfl)))))), trivial⟩) ?_⟩
     intro j d hj; cases hj
    ·rintro D ρo wo nD eD cD jD aD ⟨f39, f41, _⟩
     have hst := jD.2.2.1 (eD 15 (by kernel_rfl)) (not_yet nD (fun hm => (cD 17 16 hm (by kernel_rfl))))
     refine go_plain (op_indexRowN hst 0 rfl (j - 1) Try.underlying92 Try.sizeOf96 f39 f41 (by omega) (by (simp only [List.length_set]; omega)) (fun g137 hb136 p135 => ?_))
     exact (kN0 (i := 16) hM (by decide) (by exact jD) (by exact ⟨_, hb136, rfl⟩))
    ·rintro D ρo wo nD eD cD jD aD ⟨f52, f50, _⟩
     have hst := jD.2.2.1 (eD 15 (by kernel_rfl)) nD
     obtain ⟨g138, hb140, e139⟩ := f52
     refine go_plain (op_storeRowN (y := (zs[j]'(by omega))) hst 0 rfl hb140 Try.sizeOf96 e139 f50 ((j - 1)) rfl (by (simp only [List.length_set]; omega)) rfl (fun w141 hst => ?_))
     refine ⟨by exact ⟨hst.sub (.cons _ (List.Sublist.refl _)), (fun y0 => absurd (show D 15 = false from y0) (by rw [(eD 15 (by kernel_rfl))]; decide)), (fun y0 y1 => absurd y1 (fun h => Bool.noConfusion h)), (fun y0 => hst.sub (.cons_cons _ (List.Sublist.refl _)))⟩, by exact trivial, kX [] (by exact ⟨Or.inr (Or.inr (Or.inr iEq)), Or.inr (Or.inr (Or.inr iEq)), Or.inr (Or.inr (Or.inr iEq)), Or.inr (Or.inr (Or.inr iEq)), Or.inr (Or.inr (Or.inr iEq)), Or.inr (Or.inr (Or.inr iEq)), Or.inr (Or.inr (Or.inr iEq)), Or.inr (Or.inr (Or.inr iEq)), Or.inr (Or.inr (Or.inr (iPtU (by decide)))), Or.inr (Or.inr (Or.inr iEq)), Or.inr (Or.inr (Or.inr iEq)), Or.inr (Or.inr (Or.inr iEq)), Or.inr (Or.inr (Or.inr (iPtU (by decide)))), Or.inr (Or.inr (Or.inr iEq)), Or.inr (Or.inr (Or.inr iRow)), Or.inr (Or.inr (Or.inr iAny)), Or.inr (Or.inr (Or.inr iRow)), Or.inl rfl, trivial⟩) ?_⟩
     intro j d hj; cases hj
    intro ρ143 w144 Dw144 hallw144 hJw144 hRw144 hkw144
    have hst : St w0 w144 (rowT 96 infoE v_xs ((zs.set (j) (zs[(j - 1)]'(by omega))).set ((j - 1)) (zs[j]'(by omega))) :: L) := hJw144.2.2.2 (hallw144 17 (show 17 < 18 from by decide))
    have uw144_1 := (hkw144 1 rfl).trans uw87_1
    have uw144_2 := (hkw144 2 rfl).trans uw87_2
    have uw144_3 := (hkw144 3 rfl).trans uw87_3
    have uw144_8 := (hkw144 8 rfl).trans uw87_8
    have uw144_0 := (hkw144 0 rfl).trans uw87_0
    have uw144_9 := (hkw144 9 rfl).trans uw87_9
    refine block_n (then_n (cE_region rfl (s_cons (op_move (iV (j : Int)) uw144_9 (s_cons (op_sub (k := .i64) (a := (j : Int)) (b := 1) ((j : Int) - 1) rfl rfl (xi64 (by omega) (by omega)) (s_cons (op_assign (iV ((j : Int) - 1)) rfl (s_nil (then_n ?_))))))))))
    exact ⟨_, ⟨((zs.set (j) (zs[(j - 1)]'(by omega))).set ((j - 1)) (zs[j]'(by omega))), (j - 1), rfl, uw144_1, uw144_2, uw144_3, uw144_8, uw144_0, (congrArg iV (show ((j : Int) - 1) = _ from by omega)), hst, (by omega), (by omega), (by exact turnF_trans hT2 (swp_turnF (by omega) (by omega) ⟨by omega, by omega⟩ ⟨by omega, by omega⟩)), (by exact down1_swap hD (by omega) (by omega) (by omega) (cmp_lt (by assumption)))⟩, (by simp only [id]; omega)⟩
   have c145 := of_decide_eq_false b88
   refine cE_cond false (uw87_34.trans (congrArg Value.bool b88)) (fun h => by cases h) (fun _ => ?_)
   refine cE_exit (then_x (then_x (block_hit (block_n (then_n (cE_region rfl (s_cons (op_move (iV (i : Int)) uw87_8 (s_cons (op_add (k := .i64) (a := (i : Int)) (b := 1) ((i : Int) + 1) rfl rfl (xi64 (by omega) (by omega)) (s_cons (op_assign (iV ((i : Int) + 1)) rfl (s_nil (then_n ?_))))))))))))))
   exact ⟨_, ⟨zs, (i + 1), rfl, uw87_1, uw87_2, uw87_3, uw87_0, (congrArg iV (show ((i : Int) + 1) = _ from by omega)), hst, (by omega), (by exact hT2), (by exact down1_end hD (by omega) (by omega) (by exact Or.inr ⟨by omega, cmp_ge (by assumption)⟩))⟩, (by simp only [id]; omega)⟩
  have c146 := of_decide_eq_false b11
  refine cE_regionL hst [[(9, none)], [(1, none)], [(18, some 0), (19, some 1)], [(20, some 2)], [(3, none), (21, some 3)], [(0, none), (21, some 3)], [(9, none), (21, some 3)], [(23, some 5), (24, some 6), (21, some 3)], [(25, some 7), (21, some 3)], [(0, none), (21, some 3)], [(9, none), (21, some 3)], [(28, some 10), (21, some 3)], [(27, some 9), (29, some 11), (21, some 3)], [(30, some 12), (21, some 3)], [(22, some 4), (26, some 8), (31, some 13), (21, some 3)], [(32, some 14), (21, some 3)], [(21, some 3), (33, some 15)]] [(rEq (iV (j : Int))), (rEq (iV a)), (rEq (.bool (decide (a < (j : Int))))), (rEq (.bool (decide (a < (j : Int))))), (rEq undef), (rEq undef), (rEq undef), (rEq undef), (rEq undef), (rEq undef), (rEq undef), (rEq undef), (rEq undef), (rEq undef), (rEq undef), (rEq undef), (rEq (.bool false))] (by kernel_rfl) rfl (by kernel_rfl) ⟨sEq, sEq, sEq, sEq, sEq, sEq, sEq, sEq, sEq, sEq, sEq, sEq, sEq, sEq, sEq, sEq, sEq, trivial⟩ ⟨?_, ?_, ?_, ?_, ?_, ?_, ?_, ?_, ?_, ?_, ?_, ?_, ?_, ?_, ?_, ?_, ?_, trivial⟩ ?_
  ·rintro ρ147 w148 hj149 ⟨f9, _⟩
   have hst := hj149.2
   exact go_plain (op_move (iV (j : Int)) (f9.trans q7_9) (kS hj149 rfl))
  ·rintro ρ150 w151 hj152 ⟨f1, _⟩
   have hst := hj152.2
   exact go_plain (op_move (iV a) (f1.trans q7_1) (kS hj152 rfl))
  ·rintro ρ153 w154 hj155 ⟨f18, f19, _⟩
   have hst := hj155.2
   exact go_plain (op_gtr (k := .i64) (a := (j : Int)) (b := a) f18 f19 (kS hj155 rfl))
  ·rintro ρ156 w157 hj158 ⟨f20, _⟩
   have hst := hj158.2
   exact go_plain (op_move (.bool (decide (a < (j : Int)))) f20 (kS hj158 rfl))
  ·rintro ρ159 w160 hj161 ⟨f3, f21, _⟩
   have hst := hj161.2
   exact go_no 21 rfl (f21.trans (congrArg Value.bool b11)) (kS hj161 rfl)
  ·rintro ρ162 w163 hj164 ⟨f0, f21, _⟩
   have hst := hj164.2
   exact go_no 21 rfl (f21.trans (congrArg Value.bool b11)) (kS hj164 rfl)
  ·rintro ρ165 w166 hj167 ⟨f9, f21, _⟩
   have hst := hj167.2
   exact go_no 21 rfl (f21.trans (congrArg Value.bool b11)) (kS hj167 rfl)
  ·rintro ρ168 w169 hj170 ⟨f23, f24, f21, _⟩
   have hst := hj170.2
   exact go_no 21 rfl (f21.trans (congrArg Value.bool b11)) (kS hj170 rfl)
  ·rintro ρ171 w172 hj173 ⟨f25, f21, _⟩
   have hst := hj173.2
   exact go_no 21 rfl (f21.trans (congrArg Value.bool b11)) (kS hj173 rfl)
  ·rintro ρ174 w175 hj176 ⟨f0, f21, _⟩
   have hst := hj176.2
   exact go_no 21 rfl (f21.trans (congrArg Value.bool b11)) (kS hj176 rfl)
  ·rintro ρ177 w178 hj179 ⟨f9, f21, _⟩
   have hst := hj179.2
   exact go_no 21 rfl (f21.trans (congrArg Value.bool b11)) (kS hj179 rfl)
  ·rintro ρ180 w181 hj182 ⟨f28, f21, _⟩
   have hst := hj182.2
   exact go_no 21 rfl (f21.trans (congrArg Value.bool b11)) (kS hj182 rfl)
  ·rintro ρ183 w184 hj185 ⟨f27, f29, f21, _⟩
   have hst := hj185.2
   exact go_no 21 rfl (f21.trans (congrArg Value.bool b11)) (kS hj185 rfl)
  ·rintro ρ186 w187 hj188 ⟨f30, f21, _⟩
   have hst := hj188.2
   exact go_no 21 rfl (f21.trans (congrArg Value.bool b11)) (kS hj188 rfl)
  ·rintro ρ189 w190 hj191 ⟨f22, f26, f31, f21, _⟩
   have hst := hj191.2
   exact go_no 21 rfl (f21.trans (congrArg Value.bool b11)) (kS hj191 rfl)
  ·rintro ρ192 w193 hj194 ⟨f32, f21, _⟩
   have hst := hj194.2
   exact go_no 21 rfl (f21.trans (congrArg Value.bool b11)) (kS hj194 rfl)
  ·rintro ρ195 w196 hj197 ⟨f21, f33, _⟩
   have hst := hj197.2
   exact go_plain (op_pick_f (.bool false) (f21.trans (congrArg Value.bool b11)) rfl (kS hj197 rfl))
  intro ρ198 w199 hbw199 hst hRw199 hkw199
  have uw199_1 := (hkw199 1 rfl).trans q7_1
  have uw199_2 := (hkw199 2 rfl).trans q7_2
  have uw199_3 := (hkw199 3 rfl).trans q7_3
  have uw199_8 := (hkw199 8 rfl).trans q7_8
  have uw199_0 := (hkw199 0 rfl).trans q7_0
  have uw199_34 : ρ198 34 = (.bool false) := hRw199 16 34 rfl
  refine then_n (cE_cond false uw199_34 (fun h => by cases h) (fun _ => ?_))
  refine cE_exit (then_x (then_x (block_hit (block_n (then_n (cE_region rfl (s_cons (op_move (iV (i : Int)) uw199_8 (s_cons (op_add (k := .i64) (a := (i : Int)) (b := 1) ((i : Int) + 1) rfl rfl (xi64 (by omega) (by omega)) (s_cons (op_assign (iV ((i : Int) + 1)) rfl (s_nil (then_n ?_))))))))))))))
  exact ⟨_, ⟨zs, (i + 1), rfl, uw199_1, uw199_2, uw199_3, uw199_0, (congrArg iV (show ((i : Int) + 1) = _ from by omega)), hst, (by omega), (by exact hT2), (by exact down1_end hD (by omega) (by omega) (by exact Or.inl (by omega)))⟩, (by simp only [id]; omega)⟩
 have c200 := of_decide_eq_false b5
 refine cE_cond false (congrArg Value.bool b5) (fun h => by cases h) (fun _ => ?_)
 refine cE_exit (then_x (then_x (block_hit (post_n (.tuple #[]) rfl ?_))))
 exact ⟨ys, rfl, hst.sub (.cons_cons _ (List.Sublist.refl _)), hT, (srt_less hS (by omega))⟩

set_option maxRecDepth 8000 in
set_option maxHeartbeats 4000000 in
theorem c_pdq {w0 w : World} {L : List Item} (v_xs : Value) (xs : List Info) (a : Int) (n : Nat) (lim : Int) (ha : a = 0) (hn : n ≤ xs.length) (h12 : n ≤ 12) (hxl : xs.length ≤ 1000000000) (hst : St w0 w (rowT 96 infoE v_xs xs :: L)) :
  Calls Try.prog 72 #[v_xs, (iV a), (iV (n : Int)), (iV lim), (.func (.func 66) #[] #[])] w fun e w' => ∃ (qs : List Info), e = .returned (.tuple #[]) ∧ St w0 w' (rowT 96 infoE v_xs qs :: L) ∧ TurnF xs qs 0 n ∧ SrtR qs 0 n := by
 refine calls_E (n := 148) (ts := []) Try.func72 rfl rfl rfl (by simp) (cE_seq (cE_region rfl (s_cons (op_assign (.bool true) rfl (s_nil (then_n (cE_seq (cE_region rfl (s_cons (op_assign (.bool true) rfl (s_nil (then_n (cE_block (cE_loop (fun (m : Nat) (ρ : Env) (w : World) => ∃ (i : Nat), m = i ∧ ρ 0 = v_xs ∧ ρ 4 = (.func (.func 66) #[] #[]) ∧ ρ 1 = (iV a) ∧ ρ 2 = (iV (n : Int)) ∧ ρ 3 = (iV lim) ∧ St w0 w (rowT 96 infoE v_xs xs :: L)) id _ ⟨0, rfl, rfl, rfl, rfl, rfl, rfl, hst⟩ ?_))))))))))))))
 rintro m202 ρ203 w204 ⟨i, hm202, q201_0, q201_4, q201_1, q201_2, q201_3, hst⟩
 refine cE_block (cE_seq (cE_region rfl (s_cons (op_move (iV (n : Int)) q201_2 (s_cons (op_move (iV a) q201_1 (s_cons (op_sub (k := .i64) (a := (n : Int)) (b := a) ((n : Int) - a) rfl rfl (xi64 (by omega) (by omega)) (s_cons (op_assign (iV ((n : Int) - a)) rfl (s_nil (then_n (cE_seq (cE_seq (cE_region rfl (s_cons (op_move (iV ((n : Int) - a)) rfl (s_cons (op_leq (k := .i64) (a := ((n : Int) - a)) (b := 12) rfl rfl ?_)))))))))))))))))))
 refine s_nil (then_n (cE_cond true (congrArg Value.bool (show (decide (((n : Int) - a) ≤ 12)) = true from (decide_eq_true (by omega)))) (fun _ => ?_) (fun h => by cases h)))
 refine cE_seq (cE_region rfl (s_cons (op_move v_xs q201_0 (s_cons (op_move (iV a) q201_1 (s_cons (op_move (iV (n : Int)) q201_2 (s_cons (op_move (.func (.func 66) #[] #[]) q201_4 (s_cons (op_call Try.call75 (evs_cons (v := v_xs) rfl (evs_cons (v := (iV a)) rfl (evs_cons (v := (iV (n : Int))) rfl (evs_cons (v := (.func (.func 66) #[] #[])) rfl evs_nil)))) (c_insertion (v_xs := v_xs) (xs := xs) (a := a) (b := (n : Int)) (an := 0) (bn := n) (ha := (by omega)) (hb := (by omega)) (hab := (by omega)) (hbl := (by omega)) (hxl := (by omega)) (hst := hst)) ?_)))))))))))
 rintro _ w206 ⟨r205, rfl, hcall, insertion_hTq, insertion_hSq⟩
 refine ⟨_, rfl, ?_⟩
 have hst : St w0 w206 (rowT 96 infoE v_xs r205 :: L) := hcall
 refine s_nil (then_n (cE_ret (then_r (block_r (then_r (block_r (post_r (.tuple #[]) rfl ?_)))))))
 exact ⟨r205, rfl, hst.sub (.cons_cons _ (List.Sublist.refl _)), (by assumption), (by assumption)⟩

set_option maxRecDepth 8000 in
theorem c_sortF {w0 w : World} {L : List Item} (v_xs : Value) (xs : List Info) (hxl : xs.length ≤ 12) (hst : St w0 w (rowT 96 infoE v_xs xs :: L)) :
  Calls Try.prog 65 #[v_xs, (.func (.func 66) #[] #[])] w fun e w' => ∃ (qs : List Info), e = .returned (.tuple #[]) ∧ St w0 w' (rowT 96 infoE v_xs qs :: L) ∧ qs.Perm xs ∧ SortedF qs := by
 refine calls_E (n := 14) (ts := []) Try.func65 rfl rfl rfl (by simp) (cE_seq (cE_region rfl (s_cons (op_move v_xs rfl (s_cons (op_len (E := infoE) (xs := xs) Try.underlying92 rfl (hst.sl 0 rfl) (s_cons (op_assign (iV (xs.length : Int)) rfl (s_nil (then_n (cE_region rfl (s_cons (op_move v_xs rfl (s_cons (op_move (iV (xs.length : Int)) rfl (s_cons (op_move (iV (xs.length : Int)) rfl ?_)))))))))))))))))
 refine s_cons (op_conv (k := .i64) (a := (xs.length : Int)) (xs.length : Int) Try.underlying47 (by rw [Try.underlying3]; rfl) rfl (xu64 (by omega) (by omega)) (s_cons (op_call Try.call73 (evs_cons (v := (.int .u64 (xs.length : Int))) rfl evs_nil) (c_len (w0 := w) (x := (xs.length : Int)) (hx0 := (by omega)) (hx1 := (by omega))) ?_)))
 rintro _ w208 ⟨r207, rfl, hcall⟩
 refine ⟨_, rfl, ?_⟩
 have hst := hst.call hcall
 refine s_cons (op_move (.func (.func 66) #[] #[]) rfl (s_cons (op_call Try.call72 (evs_cons (v := v_xs) rfl (evs_cons (v := (iV 0)) rfl (evs_cons (v := (iV (xs.length : Int))) rfl (evs_cons (v := (iV r207)) rfl (evs_cons (v := (.func (.func 66) #[] #[])) rfl evs_nil))))) (c_pdq (v_xs := v_xs) (xs := xs) (a := 0) (n := xs.length) (lim := r207) (ha := (by omega)) (hn := (by omega)) (h12 := (by omega)) (hxl := (by omega)) (hst := hst)) ?_)))
 rintro _ w210 ⟨r209, rfl, hcall, pdq_hTq, pdq_hSq⟩
 refine ⟨_, rfl, ?_⟩
 have hst : St w0 w210 (rowT 96 infoE v_xs r209 :: L) := hcall
 refine s_nil (post_n (.tuple #[]) rfl ?_)
 exact ⟨r209, rfl, hst.sub (.cons_cons _ (List.Sublist.refl _)), (turnF_sorted (by assumption) (by assumption) rfl).1, (turnF_sorted (by assumption) (by assumption) rfl).2⟩

end Go.Proofs.Ytldfnkhccaglmaa
