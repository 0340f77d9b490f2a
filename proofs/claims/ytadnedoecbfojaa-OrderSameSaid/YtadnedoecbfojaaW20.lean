/- api.Info] -/
import Derived.Test.YtadnedoecbfojaaOS
import Derived.Test.YtadnedoecbfojaaW10
namespace Go.Proofs.Ytadnedoecbfojaa
open Go.RowKit

set_option maxHeartbeats 4000000 in
theorem c_insertion {w0 w : World} {L : List Item} (v_xs : Value) (xs : List Info) (a : Int) (b : Int) (an : Nat) (bn : Nat) (ha : a = (an : Int)) (hb : b = (bn : Int)) (hab : an ≤ bn) (hbl : bn ≤ xs.length) (hxl : xs.length ≤ 1000000000) (hst : St w0 w (rowT 34 infoE v_xs xs :: L)) :
    Calls Try.prog 29 #[v_xs, (.int .i64 a), (.int .i64 b), (.func (.func 24) #[] #[])] w fun e w' => ∃ (qs : List Info), e = .returned (.tuple #[]) ∧ St w0 w' (rowT 34 infoE v_xs qs :: L) ∧ Turned xs qs an bn ∧ SrtR qs an bn := by
  refine calls_E (n := 53) (ts := []) Try.func29 rfl rfl rfl (by simp) ?_
  refine cE_seq ?_
  refine cE_region rfl ?_
  refine s_cons (op_move (.int .i64 a) rfl ?_)
  refine s_cons (op_add (k := .i64) (a := a) (b := 1) (a + 1) rfl rfl (xi64 (by omega) (by omega)) ?_)
  refine s_cons (op_assign (.int .i64 (a + 1)) rfl ?_)
  refine s_nil ?_
  refine then_n ?_
  refine cE_block ?_
  refine cE_loop (fun (m : Nat) (ρ : Env) (w : World) => ∃ (ys : List Info) (i : Nat), m = bn - i ∧ ρ 1 = (.int .i64 a) ∧ ρ 2 = (.int .i64 b) ∧ ρ 3 = (.func (.func 24) #[] #[]) ∧ ρ 0 = v_xs ∧ ρ 8 = (.int .i64 (i : Int)) ∧ St w0 w (rowT 34 infoE v_xs ys :: L) ∧ (an < i) ∧ (Turned xs ys an bn) ∧ (SrtR ys an i)) id _ ⟨xs, (an + 1), rfl, rfl, rfl, rfl, rfl, (congrArg (Value.int .i64) (show (a + 1) = _ from by omega)), hst, (by omega), (by first | exact turned_refl _ _ _ | exact hT2), (by first | exact srt_one _ _ | exact down1_end hD (by omega) (by omega) (by first | exact Or.inl (by omega) | exact Or.inr ⟨by omega, cmp_ge (by assumption)⟩))⟩ ?_
  rintro m2 ρ3 w4 ⟨ys, i, hm2, q1_1, q1_2, q1_3, q1_0, q1_8, hst, hi, hT, hS⟩
  have hyl := hT.1
  refine cE_seq ?_
  refine cE_seq ?_
  refine cE_region rfl ?_
  refine s_cons (op_move (.int .i64 (i : Int)) q1_8 ?_)
  refine s_cons (op_move (.int .i64 b) q1_2 ?_)
  refine s_cons (op_lss (k := .i64) (a := (i : Int)) (b := b) rfl rfl ?_)
  refine s_nil ?_
  refine then_n ?_
  rcases Bool.eq_false_or_eq_true (decide ((i : Int) < b)) with b5 | b5
  · have c6 : (i : Int) < b := of_decide_eq_true b5
    refine cE_cond true (congrArg Value.bool b5) (fun _ => ?_) (fun h => by cases h)
    refine cE_skip ?_
    refine then_n ?_
    refine cE_seq ?_
    refine cE_block ?_
    refine cE_seq ?_
    refine cE_region rfl ?_
    refine s_cons (op_move (.int .i64 (i : Int)) q1_8 ?_)
    refine s_cons (op_assign (.int .i64 (i : Int)) rfl ?_)
    refine s_nil ?_
    refine then_n ?_
    refine cE_block ?_
    refine cE_loop (fun (m : Nat) (ρ : Env) (w : World) => ∃ (zs : List Info) (j : Nat), m = j ∧ ρ 1 = (.int .i64 a) ∧ ρ 2 = (.int .i64 b) ∧ ρ 3 = (.func (.func 24) #[] #[]) ∧ ρ 8 = (.int .i64 (i : Int)) ∧ ρ 0 = v_xs ∧ ρ 9 = (.int .i64 (j : Int)) ∧ St w0 w (rowT 34 infoE v_xs zs :: L) ∧ (an ≤ j) ∧ (j ≤ i) ∧ (Turned xs zs an bn) ∧ (Down1 zs an i j)) id _ ⟨ys, i, rfl, q1_1, q1_2, q1_3, q1_8, q1_0, rfl, hst, (by omega), (by omega), (by first | exact hT | exact turned_trans hT2 (swp_turned (by omega) (by omega) ⟨by omega, by omega⟩ ⟨by omega, by omega⟩)), (by first | exact down1_start hS | exact down1_swap hD (by omega) (by omega) (by omega) (cmp_lt (by assumption)))⟩ ?_
    rintro m8 ρ9 w10 ⟨zs, j, hm8, q7_1, q7_2, q7_3, q7_8, q7_0, q7_9, hst, hja, hji, hT2, hD⟩
    have hzl := hT2.1
    refine cE_seq ?_
    refine cE_seq ?_
    rcases Bool.eq_false_or_eq_true (decide (a < (j : Int))) with b11 | b11
    · have c12 : a < (j : Int) := of_decide_eq_true b11
      refine cE_regionL hst [[(9, none)], [(1, none)], [(18, some 0), (19, some 1)], [(20, some 2)], [(3, none), (21, some 3)], [(0, none), (21, some 3)], [(9, none), (21, some 3)], [(23, some 5), (24, some 6), (21, some 3)], [(25, some 7), (21, some 3)], [(0, none), (21, some 3)], [(9, none), (21, some 3)], [(28, some 10), (21, some 3)], [(27, some 9), (29, some 11), (21, some 3)], [(30, some 12), (21, some 3)], [(22, some 4), (26, some 8), (31, some 13), (21, some 3)], [(32, some 14), (21, some 3)], [(21, some 3), (33, some 15)]] [(rEq (.int .i64 (j : Int))), (rEq (.int .i64 a)), (rEq (.bool (decide (a < (j : Int))))), (rEq (.bool (decide (a < (j : Int))))), (rEq (.func (.func 24) #[] #[])), (rEq v_xs), (rEq (.int .i64 (j : Int))), (rPt [(.int .i64 ((zs[j]'(by first | omega | (simp only [List.length_set]; omega))).Id)), (.int .i64 ((zs[j]'(by first | omega | (simp only [List.length_set]; omega))).Tier)), (.int .i64 ((zs[j]'(by first | omega | (simp only [List.length_set]; omega))).From)), (.int .i64 ((zs[j]'(by first | omega | (simp only [List.length_set]; omega))).To)), (.int .u32 ((zs[j]'(by first | omega | (simp only [List.length_set]; omega))).Sum))]), (rEq (.agg #[(.int .i64 ((zs[j]'(by first | omega | (simp only [List.length_set]; omega))).Id)), (.int .i64 ((zs[j]'(by first | omega | (simp only [List.length_set]; omega))).Tier)), (.int .i64 ((zs[j]'(by first | omega | (simp only [List.length_set]; omega))).From)), (.int .i64 ((zs[j]'(by first | omega | (simp only [List.length_set]; omega))).To)), (.int .u32 ((zs[j]'(by first | omega | (simp only [List.length_set]; omega))).Sum))])), (rEq v_xs), (rEq (.int .i64 (j : Int))), (rEq (.int .i64 ((j : Int) - 1))), (rPt [(.int .i64 ((zs[(j - 1)]'(by first | omega | (simp only [List.length_set]; omega))).Id)), (.int .i64 ((zs[(j - 1)]'(by first | omega | (simp only [List.length_set]; omega))).Tier)), (.int .i64 ((zs[(j - 1)]'(by first | omega | (simp only [List.length_set]; omega))).From)), (.int .i64 ((zs[(j - 1)]'(by first | omega | (simp only [List.length_set]; omega))).To)), (.int .u32 ((zs[(j - 1)]'(by first | omega | (simp only [List.length_set]; omega))).Sum))]), (rEq (.agg #[(.int .i64 ((zs[(j - 1)]'(by first | omega | (simp only [List.length_set]; omega))).Id)), (.int .i64 ((zs[(j - 1)]'(by first | omega | (simp only [List.length_set]; omega))).Tier)), (.int .i64 ((zs[(j - 1)]'(by first | omega | (simp only [List.length_set]; omega))).From)), (.int .i64 ((zs[(j - 1)]'(by first | omega | (simp only [List.length_set]; omega))).To)), (.int .u32 ((zs[(j - 1)]'(by first | omega | (simp only [List.length_set]; omega))).Sum))])), (rEq (.int .i64 (cmpB (zs[j]'(by first | omega | (simp only [List.length_set]; omega))) (zs[(j - 1)]'(by first | omega | (simp only [List.length_set]; omega)))))), (rEq (.bool (decide ((cmpB (zs[j]'(by first | omega | (simp only [List.length_set]; omega))) (zs[(j - 1)]'(by first | omega | (simp only [List.length_set]; omega)))) < 0)))), (rEq (.bool (decide ((cmpB (zs[j]'(by first | omega | (simp only [List.length_set]; omega))) (zs[(j - 1)]'(by first | omega | (simp only [List.length_set]; omega)))) < 0))))] (by kernel_rfl) rfl (by kernel_rfl) ⟨sEq, sEq, sEq, sEq, sEq, sEq, sEq, sPt, sEq, sEq, sEq, sEq, sPt, sEq, sEq, sEq, sEq, trivial⟩ ⟨?_, ?_, ?_, ?_, ?_, ?_, ?_, ?_, ?_, ?_, ?_, ?_, ?_, ?_, ?_, ?_, ?_, trivial⟩ ?_
      · rintro ρ20 w21 hj22 ⟨f9, _⟩
        have hst := hj22.2
        exact go_plain (op_move (.int .i64 (j : Int)) (f9.trans q7_9) (kS hj22 rfl))
      · rintro ρ23 w24 hj25 ⟨f1, _⟩
        have hst := hj25.2
        exact go_plain (op_move (.int .i64 a) (f1.trans q7_1) (kS hj25 rfl))
      · rintro ρ26 w27 hj28 ⟨f18, f19, _⟩
        have hst := hj28.2
        exact go_plain (op_gtr (k := .i64) (a := (j : Int)) (b := a) f18 f19 (kS hj28 rfl))
      · rintro ρ29 w30 hj31 ⟨f20, _⟩
        have hst := hj31.2
        exact go_plain (op_move (.bool (decide (a < (j : Int)))) f20 (kS hj31 rfl))
      · rintro ρ32 w33 hj34 ⟨f3, f21, _⟩
        have hst := hj34.2
        exact go_yes 21 rfl (f21.trans (congrArg Value.bool b11)) (op_move (.func (.func 24) #[] #[]) (f3.trans q7_3) (kS hj34 rfl))
      · rintro ρ35 w36 hj37 ⟨f0, f21, _⟩
        have hst := hj37.2
        exact go_yes 21 rfl (f21.trans (congrArg Value.bool b11)) (op_move v_xs (f0.trans q7_0) (kS hj37 rfl))
      · rintro ρ38 w39 hj40 ⟨f9, f21, _⟩
        have hst := hj40.2
        exact go_yes 21 rfl (f21.trans (congrArg Value.bool b11)) (op_move (.int .i64 (j : Int)) (f9.trans q7_9) (kS hj40 rfl))
      · rintro ρ41 w42 hj43 ⟨f23, f24, f21, _⟩
        have hst := hj43.2
        refine go_yes 21 rfl (f21.trans (congrArg Value.bool b11)) (op_indexAddrN (E := infoE) (xs := zs) j Try.underlying22 Try.sizeOf34 f23 (hst.sl 0 rfl) f24 (by omega) (by first | omega | (simp only [List.length_set]; omega)) (fun a44 o45 p46 => ?_))
        exact kS hj43 ⟨_, _, rfl, p46⟩
      · rintro ρ47 w48 hj49 ⟨f25, f21, _⟩
        have hst := hj49.2
        obtain ⟨a50, o51, e52, p53⟩ := f25
        exact go_yes 21 rfl (f21.trans (congrArg Value.bool b11)) (op_loadN (cs := [(.int .i64 ((zs[j]'(by first | omega | (simp only [List.length_set]; omega))).Id)), (.int .i64 ((zs[j]'(by first | omega | (simp only [List.length_set]; omega))).Tier)), (.int .i64 ((zs[j]'(by first | omega | (simp only [List.length_set]; omega))).From)), (.int .i64 ((zs[j]'(by first | omega | (simp only [List.length_set]; omega))).To)), (.int .u32 ((zs[j]'(by first | omega | (simp only [List.length_set]; omega))).Sum))]) Try.isAgg34 Try.sizeOf34 e52 (Pt.of p53 rfl) rfl (kS hj49 rfl))
      · rintro ρ54 w55 hj56 ⟨f0, f21, _⟩
        have hst := hj56.2
        exact go_yes 21 rfl (f21.trans (congrArg Value.bool b11)) (op_move v_xs (f0.trans q7_0) (kS hj56 rfl))
      · rintro ρ57 w58 hj59 ⟨f9, f21, _⟩
        have hst := hj59.2
        exact go_yes 21 rfl (f21.trans (congrArg Value.bool b11)) (op_move (.int .i64 (j : Int)) (f9.trans q7_9) (kS hj59 rfl))
      · rintro ρ60 w61 hj62 ⟨f28, f21, _⟩
        have hst := hj62.2
        exact go_yes 21 rfl (f21.trans (congrArg Value.bool b11)) (op_sub (k := .i64) (a := (j : Int)) (b := 1) ((j : Int) - 1) f28 rfl (xi64 (by omega) (by omega)) (kS hj62 rfl))
      · rintro ρ63 w64 hj65 ⟨f27, f29, f21, _⟩
        have hst := hj65.2
        refine go_yes 21 rfl (f21.trans (congrArg Value.bool b11)) (op_indexAddrN (E := infoE) (xs := zs) (j - 1) Try.underlying22 Try.sizeOf34 f27 (hst.sl 0 rfl) f29 (by omega) (by first | omega | (simp only [List.length_set]; omega)) (fun a66 o67 p68 => ?_))
        exact kS hj65 ⟨_, _, rfl, p68⟩
      · rintro ρ69 w70 hj71 ⟨f30, f21, _⟩
        have hst := hj71.2
        obtain ⟨a72, o73, e74, p75⟩ := f30
        exact go_yes 21 rfl (f21.trans (congrArg Value.bool b11)) (op_loadN (cs := [(.int .i64 ((zs[(j - 1)]'(by first | omega | (simp only [List.length_set]; omega))).Id)), (.int .i64 ((zs[(j - 1)]'(by first | omega | (simp only [List.length_set]; omega))).Tier)), (.int .i64 ((zs[(j - 1)]'(by first | omega | (simp only [List.length_set]; omega))).From)), (.int .i64 ((zs[(j - 1)]'(by first | omega | (simp only [List.length_set]; omega))).To)), (.int .u32 ((zs[(j - 1)]'(by first | omega | (simp only [List.length_set]; omega))).Sum))]) Try.isAgg34 Try.sizeOf34 e74 (Pt.of p75 rfl) rfl (kS hj71 rfl))
      · rintro ρ76 w77 hj78 ⟨f22, f26, f31, f21, _⟩
        have hst := hj78.2
        refine go_yes 21 rfl (f21.trans (congrArg Value.bool b11)) (op_callv (cs := []) Try.call24 f22 (evs_cons (v := (.agg #[(.int .i64 ((zs[j]'(by first | omega | (simp only [List.length_set]; omega))).Id)), (.int .i64 ((zs[j]'(by first | omega | (simp only [List.length_set]; omega))).Tier)), (.int .i64 ((zs[j]'(by first | omega | (simp only [List.length_set]; omega))).From)), (.int .i64 ((zs[j]'(by first | omega | (simp only [List.length_set]; omega))).To)), (.int .u32 ((zs[j]'(by first | omega | (simp only [List.length_set]; omega))).Sum))])) f26 (evs_cons (v := (.agg #[(.int .i64 ((zs[(j - 1)]'(by first | omega | (simp only [List.length_set]; omega))).Id)), (.int .i64 ((zs[(j - 1)]'(by first | omega | (simp only [List.length_set]; omega))).Tier)), (.int .i64 ((zs[(j - 1)]'(by first | omega | (simp only [List.length_set]; omega))).From)), (.int .i64 ((zs[(j - 1)]'(by first | omega | (simp only [List.length_set]; omega))).To)), (.int .u32 ((zs[(j - 1)]'(by first | omega | (simp only [List.length_set]; omega))).Sum))])) f31 evs_nil)) (c_cmpB (w0 := w77) (a := (zs[j]'(by first | omega | (simp only [List.length_set]; omega)))) (b := (zs[(j - 1)]'(by first | omega | (simp only [List.length_set]; omega))))) ?_)
        rintro _ w79 ⟨rfl, hcall⟩
        refine ⟨_, rfl, ?_⟩
        exact kD hj78 hcall rfl
      · rintro ρ80 w81 hj82 ⟨f32, f21, _⟩
        have hst := hj82.2
        exact go_yes 21 rfl (f21.trans (congrArg Value.bool b11)) (op_lss (k := .i64) (a := (cmpB (zs[j]'(by first | omega | (simp only [List.length_set]; omega))) (zs[(j - 1)]'(by first | omega | (simp only [List.length_set]; omega))))) (b := 0) f32 rfl (kS hj82 rfl))
      · rintro ρ83 w84 hj85 ⟨f21, f33, _⟩
        have hst := hj85.2
        exact go_plain (op_pick_t (.bool (decide ((cmpB (zs[j]'(by first | omega | (simp only [List.length_set]; omega))) (zs[(j - 1)]'(by first | omega | (simp only [List.length_set]; omega)))) < 0))) (f21.trans (congrArg Value.bool b11)) f33 (kS hj85 rfl))
      intro ρ86 w87 hbw87 hst hRw87 hkw87
      have uw87_1 : ρ86 1 = (.int .i64 a) := (hkw87 1 rfl).trans q7_1
      have uw87_2 : ρ86 2 = (.int .i64 b) := (hkw87 2 rfl).trans q7_2
      have uw87_3 : ρ86 3 = (.func (.func 24) #[] #[]) := (hkw87 3 rfl).trans q7_3
      have uw87_8 : ρ86 8 = (.int .i64 (i : Int)) := (hkw87 8 rfl).trans q7_8
      have uw87_0 : ρ86 0 = v_xs := (hkw87 0 rfl).trans q7_0
      have uw87_9 : ρ86 9 = (.int .i64 (j : Int)) := (hkw87 9 rfl).trans q7_9
      have uw87_34 : ρ86 34 = (.bool (decide ((cmpB (zs[j]'(by first | omega | (simp only [List.length_set]; omega))) (zs[(j - 1)]'(by first | omega | (simp only [List.length_set]; omega)))) < 0))) := hRw87 16 34 rfl
      refine then_n ?_
      rcases Bool.eq_false_or_eq_true (decide ((cmpB (zs[j]'(by first | omega | (simp only [List.length_set]; omega))) (zs[(j - 1)]'(by first | omega | (simp only [List.length_set]; omega)))) < 0)) with b88 | b88
      · have c89 : (cmpB (zs[j]'(by first | omega | (simp only [List.length_set]; omega))) (zs[(j - 1)]'(by first | omega | (simp only [List.length_set]; omega)))) < 0 := of_decide_eq_true b88
        refine cE_cond true (uw87_34.trans (congrArg Value.bool b88)) (fun _ => ?_) (fun h => by cases h)
        refine cE_skip ?_
        refine then_n ?_
        refine cE_seq ?_
        refine cE_block ?_
        have hM108 : stabML [15, 17] [(kEq v_xs), (kEq (.int .i64 (j : Int))), (kEq v_xs), (kEq (.int .i64 (j : Int))), (kEq (.int .i64 ((j : Int) - 1))), (kEq v_xs), (kEq (.int .i64 (j : Int))), (kEq (.int .i64 ((j : Int) - 1))), (kPtU [15, 17] [(.int .i64 ((zs[(j - 1)]'(by first | omega | (simp only [List.length_set]; omega))).Id)), (.int .i64 ((zs[(j - 1)]'(by first | omega | (simp only [List.length_set]; omega))).Tier)), (.int .i64 ((zs[(j - 1)]'(by first | omega | (simp only [List.length_set]; omega))).From)), (.int .i64 ((zs[(j - 1)]'(by first | omega | (simp only [List.length_set]; omega))).To)), (.int .u32 ((zs[(j - 1)]'(by first | omega | (simp only [List.length_set]; omega))).Sum))]), (kEq (.agg #[(.int .i64 ((zs[(j - 1)]'(by first | omega | (simp only [List.length_set]; omega))).Id)), (.int .i64 ((zs[(j - 1)]'(by first | omega | (simp only [List.length_set]; omega))).Tier)), (.int .i64 ((zs[(j - 1)]'(by first | omega | (simp only [List.length_set]; omega))).From)), (.int .i64 ((zs[(j - 1)]'(by first | omega | (simp only [List.length_set]; omega))).To)), (.int .u32 ((zs[(j - 1)]'(by first | omega | (simp only [List.length_set]; omega))).Sum))])), (kEq v_xs), (kEq (.int .i64 (j : Int))), (kPtU [15, 17] [(.int .i64 ((zs[j]'(by first | omega | (simp only [List.length_set]; omega))).Id)), (.int .i64 ((zs[j]'(by first | omega | (simp only [List.length_set]; omega))).Tier)), (.int .i64 ((zs[j]'(by first | omega | (simp only [List.length_set]; omega))).From)), (.int .i64 ((zs[j]'(by first | omega | (simp only [List.length_set]; omega))).To)), (.int .u32 ((zs[j]'(by first | omega | (simp only [List.length_set]; omega))).Sum))]), (kEq (.agg #[(.int .i64 ((zs[j]'(by first | omega | (simp only [List.length_set]; omega))).Id)), (.int .i64 ((zs[j]'(by first | omega | (simp only [List.length_set]; omega))).Tier)), (.int .i64 ((zs[j]'(by first | omega | (simp only [List.length_set]; omega))).From)), (.int .i64 ((zs[j]'(by first | omega | (simp only [List.length_set]; omega))).To)), (.int .u32 ((zs[j]'(by first | omega | (simp only [List.length_set]; omega))).Sum))])), (kRow v_xs (j * infoE.size)), kAny, (kRow v_xs ((j - 1) * infoE.size)), kAny] := ⟨mEq, mEq, mEq, mEq, mEq, mEq, mEq, mEq, (mPtUs (by decide)), mEq, mEq, mEq, (mPtUs (by decide)), mEq, mRow, mAny, mRow, mAny, trivial⟩
        refine cE_regionK (fun (D : Nat → Bool) (w : World) => St w0 w L ∧ (D 15 = false → St w0 w (rowT 34 infoE v_xs zs :: L)) ∧ (D 15 = true → D 17 = false → St w0 w (rowT 34 infoE v_xs (zs.set (j) (zs[(j - 1)]'(by first | omega | (simp only [List.length_set]; omega)))) :: L)) ∧ (D 17 = true → St w0 w (rowT 34 infoE v_xs ((zs.set (j) (zs[(j - 1)]'(by first | omega | (simp only [List.length_set]; omega)))).set ((j - 1)) (zs[j]'(by first | omega | (simp only [List.length_set]; omega)))) :: L))) [[(0, none)], [(9, none)], [(0, none)], [(9, none)], [(40, some 3)], [(0, none)], [(9, none)], [(43, some 6)], [(42, some 5), (44, some 7)], [(45, some 8)], [(0, none)], [(9, none)], [(47, some 10), (48, some 11)], [(49, some 12)], [(37, some 0), (38, some 1)], [(51, some 14), (46, some 9)], [(39, some 2), (41, some 4)], [(52, some 16), (50, some 13)]] (RofK [(kEq v_xs), (kEq (.int .i64 (j : Int))), (kEq v_xs), (kEq (.int .i64 (j : Int))), (kEq (.int .i64 ((j : Int) - 1))), (kEq v_xs), (kEq (.int .i64 (j : Int))), (kEq (.int .i64 ((j : Int) - 1))), (kPtU [15, 17] [(.int .i64 ((zs[(j - 1)]'(by first | omega | (simp only [List.length_set]; omega))).Id)), (.int .i64 ((zs[(j - 1)]'(by first | omega | (simp only [List.length_set]; omega))).Tier)), (.int .i64 ((zs[(j - 1)]'(by first | omega | (simp only [List.length_set]; omega))).From)), (.int .i64 ((zs[(j - 1)]'(by first | omega | (simp only [List.length_set]; omega))).To)), (.int .u32 ((zs[(j - 1)]'(by first | omega | (simp only [List.length_set]; omega))).Sum))]), (kEq (.agg #[(.int .i64 ((zs[(j - 1)]'(by first | omega | (simp only [List.length_set]; omega))).Id)), (.int .i64 ((zs[(j - 1)]'(by first | omega | (simp only [List.length_set]; omega))).Tier)), (.int .i64 ((zs[(j - 1)]'(by first | omega | (simp only [List.length_set]; omega))).From)), (.int .i64 ((zs[(j - 1)]'(by first | omega | (simp only [List.length_set]; omega))).To)), (.int .u32 ((zs[(j - 1)]'(by first | omega | (simp only [List.length_set]; omega))).Sum))])), (kEq v_xs), (kEq (.int .i64 (j : Int))), (kPtU [15, 17] [(.int .i64 ((zs[j]'(by first | omega | (simp only [List.length_set]; omega))).Id)), (.int .i64 ((zs[j]'(by first | omega | (simp only [List.length_set]; omega))).Tier)), (.int .i64 ((zs[j]'(by first | omega | (simp only [List.length_set]; omega))).From)), (.int .i64 ((zs[j]'(by first | omega | (simp only [List.length_set]; omega))).To)), (.int .u32 ((zs[j]'(by first | omega | (simp only [List.length_set]; omega))).Sum))]), (kEq (.agg #[(.int .i64 ((zs[j]'(by first | omega | (simp only [List.length_set]; omega))).Id)), (.int .i64 ((zs[j]'(by first | omega | (simp only [List.length_set]; omega))).Tier)), (.int .i64 ((zs[j]'(by first | omega | (simp only [List.length_set]; omega))).From)), (.int .i64 ((zs[j]'(by first | omega | (simp only [List.length_set]; omega))).To)), (.int .u32 ((zs[j]'(by first | omega | (simp only [List.length_set]; omega))).Sum))])), (kRow v_xs (j * infoE.size)), kAny, (kRow v_xs ((j - 1) * infoE.size)), kAny]) (by kernel_rfl) rfl (by kernel_rfl) ⟨hst.drewW.sub (.cons _ (List.Sublist.refl _)), (fun _ => hst.drewW), (fun h => absurd h Bool.false_ne_true), (fun h => absurd h Bool.false_ne_true)⟩ ⟨?_, ?_, ?_, ?_, ?_, ?_, ?_, ?_, ?_, ?_, ?_, ?_, ?_, ?_, ?_, ?_, ?_, ?_, trivial⟩ ?_
        · rintro D110 ρ111 w112 hD113 hE114 hC115 hJ116 hA117 ⟨f0, _⟩
          have hst := hJ116.2.1 (not_yet hD113 (fun hm => (hC115 15 0 hm (by kernel_rfl))))
          replace hst : St w0 w112 (rowT 34 infoE v_xs zs :: L) := hst
          exact go_plain (op_move v_xs (f0.trans uw87_0) (kN0 (i := 0) hM108 (by decide) (by exact hJ116) (by exact rfl)))
        · rintro D118 ρ119 w120 hD121 hE122 hC123 hJ124 hA125 ⟨f9, _⟩
          have hst := hJ124.2.1 (not_yet hD121 (fun hm => (hC123 15 1 hm (by kernel_rfl))))
          replace hst : St w0 w120 (rowT 34 infoE v_xs zs :: L) := hst
          exact go_plain (op_move (.int .i64 (j : Int)) (f9.trans uw87_9) (kN0 (i := 1) hM108 (by decide) (by exact hJ124) (by exact rfl)))
        · rintro D126 ρ127 w128 hD129 hE130 hC131 hJ132 hA133 ⟨f0, _⟩
          have hst := hJ132.1
          exact go_plain (op_move v_xs (f0.trans uw87_0) (kN0 (i := 2) hM108 (by decide) (by exact hJ132) (by exact rfl)))
        · rintro D134 ρ135 w136 hD137 hE138 hC139 hJ140 hA141 ⟨f9, _⟩
          have hst := hJ140.1
          exact go_plain (op_move (.int .i64 (j : Int)) (f9.trans uw87_9) (kN0 (i := 3) hM108 (by decide) (by exact hJ140) (by exact rfl)))
        · rintro D142 ρ143 w144 hD145 hE146 hC147 hJ148 hA149 ⟨f40, _⟩
          have hst := hJ148.1
          exact go_plain (op_sub (k := .i64) (a := (j : Int)) (b := 1) ((j : Int) - 1) f40 rfl (xi64 (by omega) (by omega)) (kN0 (i := 4) hM108 (by decide) (by exact hJ148) (by exact rfl)))
        · rintro D150 ρ151 w152 hD153 hE154 hC155 hJ156 hA157 ⟨f0, _⟩
          have hst := hJ156.2.1 (not_yet hD153 (fun hm => (hC155 15 5 hm (by kernel_rfl))))
          replace hst : St w0 w152 (rowT 34 infoE v_xs zs :: L) := hst
          exact go_plain (op_move v_xs (f0.trans uw87_0) (kN0 (i := 5) hM108 (by decide) (by exact hJ156) (by exact rfl)))
        · rintro D158 ρ159 w160 hD161 hE162 hC163 hJ164 hA165 ⟨f9, _⟩
          have hst := hJ164.2.1 (not_yet hD161 (fun hm => (hC163 15 6 hm (by kernel_rfl))))
          replace hst : St w0 w160 (rowT 34 infoE v_xs zs :: L) := hst
          exact go_plain (op_move (.int .i64 (j : Int)) (f9.trans uw87_9) (kN0 (i := 6) hM108 (by decide) (by exact hJ164) (by exact rfl)))
        · rintro D166 ρ167 w168 hD169 hE170 hC171 hJ172 hA173 ⟨f43, _⟩
          have hst := hJ172.2.1 (not_yet hD169 (fun hm => (hC171 15 7 hm (by kernel_rfl))))
          replace hst : St w0 w168 (rowT 34 infoE v_xs zs :: L) := hst
          exact go_plain (op_sub (k := .i64) (a := (j : Int)) (b := 1) ((j : Int) - 1) f43 rfl (xi64 (by omega) (by omega)) (kN0 (i := 7) hM108 (by decide) (by exact hJ172) (by exact rfl)))
        · rintro D174 ρ175 w176 hD177 hE178 hC179 hJ180 hA181 ⟨f42, f44, _⟩
          have hst := hJ180.2.1 (not_yet hD177 (fun hm => (hC179 15 8 hm (by kernel_rfl))))
          replace hst : St w0 w176 (rowT 34 infoE v_xs zs :: L) := hst
          refine go_plain (op_indexAddrN (E := infoE) (xs := zs) (j - 1) Try.underlying22 Try.sizeOf34 f42 (hst.sl 0 rfl) f44 (by omega) (by first | omega | (simp only [List.length_set]; omega)) (fun a182 o183 p184 => ?_))
          exact (kN0 (i := 8) hM108 (by decide) (by exact hJ180) (by exact ⟨_, _, rfl, fun _ => p184⟩))
        · rintro D185 ρ186 w187 hD188 hE189 hC190 hJ191 hA192 ⟨f45, _⟩
          have hst := hJ191.2.1 (not_yet hD188 (fun hm => (hC190 15 9 hm (by kernel_rfl))))
          replace hst : St w0 w187 (rowT 34 infoE v_xs zs :: L) := hst
          obtain ⟨a193, o194, e195, p196⟩ := f45
          have p196 := p196 (by intro m hm; simp only [List.mem_cons, List.not_mem_nil, or_false] at hm; rcases hm with rfl | rfl; exact (not_yet hD188 (fun hm => (hC190 15 9 hm (by kernel_rfl)))); exact (not_yet hD188 (fun hm => (hC190 17 9 hm (by kernel_rfl)))))
          exact go_plain (op_loadN (cs := [(.int .i64 ((zs[(j - 1)]'(by first | omega | (simp only [List.length_set]; omega))).Id)), (.int .i64 ((zs[(j - 1)]'(by first | omega | (simp only [List.length_set]; omega))).Tier)), (.int .i64 ((zs[(j - 1)]'(by first | omega | (simp only [List.length_set]; omega))).From)), (.int .i64 ((zs[(j - 1)]'(by first | omega | (simp only [List.length_set]; omega))).To)), (.int .u32 ((zs[(j - 1)]'(by first | omega | (simp only [List.length_set]; omega))).Sum))]) Try.isAgg34 Try.sizeOf34 e195 (Pt.of p196 rfl) rfl (kN0 (i := 9) hM108 (by decide) (by exact hJ191) (by exact rfl)))
        · rintro D197 ρ198 w199 hD200 hE201 hC202 hJ203 hA204 ⟨f0, _⟩
          have hst := hJ203.2.1 (not_yet hD200 (fun hm => (hC202 12 10 (hC202 13 12 (hC202 15 13 hm (by kernel_rfl)) (by kernel_rfl)) (by kernel_rfl))))
          replace hst : St w0 w199 (rowT 34 infoE v_xs zs :: L) := hst
          exact go_plain (op_move v_xs (f0.trans uw87_0) (kN0 (i := 10) hM108 (by decide) (by exact hJ203) (by exact rfl)))
        · rintro D205 ρ206 w207 hD208 hE209 hC210 hJ211 hA212 ⟨f9, _⟩
          have hst := hJ211.2.1 (not_yet hD208 (fun hm => (hC210 12 11 (hC210 13 12 (hC210 15 13 hm (by kernel_rfl)) (by kernel_rfl)) (by kernel_rfl))))
          replace hst : St w0 w207 (rowT 34 infoE v_xs zs :: L) := hst
          exact go_plain (op_move (.int .i64 (j : Int)) (f9.trans uw87_9) (kN0 (i := 11) hM108 (by decide) (by exact hJ211) (by exact rfl)))
        · rintro D213 ρ214 w215 hD216 hE217 hC218 hJ219 hA220 ⟨f47, f48, _⟩
          have hst := hJ219.2.1 (not_yet hD216 (fun hm => (hC218 13 12 (hC218 15 13 hm (by kernel_rfl)) (by kernel_rfl))))
          replace hst : St w0 w215 (rowT 34 infoE v_xs zs :: L) := hst
          refine go_plain (op_indexAddrN (E := infoE) (xs := zs) j Try.underlying22 Try.sizeOf34 f47 (hst.sl 0 rfl) f48 (by omega) (by first | omega | (simp only [List.length_set]; omega)) (fun a221 o222 p223 => ?_))
          exact (kN0 (i := 12) hM108 (by decide) (by exact hJ219) (by exact ⟨_, _, rfl, fun _ => p223⟩))
        · rintro D224 ρ225 w226 hD227 hE228 hC229 hJ230 hA231 ⟨f49, _⟩
          have hst := hJ230.2.1 (not_yet hD227 (fun hm => (hC229 15 13 hm (by kernel_rfl))))
          replace hst : St w0 w226 (rowT 34 infoE v_xs zs :: L) := hst
          obtain ⟨a232, o233, e234, p235⟩ := f49
          have p235 := p235 (by intro m hm; simp only [List.mem_cons, List.not_mem_nil, or_false] at hm; rcases hm with rfl | rfl; exact (not_yet hD227 (fun hm => (hC229 15 13 hm (by kernel_rfl)))); exact (not_yet hD227 (fun hm => (hC229 17 13 hm (by kernel_rfl)))))
          exact go_plain (op_loadN (cs := [(.int .i64 ((zs[j]'(by first | omega | (simp only [List.length_set]; omega))).Id)), (.int .i64 ((zs[j]'(by first | omega | (simp only [List.length_set]; omega))).Tier)), (.int .i64 ((zs[j]'(by first | omega | (simp only [List.length_set]; omega))).From)), (.int .i64 ((zs[j]'(by first | omega | (simp only [List.length_set]; omega))).To)), (.int .u32 ((zs[j]'(by first | omega | (simp only [List.length_set]; omega))).Sum))]) Try.isAgg34 Try.sizeOf34 e234 (Pt.of p235 rfl) rfl (kN0 (i := 13) hM108 (by decide) (by exact hJ230) (by exact rfl)))
        · rintro D236 ρ237 w238 hD239 hE240 hC241 hJ242 hA243 ⟨f37, f38, _⟩
          have hst := hJ242.2.1 (not_yet hD239 (fun hm => (hC241 15 14 hm (by kernel_rfl))))
          replace hst : St w0 w238 (rowT 34 infoE v_xs zs :: L) := hst
          refine go_plain (op_indexRowN hst 0 rfl j Try.underlying22 Try.sizeOf34 f37 f38 (by omega) (by first | omega | (simp only [List.length_set]; omega)) (fun g248 hb247 p246 => ?_))
          exact (kN0 (i := 14) hM108 (by decide) (by exact hJ242) (by exact ⟨_, hb247, rfl⟩))
        · rintro D249 ρ250 w251 hD252 hE253 hC254 hJ255 hA256 ⟨f51, f46, _⟩
          have hst := hJ255.2.1 hD252
          replace hst : St w0 w251 (rowT 34 infoE v_xs zs :: L) := hst
          obtain ⟨g257, hb259, e258⟩ := f51
          refine go_plain (op_storeRowN (y := (zs[(j - 1)]'(by first | omega | (simp only [List.length_set]; omega)))) hst 0 rfl hb259 Try.sizeOf34 e258 f46 (j) rfl (by first | omega | (simp only [List.length_set]; omega)) rfl (fun w260 hst => ?_))
          replace hst : St w0 w260 (rowT 34 infoE v_xs (zs.set (j) (zs[(j - 1)]'(by first | omega | (simp only [List.length_set]; omega)))) :: L) := hst
          have hI261 : stabIXs 15 [] D249 0 [(kEq v_xs), (kEq (.int .i64 (j : Int))), (kEq v_xs), (kEq (.int .i64 (j : Int))), (kEq (.int .i64 ((j : Int) - 1))), (kEq v_xs), (kEq (.int .i64 (j : Int))), (kEq (.int .i64 ((j : Int) - 1))), (kPtU [15, 17] [(.int .i64 ((zs[(j - 1)]'(by first | omega | (simp only [List.length_set]; omega))).Id)), (.int .i64 ((zs[(j - 1)]'(by first | omega | (simp only [List.length_set]; omega))).Tier)), (.int .i64 ((zs[(j - 1)]'(by first | omega | (simp only [List.length_set]; omega))).From)), (.int .i64 ((zs[(j - 1)]'(by first | omega | (simp only [List.length_set]; omega))).To)), (.int .u32 ((zs[(j - 1)]'(by first | omega | (simp only [List.length_set]; omega))).Sum))]), (kEq (.agg #[(.int .i64 ((zs[(j - 1)]'(by first | omega | (simp only [List.length_set]; omega))).Id)), (.int .i64 ((zs[(j - 1)]'(by first | omega | (simp only [List.length_set]; omega))).Tier)), (.int .i64 ((zs[(j - 1)]'(by first | omega | (simp only [List.length_set]; omega))).From)), (.int .i64 ((zs[(j - 1)]'(by first | omega | (simp only [List.length_set]; omega))).To)), (.int .u32 ((zs[(j - 1)]'(by first | omega | (simp only [List.length_set]; omega))).Sum))])), (kEq v_xs), (kEq (.int .i64 (j : Int))), (kPtU [15, 17] [(.int .i64 ((zs[j]'(by first | omega | (simp only [List.length_set]; omega))).Id)), (.int .i64 ((zs[j]'(by first | omega | (simp only [List.length_set]; omega))).Tier)), (.int .i64 ((zs[j]'(by first | omega | (simp only [List.length_set]; omega))).From)), (.int .i64 ((zs[j]'(by first | omega | (simp only [List.length_set]; omega))).To)), (.int .u32 ((zs[j]'(by first | omega | (simp only [List.length_set]; omega))).Sum))]), (kEq (.agg #[(.int .i64 ((zs[j]'(by first | omega | (simp only [List.length_set]; omega))).Id)), (.int .i64 ((zs[j]'(by first | omega | (simp only [List.length_set]; omega))).Tier)), (.int .i64 ((zs[j]'(by first | omega | (simp only [List.length_set]; omega))).From)), (.int .i64 ((zs[j]'(by first | omega | (simp only [List.length_set]; omega))).To)), (.int .u32 ((zs[j]'(by first | omega | (simp only [List.length_set]; omega))).Sum))])), (kRow v_xs (j * infoE.size)), kAny, (kRow v_xs ((j - 1) * infoE.size)), kAny] := ⟨Or.inr (Or.inr (Or.inr iEq)), Or.inr (Or.inr (Or.inr iEq)), Or.inr (Or.inr (Or.inr iEq)), Or.inr (Or.inr (Or.inr iEq)), Or.inr (Or.inr (Or.inr iEq)), Or.inr (Or.inr (Or.inr iEq)), Or.inr (Or.inr (Or.inr iEq)), Or.inr (Or.inr (Or.inr iEq)), Or.inr (Or.inr (Or.inr (iPtU (by decide)))), Or.inr (Or.inr (Or.inr iEq)), Or.inr (Or.inr (Or.inr iEq)), Or.inr (Or.inr (Or.inr iEq)), Or.inr (Or.inr (Or.inr (iPtU (by decide)))), Or.inr (Or.inr (Or.inr iEq)), Or.inr (Or.inr (Or.inr iRow)), Or.inl rfl, Or.inr (Or.inr (Or.inl (not_yet hD252 (fun hm => (hC254 16 15 hm (by kernel_rfl)))))), Or.inr (Or.inr (Or.inl (not_yet hD252 (fun hm => (hC254 17 15 hm (by kernel_rfl)))))), trivial⟩
          refine ⟨by exact ⟨hst.sub (.cons _ (List.Sublist.refl _)), (fun y0 => absurd y0 (fun h => Bool.noConfusion h)), (fun y0 y1 => hst.sub (.cons_cons _ (List.Sublist.refl _))), (fun y0 => absurd (show D249 17 = true from y0) (by rw [(not_yet hD252 (fun hm => (hC254 17 15 hm (by kernel_rfl))))]; decide))⟩, by exact trivial, kX [] hI261 ?_⟩
          intro j d hj; cases hj
        · rintro D262 ρ263 w264 hD265 hE266 hC267 hJ268 hA269 ⟨f39, f41, _⟩
          have hst := hJ268.2.2.1 (hE266 15 (by kernel_rfl)) (not_yet hD265 (fun hm => (hC267 17 16 hm (by kernel_rfl))))
          replace hst : St w0 w264 (rowT 34 infoE v_xs (zs.set (j) (zs[(j - 1)]'(by first | omega | (simp only [List.length_set]; omega)))) :: L) := hst
          refine go_plain (op_indexRowN hst 0 rfl (j - 1) Try.underlying22 Try.sizeOf34 f39 f41 (by omega) (by first | omega | (simp only [List.length_set]; omega)) (fun g274 hb273 p272 => ?_))
          exact (kN0 (i := 16) hM108 (by decide) (by exact hJ268) (by exact ⟨_, hb273, rfl⟩))
        · rintro D275 ρ276 w277 hD278 hE279 hC280 hJ281 hA282 ⟨f52, f50, _⟩
          have hst := hJ281.2.2.1 (hE279 15 (by kernel_rfl)) hD278
          replace hst : St w0 w277 (rowT 34 infoE v_xs (zs.set (j) (zs[(j - 1)]'(by first | omega | (simp only [List.length_set]; omega)))) :: L) := hst
          obtain ⟨g283, hb285, e284⟩ := f52
          refine go_plain (op_storeRowN (y := (zs[j]'(by first | omega | (simp only [List.length_set]; omega)))) hst 0 rfl hb285 Try.sizeOf34 e284 f50 ((j - 1)) rfl (by first | omega | (simp only [List.length_set]; omega)) rfl (fun w286 hst => ?_))
          replace hst : St w0 w286 (rowT 34 infoE v_xs ((zs.set (j) (zs[(j - 1)]'(by first | omega | (simp only [List.length_set]; omega)))).set ((j - 1)) (zs[j]'(by first | omega | (simp only [List.length_set]; omega)))) :: L) := hst
          have hI287 : stabIXs 17 [] D275 0 [(kEq v_xs), (kEq (.int .i64 (j : Int))), (kEq v_xs), (kEq (.int .i64 (j : Int))), (kEq (.int .i64 ((j : Int) - 1))), (kEq v_xs), (kEq (.int .i64 (j : Int))), (kEq (.int .i64 ((j : Int) - 1))), (kPtU [15, 17] [(.int .i64 ((zs[(j - 1)]'(by first | omega | (simp only [List.length_set]; omega))).Id)), (.int .i64 ((zs[(j - 1)]'(by first | omega | (simp only [List.length_set]; omega))).Tier)), (.int .i64 ((zs[(j - 1)]'(by first | omega | (simp only [List.length_set]; omega))).From)), (.int .i64 ((zs[(j - 1)]'(by first | omega | (simp only [List.length_set]; omega))).To)), (.int .u32 ((zs[(j - 1)]'(by first | omega | (simp only [List.length_set]; omega))).Sum))]), (kEq (.agg #[(.int .i64 ((zs[(j - 1)]'(by first | omega | (simp only [List.length_set]; omega))).Id)), (.int .i64 ((zs[(j - 1)]'(by first | omega | (simp only [List.length_set]; omega))).Tier)), (.int .i64 ((zs[(j - 1)]'(by first | omega | (simp only [List.length_set]; omega))).From)), (.int .i64 ((zs[(j - 1)]'(by first | omega | (simp only [List.length_set]; omega))).To)), (.int .u32 ((zs[(j - 1)]'(by first | omega | (simp only [List.length_set]; omega))).Sum))])), (kEq v_xs), (kEq (.int .i64 (j : Int))), (kPtU [15, 17] [(.int .i64 ((zs[j]'(by first | omega | (simp only [List.length_set]; omega))).Id)), (.int .i64 ((zs[j]'(by first | omega | (simp only [List.length_set]; omega))).Tier)), (.int .i64 ((zs[j]'(by first | omega | (simp only [List.length_set]; omega))).From)), (.int .i64 ((zs[j]'(by first | omega | (simp only [List.length_set]; omega))).To)), (.int .u32 ((zs[j]'(by first | omega | (simp only [List.length_set]; omega))).Sum))]), (kEq (.agg #[(.int .i64 ((zs[j]'(by first | omega | (simp only [List.length_set]; omega))).Id)), (.int .i64 ((zs[j]'(by first | omega | (simp only [List.length_set]; omega))).Tier)), (.int .i64 ((zs[j]'(by first | omega | (simp only [List.length_set]; omega))).From)), (.int .i64 ((zs[j]'(by first | omega | (simp only [List.length_set]; omega))).To)), (.int .u32 ((zs[j]'(by first | omega | (simp only [List.length_set]; omega))).Sum))])), (kRow v_xs (j * infoE.size)), kAny, (kRow v_xs ((j - 1) * infoE.size)), kAny] := ⟨Or.inr (Or.inr (Or.inr iEq)), Or.inr (Or.inr (Or.inr iEq)), Or.inr (Or.inr (Or.inr iEq)), Or.inr (Or.inr (Or.inr iEq)), Or.inr (Or.inr (Or.inr iEq)), Or.inr (Or.inr (Or.inr iEq)), Or.inr (Or.inr (Or.inr iEq)), Or.inr (Or.inr (Or.inr iEq)), Or.inr (Or.inr (Or.inr (iPtU (by decide)))), Or.inr (Or.inr (Or.inr iEq)), Or.inr (Or.inr (Or.inr iEq)), Or.inr (Or.inr (Or.inr iEq)), Or.inr (Or.inr (Or.inr (iPtU (by decide)))), Or.inr (Or.inr (Or.inr iEq)), Or.inr (Or.inr (Or.inr iRow)), Or.inr (Or.inr (Or.inr iAny)), Or.inr (Or.inr (Or.inr iRow)), Or.inl rfl, trivial⟩
          refine ⟨by exact ⟨hst.sub (.cons _ (List.Sublist.refl _)), (fun y0 => absurd (show D275 15 = false from y0) (by rw [(hE279 15 (by kernel_rfl))]; decide)), (fun y0 y1 => absurd y1 (fun h => Bool.noConfusion h)), (fun y0 => hst.sub (.cons_cons _ (List.Sublist.refl _)))⟩, by exact trivial, kX [] hI287 ?_⟩
          intro j d hj; cases hj
        intro ρ288 w289 Dw289 hallw289 hJw289 hRw289 hkw289
        have hst : St w0 w289 (rowT 34 infoE v_xs ((zs.set (j) (zs[(j - 1)]'(by first | omega | (simp only [List.length_set]; omega)))).set ((j - 1)) (zs[j]'(by first | omega | (simp only [List.length_set]; omega)))) :: L) := hJw289.2.2.2 (hallw289 17 (show 17 < 18 from by decide))
        have uw289_1 : ρ288 1 = (.int .i64 a) := (hkw289 1 rfl).trans uw87_1
        have uw289_2 : ρ288 2 = (.int .i64 b) := (hkw289 2 rfl).trans uw87_2
        have uw289_3 : ρ288 3 = (.func (.func 24) #[] #[]) := (hkw289 3 rfl).trans uw87_3
        have uw289_8 : ρ288 8 = (.int .i64 (i : Int)) := (hkw289 8 rfl).trans uw87_8
        have uw289_0 : ρ288 0 = v_xs := (hkw289 0 rfl).trans uw87_0
        have uw289_9 : ρ288 9 = (.int .i64 (j : Int)) := (hkw289 9 rfl).trans uw87_9
        have uw289_34 : ρ288 34 = (.bool (decide ((cmpB (zs[j]'(by first | omega | (simp only [List.length_set]; omega))) (zs[(j - 1)]'(by first | omega | (simp only [List.length_set]; omega)))) < 0))) := (hkw289 34 rfl).trans uw87_34
        refine block_n (then_n ?_)
        refine cE_region rfl ?_
        refine s_cons (op_move (.int .i64 (j : Int)) uw289_9 ?_)
        refine s_cons (op_sub (k := .i64) (a := (j : Int)) (b := 1) ((j : Int) - 1) rfl rfl (xi64 (by omega) (by omega)) ?_)
        refine s_cons (op_assign (.int .i64 ((j : Int) - 1)) rfl ?_)
        refine s_nil ?_
        refine then_n ?_
        exact ⟨_, ⟨((zs.set (j) (zs[(j - 1)]'(by first | omega | (simp only [List.length_set]; omega)))).set ((j - 1)) (zs[j]'(by first | omega | (simp only [List.length_set]; omega)))), (j - 1), rfl, uw289_1, uw289_2, uw289_3, uw289_8, uw289_0, (congrArg (Value.int .i64) (show ((j : Int) - 1) = _ from by omega)), hst, (by omega), (by omega), (by first | exact hT | exact turned_trans hT2 (swp_turned (by omega) (by omega) ⟨by omega, by omega⟩ ⟨by omega, by omega⟩)), (by first | exact down1_start hS | exact down1_swap hD (by omega) (by omega) (by omega) (cmp_lt (by assumption)))⟩, (by simp only [id]; omega)⟩
      have c290 : ¬ ((cmpB (zs[j]'(by first | omega | (simp only [List.length_set]; omega))) (zs[(j - 1)]'(by first | omega | (simp only [List.length_set]; omega)))) < 0) := of_decide_eq_false b88
      refine cE_cond false (uw87_34.trans (congrArg Value.bool b88)) (fun h => by cases h) (fun _ => ?_)
      refine cE_exit ?_
      refine then_x (then_x (block_hit (block_n (then_n ?_))))
      refine cE_region rfl ?_
      refine s_cons (op_move (.int .i64 (i : Int)) uw87_8 ?_)
      refine s_cons (op_add (k := .i64) (a := (i : Int)) (b := 1) ((i : Int) + 1) rfl rfl (xi64 (by omega) (by omega)) ?_)
      refine s_cons (op_assign (.int .i64 ((i : Int) + 1)) rfl ?_)
      refine s_nil ?_
      refine then_n ?_
      exact ⟨_, ⟨zs, (i + 1), rfl, uw87_1, uw87_2, uw87_3, uw87_0, (congrArg (Value.int .i64) (show ((i : Int) + 1) = _ from by omega)), hst, (by omega), (by first | exact turned_refl _ _ _ | exact hT2), (by first | exact srt_one _ _ | exact down1_end hD (by omega) (by omega) (by first | exact Or.inl (by omega) | exact Or.inr ⟨by omega, cmp_ge (by assumption)⟩))⟩, (by simp only [id]; omega)⟩
    have c291 : ¬ (a < (j : Int)) := of_decide_eq_false b11
    refine cE_regionL hst [[(9, none)], [(1, none)], [(18, some 0), (19, some 1)], [(20, some 2)], [(3, none), (21, some 3)], [(0, none), (21, some 3)], [(9, none), (21, some 3)], [(23, some 5), (24, some 6), (21, some 3)], [(25, some 7), (21, some 3)], [(0, none), (21, some 3)], [(9, none), (21, some 3)], [(28, some 10), (21, some 3)], [(27, some 9), (29, some 11), (21, some 3)], [(30, some 12), (21, some 3)], [(22, some 4), (26, some 8), (31, some 13), (21, some 3)], [(32, some 14), (21, some 3)], [(21, some 3), (33, some 15)]] [(rEq (.int .i64 (j : Int))), (rEq (.int .i64 a)), (rEq (.bool (decide (a < (j : Int))))), (rEq (.bool (decide (a < (j : Int))))), (rEq undef), (rEq undef), (rEq undef), (rEq undef), (rEq undef), (rEq undef), (rEq undef), (rEq undef), (rEq undef), (rEq undef), (rEq undef), (rEq undef), (rEq (.bool false))] (by kernel_rfl) rfl (by kernel_rfl) ⟨sEq, sEq, sEq, sEq, sEq, sEq, sEq, sEq, sEq, sEq, sEq, sEq, sEq, sEq, sEq, sEq, sEq, trivial⟩ ⟨?_, ?_, ?_, ?_, ?_, ?_, ?_, ?_, ?_, ?_, ?_, ?_, ?_, ?_, ?_, ?_, ?_, trivial⟩ ?_
    · rintro ρ292 w293 hj294 ⟨f9, _⟩
      have hst := hj294.2
      exact go_plain (op_move (.int .i64 (j : Int)) (f9.trans q7_9) (kS hj294 rfl))
    · rintro ρ295 w296 hj297 ⟨f1, _⟩
      have hst := hj297.2
      exact go_plain (op_move (.int .i64 a) (f1.trans q7_1) (kS hj297 rfl))
    · rintro ρ298 w299 hj300 ⟨f18, f19, _⟩
      have hst := hj300.2
      exact go_plain (op_gtr (k := .i64) (a := (j : Int)) (b := a) f18 f19 (kS hj300 rfl))
    · rintro ρ301 w302 hj303 ⟨f20, _⟩
      have hst := hj303.2
      exact go_plain (op_move (.bool (decide (a < (j : Int)))) f20 (kS hj303 rfl))
    · rintro ρ304 w305 hj306 ⟨f3, f21, _⟩
      have hst := hj306.2
      exact go_no 21 rfl (f21.trans (congrArg Value.bool b11)) (kS hj306 rfl)
    · rintro ρ307 w308 hj309 ⟨f0, f21, _⟩
      have hst := hj309.2
      exact go_no 21 rfl (f21.trans (congrArg Value.bool b11)) (kS hj309 rfl)
    · rintro ρ310 w311 hj312 ⟨f9, f21, _⟩
      have hst := hj312.2
      exact go_no 21 rfl (f21.trans (congrArg Value.bool b11)) (kS hj312 rfl)
    · rintro ρ313 w314 hj315 ⟨f23, f24, f21, _⟩
      have hst := hj315.2
      exact go_no 21 rfl (f21.trans (congrArg Value.bool b11)) (kS hj315 rfl)
    · rintro ρ316 w317 hj318 ⟨f25, f21, _⟩
      have hst := hj318.2
      exact go_no 21 rfl (f21.trans (congrArg Value.bool b11)) (kS hj318 rfl)
    · rintro ρ319 w320 hj321 ⟨f0, f21, _⟩
      have hst := hj321.2
      exact go_no 21 rfl (f21.trans (congrArg Value.bool b11)) (kS hj321 rfl)
    · rintro ρ322 w323 hj324 ⟨f9, f21, _⟩
      have hst := hj324.2
      exact go_no 21 rfl (f21.trans (congrArg Value.bool b11)) (kS hj324 rfl)
    · rintro ρ325 w326 hj327 ⟨f28, f21, _⟩
      have hst := hj327.2
      exact go_no 21 rfl (f21.trans (congrArg Value.bool b11)) (kS hj327 rfl)
    · rintro ρ328 w329 hj330 ⟨f27, f29, f21, _⟩
      have hst := hj330.2
      exact go_no 21 rfl (f21.trans (congrArg Value.bool b11)) (kS hj330 rfl)
    · rintro ρ331 w332 hj333 ⟨f30, f21, _⟩
      have hst := hj333.2
      exact go_no 21 rfl (f21.trans (congrArg Value.bool b11)) (kS hj333 rfl)
    · rintro ρ334 w335 hj336 ⟨f22, f26, f31, f21, _⟩
      have hst := hj336.2
      exact go_no 21 rfl (f21.trans (congrArg Value.bool b11)) (kS hj336 rfl)
    · rintro ρ337 w338 hj339 ⟨f32, f21, _⟩
      have hst := hj339.2
      exact go_no 21 rfl (f21.trans (congrArg Value.bool b11)) (kS hj339 rfl)
    · rintro ρ340 w341 hj342 ⟨f21, f33, _⟩
      have hst := hj342.2
      exact go_plain (op_pick_f (.bool false) (f21.trans (congrArg Value.bool b11)) rfl (kS hj342 rfl))
    intro ρ343 w344 hbw344 hst hRw344 hkw344
    have uw344_1 : ρ343 1 = (.int .i64 a) := (hkw344 1 rfl).trans q7_1
    have uw344_2 : ρ343 2 = (.int .i64 b) := (hkw344 2 rfl).trans q7_2
    have uw344_3 : ρ343 3 = (.func (.func 24) #[] #[]) := (hkw344 3 rfl).trans q7_3
    have uw344_8 : ρ343 8 = (.int .i64 (i : Int)) := (hkw344 8 rfl).trans q7_8
    have uw344_0 : ρ343 0 = v_xs := (hkw344 0 rfl).trans q7_0
    have uw344_9 : ρ343 9 = (.int .i64 (j : Int)) := (hkw344 9 rfl).trans q7_9
    have uw344_34 : ρ343 34 = (.bool false) := hRw344 16 34 rfl
    refine then_n ?_
    refine cE_cond false uw344_34 (fun h => by cases h) (fun _ => ?_)
    refine cE_exit ?_
    refine then_x (then_x (block_hit (block_n (then_n ?_))))
    refine cE_region rfl ?_
    refine s_cons (op_move (.int .i64 (i : Int)) uw344_8 ?_)
    refine s_cons (op_add (k := .i64) (a := (i : Int)) (b := 1) ((i : Int) + 1) rfl rfl (xi64 (by omega) (by omega)) ?_)
    refine s_cons (op_assign (.int .i64 ((i : Int) + 1)) rfl ?_)
    refine s_nil ?_
    refine then_n ?_
    exact ⟨_, ⟨zs, (i + 1), rfl, uw344_1, uw344_2, uw344_3, uw344_0, (congrArg (Value.int .i64) (show ((i : Int) + 1) = _ from by omega)), hst, (by omega), (by first | exact turned_refl _ _ _ | exact hT2), (by first | exact srt_one _ _ | exact down1_end hD (by omega) (by omega) (by first | exact Or.inl (by omega) | exact Or.inr ⟨by omega, cmp_ge (by assumption)⟩))⟩, (by simp only [id]; omega)⟩
  have c345 : ¬ ((i : Int) < b) := of_decide_eq_false b5
  refine cE_cond false (congrArg Value.bool b5) (fun h => by cases h) (fun _ => ?_)
  refine cE_exit ?_
  refine then_x (then_x (block_hit ?_))
  refine post_n (.tuple #[]) rfl ?_
  exact ⟨ys, rfl, hst.sub (.cons_cons _ (List.Sublist.refl _)), hT, (srt_less hS (by omega))⟩

end Go.Proofs.Ytadnedoecbfojaa
