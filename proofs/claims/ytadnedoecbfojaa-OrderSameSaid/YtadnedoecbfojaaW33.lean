/- twinkeepref17.Bodies -/
import Derived.Test.YtadnedoecbfojaaOP
import Derived.Test.YtadnedoecbfojaaW8
import Derived.Test.YtadnedoecbfojaaW7
namespace Go.Proofs.Ytadnedoecbfojaa
open Go.RowKit

set_option maxHeartbeats 4000000 in
theorem c_rBodies (w0 : World) (v_l : Value) (l : List Info) (h_l : Sl w0 infoE v_l l) (v_r : Value) (r : List Info) (h_r : Sl w0 infoE v_r r) (hll : l.length ≤ 1000000) (hrl : r.length ≤ 1000000) :
    Calls Try.prog 8 #[v_l, v_r] w0 fun e w' => ∃ (v : Value), e = .returned v ∧ St w0 w' [rowT 3 (intE .i64) v (bodies l r)] := by
  refine calls_E (n := 73) (ts := [4]) Try.func8 rfl rfl rfl (by simp) ?_
  have hst := St.start w0
  refine cE_seq ?_
  refine cE_region rfl ?_
  refine s_cons (op_assign (.slice none 0 0) rfl ?_)
  refine s_nil ?_
  refine then_n ?_
  refine cE_seq ?_
  refine cE_region rfl ?_
  refine s_cons (op_assign (.slice none 0 0) rfl ?_)
  refine s_nil ?_
  refine then_n ?_
  refine cE_seq ?_
  refine cE_seq ?_
  refine cE_region rfl ?_
  refine s_cons (op_assign (.int .i64 0) rfl ?_)
  refine s_nil ?_
  refine then_n ?_
  refine cE_block ?_
  replace hst : St w0 w0 [rowT 34 infoE (.slice none 0 0) ([])] := hst.nilRow 34 infoE
  refine cE_loop (fun (m : Nat) (ρ : Env) (w : World) => ∃ (vo : Value) (ys : List Info) (i : Nat), m = l.length - i ∧ ρ 0 = v_l ∧ ρ 1 = v_r ∧ ρ 4 = (.slice none 0 0) ∧ ρ 5 = vo ∧ ρ 6 = (.int .i64 (i : Int)) ∧ St w0 w [rowT 34 infoE vo ys] ∧ (i ≤ l.length) ∧ (ys = ordI (left (l.take i) r))) id _ ⟨(.slice none 0 0), [], 0, rfl, rfl, rfl, rfl, rfl, (congrArg (Value.int .i64) (show 0 = _ from by omega)), hst, (by omega), (by first | rfl | exact hI.trans (ref_yes (by omega) (by assumption)) | exact ref_no (by omega) (by assumption) hI (hS.trans (seat_no (by omega) (by omega) (by assumption))) | exact ref_no (by omega) (by assumption) hI (hS.trans (seat_zero (by omega))))⟩ ?_
  rintro m2 ρ3 w4 ⟨vo, ys, i, hm2, q1_0, q1_1, q1_4, q1_5, q1_6, hst, hi, hI⟩
  have hlen := h_l.len
  have hyl : ys.length ≤ i := by rw [hI, ord_len]; have := left_len (l.take i) r; simp only [List.length_take] at this; omega
  refine cE_seq ?_
  refine cE_seq ?_
  refine cE_region rfl ?_
  refine s_cons (op_move (.int .i64 (i : Int)) q1_6 ?_)
  refine s_cons (op_move v_l q1_0 ?_)
  refine s_cons (op_len (E := infoE) (xs := l) Try.underlying22 rfl h_l ?_)
  refine s_cons (op_lss (k := .i64) (a := (i : Int)) (b := (l.length : Int)) rfl rfl ?_)
  refine s_nil ?_
  refine then_n ?_
  rcases Bool.eq_false_or_eq_true (decide ((i : Int) < (l.length : Int))) with b5 | b5
  · have c6 : (i : Int) < (l.length : Int) := of_decide_eq_true b5
    refine cE_cond true (congrArg Value.bool b5) (fun _ => ?_) (fun h => by cases h)
    refine cE_skip ?_
    refine then_n ?_
    refine cE_seq ?_
    refine cE_block ?_
    refine cE_seq ?_
    refine cE_seq ?_
    refine cE_region rfl ?_
    refine s_cons (op_move v_r q1_1 ?_)
    refine s_cons (op_move v_l q1_0 ?_)
    refine s_cons (op_move (.int .i64 (i : Int)) q1_6 ?_)
    refine s_cons (op_indexAddrN (E := infoE) (xs := l) i Try.underlying22 Try.sizeOf34 rfl h_l rfl (by omega) (by omega) (fun a7 o8 p9 => ?_))
    refine s_cons (op_fieldAddr (s := 0) Try.underlying34 rfl rfl Try.sizeOf3 rfl ?_)
    refine s_cons (op_load1 (u := (.int .i64 ((l[i]'(by omega)).Id))) Try.isAgg3 rfl (p9.below hst.below) ?_)
    refine s_cons (op_call Try.call14 (evs_cons (v := v_r) rfl (evs_cons (v := (.int .i64 ((l[i]'(by omega)).Id))) rfl evs_nil)) (c_has (w0 := w4) (v_l := v_r) (l := r) (h_l := (h_r.below hst.below)) (key := (l[i]'(by omega)).Id)) ?_)
    rintro _ w10 ⟨rfl, hcall⟩
    refine ⟨_, rfl, ?_⟩
    have hst : St w0 w10 [rowT 34 infoE vo ys] := hst.call hcall
    refine s_nil ?_
    refine then_n ?_
    rcases Bool.eq_false_or_eq_true (hasI r ((l[i]'(by omega)).Id)) with b11 | b11
    · refine cE_cond true (congrArg Value.bool b11) (fun _ => ?_) (fun h => by cases h)
      refine cE_exit ?_
      refine then_x (block_hit (then_n ?_))
      refine cE_region rfl ?_
      refine s_cons (op_move (.int .i64 (i : Int)) q1_6 ?_)
      refine s_cons (op_add (k := .i64) (a := (i : Int)) (b := 1) ((i : Int) + 1) rfl rfl (xi64 (by omega) (by omega)) ?_)
      refine s_cons (op_assign (.int .i64 ((i : Int) + 1)) rfl ?_)
      refine s_nil ?_
      refine then_n ?_
      exact ⟨_, ⟨vo, ys, (i + 1), rfl, q1_0, q1_1, q1_4, q1_5, (congrArg (Value.int .i64) (show ((i : Int) + 1) = _ from by omega)), hst, (by omega), (by first | rfl | exact hI.trans (ref_yes (by omega) (by assumption)) | exact ref_no (by omega) (by assumption) hI (hS.trans (seat_no (by omega) (by omega) (by assumption))) | exact ref_no (by omega) (by assumption) hI (hS.trans (seat_zero (by omega))))⟩, (by simp only [id]; omega)⟩
    refine cE_cond false (congrArg Value.bool b11) (fun h => by cases h) (fun _ => ?_)
    refine cE_skip ?_
    refine then_n ?_
    refine cE_seq ?_
    refine cE_region rfl ?_
    refine s_cons (op_move vo q1_5 ?_)
    refine s_cons (op_len (E := infoE) (xs := ys) Try.underlying22 rfl (hst.sl 0 rfl) ?_)
    refine s_cons (op_assign (.int .i64 (ys.length : Int)) rfl ?_)
    refine s_nil ?_
    refine then_n ?_
    refine cE_seq ?_
    refine cE_block ?_
    refine cE_loop (fun (m : Nat) (ρ : Env) (w : World) => ∃ (k : Nat), m = k ∧ ρ 0 = v_l ∧ ρ 1 = v_r ∧ ρ 4 = (.slice none 0 0) ∧ ρ 5 = vo ∧ ρ 6 = (.int .i64 (i : Int)) ∧ ρ 7 = (.int .i64 (k : Int)) ∧ St w0 w [rowT 34 infoE vo ys] ∧ (k ≤ ys.length) ∧ (seat (l[i]'(by omega)) ys ys.length = seat (l[i]'(by omega)) ys k)) id _ ⟨ys.length, rfl, q1_0, q1_1, q1_4, q1_5, q1_6, rfl, hst, (by omega), (by first | rfl | exact hS.trans (seat_go (by omega) (by omega) (by assumption)))⟩ ?_
    rintro m13 ρ14 w15 ⟨k, hm13, q12_0, q12_1, q12_4, q12_5, q12_6, q12_7, hst, hk, hS⟩
    refine cE_seq ?_
    refine cE_seq ?_
    rcases Bool.eq_false_or_eq_true (decide (0 < (k : Int))) with b16 | b16
    · have c17 : 0 < (k : Int) := of_decide_eq_true b16
      refine cE_regionL hst [[(7, none)], [(26, some 0)], [(27, some 1)], [(0, none), (28, some 2)], [(6, none), (28, some 2)], [(29, some 3), (30, some 4), (28, some 2)], [(31, some 5), (28, some 2)], [(5, none), (28, some 2)], [(7, none), (28, some 2)], [(34, some 8), (28, some 2)], [(33, some 7), (35, some 9), (28, some 2)], [(36, some 10), (28, some 2)], [(32, some 6), (37, some 11), (28, some 2)], [(28, some 2), (38, some 12)]] [(rEq (.int .i64 (k : Int))), (rEq (.bool (decide (0 < (k : Int))))), (rEq (.bool (decide (0 < (k : Int))))), (rEq v_l), (rEq (.int .i64 (i : Int))), (rPt [(.int .i64 ((l[i]'(by omega)).Id)), (.int .i64 ((l[i]'(by omega)).Tier)), (.int .i64 ((l[i]'(by omega)).From)), (.int .i64 ((l[i]'(by omega)).To)), (.int .u32 ((l[i]'(by omega)).Sum))]), (rEq (.agg #[(.int .i64 ((l[i]'(by omega)).Id)), (.int .i64 ((l[i]'(by omega)).Tier)), (.int .i64 ((l[i]'(by omega)).From)), (.int .i64 ((l[i]'(by omega)).To)), (.int .u32 ((l[i]'(by omega)).Sum))])), (rEq vo), (rEq (.int .i64 (k : Int))), (rEq (.int .i64 ((k : Int) - 1))), (rPt [(.int .i64 ((ys[(k - 1)]'(by omega)).Id)), (.int .i64 ((ys[(k - 1)]'(by omega)).Tier)), (.int .i64 ((ys[(k - 1)]'(by omega)).From)), (.int .i64 ((ys[(k - 1)]'(by omega)).To)), (.int .u32 ((ys[(k - 1)]'(by omega)).Sum))]), (rEq (.agg #[(.int .i64 ((ys[(k - 1)]'(by omega)).Id)), (.int .i64 ((ys[(k - 1)]'(by omega)).Tier)), (.int .i64 ((ys[(k - 1)]'(by omega)).From)), (.int .i64 ((ys[(k - 1)]'(by omega)).To)), (.int .u32 ((ys[(k - 1)]'(by omega)).Sum))])), (rEq (.bool (ahead (l[i]'(by omega)) (ys[(k - 1)]'(by omega))))), (rEq (.bool (ahead (l[i]'(by omega)) (ys[(k - 1)]'(by omega)))))] (by kernel_rfl) rfl (by kernel_rfl) ⟨sEq, sEq, sEq, sEq, sEq, sPt, sEq, sEq, sEq, sEq, sPt, sEq, sEq, sEq, trivial⟩ ⟨?_, ?_, ?_, ?_, ?_, ?_, ?_, ?_, ?_, ?_, ?_, ?_, ?_, ?_, trivial⟩ ?_
      · rintro ρ25 w26 hj27 ⟨f7, _⟩
        have hst := hj27.2
        exact go_plain (op_move (.int .i64 (k : Int)) (f7.trans q12_7) (kS hj27 rfl))
      · rintro ρ28 w29 hj30 ⟨f26, _⟩
        have hst := hj30.2
        exact go_plain (op_gtr (k := .i64) (a := (k : Int)) (b := 0) f26 rfl (kS hj30 rfl))
      · rintro ρ31 w32 hj33 ⟨f27, _⟩
        have hst := hj33.2
        exact go_plain (op_move (.bool (decide (0 < (k : Int)))) f27 (kS hj33 rfl))
      · rintro ρ34 w35 hj36 ⟨f0, f28, _⟩
        have hst := hj36.2
        exact go_yes 28 rfl (f28.trans (congrArg Value.bool b16)) (op_move v_l (f0.trans q12_0) (kS hj36 rfl))
      · rintro ρ37 w38 hj39 ⟨f6, f28, _⟩
        have hst := hj39.2
        exact go_yes 28 rfl (f28.trans (congrArg Value.bool b16)) (op_move (.int .i64 (i : Int)) (f6.trans q12_6) (kS hj39 rfl))
      · rintro ρ40 w41 hj42 ⟨f29, f30, f28, _⟩
        have hst := hj42.2
        refine go_yes 28 rfl (f28.trans (congrArg Value.bool b16)) (op_indexAddrN (E := infoE) (xs := l) i Try.underlying22 Try.sizeOf34 f29 h_l f30 (by omega) (by omega) (fun a43 o44 p45 => ?_))
        exact kS hj42 ⟨_, _, rfl, (p45.below hst.below)⟩
      · rintro ρ46 w47 hj48 ⟨f31, f28, _⟩
        have hst := hj48.2
        obtain ⟨a49, o50, e51, p52⟩ := f31
        exact go_yes 28 rfl (f28.trans (congrArg Value.bool b16)) (op_loadN (cs := [(.int .i64 ((l[i]'(by omega)).Id)), (.int .i64 ((l[i]'(by omega)).Tier)), (.int .i64 ((l[i]'(by omega)).From)), (.int .i64 ((l[i]'(by omega)).To)), (.int .u32 ((l[i]'(by omega)).Sum))]) Try.isAgg34 Try.sizeOf34 e51 (Pt.of p52 rfl) rfl (kS hj48 rfl))
      · rintro ρ53 w54 hj55 ⟨f5, f28, _⟩
        have hst := hj55.2
        exact go_yes 28 rfl (f28.trans (congrArg Value.bool b16)) (op_move vo (f5.trans q12_5) (kS hj55 rfl))
      · rintro ρ56 w57 hj58 ⟨f7, f28, _⟩
        have hst := hj58.2
        exact go_yes 28 rfl (f28.trans (congrArg Value.bool b16)) (op_move (.int .i64 (k : Int)) (f7.trans q12_7) (kS hj58 rfl))
      · rintro ρ59 w60 hj61 ⟨f34, f28, _⟩
        have hst := hj61.2
        exact go_yes 28 rfl (f28.trans (congrArg Value.bool b16)) (op_sub (k := .i64) (a := (k : Int)) (b := 1) ((k : Int) - 1) f34 rfl (xi64 (by omega) (by omega)) (kS hj61 rfl))
      · rintro ρ62 w63 hj64 ⟨f33, f35, f28, _⟩
        have hst := hj64.2
        refine go_yes 28 rfl (f28.trans (congrArg Value.bool b16)) (op_indexAddrN (E := infoE) (xs := ys) (k - 1) Try.underlying22 Try.sizeOf34 f33 (hst.sl 0 rfl) f35 (by omega) (by omega) (fun a65 o66 p67 => ?_))
        exact kS hj64 ⟨_, _, rfl, p67⟩
      · rintro ρ68 w69 hj70 ⟨f36, f28, _⟩
        have hst := hj70.2
        obtain ⟨a71, o72, e73, p74⟩ := f36
        exact go_yes 28 rfl (f28.trans (congrArg Value.bool b16)) (op_loadN (cs := [(.int .i64 ((ys[(k - 1)]'(by omega)).Id)), (.int .i64 ((ys[(k - 1)]'(by omega)).Tier)), (.int .i64 ((ys[(k - 1)]'(by omega)).From)), (.int .i64 ((ys[(k - 1)]'(by omega)).To)), (.int .u32 ((ys[(k - 1)]'(by omega)).Sum))]) Try.isAgg34 Try.sizeOf34 e73 (Pt.of p74 rfl) rfl (kS hj70 rfl))
      · rintro ρ75 w76 hj77 ⟨f32, f37, f28, _⟩
        have hst := hj77.2
        refine go_yes 28 rfl (f28.trans (congrArg Value.bool b16)) (op_call Try.call15 (evs_cons (v := (.agg #[(.int .i64 ((l[i]'(by omega)).Id)), (.int .i64 ((l[i]'(by omega)).Tier)), (.int .i64 ((l[i]'(by omega)).From)), (.int .i64 ((l[i]'(by omega)).To)), (.int .u32 ((l[i]'(by omega)).Sum))])) f32 (evs_cons (v := (.agg #[(.int .i64 ((ys[(k - 1)]'(by omega)).Id)), (.int .i64 ((ys[(k - 1)]'(by omega)).Tier)), (.int .i64 ((ys[(k - 1)]'(by omega)).From)), (.int .i64 ((ys[(k - 1)]'(by omega)).To)), (.int .u32 ((ys[(k - 1)]'(by omega)).Sum))])) f37 evs_nil)) (c_ahead (w0 := w76) (a := (l[i]'(by omega))) (b := (ys[(k - 1)]'(by omega)))) ?_)
        rintro _ w78 ⟨rfl, hcall⟩
        refine ⟨_, rfl, ?_⟩
        exact kD hj77 hcall rfl
      · rintro ρ79 w80 hj81 ⟨f28, f38, _⟩
        have hst := hj81.2
        exact go_plain (op_pick_t (.bool (ahead (l[i]'(by omega)) (ys[(k - 1)]'(by omega)))) (f28.trans (congrArg Value.bool b16)) f38 (kS hj81 rfl))
      intro ρ82 w83 hbw83 hst hRw83 hkw83
      have uw83_0 : ρ82 0 = v_l := (hkw83 0 rfl).trans q12_0
      have uw83_1 : ρ82 1 = v_r := (hkw83 1 rfl).trans q12_1
      have uw83_4 : ρ82 4 = (.slice none 0 0) := (hkw83 4 rfl).trans q12_4
      have uw83_5 : ρ82 5 = vo := (hkw83 5 rfl).trans q12_5
      have uw83_6 : ρ82 6 = (.int .i64 (i : Int)) := (hkw83 6 rfl).trans q12_6
      have uw83_7 : ρ82 7 = (.int .i64 (k : Int)) := (hkw83 7 rfl).trans q12_7
      have uw83_39 : ρ82 39 = (.bool (ahead (l[i]'(by omega)) (ys[(k - 1)]'(by omega)))) := hRw83 13 39 rfl
      refine then_n ?_
      rcases Bool.eq_false_or_eq_true (ahead (l[i]'(by omega)) (ys[(k - 1)]'(by omega))) with b84 | b84
      · refine cE_cond true (uw83_39.trans (congrArg Value.bool b84)) (fun _ => ?_) (fun h => by cases h)
        refine cE_skip ?_
        refine then_n ?_
        refine cE_block ?_
        refine cE_region rfl ?_
        refine s_cons (op_move (.int .i64 (k : Int)) uw83_7 ?_)
        refine s_cons (op_sub (k := .i64) (a := (k : Int)) (b := 1) ((k : Int) - 1) rfl rfl (xi64 (by omega) (by omega)) ?_)
        refine s_cons (op_assign (.int .i64 ((k : Int) - 1)) rfl ?_)
        refine s_nil ?_
        refine block_n (then_n ?_)
        exact ⟨_, ⟨(k - 1), rfl, uw83_0, uw83_1, uw83_4, uw83_5, uw83_6, (congrArg (Value.int .i64) (show ((k : Int) - 1) = _ from by omega)), hst, (by omega), (by first | rfl | exact hS.trans (seat_go (by omega) (by omega) (by assumption)))⟩, (by simp only [id]; omega)⟩
      refine cE_cond false (uw83_39.trans (congrArg Value.bool b84)) (fun h => by cases h) (fun _ => ?_)
      refine cE_exit ?_
      refine then_x (then_x (block_hit (then_n ?_)))
      refine cE_seq ?_
      refine cE_region rfl ?_
      refine s_cons (op_buildSlice (E := infoE) [] hst Try.underlying22 Try.sizeOf34 Try.zeroValue34 evp_nil parts_nil rfl (by decide) (fun v85 w86 hst => ?_))
      replace hst : St w0 w86 [rowT 34 infoE v85 ([]), rowT 34 infoE vo ys] := hst
      refine s_cons (op_move vo uw83_5 ?_)
      refine s_cons (op_move (.int .i64 (k : Int)) uw83_7 ?_)
      refine s_cons (op_slice_toN k (E := infoE) (xs := ys) Try.underlying22 Try.sizeOf34 rfl (hst.sl 1 rfl) rfl (by omega) (by omega) (fun v87 hs88 => ?_))
      refine s_cons (op_append (E := infoE) (xs := []) (ys := (ys.take k)) (z := (.agg #[(.int .i64 0), (.int .i64 0), (.int .i64 0), (.int .i64 0), (.int .u32 0)])) (bytes := 40) hst 0 rfl Try.underlying22 (by kernel_rfl) rfl rfl rfl hs88 (by first | omega | (simp; omega) | (simp; done)) (by first | omega | (simp; omega) | (simp; done)) (fun v89 w90 hst => ?_))
      replace hst : St w0 w90 [rowT 34 infoE v89 (ys.take k), rowT 34 infoE vo ys] := hst
      refine s_cons (op_assign v89 rfl ?_)
      refine s_nil ?_
      refine then_n ?_
      have hM102 : stabML [6, 10] [(kEq v89), (kEq v_l), (kEq (.int .i64 (i : Int))), (kPt0 w0 [(.int .i64 ((l[i]'(by omega)).Id)), (.int .i64 ((l[i]'(by omega)).Tier)), (.int .i64 ((l[i]'(by omega)).From)), (.int .i64 ((l[i]'(by omega)).To)), (.int .u32 ((l[i]'(by omega)).Sum))]), (kEq (.agg #[(.int .i64 ((l[i]'(by omega)).Id)), (.int .i64 ((l[i]'(by omega)).Tier)), (.int .i64 ((l[i]'(by omega)).From)), (.int .i64 ((l[i]'(by omega)).To)), (.int .u32 ((l[i]'(by omega)).Sum))])), (kSlU [6, 10] infoE ([(l[i]'(by omega))])), (fun (D : Nat → Bool) (v96 : Value) (w : World) => (D 6 = true → D 10 = false → St w0 w [rowT 34 infoE v96 ((ys.take k) ++ ([(l[i]'(by omega))])), rowT 34 infoE vo ys])), (kEq vo), (kEq (.int .i64 (k : Int))), (kSlF infoE vo ys (ys.drop k)), (fun (D : Nat → Bool) (v100 : Value) (w : World) => (D 10 = true → St w0 w [rowT 34 infoE v100 (((ys.take k) ++ ([(l[i]'(by omega))])) ++ (ys.drop k)), rowT 34 infoE vo ys])), (fun (D : Nat → Bool) (v100 : Value) (w : World) => (D 10 = true → St w0 w [rowT 34 infoE v100 (((ys.take k) ++ ([(l[i]'(by omega))])) ++ (ys.drop k)), rowT 34 infoE vo ys]))] := ⟨mEq, mEq, mEq, mPt0, mEq, (mSlUs (by decide)), (fun D D' v w w' hD hb h2 => (fun x0 x1 => (h2 ((hD 6 (by decide)).symm.trans x0) ((hD 10 (by decide)).symm.trans x1)).ext hb)), mEq, mEq, mSlF, (fun D D' v w w' hD hb h2 => (fun x0 => (h2 ((hD 10 (by decide)).symm.trans x0)).ext hb)), (fun D D' v w w' hD hb h2 => (fun x0 => (h2 ((hD 10 (by decide)).symm.trans x0)).ext hb)), trivial⟩
      refine cE_regionK (fun (D : Nat → Bool) (w : World) => St w0 w [rowT 34 infoE vo ys] ∧ (D 6 = false → St w0 w [rowT 34 infoE v89 (ys.take k), rowT 34 infoE vo ys])) [[(8, none)], [(0, none)], [(6, none)], [(48, some 1), (49, some 2)], [(50, some 3)], [(51, some 4)], [(47, some 0), (52, some 5)], [(5, none)], [(7, none)], [(54, some 7), (55, some 8)], [(53, some 6), (56, some 9)], [(57, some 10)]] (RofK [(kEq v89), (kEq v_l), (kEq (.int .i64 (i : Int))), (kPt0 w0 [(.int .i64 ((l[i]'(by omega)).Id)), (.int .i64 ((l[i]'(by omega)).Tier)), (.int .i64 ((l[i]'(by omega)).From)), (.int .i64 ((l[i]'(by omega)).To)), (.int .u32 ((l[i]'(by omega)).Sum))]), (kEq (.agg #[(.int .i64 ((l[i]'(by omega)).Id)), (.int .i64 ((l[i]'(by omega)).Tier)), (.int .i64 ((l[i]'(by omega)).From)), (.int .i64 ((l[i]'(by omega)).To)), (.int .u32 ((l[i]'(by omega)).Sum))])), (kSlU [6, 10] infoE ([(l[i]'(by omega))])), (fun (D : Nat → Bool) (v96 : Value) (w : World) => (D 6 = true → D 10 = false → St w0 w [rowT 34 infoE v96 ((ys.take k) ++ ([(l[i]'(by omega))])), rowT 34 infoE vo ys])), (kEq vo), (kEq (.int .i64 (k : Int))), (kSlF infoE vo ys (ys.drop k)), (fun (D : Nat → Bool) (v100 : Value) (w : World) => (D 10 = true → St w0 w [rowT 34 infoE v100 (((ys.take k) ++ ([(l[i]'(by omega))])) ++ (ys.drop k)), rowT 34 infoE vo ys])), (fun (D : Nat → Bool) (v100 : Value) (w : World) => (D 10 = true → St w0 w [rowT 34 infoE v100 (((ys.take k) ++ ([(l[i]'(by omega))])) ++ (ys.drop k)), rowT 34 infoE vo ys]))]) (by kernel_rfl) rfl (by kernel_rfl) ⟨hst.drewW.sub (.cons _ (.cons_cons _ .slnil)), (fun _ => hst.drewW)⟩ ⟨?_, ?_, ?_, ?_, ?_, ?_, ?_, ?_, ?_, ?_, ?_, ?_, trivial⟩ ?_
      · rintro D104 ρ105 w106 hD107 hE108 hC109 hJ110 hA111 ⟨f8, _⟩
        have hst := hJ110.2 (not_yet hD107 (fun hm => (hC109 6 0 hm (by kernel_rfl))))
        replace hst : St w0 w106 [rowT 34 infoE v89 (ys.take k), rowT 34 infoE vo ys] := hst
        exact go_plain (op_move v89 (f8.trans rfl) (kN0 (i := 0) hM102 (by decide) (by exact hJ110) (by exact rfl)))
      · rintro D112 ρ113 w114 hD115 hE116 hC117 hJ118 hA119 ⟨f0, _⟩
        have hst := hJ118.2 (not_yet hD115 (fun hm => (hC117 3 1 (hC117 4 3 (hC117 5 4 (hC117 6 5 hm (by kernel_rfl)) (by kernel_rfl)) (by kernel_rfl)) (by kernel_rfl))))
        replace hst : St w0 w114 [rowT 34 infoE v89 (ys.take k), rowT 34 infoE vo ys] := hst
        exact go_plain (op_move v_l (f0.trans uw83_0) (kN0 (i := 1) hM102 (by decide) (by exact hJ118) (by exact rfl)))
      · rintro D120 ρ121 w122 hD123 hE124 hC125 hJ126 hA127 ⟨f6, _⟩
        have hst := hJ126.2 (not_yet hD123 (fun hm => (hC125 3 2 (hC125 4 3 (hC125 5 4 (hC125 6 5 hm (by kernel_rfl)) (by kernel_rfl)) (by kernel_rfl)) (by kernel_rfl))))
        replace hst : St w0 w122 [rowT 34 infoE v89 (ys.take k), rowT 34 infoE vo ys] := hst
        exact go_plain (op_move (.int .i64 (i : Int)) (f6.trans uw83_6) (kN0 (i := 2) hM102 (by decide) (by exact hJ126) (by exact rfl)))
      · rintro D128 ρ129 w130 hD131 hE132 hC133 hJ134 hA135 ⟨f48, f49, _⟩
        have hst := hJ134.2 (not_yet hD131 (fun hm => (hC133 4 3 (hC133 5 4 (hC133 6 5 hm (by kernel_rfl)) (by kernel_rfl)) (by kernel_rfl))))
        replace hst : St w0 w130 [rowT 34 infoE v89 (ys.take k), rowT 34 infoE vo ys] := hst
        refine go_plain (op_indexAddrN (E := infoE) (xs := l) i Try.underlying22 Try.sizeOf34 f48 h_l f49 (by omega) (by omega) (fun a136 o137 p138 => ?_))
        exact (kN0 (i := 3) hM102 (by decide) (by exact hJ134) (by exact ⟨_, _, rfl, p138⟩))
      · rintro D139 ρ140 w141 hD142 hE143 hC144 hJ145 hA146 ⟨f50, _⟩
        have hst := hJ145.2 (not_yet hD142 (fun hm => (hC144 5 4 (hC144 6 5 hm (by kernel_rfl)) (by kernel_rfl))))
        replace hst : St w0 w141 [rowT 34 infoE v89 (ys.take k), rowT 34 infoE vo ys] := hst
        obtain ⟨a147, o148, e149, p150⟩ := f50
        exact go_plain (op_loadN (cs := [(.int .i64 ((l[i]'(by omega)).Id)), (.int .i64 ((l[i]'(by omega)).Tier)), (.int .i64 ((l[i]'(by omega)).From)), (.int .i64 ((l[i]'(by omega)).To)), (.int .u32 ((l[i]'(by omega)).Sum))]) Try.isAgg34 Try.sizeOf34 e149 (Pt.of (p150.below hst.below) rfl) rfl (kN0 (i := 4) hM102 (by decide) (by exact hJ145) (by exact rfl)))
      · rintro D151 ρ152 w153 hD154 hE155 hC156 hJ157 hA158 ⟨f51, _⟩
        have hst := hJ157.2 (not_yet hD154 (fun hm => (hC156 6 5 hm (by kernel_rfl))))
        replace hst : St w0 w153 [rowT 34 infoE v89 (ys.take k), rowT 34 infoE vo ys] := hst
        have hst := St.start w153
        refine go_plain (op_buildSlice (E := infoE) [(l[i]'(by omega))] hst Try.underlying22 Try.sizeOf34 Try.zeroValue34 (evp_cons (v := (.agg #[(.int .i64 ((l[i]'(by omega)).Id)), (.int .i64 ((l[i]'(by omega)).Tier)), (.int .i64 ((l[i]'(by omega)).From)), (.int .i64 ((l[i]'(by omega)).To)), (.int .u32 ((l[i]'(by omega)).Sum))])) f51 evp_nil) (parts_cons rfl parts_nil) rfl (by decide) (fun v159 w160 hst => ?_))
        exact kN (i := 5) hM102 (by decide) hst.below (by exact ⟨(hJ157.1).ext hst.below, (fun x0 => (hJ157.2 x0).ext hst.below)⟩) (by exact fun _ => hst.sl 0 rfl)
      · rintro D161 ρ162 w163 hD164 hE165 hC166 hJ167 hA168 ⟨f47, f52, _⟩
        have hst := hJ167.2 hD164
        replace hst : St w0 w163 [rowT 34 infoE v89 (ys.take k), rowT 34 infoE vo ys] := hst
        obtain ⟨v170, e171⟩ : ∃ x, ρ162 52 = x := ⟨_, rfl⟩
        have hs169 := f52 (by intro m hm; simp only [List.mem_cons, List.not_mem_nil, or_false] at hm; rcases hm with rfl | rfl; exact hD164; exact (not_yet hD164 (fun hm => (hC166 10 6 hm (by kernel_rfl)))))
        replace hs169 : Sl w163 infoE v170 ([(l[i]'(by omega))]) := e171 ▸ hs169
        refine go_plain (op_append (E := infoE) (xs := (ys.take k)) (ys := [(l[i]'(by omega))]) (z := (.agg #[(.int .i64 0), (.int .i64 0), (.int .i64 0), (.int .i64 0), (.int .u32 0)])) (bytes := 40) hst 0 rfl Try.underlying22 (by kernel_rfl) rfl f47 e171 hs169 (by first | omega | (simp; omega) | (simp; done)) (by first | omega | (simp; omega) | (simp; done)) (fun v172 w173 hst => ?_))
        replace hst : St w0 w173 [rowT 34 infoE v172 ((ys.take k) ++ ([(l[i]'(by omega))])), rowT 34 infoE vo ys] := hst
        have hI174 : stabIXs 6 [] D161 0 [(kEq v89), (kEq v_l), (kEq (.int .i64 (i : Int))), (kPt0 w0 [(.int .i64 ((l[i]'(by omega)).Id)), (.int .i64 ((l[i]'(by omega)).Tier)), (.int .i64 ((l[i]'(by omega)).From)), (.int .i64 ((l[i]'(by omega)).To)), (.int .u32 ((l[i]'(by omega)).Sum))]), (kEq (.agg #[(.int .i64 ((l[i]'(by omega)).Id)), (.int .i64 ((l[i]'(by omega)).Tier)), (.int .i64 ((l[i]'(by omega)).From)), (.int .i64 ((l[i]'(by omega)).To)), (.int .u32 ((l[i]'(by omega)).Sum))])), (kSlU [6, 10] infoE ([(l[i]'(by omega))])), (fun (D : Nat → Bool) (v96 : Value) (w : World) => (D 6 = true → D 10 = false → St w0 w [rowT 34 infoE v96 ((ys.take k) ++ ([(l[i]'(by omega))])), rowT 34 infoE vo ys])), (kEq vo), (kEq (.int .i64 (k : Int))), (kSlF infoE vo ys (ys.drop k)), (fun (D : Nat → Bool) (v100 : Value) (w : World) => (D 10 = true → St w0 w [rowT 34 infoE v100 (((ys.take k) ++ ([(l[i]'(by omega))])) ++ (ys.drop k)), rowT 34 infoE vo ys])), (fun (D : Nat → Bool) (v100 : Value) (w : World) => (D 10 = true → St w0 w [rowT 34 infoE v100 (((ys.take k) ++ ([(l[i]'(by omega))])) ++ (ys.drop k)), rowT 34 infoE vo ys]))] := ⟨Or.inr (Or.inr (Or.inr iEq)), Or.inr (Or.inr (Or.inr iEq)), Or.inr (Or.inr (Or.inr iEq)), Or.inr (Or.inr (Or.inr iPt0)), Or.inr (Or.inr (Or.inr iEq)), Or.inr (Or.inr (Or.inr (iSlU (by decide)))), Or.inl rfl, Or.inr (Or.inr (Or.inr iEq)), Or.inr (Or.inr (Or.inr iEq)), Or.inr (Or.inr (Or.inr iSlF)), Or.inr (Or.inr (Or.inl (not_yet hD164 (fun hm => (hC166 10 6 hm (by kernel_rfl)))))), Or.inr (Or.inr (Or.inl (not_yet hD164 (fun hm => (hC166 11 6 hm (by kernel_rfl)))))), trivial⟩
        refine ⟨by exact ⟨hst.sub (.cons _ (.cons_cons _ .slnil)), (fun y0 => absurd y0 (fun h => Bool.noConfusion h))⟩, by exact (fun y0 y1 => hst.sub (.cons_cons _ (.cons_cons _ .slnil))), kX [] hI174 ?_⟩
        intro j d hj; cases hj
      · rintro D175 ρ176 w177 hD178 hE179 hC180 hJ181 hA182 ⟨f5, _⟩
        have hst := hJ181.1
        exact go_plain (op_move vo (f5.trans uw83_5) (kN0 (i := 7) hM102 (by decide) (by exact hJ181) (by exact rfl)))
      · rintro D183 ρ184 w185 hD186 hE187 hC188 hJ189 hA190 ⟨f7, _⟩
        have hst := hJ189.1
        exact go_plain (op_move (.int .i64 (k : Int)) (f7.trans uw83_7) (kN0 (i := 8) hM102 (by decide) (by exact hJ189) (by exact rfl)))
      · rintro D191 ρ192 w193 hD194 hE195 hC196 hJ197 hA198 ⟨f54, f55, _⟩
        have hst := hJ197.1
        refine go_plain (op_slice_fromF k (E := infoE) (xs := ys) Try.underlying22 Try.sizeOf34 f54 (hst.sl 0 rfl) f55 (by omega) (by omega) (fun v199 hs200 => ?_))
        exact (kN0 (i := 9) hM102 (by decide) (by exact hJ197) (by exact hs200))
      · rintro D201 ρ202 w203 hD204 hE205 hC206 hJ207 hA208 ⟨f53, f56, _⟩
        obtain ⟨v209, e210⟩ : ∃ x, ρ202 53 = x := ⟨_, rfl⟩
        have hh211 := hA208 6 53 (hE205 6 (by kernel_rfl)) rfl
        have hst : St w0 w203 [rowT 34 infoE v209 ((ys.take k) ++ ([(l[i]'(by omega))])), rowT 34 infoE vo ys] := by have h := hh211 (hE205 6 (by kernel_rfl)) hD204; rw [e210] at h; exact h
        obtain ⟨v213, e214⟩ : ∃ x, ρ202 56 = x := ⟨_, rfl⟩
        have hs212 : Sl w203 infoE v213 (ys.drop k) := e214 ▸ f56 _ (hst.sl 1 rfl)
        refine go_plain (op_append (E := infoE) (xs := ((ys.take k) ++ ([(l[i]'(by omega))]))) (ys := (ys.drop k)) (z := (.agg #[(.int .i64 0), (.int .i64 0), (.int .i64 0), (.int .i64 0), (.int .u32 0)])) (bytes := 40) hst 0 rfl Try.underlying22 (by kernel_rfl) rfl e210 e214 hs212 (by first | omega | (simp; omega) | (simp; done)) (by first | omega | (simp; omega) | (simp; done)) (fun v215 w216 hst => ?_))
        replace hst : St w0 w216 [rowT 34 infoE v215 (((ys.take k) ++ ([(l[i]'(by omega))])) ++ (ys.drop k)), rowT 34 infoE vo ys] := hst
        have hI217 : stabIXs 10 [6] D201 0 [(kEq v89), (kEq v_l), (kEq (.int .i64 (i : Int))), (kPt0 w0 [(.int .i64 ((l[i]'(by omega)).Id)), (.int .i64 ((l[i]'(by omega)).Tier)), (.int .i64 ((l[i]'(by omega)).From)), (.int .i64 ((l[i]'(by omega)).To)), (.int .u32 ((l[i]'(by omega)).Sum))]), (kEq (.agg #[(.int .i64 ((l[i]'(by omega)).Id)), (.int .i64 ((l[i]'(by omega)).Tier)), (.int .i64 ((l[i]'(by omega)).From)), (.int .i64 ((l[i]'(by omega)).To)), (.int .u32 ((l[i]'(by omega)).Sum))])), (kSlU [6, 10] infoE ([(l[i]'(by omega))])), (fun (D : Nat → Bool) (v96 : Value) (w : World) => (D 6 = true → D 10 = false → St w0 w [rowT 34 infoE v96 ((ys.take k) ++ ([(l[i]'(by omega))])), rowT 34 infoE vo ys])), (kEq vo), (kEq (.int .i64 (k : Int))), (kSlF infoE vo ys (ys.drop k)), (fun (D : Nat → Bool) (v100 : Value) (w : World) => (D 10 = true → St w0 w [rowT 34 infoE v100 (((ys.take k) ++ ([(l[i]'(by omega))])) ++ (ys.drop k)), rowT 34 infoE vo ys])), (fun (D : Nat → Bool) (v100 : Value) (w : World) => (D 10 = true → St w0 w [rowT 34 infoE v100 (((ys.take k) ++ ([(l[i]'(by omega))])) ++ (ys.drop k)), rowT 34 infoE vo ys]))] := ⟨Or.inr (Or.inr (Or.inr iEq)), Or.inr (Or.inr (Or.inr iEq)), Or.inr (Or.inr (Or.inr iEq)), Or.inr (Or.inr (Or.inr iPt0)), Or.inr (Or.inr (Or.inr iEq)), Or.inr (Or.inr (Or.inr (iSlU (by decide)))), Or.inr (Or.inl (by decide)), Or.inr (Or.inr (Or.inr iEq)), Or.inr (Or.inr (Or.inr iEq)), Or.inr (Or.inr (Or.inr iSlF)), Or.inl rfl, Or.inr (Or.inr (Or.inl (not_yet hD204 (fun hm => (hC206 11 10 hm (by kernel_rfl)))))), trivial⟩
        refine ⟨by exact ⟨hst.sub (.cons _ (.cons_cons _ .slnil)), (fun y0 => absurd (show D201 6 = false from y0) (by rw [(hE205 6 (by kernel_rfl))]; decide))⟩, by exact (fun y0 => hst.sub (.cons_cons _ (.cons_cons _ .slnil))), kX [6] hI217 ?_⟩
        intro j d hj hjd hDj h
        simp only [List.mem_cons, List.not_mem_nil, or_false] at hj
        subst hj
        obtain rfl : 53 = d := Option.some.inj hjd
        exact (by rw [e210]; exact (fun y0 y1 => absurd y1 (fun h => Bool.noConfusion h)))
      · rintro D218 ρ219 w220 hD221 hE222 hC223 hJ224 hA225 ⟨f57, _⟩
        obtain ⟨v226, e227⟩ : ∃ x, ρ219 57 = x := ⟨_, rfl⟩
        have hh228 := hA225 10 57 (hE222 10 (by kernel_rfl)) rfl
        have hst : St w0 w220 [rowT 34 infoE v226 (((ys.take k) ++ ([(l[i]'(by omega))])) ++ (ys.drop k)), rowT 34 infoE vo ys] := by have h := hh228 (hE222 10 (by kernel_rfl)); rw [e227] at h; exact h
        exact go_plain (op_assign _ rfl (kN0 (i := 11) hM102 (by decide) (by exact hJ224) (by exact f57)))
      intro ρ229 w230 Dw230 hallw230 hJw230 hRw230 hkw230
      obtain ⟨v231, uw230_5⟩ : ∃ x, ρ229 5 = x := ⟨_, rfl⟩
      have hst : St w0 w230 [rowT 34 infoE v231 (((ys.take k) ++ ([(l[i]'(by omega))])) ++ (ys.drop k)), rowT 34 infoE vo ys] := by have h := hRw230 11 5 rfl; rw [uw230_5] at h; exact (h (hallw230 10 (show 10 < 12 from by decide)))
      have uw230_0 : ρ229 0 = v_l := (hkw230 0 rfl).trans uw83_0
      have uw230_1 : ρ229 1 = v_r := (hkw230 1 rfl).trans uw83_1
      have uw230_4 : ρ229 4 = (.slice none 0 0) := (hkw230 4 rfl).trans uw83_4
      have uw230_6 : ρ229 6 = (.int .i64 (i : Int)) := (hkw230 6 rfl).trans uw83_6
      have uw230_7 : ρ229 7 = (.int .i64 (k : Int)) := (hkw230 7 rfl).trans uw83_7
      have uw230_39 : ρ229 39 = (.bool (ahead (l[i]'(by omega)) (ys[(k - 1)]'(by omega)))) := (hkw230 39 rfl).trans uw83_39
      have uw230_42 : ρ229 42 = v85 := (hkw230 42 rfl).trans rfl
      have uw230_43 : ρ229 43 = vo := (hkw230 43 rfl).trans rfl
      have uw230_44 : ρ229 44 = (.int .i64 (k : Int)) := (hkw230 44 rfl).trans rfl
      have uw230_45 : ρ229 45 = v87 := (hkw230 45 rfl).trans rfl
      have uw230_46 : ρ229 46 = v89 := (hkw230 46 rfl).trans rfl
      refine block_n (then_n ?_)
      refine cE_region rfl ?_
      refine s_cons (op_move (.int .i64 (i : Int)) uw230_6 ?_)
      refine s_cons (op_add (k := .i64) (a := (i : Int)) (b := 1) ((i : Int) + 1) rfl rfl (xi64 (by omega) (by omega)) ?_)
      refine s_cons (op_assign (.int .i64 ((i : Int) + 1)) rfl ?_)
      refine s_nil ?_
      refine then_n ?_
      exact ⟨_, ⟨v231, (((ys.take k) ++ ([(l[i]'(by omega))])) ++ (ys.drop k)), (i + 1), rfl, uw230_0, uw230_1, uw230_4, uw230_5, (congrArg (Value.int .i64) (show ((i : Int) + 1) = _ from by omega)), (hst.sub (.cons_cons _ (.cons _ .slnil))), (by omega), (by first | rfl | exact hI.trans (ref_yes (by omega) (by assumption)) | exact ref_no (by omega) (by assumption) hI (hS.trans (seat_no (by omega) (by omega) (by assumption))) | exact ref_no (by omega) (by assumption) hI (hS.trans (seat_zero (by omega))))⟩, (by simp only [id]; omega)⟩
    have c232 : ¬ (0 < (k : Int)) := of_decide_eq_false b16
    refine cE_regionL hst [[(7, none)], [(26, some 0)], [(27, some 1)], [(0, none), (28, some 2)], [(6, none), (28, some 2)], [(29, some 3), (30, some 4), (28, some 2)], [(31, some 5), (28, some 2)], [(5, none), (28, some 2)], [(7, none), (28, some 2)], [(34, some 8), (28, some 2)], [(33, some 7), (35, some 9), (28, some 2)], [(36, some 10), (28, some 2)], [(32, some 6), (37, some 11), (28, some 2)], [(28, some 2), (38, some 12)]] [(rEq (.int .i64 (k : Int))), (rEq (.bool (decide (0 < (k : Int))))), (rEq (.bool (decide (0 < (k : Int))))), (rEq undef), (rEq undef), (rEq undef), (rEq undef), (rEq undef), (rEq undef), (rEq undef), (rEq undef), (rEq undef), (rEq undef), (rEq (.bool false))] (by kernel_rfl) rfl (by kernel_rfl) ⟨sEq, sEq, sEq, sEq, sEq, sEq, sEq, sEq, sEq, sEq, sEq, sEq, sEq, sEq, trivial⟩ ⟨?_, ?_, ?_, ?_, ?_, ?_, ?_, ?_, ?_, ?_, ?_, ?_, ?_, ?_, trivial⟩ ?_
    · rintro ρ233 w234 hj235 ⟨f7, _⟩
      have hst := hj235.2
      exact go_plain (op_move (.int .i64 (k : Int)) (f7.trans q12_7) (kS hj235 rfl))
    · rintro ρ236 w237 hj238 ⟨f26, _⟩
      have hst := hj238.2
      exact go_plain (op_gtr (k := .i64) (a := (k : Int)) (b := 0) f26 rfl (kS hj238 rfl))
    · rintro ρ239 w240 hj241 ⟨f27, _⟩
      have hst := hj241.2
      exact go_plain (op_move (.bool (decide (0 < (k : Int)))) f27 (kS hj241 rfl))
    · rintro ρ242 w243 hj244 ⟨f0, f28, _⟩
      have hst := hj244.2
      exact go_no 28 rfl (f28.trans (congrArg Value.bool b16)) (kS hj244 rfl)
    · rintro ρ245 w246 hj247 ⟨f6, f28, _⟩
      have hst := hj247.2
      exact go_no 28 rfl (f28.trans (congrArg Value.bool b16)) (kS hj247 rfl)
    · rintro ρ248 w249 hj250 ⟨f29, f30, f28, _⟩
      have hst := hj250.2
      exact go_no 28 rfl (f28.trans (congrArg Value.bool b16)) (kS hj250 rfl)
    · rintro ρ251 w252 hj253 ⟨f31, f28, _⟩
      have hst := hj253.2
      exact go_no 28 rfl (f28.trans (congrArg Value.bool b16)) (kS hj253 rfl)
    · rintro ρ254 w255 hj256 ⟨f5, f28, _⟩
      have hst := hj256.2
      exact go_no 28 rfl (f28.trans (congrArg Value.bool b16)) (kS hj256 rfl)
    · rintro ρ257 w258 hj259 ⟨f7, f28, _⟩
      have hst := hj259.2
      exact go_no 28 rfl (f28.trans (congrArg Value.bool b16)) (kS hj259 rfl)
    · rintro ρ260 w261 hj262 ⟨f34, f28, _⟩
      have hst := hj262.2
      exact go_no 28 rfl (f28.trans (congrArg Value.bool b16)) (kS hj262 rfl)
    · rintro ρ263 w264 hj265 ⟨f33, f35, f28, _⟩
      have hst := hj265.2
      exact go_no 28 rfl (f28.trans (congrArg Value.bool b16)) (kS hj265 rfl)
    · rintro ρ266 w267 hj268 ⟨f36, f28, _⟩
      have hst := hj268.2
      exact go_no 28 rfl (f28.trans (congrArg Value.bool b16)) (kS hj268 rfl)
    · rintro ρ269 w270 hj271 ⟨f32, f37, f28, _⟩
      have hst := hj271.2
      exact go_no 28 rfl (f28.trans (congrArg Value.bool b16)) (kS hj271 rfl)
    · rintro ρ272 w273 hj274 ⟨f28, f38, _⟩
      have hst := hj274.2
      exact go_plain (op_pick_f (.bool false) (f28.trans (congrArg Value.bool b16)) rfl (kS hj274 rfl))
    intro ρ275 w276 hbw276 hst hRw276 hkw276
    have uw276_0 : ρ275 0 = v_l := (hkw276 0 rfl).trans q12_0
    have uw276_1 : ρ275 1 = v_r := (hkw276 1 rfl).trans q12_1
    have uw276_4 : ρ275 4 = (.slice none 0 0) := (hkw276 4 rfl).trans q12_4
    have uw276_5 : ρ275 5 = vo := (hkw276 5 rfl).trans q12_5
    have uw276_6 : ρ275 6 = (.int .i64 (i : Int)) := (hkw276 6 rfl).trans q12_6
    have uw276_7 : ρ275 7 = (.int .i64 (k : Int)) := (hkw276 7 rfl).trans q12_7
    have uw276_39 : ρ275 39 = (.bool false) := hRw276 13 39 rfl
    refine then_n ?_
    refine cE_cond false uw276_39 (fun h => by cases h) (fun _ => ?_)
    refine cE_exit ?_
    refine then_x (then_x (block_hit (then_n ?_)))
    refine cE_seq ?_
    refine cE_region rfl ?_
    refine s_cons (op_buildSlice (E := infoE) [] hst Try.underlying22 Try.sizeOf34 Try.zeroValue34 evp_nil parts_nil rfl (by decide) (fun v277 w278 hst => ?_))
    replace hst : St w0 w278 [rowT 34 infoE v277 ([]), rowT 34 infoE vo ys] := hst
    refine s_cons (op_move vo uw276_5 ?_)
    refine s_cons (op_move (.int .i64 (k : Int)) uw276_7 ?_)
    refine s_cons (op_slice_toN k (E := infoE) (xs := ys) Try.underlying22 Try.sizeOf34 rfl (hst.sl 1 rfl) rfl (by omega) (by omega) (fun v279 hs280 => ?_))
    refine s_cons (op_append (E := infoE) (xs := []) (ys := (ys.take k)) (z := (.agg #[(.int .i64 0), (.int .i64 0), (.int .i64 0), (.int .i64 0), (.int .u32 0)])) (bytes := 40) hst 0 rfl Try.underlying22 (by kernel_rfl) rfl rfl rfl hs280 (by first | omega | (simp; omega) | (simp; done)) (by first | omega | (simp; omega) | (simp; done)) (fun v281 w282 hst => ?_))
    replace hst : St w0 w282 [rowT 34 infoE v281 (ys.take k), rowT 34 infoE vo ys] := hst
    refine s_cons (op_assign v281 rfl ?_)
    refine s_nil ?_
    refine then_n ?_
    have hM294 : stabML [6, 10] [(kEq v281), (kEq v_l), (kEq (.int .i64 (i : Int))), (kPt0 w0 [(.int .i64 ((l[i]'(by omega)).Id)), (.int .i64 ((l[i]'(by omega)).Tier)), (.int .i64 ((l[i]'(by omega)).From)), (.int .i64 ((l[i]'(by omega)).To)), (.int .u32 ((l[i]'(by omega)).Sum))]), (kEq (.agg #[(.int .i64 ((l[i]'(by omega)).Id)), (.int .i64 ((l[i]'(by omega)).Tier)), (.int .i64 ((l[i]'(by omega)).From)), (.int .i64 ((l[i]'(by omega)).To)), (.int .u32 ((l[i]'(by omega)).Sum))])), (kSlU [6, 10] infoE ([(l[i]'(by omega))])), (fun (D : Nat → Bool) (v288 : Value) (w : World) => (D 6 = true → D 10 = false → St w0 w [rowT 34 infoE v288 ((ys.take k) ++ ([(l[i]'(by omega))])), rowT 34 infoE vo ys])), (kEq vo), (kEq (.int .i64 (k : Int))), (kSlF infoE vo ys (ys.drop k)), (fun (D : Nat → Bool) (v292 : Value) (w : World) => (D 10 = true → St w0 w [rowT 34 infoE v292 (((ys.take k) ++ ([(l[i]'(by omega))])) ++ (ys.drop k)), rowT 34 infoE vo ys])), (fun (D : Nat → Bool) (v292 : Value) (w : World) => (D 10 = true → St w0 w [rowT 34 infoE v292 (((ys.take k) ++ ([(l[i]'(by omega))])) ++ (ys.drop k)), rowT 34 infoE vo ys]))] := ⟨mEq, mEq, mEq, mPt0, mEq, (mSlUs (by decide)), (fun D D' v w w' hD hb h2 => (fun x0 x1 => (h2 ((hD 6 (by decide)).symm.trans x0) ((hD 10 (by decide)).symm.trans x1)).ext hb)), mEq, mEq, mSlF, (fun D D' v w w' hD hb h2 => (fun x0 => (h2 ((hD 10 (by decide)).symm.trans x0)).ext hb)), (fun D D' v w w' hD hb h2 => (fun x0 => (h2 ((hD 10 (by decide)).symm.trans x0)).ext hb)), trivial⟩
    refine cE_regionK (fun (D : Nat → Bool) (w : World) => St w0 w [rowT 34 infoE vo ys] ∧ (D 6 = false → St w0 w [rowT 34 infoE v281 (ys.take k), rowT 34 infoE vo ys])) [[(8, none)], [(0, none)], [(6, none)], [(48, some 1), (49, some 2)], [(50, some 3)], [(51, some 4)], [(47, some 0), (52, some 5)], [(5, none)], [(7, none)], [(54, some 7), (55, some 8)], [(53, some 6), (56, some 9)], [(57, some 10)]] (RofK [(kEq v281), (kEq v_l), (kEq (.int .i64 (i : Int))), (kPt0 w0 [(.int .i64 ((l[i]'(by omega)).Id)), (.int .i64 ((l[i]'(by omega)).Tier)), (.int .i64 ((l[i]'(by omega)).From)), (.int .i64 ((l[i]'(by omega)).To)), (.int .u32 ((l[i]'(by omega)).Sum))]), (kEq (.agg #[(.int .i64 ((l[i]'(by omega)).Id)), (.int .i64 ((l[i]'(by omega)).Tier)), (.int .i64 ((l[i]'(by omega)).From)), (.int .i64 ((l[i]'(by omega)).To)), (.int .u32 ((l[i]'(by omega)).Sum))])), (kSlU [6, 10] infoE ([(l[i]'(by omega))])), (fun (D : Nat → Bool) (v288 : Value) (w : World) => (D 6 = true → D 10 = false → St w0 w [rowT 34 infoE v288 ((ys.take k) ++ ([(l[i]'(by omega))])), rowT 34 infoE vo ys])), (kEq vo), (kEq (.int .i64 (k : Int))), (kSlF infoE vo ys (ys.drop k)), (fun (D : Nat → Bool) (v292 : Value) (w : World) => (D 10 = true → St w0 w [rowT 34 infoE v292 (((ys.take k) ++ ([(l[i]'(by omega))])) ++ (ys.drop k)), rowT 34 infoE vo ys])), (fun (D : Nat → Bool) (v292 : Value) (w : World) => (D 10 = true → St w0 w [rowT 34 infoE v292 (((ys.take k) ++ ([(l[i]'(by omega))])) ++ (ys.drop k)), rowT 34 infoE vo ys]))]) (by kernel_rfl) rfl (by kernel_rfl) ⟨hst.drewW.sub (.cons _ (.cons_cons _ .slnil)), (fun _ => hst.drewW)⟩ ⟨?_, ?_, ?_, ?_, ?_, ?_, ?_, ?_, ?_, ?_, ?_, ?_, trivial⟩ ?_
    · rintro D296 ρ297 w298 hD299 hE300 hC301 hJ302 hA303 ⟨f8, _⟩
      have hst := hJ302.2 (not_yet hD299 (fun hm => (hC301 6 0 hm (by kernel_rfl))))
      replace hst : St w0 w298 [rowT 34 infoE v281 (ys.take k), rowT 34 infoE vo ys] := hst
      exact go_plain (op_move v281 (f8.trans rfl) (kN0 (i := 0) hM294 (by decide) (by exact hJ302) (by exact rfl)))
    · rintro D304 ρ305 w306 hD307 hE308 hC309 hJ310 hA311 ⟨f0, _⟩
      have hst := hJ310.2 (not_yet hD307 (fun hm => (hC309 3 1 (hC309 4 3 (hC309 5 4 (hC309 6 5 hm (by kernel_rfl)) (by kernel_rfl)) (by kernel_rfl)) (by kernel_rfl))))
      replace hst : St w0 w306 [rowT 34 infoE v281 (ys.take k), rowT 34 infoE vo ys] := hst
      exact go_plain (op_move v_l (f0.trans uw276_0) (kN0 (i := 1) hM294 (by decide) (by exact hJ310) (by exact rfl)))
    · rintro D312 ρ313 w314 hD315 hE316 hC317 hJ318 hA319 ⟨f6, _⟩
      have hst := hJ318.2 (not_yet hD315 (fun hm => (hC317 3 2 (hC317 4 3 (hC317 5 4 (hC317 6 5 hm (by kernel_rfl)) (by kernel_rfl)) (by kernel_rfl)) (by kernel_rfl))))
      replace hst : St w0 w314 [rowT 34 infoE v281 (ys.take k), rowT 34 infoE vo ys] := hst
      exact go_plain (op_move (.int .i64 (i : Int)) (f6.trans uw276_6) (kN0 (i := 2) hM294 (by decide) (by exact hJ318) (by exact rfl)))
    · rintro D320 ρ321 w322 hD323 hE324 hC325 hJ326 hA327 ⟨f48, f49, _⟩
      have hst := hJ326.2 (not_yet hD323 (fun hm => (hC325 4 3 (hC325 5 4 (hC325 6 5 hm (by kernel_rfl)) (by kernel_rfl)) (by kernel_rfl))))
      replace hst : St w0 w322 [rowT 34 infoE v281 (ys.take k), rowT 34 infoE vo ys] := hst
      refine go_plain (op_indexAddrN (E := infoE) (xs := l) i Try.underlying22 Try.sizeOf34 f48 h_l f49 (by omega) (by omega) (fun a328 o329 p330 => ?_))
      exact (kN0 (i := 3) hM294 (by decide) (by exact hJ326) (by exact ⟨_, _, rfl, p330⟩))
    · rintro D331 ρ332 w333 hD334 hE335 hC336 hJ337 hA338 ⟨f50, _⟩
      have hst := hJ337.2 (not_yet hD334 (fun hm => (hC336 5 4 (hC336 6 5 hm (by kernel_rfl)) (by kernel_rfl))))
      replace hst : St w0 w333 [rowT 34 infoE v281 (ys.take k), rowT 34 infoE vo ys] := hst
      obtain ⟨a339, o340, e341, p342⟩ := f50
      exact go_plain (op_loadN (cs := [(.int .i64 ((l[i]'(by omega)).Id)), (.int .i64 ((l[i]'(by omega)).Tier)), (.int .i64 ((l[i]'(by omega)).From)), (.int .i64 ((l[i]'(by omega)).To)), (.int .u32 ((l[i]'(by omega)).Sum))]) Try.isAgg34 Try.sizeOf34 e341 (Pt.of (p342.below hst.below) rfl) rfl (kN0 (i := 4) hM294 (by decide) (by exact hJ337) (by exact rfl)))
    · rintro D343 ρ344 w345 hD346 hE347 hC348 hJ349 hA350 ⟨f51, _⟩
      have hst := hJ349.2 (not_yet hD346 (fun hm => (hC348 6 5 hm (by kernel_rfl))))
      replace hst : St w0 w345 [rowT 34 infoE v281 (ys.take k), rowT 34 infoE vo ys] := hst
      have hst := St.start w345
      refine go_plain (op_buildSlice (E := infoE) [(l[i]'(by omega))] hst Try.underlying22 Try.sizeOf34 Try.zeroValue34 (evp_cons (v := (.agg #[(.int .i64 ((l[i]'(by omega)).Id)), (.int .i64 ((l[i]'(by omega)).Tier)), (.int .i64 ((l[i]'(by omega)).From)), (.int .i64 ((l[i]'(by omega)).To)), (.int .u32 ((l[i]'(by omega)).Sum))])) f51 evp_nil) (parts_cons rfl parts_nil) rfl (by decide) (fun v351 w352 hst => ?_))
      exact kN (i := 5) hM294 (by decide) hst.below (by exact ⟨(hJ349.1).ext hst.below, (fun x0 => (hJ349.2 x0).ext hst.below)⟩) (by exact fun _ => hst.sl 0 rfl)
    · rintro D353 ρ354 w355 hD356 hE357 hC358 hJ359 hA360 ⟨f47, f52, _⟩
      have hst := hJ359.2 hD356
      replace hst : St w0 w355 [rowT 34 infoE v281 (ys.take k), rowT 34 infoE vo ys] := hst
      obtain ⟨v362, e363⟩ : ∃ x, ρ354 52 = x := ⟨_, rfl⟩
      have hs361 := f52 (by intro m hm; simp only [List.mem_cons, List.not_mem_nil, or_false] at hm; rcases hm with rfl | rfl; exact hD356; exact (not_yet hD356 (fun hm => (hC358 10 6 hm (by kernel_rfl)))))
      replace hs361 : Sl w355 infoE v362 ([(l[i]'(by omega))]) := e363 ▸ hs361
      refine go_plain (op_append (E := infoE) (xs := (ys.take k)) (ys := [(l[i]'(by omega))]) (z := (.agg #[(.int .i64 0), (.int .i64 0), (.int .i64 0), (.int .i64 0), (.int .u32 0)])) (bytes := 40) hst 0 rfl Try.underlying22 (by kernel_rfl) rfl f47 e363 hs361 (by first | omega | (simp; omega) | (simp; done)) (by first | omega | (simp; omega) | (simp; done)) (fun v364 w365 hst => ?_))
      replace hst : St w0 w365 [rowT 34 infoE v364 ((ys.take k) ++ ([(l[i]'(by omega))])), rowT 34 infoE vo ys] := hst
      have hI366 : stabIXs 6 [] D353 0 [(kEq v281), (kEq v_l), (kEq (.int .i64 (i : Int))), (kPt0 w0 [(.int .i64 ((l[i]'(by omega)).Id)), (.int .i64 ((l[i]'(by omega)).Tier)), (.int .i64 ((l[i]'(by omega)).From)), (.int .i64 ((l[i]'(by omega)).To)), (.int .u32 ((l[i]'(by omega)).Sum))]), (kEq (.agg #[(.int .i64 ((l[i]'(by omega)).Id)), (.int .i64 ((l[i]'(by omega)).Tier)), (.int .i64 ((l[i]'(by omega)).From)), (.int .i64 ((l[i]'(by omega)).To)), (.int .u32 ((l[i]'(by omega)).Sum))])), (kSlU [6, 10] infoE ([(l[i]'(by omega))])), (fun (D : Nat → Bool) (v288 : Value) (w : World) => (D 6 = true → D 10 = false → St w0 w [rowT 34 infoE v288 ((ys.take k) ++ ([(l[i]'(by omega))])), rowT 34 infoE vo ys])), (kEq vo), (kEq (.int .i64 (k : Int))), (kSlF infoE vo ys (ys.drop k)), (fun (D : Nat → Bool) (v292 : Value) (w : World) => (D 10 = true → St w0 w [rowT 34 infoE v292 (((ys.take k) ++ ([(l[i]'(by omega))])) ++ (ys.drop k)), rowT 34 infoE vo ys])), (fun (D : Nat → Bool) (v292 : Value) (w : World) => (D 10 = true → St w0 w [rowT 34 infoE v292 (((ys.take k) ++ ([(l[i]'(by omega))])) ++ (ys.drop k)), rowT 34 infoE vo ys]))] := ⟨Or.inr (Or.inr (Or.inr iEq)), Or.inr (Or.inr (Or.inr iEq)), Or.inr (Or.inr (Or.inr iEq)), Or.inr (Or.inr (Or.inr iPt0)), Or.inr (Or.inr (Or.inr iEq)), Or.inr (Or.inr (Or.inr (iSlU (by decide)))), Or.inl rfl, Or.inr (Or.inr (Or.inr iEq)), Or.inr (Or.inr (Or.inr iEq)), Or.inr (Or.inr (Or.inr iSlF)), Or.inr (Or.inr (Or.inl (not_yet hD356 (fun hm => (hC358 10 6 hm (by kernel_rfl)))))), Or.inr (Or.inr (Or.inl (not_yet hD356 (fun hm => (hC358 11 6 hm (by kernel_rfl)))))), trivial⟩
      refine ⟨by exact ⟨hst.sub (.cons _ (.cons_cons _ .slnil)), (fun y0 => absurd y0 (fun h => Bool.noConfusion h))⟩, by exact (fun y0 y1 => hst.sub (.cons_cons _ (.cons_cons _ .slnil))), kX [] hI366 ?_⟩
      intro j d hj; cases hj
    · rintro D367 ρ368 w369 hD370 hE371 hC372 hJ373 hA374 ⟨f5, _⟩
      have hst := hJ373.1
      exact go_plain (op_move vo (f5.trans uw276_5) (kN0 (i := 7) hM294 (by decide) (by exact hJ373) (by exact rfl)))
    · rintro D375 ρ376 w377 hD378 hE379 hC380 hJ381 hA382 ⟨f7, _⟩
      have hst := hJ381.1
      exact go_plain (op_move (.int .i64 (k : Int)) (f7.trans uw276_7) (kN0 (i := 8) hM294 (by decide) (by exact hJ381) (by exact rfl)))
    · rintro D383 ρ384 w385 hD386 hE387 hC388 hJ389 hA390 ⟨f54, f55, _⟩
      have hst := hJ389.1
      refine go_plain (op_slice_fromF k (E := infoE) (xs := ys) Try.underlying22 Try.sizeOf34 f54 (hst.sl 0 rfl) f55 (by omega) (by omega) (fun v391 hs392 => ?_))
      exact (kN0 (i := 9) hM294 (by decide) (by exact hJ389) (by exact hs392))
    · rintro D393 ρ394 w395 hD396 hE397 hC398 hJ399 hA400 ⟨f53, f56, _⟩
      obtain ⟨v401, e402⟩ : ∃ x, ρ394 53 = x := ⟨_, rfl⟩
      have hh403 := hA400 6 53 (hE397 6 (by kernel_rfl)) rfl
      have hst : St w0 w395 [rowT 34 infoE v401 ((ys.take k) ++ ([(l[i]'(by omega))])), rowT 34 infoE vo ys] := by have h := hh403 (hE397 6 (by kernel_rfl)) hD396; rw [e402] at h; exact h
      obtain ⟨v405, e406⟩ : ∃ x, ρ394 56 = x := ⟨_, rfl⟩
      have hs404 : Sl w395 infoE v405 (ys.drop k) := e406 ▸ f56 _ (hst.sl 1 rfl)
      refine go_plain (op_append (E := infoE) (xs := ((ys.take k) ++ ([(l[i]'(by omega))]))) (ys := (ys.drop k)) (z := (.agg #[(.int .i64 0), (.int .i64 0), (.int .i64 0), (.int .i64 0), (.int .u32 0)])) (bytes := 40) hst 0 rfl Try.underlying22 (by kernel_rfl) rfl e402 e406 hs404 (by first | omega | (simp; omega) | (simp; done)) (by first | omega | (simp; omega) | (simp; done)) (fun v407 w408 hst => ?_))
      replace hst : St w0 w408 [rowT 34 infoE v407 (((ys.take k) ++ ([(l[i]'(by omega))])) ++ (ys.drop k)), rowT 34 infoE vo ys] := hst
      have hI409 : stabIXs 10 [6] D393 0 [(kEq v281), (kEq v_l), (kEq (.int .i64 (i : Int))), (kPt0 w0 [(.int .i64 ((l[i]'(by omega)).Id)), (.int .i64 ((l[i]'(by omega)).Tier)), (.int .i64 ((l[i]'(by omega)).From)), (.int .i64 ((l[i]'(by omega)).To)), (.int .u32 ((l[i]'(by omega)).Sum))]), (kEq (.agg #[(.int .i64 ((l[i]'(by omega)).Id)), (.int .i64 ((l[i]'(by omega)).Tier)), (.int .i64 ((l[i]'(by omega)).From)), (.int .i64 ((l[i]'(by omega)).To)), (.int .u32 ((l[i]'(by omega)).Sum))])), (kSlU [6, 10] infoE ([(l[i]'(by omega))])), (fun (D : Nat → Bool) (v288 : Value) (w : World) => (D 6 = true → D 10 = false → St w0 w [rowT 34 infoE v288 ((ys.take k) ++ ([(l[i]'(by omega))])), rowT 34 infoE vo ys])), (kEq vo), (kEq (.int .i64 (k : Int))), (kSlF infoE vo ys (ys.drop k)), (fun (D : Nat → Bool) (v292 : Value) (w : World) => (D 10 = true → St w0 w [rowT 34 infoE v292 (((ys.take k) ++ ([(l[i]'(by omega))])) ++ (ys.drop k)), rowT 34 infoE vo ys])), (fun (D : Nat → Bool) (v292 : Value) (w : World) => (D 10 = true → St w0 w [rowT 34 infoE v292 (((ys.take k) ++ ([(l[i]'(by omega))])) ++ (ys.drop k)), rowT 34 infoE vo ys]))] := ⟨Or.inr (Or.inr (Or.inr iEq)), Or.inr (Or.inr (Or.inr iEq)), Or.inr (Or.inr (Or.inr iEq)), Or.inr (Or.inr (Or.inr iPt0)), Or.inr (Or.inr (Or.inr iEq)), Or.inr (Or.inr (Or.inr (iSlU (by decide)))), Or.inr (Or.inl (by decide)), Or.inr (Or.inr (Or.inr iEq)), Or.inr (Or.inr (Or.inr iEq)), Or.inr (Or.inr (Or.inr iSlF)), Or.inl rfl, Or.inr (Or.inr (Or.inl (not_yet hD396 (fun hm => (hC398 11 10 hm (by kernel_rfl)))))), trivial⟩
      refine ⟨by exact ⟨hst.sub (.cons _ (.cons_cons _ .slnil)), (fun y0 => absurd (show D393 6 = false from y0) (by rw [(hE397 6 (by kernel_rfl))]; decide))⟩, by exact (fun y0 => hst.sub (.cons_cons _ (.cons_cons _ .slnil))), kX [6] hI409 ?_⟩
      intro j d hj hjd hDj h
      simp only [List.mem_cons, List.not_mem_nil, or_false] at hj
      subst hj
      obtain rfl : 53 = d := Option.some.inj hjd
      exact (by rw [e402]; exact (fun y0 y1 => absurd y1 (fun h => Bool.noConfusion h)))
    · rintro D410 ρ411 w412 hD413 hE414 hC415 hJ416 hA417 ⟨f57, _⟩
      obtain ⟨v418, e419⟩ : ∃ x, ρ411 57 = x := ⟨_, rfl⟩
      have hh420 := hA417 10 57 (hE414 10 (by kernel_rfl)) rfl
      have hst : St w0 w412 [rowT 34 infoE v418 (((ys.take k) ++ ([(l[i]'(by omega))])) ++ (ys.drop k)), rowT 34 infoE vo ys] := by have h := hh420 (hE414 10 (by kernel_rfl)); rw [e419] at h; exact h
      exact go_plain (op_assign _ rfl (kN0 (i := 11) hM294 (by decide) (by exact hJ416) (by exact f57)))
    intro ρ421 w422 Dw422 hallw422 hJw422 hRw422 hkw422
    obtain ⟨v423, uw422_5⟩ : ∃ x, ρ421 5 = x := ⟨_, rfl⟩
    have hst : St w0 w422 [rowT 34 infoE v423 (((ys.take k) ++ ([(l[i]'(by omega))])) ++ (ys.drop k)), rowT 34 infoE vo ys] := by have h := hRw422 11 5 rfl; rw [uw422_5] at h; exact (h (hallw422 10 (show 10 < 12 from by decide)))
    have uw422_0 : ρ421 0 = v_l := (hkw422 0 rfl).trans uw276_0
    have uw422_1 : ρ421 1 = v_r := (hkw422 1 rfl).trans uw276_1
    have uw422_4 : ρ421 4 = (.slice none 0 0) := (hkw422 4 rfl).trans uw276_4
    have uw422_6 : ρ421 6 = (.int .i64 (i : Int)) := (hkw422 6 rfl).trans uw276_6
    have uw422_7 : ρ421 7 = (.int .i64 (k : Int)) := (hkw422 7 rfl).trans uw276_7
    have uw422_39 : ρ421 39 = (.bool false) := (hkw422 39 rfl).trans uw276_39
    have uw422_42 : ρ421 42 = v277 := (hkw422 42 rfl).trans rfl
    have uw422_43 : ρ421 43 = vo := (hkw422 43 rfl).trans rfl
    have uw422_44 : ρ421 44 = (.int .i64 (k : Int)) := (hkw422 44 rfl).trans rfl
    have uw422_45 : ρ421 45 = v279 := (hkw422 45 rfl).trans rfl
    have uw422_46 : ρ421 46 = v281 := (hkw422 46 rfl).trans rfl
    refine block_n (then_n ?_)
    refine cE_region rfl ?_
    refine s_cons (op_move (.int .i64 (i : Int)) uw422_6 ?_)
    refine s_cons (op_add (k := .i64) (a := (i : Int)) (b := 1) ((i : Int) + 1) rfl rfl (xi64 (by omega) (by omega)) ?_)
    refine s_cons (op_assign (.int .i64 ((i : Int) + 1)) rfl ?_)
    refine s_nil ?_
    refine then_n ?_
    exact ⟨_, ⟨v423, (((ys.take k) ++ ([(l[i]'(by omega))])) ++ (ys.drop k)), (i + 1), rfl, uw422_0, uw422_1, uw422_4, uw422_5, (congrArg (Value.int .i64) (show ((i : Int) + 1) = _ from by omega)), (hst.sub (.cons_cons _ (.cons _ .slnil))), (by omega), (by first | rfl | exact hI.trans (ref_yes (by omega) (by assumption)) | exact ref_no (by omega) (by assumption) hI (hS.trans (seat_no (by omega) (by omega) (by assumption))) | exact ref_no (by omega) (by assumption) hI (hS.trans (seat_zero (by omega))))⟩, (by simp only [id]; omega)⟩
  have c424 : ¬ ((i : Int) < (l.length : Int)) := of_decide_eq_false b5
  refine cE_cond false (congrArg Value.bool b5) (fun h => by cases h) (fun _ => ?_)
  refine cE_exit ?_
  refine then_x (then_x (block_hit (then_n ?_)))
  refine cE_seq ?_
  refine cE_region rfl ?_
  refine s_cons (op_assign (.slice none 0 0) rfl ?_)
  refine s_nil ?_
  refine then_n ?_
  refine cE_seq ?_
  refine cE_seq ?_
  refine cE_region rfl ?_
  refine s_cons (op_assign (.int .i64 0) rfl ?_)
  refine s_nil ?_
  refine then_n ?_
  refine cE_block ?_
  replace hst : St w0 w4 [rowT 3 (intE .i64) (.slice none 0 0) ([]), rowT 34 infoE vo ys] := hst.nilRow 3 (intE .i64)
  refine cE_loop (fun (m : Nat) (ρ : Env) (w : World) => ∃ (vu : Value) (j : Nat), m = ys.length - j ∧ ρ 0 = v_l ∧ ρ 1 = v_r ∧ ρ 4 = (.slice none 0 0) ∧ ρ 5 = vo ∧ ρ 6 = (.int .i64 (i : Int)) ∧ ρ 9 = vu ∧ ρ 10 = (.int .i64 (j : Int)) ∧ St w0 w [rowT 3 (intE .i64) vu ((ys.take j).map Info.Id), rowT 34 infoE vo ys] ∧ (j ≤ ys.length)) id _ ⟨(.slice none 0 0), 0, rfl, q1_0, q1_1, q1_4, q1_5, q1_6, rfl, (congrArg (Value.int .i64) (show 0 = _ from by omega)), (by have h := hst; first | exact h | (refine (?_ : St _ _ _); simpa using h)), (by omega)⟩ ?_
  rintro m426 ρ427 w428 ⟨vu, j, hm426, q425_0, q425_1, q425_4, q425_5, q425_6, q425_9, q425_10, hst, hj⟩
  refine cE_seq ?_
  refine cE_seq ?_
  refine cE_region rfl ?_
  refine s_cons (op_move (.int .i64 (j : Int)) q425_10 ?_)
  refine s_cons (op_move vo q425_5 ?_)
  refine s_cons (op_len (E := infoE) (xs := ys) Try.underlying22 rfl (hst.sl 1 rfl) ?_)
  refine s_cons (op_lss (k := .i64) (a := (j : Int)) (b := (ys.length : Int)) rfl rfl ?_)
  refine s_nil ?_
  refine then_n ?_
  rcases Bool.eq_false_or_eq_true (decide ((j : Int) < (ys.length : Int))) with b429 | b429
  · have c430 : (j : Int) < (ys.length : Int) := of_decide_eq_true b429
    refine cE_cond true (congrArg Value.bool b429) (fun _ => ?_) (fun h => by cases h)
    refine cE_skip ?_
    refine then_n ?_
    refine cE_seq ?_
    refine cE_block ?_
    refine cE_region rfl ?_
    refine s_cons (op_move vu q425_9 ?_)
    refine s_cons (op_move vo q425_5 ?_)
    refine s_cons (op_move (.int .i64 (j : Int)) q425_10 ?_)
    refine s_cons (op_indexAddrN (E := infoE) (xs := ys) j Try.underlying22 Try.sizeOf34 rfl (hst.sl 1 rfl) rfl (by omega) (by omega) (fun a431 o432 p433 => ?_))
    refine s_cons (op_fieldAddr (s := 0) Try.underlying34 rfl rfl Try.sizeOf3 rfl ?_)
    refine s_cons (op_load1 (u := (.int .i64 ((ys[j]'(by omega)).Id))) Try.isAgg3 rfl p433 ?_)
    refine s_cons (op_buildSlice (E := (intE .i64)) [(ys[j]'(by omega)).Id] hst Try.underlying24 Try.sizeOf3 Try.zeroValue3 (evp_cons (v := (.int .i64 ((ys[j]'(by omega)).Id))) rfl evp_nil) (parts_cons rfl parts_nil) rfl (by decide) (fun v434 w435 hst => ?_))
    replace hst : St w0 w435 [rowT 3 (intE .i64) v434 ([(ys[j]'(by omega)).Id]), rowT 3 (intE .i64) vu ((ys.take j).map Info.Id), rowT 34 infoE vo ys] := hst
    refine s_cons (op_append (E := (intE .i64)) (xs := ((ys.take j).map Info.Id)) (ys := [(ys[j]'(by omega)).Id]) (z := (.int .i64 0)) (bytes := 8) hst 1 rfl Try.underlying24 (by kernel_rfl) rfl rfl rfl (hst.sl 0 rfl) (by first | omega | (simp; omega) | (simp; done)) (by first | omega | (simp; omega) | (simp; done)) (fun v436 w437 hst => ?_))
    replace hst : St w0 w437 [rowT 3 (intE .i64) v434 ([(ys[j]'(by omega)).Id]), rowT 3 (intE .i64) v436 ((ys.take (j + 1)).map Info.Id), rowT 34 infoE vo ys] := by rw [show (((ys.take j).map Info.Id) ++ ([(ys[j]'(by omega)).Id])) = ((ys.take (j + 1)).map Info.Id) from (ids_snoc (by omega)).symm] at hst; exact hst
    refine s_cons (op_assign v436 rfl ?_)
    refine s_nil ?_
    refine block_n (then_n ?_)
    refine cE_region rfl ?_
    refine s_cons (op_move (.int .i64 (j : Int)) q425_10 ?_)
    refine s_cons (op_add (k := .i64) (a := (j : Int)) (b := 1) ((j : Int) + 1) rfl rfl (xi64 (by omega) (by omega)) ?_)
    refine s_cons (op_assign (.int .i64 ((j : Int) + 1)) rfl ?_)
    refine s_nil ?_
    refine then_n ?_
    exact ⟨_, ⟨v436, (j + 1), rfl, q425_0, q425_1, q425_4, q425_5, q425_6, rfl, (congrArg (Value.int .i64) (show ((j : Int) + 1) = _ from by omega)), (hst.sub (.cons _ (.cons_cons _ (.cons_cons _ .slnil)))), (by omega)⟩, (by simp only [id]; omega)⟩
  have c438 : ¬ ((j : Int) < (ys.length : Int)) := of_decide_eq_false b429
  refine cE_cond false (congrArg Value.bool b429) (fun h => by cases h) (fun _ => ?_)
  refine cE_exit ?_
  refine then_x (then_x (block_hit (then_n ?_)))
  refine cE_seq ?_
  refine cE_region rfl ?_
  refine s_cons (op_move vu q425_9 ?_)
  refine s_cons (op_assign vu rfl ?_)
  refine s_nil ?_
  refine then_n ?_
  refine cE_ret ?_
  refine post_r _ (res1 (v := vu) rfl) ?_
  have e439 : ((ys.take j).map Info.Id) = (bodies l r) := by exact ref_all hI (by omega) (by omega)
  replace hst : St w0 w428 [rowT 3 (intE .i64) vu (bodies l r), rowT 34 infoE vo ys] := by rw [congrArg (fun l => rowT 3 (intE .i64) vu l) e439] at hst; exact hst
  exact ⟨vu, rfl, hst.sub (.cons_cons _ (.cons _ .slnil))⟩

end Go.Proofs.Ytadnedoecbfojaa
