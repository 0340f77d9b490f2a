/- the reference: twinkeepref1.Raw -/
import Derived.Test.YtffnhcioponbbaaW24
import Derived.Test.YtffnhcioponbbaaW25
import Derived.Test.YtffnhcioponbbaaW26
import Derived.Test.YtffnhcioponbbaaW27
import Derived.Test.YtffnhcioponbbaaW28
namespace Go.Proofs.Ytffnhcioponbbaa
open Go.RowKit

set_option maxHeartbeats 8000000 in
theorem c_rRaw (w0 : World) (v_l : Value) (l : List Sample) (h_l : Sl w0 sampE v_l l) (k : Int) (hl : ∀ s ∈ l, s.ok) (hn : l.length ≤ 1000000) (k0 : -9223372036854775808 ≤ k) (k1 : k ≤ 9223372036854775807) :
    Calls Try.prog 25 #[v_l, (.int .i64 k)] w0 fun e w' => ∃ (r : Value), e = .returned (.tuple #[r, (.int .i64 ((rawA l k).2))]) ∧ St w0 w' [rowT 26 aggE r ((rawA l k).1)] := by
  refine calls_E (n := 74) (ts := [4, 5]) Try.func25 rfl rfl rfl (by simp) ?_
  have hst := St.start w0
  refine cE_seq ?_
  refine cE_region rfl ?_
  refine s_cons (op_assign (.slice none 0 0) rfl ?_)
  refine s_cons (op_assign (.int .i64 0) rfl ?_)
  refine s_nil ?_
  refine then_n ?_
  refine cE_seq ?_
  refine cE_seq ?_
  refine cE_region rfl ?_
  refine s_cons (op_move (.int .i64 k) rfl ?_)
  refine s_cons (op_lss (k := .i64) (a := k) (b := 1) rfl rfl ?_)
  refine s_cons (op_move (.bool (decide (k < 1))) rfl ?_)
  rcases Bool.eq_false_or_eq_true (decide (k < 1)) with b1 | b1
  · have c2 : k < 1 := of_decide_eq_true b1
    refine s_no 13 rfl (congrArg Value.bool b1) ?_
    refine s_no 13 rfl (congrArg Value.bool b1) ?_
    refine s_cons (op_pick_t (.bool true) (congrArg Value.bool b1) rfl ?_)
    refine s_cons (op_move (.bool true) rfl ?_)
    refine s_no 17 rfl rfl ?_
    refine s_no 17 rfl rfl ?_
    refine s_no 17 rfl rfl ?_
    refine s_cons (op_pick_t (.bool true) rfl rfl ?_)
    refine s_nil ?_
    refine then_n ?_
    refine cE_cond true rfl (fun _ => ?_) (fun h => by cases h)
    refine cE_seq ?_
    refine cE_region rfl ?_
    refine s_cons (op_assign (.slice none 0 0) rfl ?_)
    refine s_cons (op_assign (.int .i64 1) rfl ?_)
    refine s_nil ?_
    refine then_n ?_
    refine cE_ret ?_
    refine then_r ?_
    refine post_r _ (res2 (v := (.slice none 0 0)) rfl (x := (.int .i64 1)) rfl) ?_
    replace hst : St w0 w0 [rowT 26 aggE (.slice none 0 0) ([])] := hst.nilRow 26 aggE
    have e3 : [] = (rawA l k).1 := by first | exact (congrArg Prod.fst (raw_none (Or.inl (by assumption)))).symm | exact (congrArg Prod.snd (raw_none (Or.inl (by assumption)))).symm | exact (congrArg Prod.fst (raw_none (Or.inr (coarse_no (by omega))))).symm | exact (congrArg Prod.snd (raw_none (Or.inr (coarse_no (by omega))))).symm | exact (congrArg Prod.fst (hI.trans (rrw_stop (by omega) hf hw (by assumption)))).symm | exact (congrArg Prod.snd (hI.trans (rrw_stop (by omega) hf hw (by assumption)))).symm | exact (congrArg Prod.fst (hI.trans (rrw_end (by omega)))).symm | exact (congrArg Prod.snd (hI.trans (rrw_end (by omega)))).symm
    replace hst : St w0 w0 [rowT 26 aggE (.slice none 0 0) ((rawA l k).1)] := by rw [congrArg (fun l => rowT 26 aggE (.slice none 0 0) l) e3] at hst; exact hst
    exact ⟨(.slice none 0 0), (retv2 rfl (congrArg (Value.int .i64) (show 1 = (rawA l k).2 from by first | exact (congrArg Prod.fst (raw_none (Or.inl (by assumption)))).symm | exact (congrArg Prod.snd (raw_none (Or.inl (by assumption)))).symm | exact (congrArg Prod.fst (raw_none (Or.inr (coarse_no (by omega))))).symm | exact (congrArg Prod.snd (raw_none (Or.inr (coarse_no (by omega))))).symm | exact (congrArg Prod.fst (hI.trans (rrw_stop (by omega) hf hw (by assumption)))).symm | exact (congrArg Prod.snd (hI.trans (rrw_stop (by omega) hf hw (by assumption)))).symm | exact (congrArg Prod.fst (hI.trans (rrw_end (by omega)))).symm | exact (congrArg Prod.snd (hI.trans (rrw_end (by omega)))).symm))), hst.sub (.cons_cons _ .slnil)⟩
  · have c4 : ¬ (k < 1) := of_decide_eq_false b1
    refine s_yes 13 rfl (congrArg Value.bool b1) (op_move (.int .i64 k) rfl ?_)
    refine s_yes 13 rfl (congrArg Value.bool b1) (op_gtr (k := .i64) (a := k) (b := 3) rfl rfl ?_)
    refine s_cons (op_pick_f (.bool (decide (3 < k))) (congrArg Value.bool b1) rfl ?_)
    refine s_cons (op_move (.bool (decide (3 < k))) rfl ?_)
    rcases Bool.eq_false_or_eq_true (decide (3 < k)) with b5 | b5
    · have c6 : 3 < k := of_decide_eq_true b5
      refine s_no 17 rfl (congrArg Value.bool b5) ?_
      refine s_no 17 rfl (congrArg Value.bool b5) ?_
      refine s_no 17 rfl (congrArg Value.bool b5) ?_
      refine s_cons (op_pick_t (.bool true) (congrArg Value.bool b5) rfl ?_)
      refine s_nil ?_
      refine then_n ?_
      refine cE_cond true rfl (fun _ => ?_) (fun h => by cases h)
      refine cE_seq ?_
      refine cE_region rfl ?_
      refine s_cons (op_assign (.slice none 0 0) rfl ?_)
      refine s_cons (op_assign (.int .i64 1) rfl ?_)
      refine s_nil ?_
      refine then_n ?_
      refine cE_ret ?_
      refine then_r ?_
      refine post_r _ (res2 (v := (.slice none 0 0)) rfl (x := (.int .i64 1)) rfl) ?_
      replace hst : St w0 w0 [rowT 26 aggE (.slice none 0 0) ([])] := hst.nilRow 26 aggE
      have e7 : [] = (rawA l k).1 := by first | exact (congrArg Prod.fst (raw_none (Or.inl (by assumption)))).symm | exact (congrArg Prod.snd (raw_none (Or.inl (by assumption)))).symm | exact (congrArg Prod.fst (raw_none (Or.inr (coarse_no (by omega))))).symm | exact (congrArg Prod.snd (raw_none (Or.inr (coarse_no (by omega))))).symm | exact (congrArg Prod.fst (hI.trans (rrw_stop (by omega) hf hw (by assumption)))).symm | exact (congrArg Prod.snd (hI.trans (rrw_stop (by omega) hf hw (by assumption)))).symm | exact (congrArg Prod.fst (hI.trans (rrw_end (by omega)))).symm | exact (congrArg Prod.snd (hI.trans (rrw_end (by omega)))).symm
      replace hst : St w0 w0 [rowT 26 aggE (.slice none 0 0) ((rawA l k).1)] := by rw [congrArg (fun l => rowT 26 aggE (.slice none 0 0) l) e7] at hst; exact hst
      exact ⟨(.slice none 0 0), (retv2 rfl (congrArg (Value.int .i64) (show 1 = (rawA l k).2 from by first | exact (congrArg Prod.fst (raw_none (Or.inl (by assumption)))).symm | exact (congrArg Prod.snd (raw_none (Or.inl (by assumption)))).symm | exact (congrArg Prod.fst (raw_none (Or.inr (coarse_no (by omega))))).symm | exact (congrArg Prod.snd (raw_none (Or.inr (coarse_no (by omega))))).symm | exact (congrArg Prod.fst (hI.trans (rrw_stop (by omega) hf hw (by assumption)))).symm | exact (congrArg Prod.snd (hI.trans (rrw_stop (by omega) hf hw (by assumption)))).symm | exact (congrArg Prod.fst (hI.trans (rrw_end (by omega)))).symm | exact (congrArg Prod.snd (hI.trans (rrw_end (by omega)))).symm))), hst.sub (.cons_cons _ .slnil)⟩
    · have c8 : ¬ (3 < k) := of_decide_eq_false b5
      refine s_yes 17 rfl (congrArg Value.bool b5) (op_move v_l rfl ?_)
      refine s_yes 17 rfl (congrArg Value.bool b5) (op_call Try.call32 (evs_cons (v := v_l) rfl evs_nil) (c_rRising (w0 := w0) (v_l := v_l) (l := l) (h_l := (h_l.below hst.below)) (hl := hl)) ?_)
      rintro _ w9 ⟨rfl, hcall⟩
      refine ⟨_, rfl, ?_⟩
      have hst : St w0 w9 [] := hst.call hcall
      refine s_yes 17 rfl (congrArg Value.bool b5) (op_not (b := risingA l) rfl ?_)
      refine s_cons (op_pick_f (.bool (!(risingA l))) (congrArg Value.bool b5) rfl ?_)
      refine s_nil ?_
      refine then_n ?_
      rcases Bool.eq_false_or_eq_true (risingA l) with b10 | b10
      · have hri := b10
        refine cE_cond false (congrArg Value.bool (congrArg (! ·) b10)) (fun h => by cases h) (fun _ => ?_)
        refine cE_skip ?_
        refine then_n ?_
        refine cE_seq ?_
        have hco := coarse_yes (k := k) (by omega) (by omega)
        refine cE_region rfl ?_
        refine s_cons (op_assign (.slice none 0 0) rfl ?_)
        refine s_nil ?_
        refine then_n ?_
        refine cE_seq ?_
        refine cE_seq ?_
        refine cE_region rfl ?_
        refine s_cons (op_assign (.int .i64 0) rfl ?_)
        refine s_nil ?_
        refine then_n ?_
        refine cE_block ?_
        replace hst : St w0 w9 [rowT 26 aggE (.slice none 0 0) ([])] := hst.nilRow 26 aggE
        refine cE_loop (fun (m : Nat) (ρ : Env) (w : World) => ∃ (vo : Value) (out : List Agg) (f : Nat) (i : Nat), m = l.length - i ∧ ρ 0 = v_l ∧ ρ 1 = (.int .i64 k) ∧ ρ 11 = (.int .i64 k) ∧ ρ 12 = (.bool (decide (k < 1))) ∧ ρ 13 = (.bool (decide (k < 1))) ∧ ρ 14 = (.int .i64 k) ∧ ρ 15 = (.bool (decide (3 < k))) ∧ ρ 16 = (.bool (decide (3 < k))) ∧ ρ 17 = (.bool (decide (3 < k))) ∧ ρ 18 = v_l ∧ ρ 19 = (.bool (risingA l)) ∧ ρ 20 = (.bool (!(risingA l))) ∧ ρ 21 = (.bool (!(risingA l))) ∧ ρ 7 = (.int .i64 (i : Int)) ∧ ρ 6 = vo ∧ St w0 w [rowT 26 aggE vo out] ∧ i ≤ l.length ∧ l.length - i ≤ f ∧ out.length ≤ i ∧ rawA l k = rawL k f (l.drop i) out) id _ ⟨(.slice none 0 0), [], l.length, 0, rfl, rfl, rfl, rfl, rfl, rfl, rfl, rfl, rfl, rfl, rfl, rfl, rfl, rfl, (congrArg (Value.int .i64) (show 0 = _ from by omega)), rfl, hst, (by omega), (by first | omega | (simp; omega) | (simp; done)), (by first | omega | (simp; omega) | (simp; done)), (by first | exact hI.trans (rrw_go (by omega) hf hw (by assumption) (by omega)) | (unfold rawA; rw [if_pos ⟨hri, hco⟩, List.drop_zero]))⟩ ?_
        rintro m12 ρ13 w14 ⟨vo, out, f, i, hm12, q11_0, q11_1, q11_11, q11_12, q11_13, q11_14, q11_15, q11_16, q11_17, q11_18, q11_19, q11_20, q11_21, q11_7, q11_6, hst, hi, hf, hout, hI⟩
        refine cE_seq ?_
        refine cE_seq ?_
        refine cE_region rfl ?_
        refine s_cons (op_move (.int .i64 (i : Int)) q11_7 ?_)
        refine s_cons (op_move v_l q11_0 ?_)
        refine s_cons (op_len (E := sampE) (xs := l) Try.underlying22 rfl h_l ?_)
        refine s_cons (op_lss (k := .i64) (a := (i : Int)) (b := (l.length : Int)) rfl rfl ?_)
        refine s_nil ?_
        refine then_n ?_
        rcases Bool.eq_false_or_eq_true (decide ((i : Int) < (l.length : Int))) with b15 | b15
        · have c16 : (i : Int) < (l.length : Int) := of_decide_eq_true b15
          refine cE_cond true (congrArg Value.bool b15) (fun _ => ?_) (fun h => by cases h)
          refine cE_skip ?_
          refine then_n ?_
          refine cE_block ?_
          refine cE_seq ?_
          refine cE_region rfl ?_
          refine s_cons (op_move (.int .i64 (i : Int)) q11_7 ?_)
          refine s_cons (op_assign (.int .i64 (i : Int)) rfl ?_)
          refine s_nil ?_
          refine then_n ?_
          refine cE_seq ?_
          refine cE_block ?_
          refine cE_loop (fun (m : Nat) (ρ : Env) (w : World) => ∃ (n : Nat), m = l.length - n ∧ ρ 0 = v_l ∧ ρ 1 = (.int .i64 k) ∧ ρ 11 = (.int .i64 k) ∧ ρ 12 = (.bool (decide (k < 1))) ∧ ρ 13 = (.bool (decide (k < 1))) ∧ ρ 14 = (.int .i64 k) ∧ ρ 15 = (.bool (decide (3 < k))) ∧ ρ 16 = (.bool (decide (3 < k))) ∧ ρ 17 = (.bool (decide (3 < k))) ∧ ρ 18 = v_l ∧ ρ 19 = (.bool (risingA l)) ∧ ρ 20 = (.bool (!(risingA l))) ∧ ρ 21 = (.bool (!(risingA l))) ∧ ρ 7 = (.int .i64 (i : Int)) ∧ ρ 6 = vo ∧ ρ 22 = (.int .i64 (i : Int)) ∧ ρ 23 = v_l ∧ ρ 24 = (.int .i64 (l.length : Int)) ∧ ρ 25 = (.bool (decide ((i : Int) < (l.length : Int)))) ∧ ρ 26 = (.int .i64 (i : Int)) ∧ ρ 8 = (.int .i64 (n : Int)) ∧ St w0 w [rowT 26 aggE vo out] ∧ i ≤ n ∧ n ≤ l.length ∧ winLen k (floorA ((l[i]'(by omega)).T) k) (l.drop i) = n - i + winLen k (floorA ((l[i]'(by omega)).T) k) (l.drop n)) id _ ⟨i, rfl, q11_0, q11_1, q11_11, q11_12, q11_13, q11_14, q11_15, q11_16, q11_17, q11_18, q11_19, q11_20, q11_21, q11_7, q11_6, rfl, rfl, rfl, rfl, rfl, rfl, hst, (by omega), (by omega), (by first | (rw [Nat.sub_self, Nat.zero_add]; done) | exact hw0.trans (by rw [win_go (by omega) (by assumption)]; omega))⟩ ?_
          rintro m18 ρ19 w20 ⟨n, hm18, q17_0, q17_1, q17_11, q17_12, q17_13, q17_14, q17_15, q17_16, q17_17, q17_18, q17_19, q17_20, q17_21, q17_7, q17_6, q17_22, q17_23, q17_24, q17_25, q17_26, q17_8, hst, hn1, hnr, hw0⟩
          have hel := fun (s : Sample) (h : s ∈ l) => (hl s h).1
          refine cE_seq ?_
          refine cE_seq ?_
          rcases Bool.eq_false_or_eq_true (decide ((n : Int) < (l.length : Int))) with b21 | b21
          · have c22 : (n : Int) < (l.length : Int) := of_decide_eq_true b21
            refine cE_regionL hst [[(8, none)], [(0, none)], [(28, some 1)], [(27, some 0), (29, some 2)], [(30, some 3)], [(0, none), (31, some 4)], [(8, none), (31, some 4)], [(32, some 5), (33, some 6), (31, some 4)], [(34, some 7), (31, some 4)], [(35, some 8), (31, some 4)], [(1, none), (31, some 4)], [(36, some 9), (37, some 10), (31, some 4)], [(0, none), (31, some 4)], [(7, none), (31, some 4)], [(39, some 12), (40, some 13), (31, some 4)], [(41, some 14), (31, some 4)], [(42, some 15), (31, some 4)], [(1, none), (31, some 4)], [(43, some 16), (44, some 17), (31, some 4)], [(38, some 11), (45, some 18), (31, some 4)], [(31, some 4), (46, some 19)]] [(rEq (.int .i64 (n : Int))), (rEq v_l), (rEq (.int .i64 (l.length : Int))), (rEq (.bool (decide ((n : Int) < (l.length : Int))))), (rEq (.bool (decide ((n : Int) < (l.length : Int))))), (rEq v_l), (rEq (.int .i64 (n : Int))), (rPt [(.int .i64 ((l[n]'(by omega)).T)), (.int .i64 ((l[n]'(by omega)).V))]), (rPt [(.int .i64 ((l[n]'(by omega)).T)), (.int .i64 ((l[n]'(by omega)).V))]), (rEq (.int .i64 ((l[n]'(by omega)).T))), (rEq (.int .i64 k)), (rEq (.int .i64 (floorA ((l[n]'(by omega)).T) k))), (rEq v_l), (rEq (.int .i64 (i : Int))), (rPt [(.int .i64 ((l[i]'(by omega)).T)), (.int .i64 ((l[i]'(by omega)).V))]), (rPt [(.int .i64 ((l[i]'(by omega)).T)), (.int .i64 ((l[i]'(by omega)).V))]), (rEq (.int .i64 ((l[i]'(by omega)).T))), (rEq (.int .i64 k)), (rEq (.int .i64 (floorA ((l[i]'(by omega)).T) k))), (rEq (.bool (decide ((floorA ((l[n]'(by omega)).T) k) = (floorA ((l[i]'(by omega)).T) k))))), (rEq (.bool (decide ((floorA ((l[n]'(by omega)).T) k) = (floorA ((l[i]'(by omega)).T) k)))))] (by kernel_rfl) rfl (by kernel_rfl) ⟨sEq, sEq, sEq, sEq, sEq, sEq, sEq, sPt, sPt, sEq, sEq, sEq, sEq, sEq, sPt, sPt, sEq, sEq, sEq, sEq, sEq, trivial⟩ ⟨?_, ?_, ?_, ?_, ?_, ?_, ?_, ?_, ?_, ?_, ?_, ?_, ?_, ?_, ?_, ?_, ?_, ?_, ?_, ?_, ?_, trivial⟩ ?_
            · rintro ρ31 w32 hj33 ⟨f8, _⟩
              have hst := hj33.2
              exact go_plain (op_move (.int .i64 (n : Int)) (f8.trans q17_8) (kS hj33 rfl))
            · rintro ρ34 w35 hj36 ⟨f0, _⟩
              have hst := hj36.2
              exact go_plain (op_move v_l (f0.trans q17_0) (kS hj36 rfl))
            · rintro ρ37 w38 hj39 ⟨f28, _⟩
              have hst := hj39.2
              exact go_plain (op_len (E := sampE) (xs := l) Try.underlying22 f28 h_l (kS hj39 rfl))
            · rintro ρ40 w41 hj42 ⟨f27, f29, _⟩
              have hst := hj42.2
              exact go_plain (op_lss (k := .i64) (a := (n : Int)) (b := (l.length : Int)) f27 f29 (kS hj42 rfl))
            · rintro ρ43 w44 hj45 ⟨f30, _⟩
              have hst := hj45.2
              exact go_plain (op_move (.bool (decide ((n : Int) < (l.length : Int)))) f30 (kS hj45 rfl))
            · rintro ρ46 w47 hj48 ⟨f0, f31, _⟩
              have hst := hj48.2
              exact go_yes 31 rfl (f31.trans (congrArg Value.bool b21)) (op_move v_l (f0.trans q17_0) (kS hj48 rfl))
            · rintro ρ49 w50 hj51 ⟨f8, f31, _⟩
              have hst := hj51.2
              exact go_yes 31 rfl (f31.trans (congrArg Value.bool b21)) (op_move (.int .i64 (n : Int)) (f8.trans q17_8) (kS hj51 rfl))
            · rintro ρ52 w53 hj54 ⟨f32, f33, f31, _⟩
              have hst := hj54.2
              refine go_yes 31 rfl (f31.trans (congrArg Value.bool b21)) (op_indexAddrN (E := sampE) (xs := l) n Try.underlying22 Try.sizeOf32 f32 h_l f33 (by omega) (by omega) (fun a55 o56 p57 => ?_))
              exact kS hj54 ⟨_, _, rfl, (p57.below hst.below)⟩
            · rintro ρ58 w59 hj60 ⟨f34, f31, _⟩
              have hst := hj60.2
              obtain ⟨a61, o62, e63, p64⟩ := f34
              exact go_yes 31 rfl (f31.trans (congrArg Value.bool b21)) (op_fieldAddr (s := 0) Try.underlying32 rfl rfl Try.sizeOf2 e63 (kS hj60 ⟨_, _, rfl, p64⟩))
            · rintro ρ65 w66 hj67 ⟨f35, f31, _⟩
              have hst := hj67.2
              obtain ⟨a68, o69, e70, p71⟩ := f35
              exact go_yes 31 rfl (f31.trans (congrArg Value.bool b21)) (op_load1 (u := (.int .i64 ((l[n]'(by omega)).T))) Try.isAgg2 e70 p71 (kS hj67 rfl))
            · rintro ρ72 w73 hj74 ⟨f1, f31, _⟩
              have hst := hj74.2
              exact go_yes 31 rfl (f31.trans (congrArg Value.bool b21)) (op_move (.int .i64 k) (f1.trans q17_1) (kS hj74 rfl))
            · rintro ρ75 w76 hj77 ⟨f36, f37, f31, _⟩
              have hst := hj77.2
              refine go_yes 31 rfl (f31.trans (congrArg Value.bool b21)) (op_call Try.call31 (evs_cons (v := (.int .i64 ((l[n]'(by omega)).T))) f36 (evs_cons (v := (.int .i64 k)) f37 evs_nil)) (c_rFloor (w0 := w76) (t := (l[n]'(by omega)).T) (k := k) (t0 := (hl _ (List.getElem_mem _)).1.1) (k0 := (by omega)) (t1 := (hl _ (List.getElem_mem _)).1.2) (k1 := (by omega))) ?_)
              rintro _ w78 ⟨rfl, hcall⟩
              refine ⟨_, rfl, ?_⟩
              exact kD hj77 hcall rfl
            · rintro ρ79 w80 hj81 ⟨f0, f31, _⟩
              have hst := hj81.2
              exact go_yes 31 rfl (f31.trans (congrArg Value.bool b21)) (op_move v_l (f0.trans q17_0) (kS hj81 rfl))
            · rintro ρ82 w83 hj84 ⟨f7, f31, _⟩
              have hst := hj84.2
              exact go_yes 31 rfl (f31.trans (congrArg Value.bool b21)) (op_move (.int .i64 (i : Int)) (f7.trans q17_7) (kS hj84 rfl))
            · rintro ρ85 w86 hj87 ⟨f39, f40, f31, _⟩
              have hst := hj87.2
              refine go_yes 31 rfl (f31.trans (congrArg Value.bool b21)) (op_indexAddrN (E := sampE) (xs := l) i Try.underlying22 Try.sizeOf32 f39 h_l f40 (by omega) (by omega) (fun a88 o89 p90 => ?_))
              exact kS hj87 ⟨_, _, rfl, (p90.below hst.below)⟩
            · rintro ρ91 w92 hj93 ⟨f41, f31, _⟩
              have hst := hj93.2
              obtain ⟨a94, o95, e96, p97⟩ := f41
              exact go_yes 31 rfl (f31.trans (congrArg Value.bool b21)) (op_fieldAddr (s := 0) Try.underlying32 rfl rfl Try.sizeOf2 e96 (kS hj93 ⟨_, _, rfl, p97⟩))
            · rintro ρ98 w99 hj100 ⟨f42, f31, _⟩
              have hst := hj100.2
              obtain ⟨a101, o102, e103, p104⟩ := f42
              exact go_yes 31 rfl (f31.trans (congrArg Value.bool b21)) (op_load1 (u := (.int .i64 ((l[i]'(by omega)).T))) Try.isAgg2 e103 p104 (kS hj100 rfl))
            · rintro ρ105 w106 hj107 ⟨f1, f31, _⟩
              have hst := hj107.2
              exact go_yes 31 rfl (f31.trans (congrArg Value.bool b21)) (op_move (.int .i64 k) (f1.trans q17_1) (kS hj107 rfl))
            · rintro ρ108 w109 hj110 ⟨f43, f44, f31, _⟩
              have hst := hj110.2
              refine go_yes 31 rfl (f31.trans (congrArg Value.bool b21)) (op_call Try.call31 (evs_cons (v := (.int .i64 ((l[i]'(by omega)).T))) f43 (evs_cons (v := (.int .i64 k)) f44 evs_nil)) (c_rFloor (w0 := w109) (t := (l[i]'(by omega)).T) (k := k) (t0 := (hl _ (List.getElem_mem _)).1.1) (k0 := (by omega)) (t1 := (hl _ (List.getElem_mem _)).1.2) (k1 := (by omega))) ?_)
              rintro _ w111 ⟨rfl, hcall⟩
              refine ⟨_, rfl, ?_⟩
              exact kD hj110 hcall rfl
            · rintro ρ112 w113 hj114 ⟨f38, f45, f31, _⟩
              have hst := hj114.2
              exact go_yes 31 rfl (f31.trans (congrArg Value.bool b21)) (op_eql (k := .i64) (a := (floorA ((l[n]'(by omega)).T) k)) (b := (floorA ((l[i]'(by omega)).T) k)) f38 f45 (kS hj114 rfl))
            · rintro ρ115 w116 hj117 ⟨f31, f46, _⟩
              have hst := hj117.2
              exact go_plain (op_pick_t (.bool (decide ((floorA ((l[n]'(by omega)).T) k) = (floorA ((l[i]'(by omega)).T) k)))) (f31.trans (congrArg Value.bool b21)) f46 (kS hj117 rfl))
            · intro ρ118 w119 hbw119 hst hRw119 hkw119
              have uw119_0 : ρ118 0 = v_l := (hkw119 0 rfl).trans q17_0
              have uw119_1 : ρ118 1 = (.int .i64 k) := (hkw119 1 rfl).trans q17_1
              have uw119_11 : ρ118 11 = (.int .i64 k) := (hkw119 11 rfl).trans q17_11
              have uw119_12 : ρ118 12 = (.bool (decide (k < 1))) := (hkw119 12 rfl).trans q17_12
              have uw119_13 : ρ118 13 = (.bool (decide (k < 1))) := (hkw119 13 rfl).trans q17_13
              have uw119_14 : ρ118 14 = (.int .i64 k) := (hkw119 14 rfl).trans q17_14
              have uw119_15 : ρ118 15 = (.bool (decide (3 < k))) := (hkw119 15 rfl).trans q17_15
              have uw119_16 : ρ118 16 = (.bool (decide (3 < k))) := (hkw119 16 rfl).trans q17_16
              have uw119_17 : ρ118 17 = (.bool (decide (3 < k))) := (hkw119 17 rfl).trans q17_17
              have uw119_18 : ρ118 18 = v_l := (hkw119 18 rfl).trans q17_18
              have uw119_19 : ρ118 19 = (.bool (risingA l)) := (hkw119 19 rfl).trans q17_19
              have uw119_20 : ρ118 20 = (.bool (!(risingA l))) := (hkw119 20 rfl).trans q17_20
              have uw119_21 : ρ118 21 = (.bool (!(risingA l))) := (hkw119 21 rfl).trans q17_21
              have uw119_7 : ρ118 7 = (.int .i64 (i : Int)) := (hkw119 7 rfl).trans q17_7
              have uw119_6 : ρ118 6 = vo := (hkw119 6 rfl).trans q17_6
              have uw119_22 : ρ118 22 = (.int .i64 (i : Int)) := (hkw119 22 rfl).trans q17_22
              have uw119_23 : ρ118 23 = v_l := (hkw119 23 rfl).trans q17_23
              have uw119_24 : ρ118 24 = (.int .i64 (l.length : Int)) := (hkw119 24 rfl).trans q17_24
              have uw119_25 : ρ118 25 = (.bool (decide ((i : Int) < (l.length : Int)))) := (hkw119 25 rfl).trans q17_25
              have uw119_26 : ρ118 26 = (.int .i64 (i : Int)) := (hkw119 26 rfl).trans q17_26
              have uw119_8 : ρ118 8 = (.int .i64 (n : Int)) := (hkw119 8 rfl).trans q17_8
              have uw119_47 : ρ118 47 = (.bool (decide ((floorA ((l[n]'(by omega)).T) k) = (floorA ((l[i]'(by omega)).T) k)))) := hRw119 20 47 rfl
              refine then_n ?_
              rcases Bool.eq_false_or_eq_true (decide ((floorA ((l[n]'(by omega)).T) k) = (floorA ((l[i]'(by omega)).T) k))) with b120 | b120
              · have c121 : (floorA ((l[n]'(by omega)).T) k) = (floorA ((l[i]'(by omega)).T) k) := of_decide_eq_true b120
                refine cE_cond true (uw119_47.trans (congrArg Value.bool b120)) (fun _ => ?_) (fun h => by cases h)
                refine cE_skip ?_
                refine then_n ?_
                refine cE_block ?_
                refine cE_region rfl ?_
                refine s_cons (op_move (.int .i64 (n : Int)) uw119_8 ?_)
                refine s_cons (op_add (k := .i64) (a := (n : Int)) (b := 1) ((n : Int) + 1) rfl rfl (xi64 (by omega) (by omega)) ?_)
                refine s_cons (op_assign (.int .i64 ((n : Int) + 1)) rfl ?_)
                refine s_nil ?_
                refine block_n (then_n ?_)
                exact ⟨_, ⟨(n + 1), rfl, uw119_0, uw119_1, uw119_11, uw119_12, uw119_13, uw119_14, uw119_15, uw119_16, uw119_17, uw119_18, uw119_19, uw119_20, uw119_21, uw119_7, uw119_6, uw119_22, uw119_23, uw119_24, uw119_25, uw119_26, (congrArg (Value.int .i64) (show ((n : Int) + 1) = _ from by omega)), hst, (by omega), (by omega), (by first | (rw [Nat.sub_self, Nat.zero_add]; done) | exact hw0.trans (by rw [win_go (by omega) (by assumption)]; omega))⟩, (by simp only [id]; omega)⟩
              · have c122 : ¬ ((floorA ((l[n]'(by omega)).T) k) = (floorA ((l[i]'(by omega)).T) k)) := of_decide_eq_false b120
                refine cE_cond false (uw119_47.trans (congrArg Value.bool b120)) (fun h => by cases h) (fun _ => ?_)
                refine cE_exit ?_
                refine then_x (then_x (block_hit (then_n ?_)))
                refine cE_seq ?_
                have hw : winLen k (floorA ((l[i]'(by omega)).T) k) (l.drop i) = n - i := hw0.trans (by first | rw [win_end (by omega), Nat.add_zero] | rw [win_no (by omega) (by assumption), Nat.add_zero])
                have hnp := win_pos' (k := k) (l := l) (i := i) (by omega)
                rw [hw] at hnp
                have hfr := floorA_r ((l[i]'(by omega)).T) k
                have hM133 : stabML [16] [(kEq v_l), (kEq (.int .i64 (i : Int))), (kEq (.int .i64 (n : Int))), (kSl0 w0 sampE ((l.take n).drop i)), (kEq v_l), (kEq (.int .i64 (i : Int))), (kPt0 w0 [(.int .i64 ((l[i]'(by omega)).T)), (.int .i64 ((l[i]'(by omega)).V))]), (kPt0 w0 [(.int .i64 ((l[i]'(by omega)).T)), (.int .i64 ((l[i]'(by omega)).V))]), (kEq (.int .i64 ((l[i]'(by omega)).T))), (kEq (.int .i64 k)), (kEq (.int .i64 (floorA ((l[i]'(by omega)).T) k))), (kEq (.tuple #[(.agg #[(.int .i64 (((allA ((l.take n).drop i) (floorA ((l[i]'(by omega)).T) k)).1).From)), (.int .i64 (((allA ((l.take n).drop i) (floorA ((l[i]'(by omega)).T) k)).1).Count)), (.int .i64 (((allA ((l.take n).drop i) (floorA ((l[i]'(by omega)).T) k)).1).Sum)), (.int .i64 (((allA ((l.take n).drop i) (floorA ((l[i]'(by omega)).T) k)).1).Min)), (.int .i64 (((allA ((l.take n).drop i) (floorA ((l[i]'(by omega)).T) k)).1).Max)), (.int .i64 (((allA ((l.take n).drop i) (floorA ((l[i]'(by omega)).T) k)).1).First)), (.int .i64 (((allA ((l.take n).drop i) (floorA ((l[i]'(by omega)).T) k)).1).Last))]), (.int .i64 ((allA ((l.take n).drop i) (floorA ((l[i]'(by omega)).T) k)).2))])), (kEq (.tuple #[(.agg #[(.int .i64 (((allA ((l.take n).drop i) (floorA ((l[i]'(by omega)).T) k)).1).From)), (.int .i64 (((allA ((l.take n).drop i) (floorA ((l[i]'(by omega)).T) k)).1).Count)), (.int .i64 (((allA ((l.take n).drop i) (floorA ((l[i]'(by omega)).T) k)).1).Sum)), (.int .i64 (((allA ((l.take n).drop i) (floorA ((l[i]'(by omega)).T) k)).1).Min)), (.int .i64 (((allA ((l.take n).drop i) (floorA ((l[i]'(by omega)).T) k)).1).Max)), (.int .i64 (((allA ((l.take n).drop i) (floorA ((l[i]'(by omega)).T) k)).1).First)), (.int .i64 (((allA ((l.take n).drop i) (floorA ((l[i]'(by omega)).T) k)).1).Last))]), (.int .i64 ((allA ((l.take n).drop i) (floorA ((l[i]'(by omega)).T) k)).2))])), (kEq (.agg #[(.int .i64 (((allA ((l.take n).drop i) (floorA ((l[i]'(by omega)).T) k)).1).From)), (.int .i64 (((allA ((l.take n).drop i) (floorA ((l[i]'(by omega)).T) k)).1).Count)), (.int .i64 (((allA ((l.take n).drop i) (floorA ((l[i]'(by omega)).T) k)).1).Sum)), (.int .i64 (((allA ((l.take n).drop i) (floorA ((l[i]'(by omega)).T) k)).1).Min)), (.int .i64 (((allA ((l.take n).drop i) (floorA ((l[i]'(by omega)).T) k)).1).Max)), (.int .i64 (((allA ((l.take n).drop i) (floorA ((l[i]'(by omega)).T) k)).1).First)), (.int .i64 (((allA ((l.take n).drop i) (floorA ((l[i]'(by omega)).T) k)).1).Last))])), (kEq (.int .i64 ((allA ((l.take n).drop i) (floorA ((l[i]'(by omega)).T) k)).2))), (fun (D : Nat → Bool) (v : Value) (w : World) => ∃ g130 : Nat, v = .pointer (some ⟨g130, 0, none⟩) ∧ (D 16 = false → St w0 w [.blk g130 26 #[(.int .i64 0), (.int .i64 0), (.int .i64 0), (.int .i64 0), (.int .i64 0), (.int .i64 0), (.int .i64 0)], rowT 26 aggE vo out]) ∧ (D 16 = true → St w0 w [.blk g130 26 #[(.int .i64 (((allA ((l.take n).drop i) (floorA ((l[i]'(by omega)).T) k)).1).From)), (.int .i64 (((allA ((l.take n).drop i) (floorA ((l[i]'(by omega)).T) k)).1).Count)), (.int .i64 (((allA ((l.take n).drop i) (floorA ((l[i]'(by omega)).T) k)).1).Sum)), (.int .i64 (((allA ((l.take n).drop i) (floorA ((l[i]'(by omega)).T) k)).1).Min)), (.int .i64 (((allA ((l.take n).drop i) (floorA ((l[i]'(by omega)).T) k)).1).Max)), (.int .i64 (((allA ((l.take n).drop i) (floorA ((l[i]'(by omega)).T) k)).1).First)), (.int .i64 (((allA ((l.take n).drop i) (floorA ((l[i]'(by omega)).T) k)).1).Last))], rowT 26 aggE vo out])), kAny, (kEq (.int .i64 ((allA ((l.take n).drop i) (floorA ((l[i]'(by omega)).T) k)).2)))] := ⟨mEq, mEq, mEq, mSl0, mEq, mEq, mPt0, mPt0, mEq, mEq, mEq, mEq, mEq, mEq, mEq, (fun D D' v w w' hD hb ⟨g, h1, h2⟩ => ⟨g, h1, (fun x0 => (h2.1 ((hD 16 (by decide)).symm.trans x0)).ext hb), (fun x0 => (h2.2 ((hD 16 (by decide)).symm.trans x0)).ext hb)⟩), mAny, mEq, trivial⟩
                refine cE_regionK (fun (D : Nat → Bool) (w : World) => St w0 w [rowT 26 aggE vo out] ∧ (D 16 = false → St w0 w [rowT 26 aggE vo out]) ∧ (D 16 = true → St w0 w [rowT 26 aggE vo out])) [[(0, none)], [(7, none)], [(8, none)], [(51, some 0), (52, some 1), (53, some 2)], [(0, none)], [(7, none)], [(55, some 4), (56, some 5)], [(57, some 6)], [(58, some 7)], [(1, none)], [(59, some 8), (60, some 9)], [(54, some 3), (61, some 10)], [(62, some 11)], [(50, some 12)], [(50, some 12)], [], [(9, some 15), (63, some 13)], [(64, some 14)]] (RofK [(kEq v_l), (kEq (.int .i64 (i : Int))), (kEq (.int .i64 (n : Int))), (kSl0 w0 sampE ((l.take n).drop i)), (kEq v_l), (kEq (.int .i64 (i : Int))), (kPt0 w0 [(.int .i64 ((l[i]'(by omega)).T)), (.int .i64 ((l[i]'(by omega)).V))]), (kPt0 w0 [(.int .i64 ((l[i]'(by omega)).T)), (.int .i64 ((l[i]'(by omega)).V))]), (kEq (.int .i64 ((l[i]'(by omega)).T))), (kEq (.int .i64 k)), (kEq (.int .i64 (floorA ((l[i]'(by omega)).T) k))), (kEq (.tuple #[(.agg #[(.int .i64 (((allA ((l.take n).drop i) (floorA ((l[i]'(by omega)).T) k)).1).From)), (.int .i64 (((allA ((l.take n).drop i) (floorA ((l[i]'(by omega)).T) k)).1).Count)), (.int .i64 (((allA ((l.take n).drop i) (floorA ((l[i]'(by omega)).T) k)).1).Sum)), (.int .i64 (((allA ((l.take n).drop i) (floorA ((l[i]'(by omega)).T) k)).1).Min)), (.int .i64 (((allA ((l.take n).drop i) (floorA ((l[i]'(by omega)).T) k)).1).Max)), (.int .i64 (((allA ((l.take n).drop i) (floorA ((l[i]'(by omega)).T) k)).1).First)), (.int .i64 (((allA ((l.take n).drop i) (floorA ((l[i]'(by omega)).T) k)).1).Last))]), (.int .i64 ((allA ((l.take n).drop i) (floorA ((l[i]'(by omega)).T) k)).2))])), (kEq (.tuple #[(.agg #[(.int .i64 (((allA ((l.take n).drop i) (floorA ((l[i]'(by omega)).T) k)).1).From)), (.int .i64 (((allA ((l.take n).drop i) (floorA ((l[i]'(by omega)).T) k)).1).Count)), (.int .i64 (((allA ((l.take n).drop i) (floorA ((l[i]'(by omega)).T) k)).1).Sum)), (.int .i64 (((allA ((l.take n).drop i) (floorA ((l[i]'(by omega)).T) k)).1).Min)), (.int .i64 (((allA ((l.take n).drop i) (floorA ((l[i]'(by omega)).T) k)).1).Max)), (.int .i64 (((allA ((l.take n).drop i) (floorA ((l[i]'(by omega)).T) k)).1).First)), (.int .i64 (((allA ((l.take n).drop i) (floorA ((l[i]'(by omega)).T) k)).1).Last))]), (.int .i64 ((allA ((l.take n).drop i) (floorA ((l[i]'(by omega)).T) k)).2))])), (kEq (.agg #[(.int .i64 (((allA ((l.take n).drop i) (floorA ((l[i]'(by omega)).T) k)).1).From)), (.int .i64 (((allA ((l.take n).drop i) (floorA ((l[i]'(by omega)).T) k)).1).Count)), (.int .i64 (((allA ((l.take n).drop i) (floorA ((l[i]'(by omega)).T) k)).1).Sum)), (.int .i64 (((allA ((l.take n).drop i) (floorA ((l[i]'(by omega)).T) k)).1).Min)), (.int .i64 (((allA ((l.take n).drop i) (floorA ((l[i]'(by omega)).T) k)).1).Max)), (.int .i64 (((allA ((l.take n).drop i) (floorA ((l[i]'(by omega)).T) k)).1).First)), (.int .i64 (((allA ((l.take n).drop i) (floorA ((l[i]'(by omega)).T) k)).1).Last))])), (kEq (.int .i64 ((allA ((l.take n).drop i) (floorA ((l[i]'(by omega)).T) k)).2))), (fun (D : Nat → Bool) (v : Value) (w : World) => ∃ g130 : Nat, v = .pointer (some ⟨g130, 0, none⟩) ∧ (D 16 = false → St w0 w [.blk g130 26 #[(.int .i64 0), (.int .i64 0), (.int .i64 0), (.int .i64 0), (.int .i64 0), (.int .i64 0), (.int .i64 0)], rowT 26 aggE vo out]) ∧ (D 16 = true → St w0 w [.blk g130 26 #[(.int .i64 (((allA ((l.take n).drop i) (floorA ((l[i]'(by omega)).T) k)).1).From)), (.int .i64 (((allA ((l.take n).drop i) (floorA ((l[i]'(by omega)).T) k)).1).Count)), (.int .i64 (((allA ((l.take n).drop i) (floorA ((l[i]'(by omega)).T) k)).1).Sum)), (.int .i64 (((allA ((l.take n).drop i) (floorA ((l[i]'(by omega)).T) k)).1).Min)), (.int .i64 (((allA ((l.take n).drop i) (floorA ((l[i]'(by omega)).T) k)).1).Max)), (.int .i64 (((allA ((l.take n).drop i) (floorA ((l[i]'(by omega)).T) k)).1).First)), (.int .i64 (((allA ((l.take n).drop i) (floorA ((l[i]'(by omega)).T) k)).1).Last))], rowT 26 aggE vo out])), kAny, (kEq (.int .i64 ((allA ((l.take n).drop i) (floorA ((l[i]'(by omega)).T) k)).2)))]) (by kernel_rfl) rfl (by kernel_rfl) ⟨hst.drewW.sub (.cons_cons _ .slnil), (fun _ => hst.drewW), (fun h => absurd h Bool.false_ne_true)⟩ ⟨?_, ?_, ?_, ?_, ?_, ?_, ?_, ?_, ?_, ?_, ?_, ?_, ?_, ?_, ?_, ?_, ?_, ?_, trivial⟩ ?_
                · rintro D135 ρ136 w137 hD138 hE139 hC140 hJ141 hA142 ⟨f0, _⟩
                  have hst := hJ141.2.1 (not_yet hD138 (fun hm => (hC140 16 0 hm (by kernel_rfl))))
                  replace hst : St w0 w137 [rowT 26 aggE vo out] := hst
                  exact go_plain (op_move v_l (f0.trans uw119_0) (kN0 (i := 0) hM133 (by decide) (by exact hJ141) (by exact rfl)))
                · rintro D143 ρ144 w145 hD146 hE147 hC148 hJ149 hA150 ⟨f7, _⟩
                  have hst := hJ149.2.1 (not_yet hD146 (fun hm => (hC148 16 1 hm (by kernel_rfl))))
                  replace hst : St w0 w145 [rowT 26 aggE vo out] := hst
                  exact go_plain (op_move (.int .i64 (i : Int)) (f7.trans uw119_7) (kN0 (i := 1) hM133 (by decide) (by exact hJ149) (by exact rfl)))
                · rintro D151 ρ152 w153 hD154 hE155 hC156 hJ157 hA158 ⟨f8, _⟩
                  have hst := hJ157.2.1 (not_yet hD154 (fun hm => (hC156 16 2 hm (by kernel_rfl))))
                  replace hst : St w0 w153 [rowT 26 aggE vo out] := hst
                  exact go_plain (op_move (.int .i64 (n : Int)) (f8.trans uw119_8) (kN0 (i := 2) hM133 (by decide) (by exact hJ157) (by exact rfl)))
                · rintro D159 ρ160 w161 hD162 hE163 hC164 hJ165 hA166 ⟨f51, f52, f53, _⟩
                  have hst := hJ165.2.1 (not_yet hD162 (fun hm => (hC164 16 3 hm (by kernel_rfl))))
                  replace hst : St w0 w161 [rowT 26 aggE vo out] := hst
                  refine go_plain (op_slice_bothN i n (E := sampE) (xs := l) Try.underlying22 Try.sizeOf32 f51 h_l f52 f53 (by omega) (by omega) (by omega) (by omega) (fun v167 hs168 => ?_))
                  exact (kN0 (i := 3) hM133 (by decide) (by exact hJ165) (by exact hs168))
                · rintro D169 ρ170 w171 hD172 hE173 hC174 hJ175 hA176 ⟨f0, _⟩
                  have hst := hJ175.2.1 (not_yet hD172 (fun hm => (hC174 16 4 hm (by kernel_rfl))))
                  replace hst : St w0 w171 [rowT 26 aggE vo out] := hst
                  exact go_plain (op_move v_l (f0.trans uw119_0) (kN0 (i := 4) hM133 (by decide) (by exact hJ175) (by exact rfl)))
                · rintro D177 ρ178 w179 hD180 hE181 hC182 hJ183 hA184 ⟨f7, _⟩
                  have hst := hJ183.2.1 (not_yet hD180 (fun hm => (hC182 16 5 hm (by kernel_rfl))))
                  replace hst : St w0 w179 [rowT 26 aggE vo out] := hst
                  exact go_plain (op_move (.int .i64 (i : Int)) (f7.trans uw119_7) (kN0 (i := 5) hM133 (by decide) (by exact hJ183) (by exact rfl)))
                · rintro D185 ρ186 w187 hD188 hE189 hC190 hJ191 hA192 ⟨f55, f56, _⟩
                  have hst := hJ191.2.1 (not_yet hD188 (fun hm => (hC190 16 6 hm (by kernel_rfl))))
                  replace hst : St w0 w187 [rowT 26 aggE vo out] := hst
                  refine go_plain (op_indexAddrN (E := sampE) (xs := l) i Try.underlying22 Try.sizeOf32 f55 h_l f56 (by omega) (by omega) (fun a193 o194 p195 => ?_))
                  exact (kN0 (i := 6) hM133 (by decide) (by exact hJ191) (by exact ⟨_, _, rfl, p195⟩))
                · rintro D196 ρ197 w198 hD199 hE200 hC201 hJ202 hA203 ⟨f57, _⟩
                  have hst := hJ202.2.1 (not_yet hD199 (fun hm => (hC201 16 7 hm (by kernel_rfl))))
                  replace hst : St w0 w198 [rowT 26 aggE vo out] := hst
                  obtain ⟨a204, o205, e206, p207⟩ := f57
                  exact go_plain (op_fieldAddr (s := 0) Try.underlying32 rfl rfl Try.sizeOf2 e206 (kN0 (i := 7) hM133 (by decide) (by exact hJ202) (by exact ⟨_, _, rfl, p207⟩)))
                · rintro D208 ρ209 w210 hD211 hE212 hC213 hJ214 hA215 ⟨f58, _⟩
                  have hst := hJ214.2.1 (not_yet hD211 (fun hm => (hC213 16 8 hm (by kernel_rfl))))
                  replace hst : St w0 w210 [rowT 26 aggE vo out] := hst
                  obtain ⟨a216, o217, e218, p219⟩ := f58
                  exact go_plain (op_load1 (u := (.int .i64 ((l[i]'(by omega)).T))) Try.isAgg2 e218 (p219.below hst.below) (kN0 (i := 8) hM133 (by decide) (by exact hJ214) (by exact rfl)))
                · rintro D220 ρ221 w222 hD223 hE224 hC225 hJ226 hA227 ⟨f1, _⟩
                  have hst := hJ226.2.1 (not_yet hD223 (fun hm => (hC225 16 9 hm (by kernel_rfl))))
                  replace hst : St w0 w222 [rowT 26 aggE vo out] := hst
                  exact go_plain (op_move (.int .i64 k) (f1.trans uw119_1) (kN0 (i := 9) hM133 (by decide) (by exact hJ226) (by exact rfl)))
                · rintro D228 ρ229 w230 hD231 hE232 hC233 hJ234 hA235 ⟨f59, f60, _⟩
                  have hst := hJ234.2.1 (not_yet hD231 (fun hm => (hC233 16 10 hm (by kernel_rfl))))
                  replace hst : St w0 w230 [rowT 26 aggE vo out] := hst
                  refine go_plain (op_call Try.call31 (evs_cons (v := (.int .i64 ((l[i]'(by omega)).T))) f59 (evs_cons (v := (.int .i64 k)) f60 evs_nil)) (c_rFloor (w0 := w230) (t := (l[i]'(by omega)).T) (k := k) (t0 := (hl _ (List.getElem_mem _)).1.1) (k0 := (by omega)) (t1 := (hl _ (List.getElem_mem _)).1.2) (k1 := (by omega))) ?_)
                  rintro _ w236 ⟨rfl, hcall⟩
                  refine ⟨_, rfl, ?_⟩
                  exact kN (i := 10) hM133 (by decide) hcall.below (by exact ⟨(hJ234.1).ext hcall.below, (fun x0 => (hJ234.2.1 x0).ext hcall.below), (fun x0 => (hJ234.2.2 x0).ext hcall.below)⟩) (by exact rfl)
                · rintro D237 ρ238 w239 hD240 hE241 hC242 hJ243 hA244 ⟨f54, f61, _⟩
                  have hst := hJ243.2.1 (not_yet hD240 (fun hm => (hC242 16 11 hm (by kernel_rfl))))
                  replace hst : St w0 w239 [rowT 26 aggE vo out] := hst
                  obtain ⟨v246, e247⟩ : ∃ x, ρ238 54 = x := ⟨_, rfl⟩
                  have hs245 := f54
                  replace hs245 : Sl w0 sampE v246 ((l.take n).drop i) := e247 ▸ hs245
                  refine go_plain (op_call Try.call36 (evs_cons (v := v246) e247 (evs_cons (v := (.int .i64 (floorA ((l[i]'(by omega)).T) k))) f61 evs_nil)) (c_rAll (w0 := w239) (v_l := v246) (l := ((l.take n).drop i)) (h_l := (hs245.below hst.below)) (fr := (floorA ((l[i]'(by omega)).T) k)) (hl := (fun s h => hl s (List.mem_of_mem_take (List.mem_of_mem_drop h)))) (fr0 := (by omega)) (fr1 := (by omega)) (hn := (by simp; omega))) ?_)
                  rintro _ w248 ⟨rfl, hcall⟩
                  refine ⟨_, rfl, ?_⟩
                  exact kN (i := 11) hM133 (by decide) hcall.below (by exact ⟨(hJ243.1).ext hcall.below, (fun x0 => (hJ243.2.1 x0).ext hcall.below), (fun x0 => (hJ243.2.2 x0).ext hcall.below)⟩) (by exact rfl)
                · rintro D249 ρ250 w251 hD252 hE253 hC254 hJ255 hA256 ⟨f62, _⟩
                  have hst := hJ255.2.1 (not_yet hD252 (fun hm => (hC254 16 12 hm (by kernel_rfl))))
                  replace hst : St w0 w251 [rowT 26 aggE vo out] := hst
                  exact go_plain (op_move (.tuple #[(.agg #[(.int .i64 (((allA ((l.take n).drop i) (floorA ((l[i]'(by omega)).T) k)).1).From)), (.int .i64 (((allA ((l.take n).drop i) (floorA ((l[i]'(by omega)).T) k)).1).Count)), (.int .i64 (((allA ((l.take n).drop i) (floorA ((l[i]'(by omega)).T) k)).1).Sum)), (.int .i64 (((allA ((l.take n).drop i) (floorA ((l[i]'(by omega)).T) k)).1).Min)), (.int .i64 (((allA ((l.take n).drop i) (floorA ((l[i]'(by omega)).T) k)).1).Max)), (.int .i64 (((allA ((l.take n).drop i) (floorA ((l[i]'(by omega)).T) k)).1).First)), (.int .i64 (((allA ((l.take n).drop i) (floorA ((l[i]'(by omega)).T) k)).1).Last))]), (.int .i64 ((allA ((l.take n).drop i) (floorA ((l[i]'(by omega)).T) k)).2))]) f62 (kN0 (i := 12) hM133 (by decide) (by exact hJ255) (by exact rfl)))
                · rintro D257 ρ258 w259 hD260 hE261 hC262 hJ263 hA264 ⟨f50, _⟩
                  have hst := hJ263.2.1 (not_yet hD260 (fun hm => (hC262 16 13 hm (by kernel_rfl))))
                  replace hst : St w0 w259 [rowT 26 aggE vo out] := hst
                  exact go_plain (op_extract (.agg #[(.int .i64 (((allA ((l.take n).drop i) (floorA ((l[i]'(by omega)).T) k)).1).From)), (.int .i64 (((allA ((l.take n).drop i) (floorA ((l[i]'(by omega)).T) k)).1).Count)), (.int .i64 (((allA ((l.take n).drop i) (floorA ((l[i]'(by omega)).T) k)).1).Sum)), (.int .i64 (((allA ((l.take n).drop i) (floorA ((l[i]'(by omega)).T) k)).1).Min)), (.int .i64 (((allA ((l.take n).drop i) (floorA ((l[i]'(by omega)).T) k)).1).Max)), (.int .i64 (((allA ((l.take n).drop i) (floorA ((l[i]'(by omega)).T) k)).1).First)), (.int .i64 (((allA ((l.take n).drop i) (floorA ((l[i]'(by omega)).T) k)).1).Last))]) f50 rfl (kN0 (i := 13) hM133 (by decide) (by exact hJ263) (by exact rfl)))
                · rintro D265 ρ266 w267 hD268 hE269 hC270 hJ271 hA272 ⟨f50, _⟩
                  have hst := hJ271.1
                  exact go_plain (op_extract (.int .i64 ((allA ((l.take n).drop i) (floorA ((l[i]'(by omega)).T) k)).2)) f50 rfl (kN0 (i := 14) hM133 (by decide) (by exact hJ271) (by exact rfl)))
                · rintro D273 ρ274 w275 hD276 hE277 hC278 hJ279 hA280 ⟨_⟩
                  have hst := hJ279.2.1 (not_yet hD276 (fun hm => (hC278 16 15 hm (by kernel_rfl))))
                  replace hst : St w0 w275 [rowT 26 aggE vo out] := hst
                  have hst := St.start w275
                  refine go_plain (op_alloc (cs := #[(.int .i64 0), (.int .i64 0), (.int .i64 0), (.int .i64 0), (.int .i64 0), (.int .i64 0), (.int .i64 0)]) hst Try.zeroValue26 rfl (fun g281 w282 hst _ => ?_))
                  exact kN (i := 15) hM133 (by decide) hst.below (by exact ⟨(hJ279.1).ext hst.below, (fun x0 => (hJ279.2.1 x0).ext hst.below), (fun x0 => (hJ279.2.2 x0).ext hst.below)⟩) (by exact ⟨_, rfl, (fun y0 => (hJ279.2.1 y0).call hst), (fun y0 => absurd (show D273 16 = true from y0) (by rw [(not_yet hD276 (fun hm => (hC278 16 15 hm (by kernel_rfl))))]; decide))⟩)
                · rintro D283 ρ284 w285 hD286 hE287 hC288 hJ289 hA290 ⟨f9, f63, _⟩
                  obtain ⟨g291, e292, hh293⟩ := hA290 15 9 (hE287 15 (by kernel_rfl)) rfl
                  have hst : St w0 w285 [.blk g291 26 #[(.int .i64 0), (.int .i64 0), (.int .i64 0), (.int .i64 0), (.int .i64 0), (.int .i64 0), (.int .i64 0)], rowT 26 aggE vo out] := hh293.1 hD286
                  refine go_plain (op_storeAll hst 0 rfl Try.sizeOf26 e292 f63 rfl rfl (by simp [Value.oneCell']) (fun w294 hst => ?_))
                  replace hst : St w0 w294 [.blk g291 26 #[(.int .i64 (((allA ((l.take n).drop i) (floorA ((l[i]'(by omega)).T) k)).1).From)), (.int .i64 (((allA ((l.take n).drop i) (floorA ((l[i]'(by omega)).T) k)).1).Count)), (.int .i64 (((allA ((l.take n).drop i) (floorA ((l[i]'(by omega)).T) k)).1).Sum)), (.int .i64 (((allA ((l.take n).drop i) (floorA ((l[i]'(by omega)).T) k)).1).Min)), (.int .i64 (((allA ((l.take n).drop i) (floorA ((l[i]'(by omega)).T) k)).1).Max)), (.int .i64 (((allA ((l.take n).drop i) (floorA ((l[i]'(by omega)).T) k)).1).First)), (.int .i64 (((allA ((l.take n).drop i) (floorA ((l[i]'(by omega)).T) k)).1).Last))], rowT 26 aggE vo out] := hst
                  have hI295 : stabIXs 16 [15] D283 0 [(kEq v_l), (kEq (.int .i64 (i : Int))), (kEq (.int .i64 (n : Int))), (kSl0 w0 sampE ((l.take n).drop i)), (kEq v_l), (kEq (.int .i64 (i : Int))), (kPt0 w0 [(.int .i64 ((l[i]'(by omega)).T)), (.int .i64 ((l[i]'(by omega)).V))]), (kPt0 w0 [(.int .i64 ((l[i]'(by omega)).T)), (.int .i64 ((l[i]'(by omega)).V))]), (kEq (.int .i64 ((l[i]'(by omega)).T))), (kEq (.int .i64 k)), (kEq (.int .i64 (floorA ((l[i]'(by omega)).T) k))), (kEq (.tuple #[(.agg #[(.int .i64 (((allA ((l.take n).drop i) (floorA ((l[i]'(by omega)).T) k)).1).From)), (.int .i64 (((allA ((l.take n).drop i) (floorA ((l[i]'(by omega)).T) k)).1).Count)), (.int .i64 (((allA ((l.take n).drop i) (floorA ((l[i]'(by omega)).T) k)).1).Sum)), (.int .i64 (((allA ((l.take n).drop i) (floorA ((l[i]'(by omega)).T) k)).1).Min)), (.int .i64 (((allA ((l.take n).drop i) (floorA ((l[i]'(by omega)).T) k)).1).Max)), (.int .i64 (((allA ((l.take n).drop i) (floorA ((l[i]'(by omega)).T) k)).1).First)), (.int .i64 (((allA ((l.take n).drop i) (floorA ((l[i]'(by omega)).T) k)).1).Last))]), (.int .i64 ((allA ((l.take n).drop i) (floorA ((l[i]'(by omega)).T) k)).2))])), (kEq (.tuple #[(.agg #[(.int .i64 (((allA ((l.take n).drop i) (floorA ((l[i]'(by omega)).T) k)).1).From)), (.int .i64 (((allA ((l.take n).drop i) (floorA ((l[i]'(by omega)).T) k)).1).Count)), (.int .i64 (((allA ((l.take n).drop i) (floorA ((l[i]'(by omega)).T) k)).1).Sum)), (.int .i64 (((allA ((l.take n).drop i) (floorA ((l[i]'(by omega)).T) k)).1).Min)), (.int .i64 (((allA ((l.take n).drop i) (floorA ((l[i]'(by omega)).T) k)).1).Max)), (.int .i64 (((allA ((l.take n).drop i) (floorA ((l[i]'(by omega)).T) k)).1).First)), (.int .i64 (((allA ((l.take n).drop i) (floorA ((l[i]'(by omega)).T) k)).1).Last))]), (.int .i64 ((allA ((l.take n).drop i) (floorA ((l[i]'(by omega)).T) k)).2))])), (kEq (.agg #[(.int .i64 (((allA ((l.take n).drop i) (floorA ((l[i]'(by omega)).T) k)).1).From)), (.int .i64 (((allA ((l.take n).drop i) (floorA ((l[i]'(by omega)).T) k)).1).Count)), (.int .i64 (((allA ((l.take n).drop i) (floorA ((l[i]'(by omega)).T) k)).1).Sum)), (.int .i64 (((allA ((l.take n).drop i) (floorA ((l[i]'(by omega)).T) k)).1).Min)), (.int .i64 (((allA ((l.take n).drop i) (floorA ((l[i]'(by omega)).T) k)).1).Max)), (.int .i64 (((allA ((l.take n).drop i) (floorA ((l[i]'(by omega)).T) k)).1).First)), (.int .i64 (((allA ((l.take n).drop i) (floorA ((l[i]'(by omega)).T) k)).1).Last))])), (kEq (.int .i64 ((allA ((l.take n).drop i) (floorA ((l[i]'(by omega)).T) k)).2))), (fun (D : Nat → Bool) (v : Value) (w : World) => ∃ g130 : Nat, v = .pointer (some ⟨g130, 0, none⟩) ∧ (D 16 = false → St w0 w [.blk g130 26 #[(.int .i64 0), (.int .i64 0), (.int .i64 0), (.int .i64 0), (.int .i64 0), (.int .i64 0), (.int .i64 0)], rowT 26 aggE vo out]) ∧ (D 16 = true → St w0 w [.blk g130 26 #[(.int .i64 (((allA ((l.take n).drop i) (floorA ((l[i]'(by omega)).T) k)).1).From)), (.int .i64 (((allA ((l.take n).drop i) (floorA ((l[i]'(by omega)).T) k)).1).Count)), (.int .i64 (((allA ((l.take n).drop i) (floorA ((l[i]'(by omega)).T) k)).1).Sum)), (.int .i64 (((allA ((l.take n).drop i) (floorA ((l[i]'(by omega)).T) k)).1).Min)), (.int .i64 (((allA ((l.take n).drop i) (floorA ((l[i]'(by omega)).T) k)).1).Max)), (.int .i64 (((allA ((l.take n).drop i) (floorA ((l[i]'(by omega)).T) k)).1).First)), (.int .i64 (((allA ((l.take n).drop i) (floorA ((l[i]'(by omega)).T) k)).1).Last))], rowT 26 aggE vo out])), kAny, (kEq (.int .i64 ((allA ((l.take n).drop i) (floorA ((l[i]'(by omega)).T) k)).2)))] := ⟨Or.inr (Or.inr (Or.inr iEq)), Or.inr (Or.inr (Or.inr iEq)), Or.inr (Or.inr (Or.inr iEq)), Or.inr (Or.inr (Or.inr iSl0)), Or.inr (Or.inr (Or.inr iEq)), Or.inr (Or.inr (Or.inr iEq)), Or.inr (Or.inr (Or.inr iPt0)), Or.inr (Or.inr (Or.inr iPt0)), Or.inr (Or.inr (Or.inr iEq)), Or.inr (Or.inr (Or.inr iEq)), Or.inr (Or.inr (Or.inr iEq)), Or.inr (Or.inr (Or.inr iEq)), Or.inr (Or.inr (Or.inr iEq)), Or.inr (Or.inr (Or.inr iEq)), Or.inr (Or.inr (Or.inr iEq)), Or.inr (Or.inl (by decide)), Or.inl rfl, Or.inr (Or.inr (Or.inl (not_yet hD286 (fun hm => (hC288 17 16 hm (by kernel_rfl)))))), trivial⟩
                  refine ⟨by exact ⟨hst.sub (.cons _ (.cons_cons _ .slnil)), (fun y0 => absurd y0 (fun h => Bool.noConfusion h)), (fun y0 => hst.sub (.cons _ (.cons_cons _ .slnil)))⟩, by exact trivial, kX [15] hI295 ?_⟩
                  intro j d hj hjd hDj h
                  simp only [List.mem_cons, List.not_mem_nil, or_false] at hj
                  subst hj
                  obtain rfl : 9 = d := Option.some.inj hjd
                  exact ⟨_, e292, (fun y0 => absurd y0 (fun h => Bool.noConfusion h)), (fun y0 => hst.sub (.cons_cons _ (.cons_cons _ .slnil)))⟩
                · rintro D296 ρ297 w298 hD299 hE300 hC301 hJ302 hA303 ⟨f64, _⟩
                  have hst := hJ302.2.2 (hE300 16 (by kernel_rfl))
                  replace hst : St w0 w298 [rowT 26 aggE vo out] := hst
                  exact go_plain (op_assign (.int .i64 ((allA ((l.take n).drop i) (floorA ((l[i]'(by omega)).T) k)).2)) f64 (kN0 (i := 17) hM133 (by decide) (by exact hJ302) (by exact rfl)))
                · intro ρ304 w305 Dw305 hallw305 hJw305 hRw305 hkw305
                  obtain ⟨g306, uw305_9, hhw305⟩ := hRw305 15 9 rfl
                  have hst : St w0 w305 [.blk g306 26 #[(.int .i64 (((allA ((l.take n).drop i) (floorA ((l[i]'(by omega)).T) k)).1).From)), (.int .i64 (((allA ((l.take n).drop i) (floorA ((l[i]'(by omega)).T) k)).1).Count)), (.int .i64 (((allA ((l.take n).drop i) (floorA ((l[i]'(by omega)).T) k)).1).Sum)), (.int .i64 (((allA ((l.take n).drop i) (floorA ((l[i]'(by omega)).T) k)).1).Min)), (.int .i64 (((allA ((l.take n).drop i) (floorA ((l[i]'(by omega)).T) k)).1).Max)), (.int .i64 (((allA ((l.take n).drop i) (floorA ((l[i]'(by omega)).T) k)).1).First)), (.int .i64 (((allA ((l.take n).drop i) (floorA ((l[i]'(by omega)).T) k)).1).Last))], rowT 26 aggE vo out] := hhw305.2 (hallw305 16 (show 16 < 18 from by decide))
                  have uw305_0 : ρ304 0 = v_l := (hkw305 0 rfl).trans uw119_0
                  have uw305_1 : ρ304 1 = (.int .i64 k) := (hkw305 1 rfl).trans uw119_1
                  have uw305_11 : ρ304 11 = (.int .i64 k) := (hkw305 11 rfl).trans uw119_11
                  have uw305_12 : ρ304 12 = (.bool (decide (k < 1))) := (hkw305 12 rfl).trans uw119_12
                  have uw305_13 : ρ304 13 = (.bool (decide (k < 1))) := (hkw305 13 rfl).trans uw119_13
                  have uw305_14 : ρ304 14 = (.int .i64 k) := (hkw305 14 rfl).trans uw119_14
                  have uw305_15 : ρ304 15 = (.bool (decide (3 < k))) := (hkw305 15 rfl).trans uw119_15
                  have uw305_16 : ρ304 16 = (.bool (decide (3 < k))) := (hkw305 16 rfl).trans uw119_16
                  have uw305_17 : ρ304 17 = (.bool (decide (3 < k))) := (hkw305 17 rfl).trans uw119_17
                  have uw305_18 : ρ304 18 = v_l := (hkw305 18 rfl).trans uw119_18
                  have uw305_19 : ρ304 19 = (.bool (risingA l)) := (hkw305 19 rfl).trans uw119_19
                  have uw305_20 : ρ304 20 = (.bool (!(risingA l))) := (hkw305 20 rfl).trans uw119_20
                  have uw305_21 : ρ304 21 = (.bool (!(risingA l))) := (hkw305 21 rfl).trans uw119_21
                  have uw305_7 : ρ304 7 = (.int .i64 (i : Int)) := (hkw305 7 rfl).trans uw119_7
                  have uw305_6 : ρ304 6 = vo := (hkw305 6 rfl).trans uw119_6
                  have uw305_22 : ρ304 22 = (.int .i64 (i : Int)) := (hkw305 22 rfl).trans uw119_22
                  have uw305_23 : ρ304 23 = v_l := (hkw305 23 rfl).trans uw119_23
                  have uw305_24 : ρ304 24 = (.int .i64 (l.length : Int)) := (hkw305 24 rfl).trans uw119_24
                  have uw305_25 : ρ304 25 = (.bool (decide ((i : Int) < (l.length : Int)))) := (hkw305 25 rfl).trans uw119_25
                  have uw305_26 : ρ304 26 = (.int .i64 (i : Int)) := (hkw305 26 rfl).trans uw119_26
                  have uw305_8 : ρ304 8 = (.int .i64 (n : Int)) := (hkw305 8 rfl).trans uw119_8
                  have uw305_47 : ρ304 47 = (.bool (decide ((floorA ((l[n]'(by omega)).T) k) = (floorA ((l[i]'(by omega)).T) k)))) := (hkw305 47 rfl).trans uw119_47
                  have uw305_10 : ρ304 10 = (.int .i64 ((allA ((l.take n).drop i) (floorA ((l[i]'(by omega)).T) k)).2)) := hRw305 17 10 rfl
                  refine then_n ?_
                  refine cE_seq ?_
                  refine cE_seq ?_
                  refine cE_region rfl ?_
                  refine s_cons (op_move (.int .i64 ((allA ((l.take n).drop i) (floorA ((l[i]'(by omega)).T) k)).2)) uw305_10 ?_)
                  refine s_cons (op_neq (k := .i64) (a := (allA ((l.take n).drop i) (floorA ((l[i]'(by omega)).T) k)).2) (b := 0) rfl rfl ?_)
                  refine s_nil ?_
                  refine then_n ?_
                  rcases Bool.eq_false_or_eq_true (decide (((allA ((l.take n).drop i) (floorA ((l[i]'(by omega)).T) k)).2) = 0)) with b307 | b307
                  · have c308 : ((allA ((l.take n).drop i) (floorA ((l[i]'(by omega)).T) k)).2) = 0 := of_decide_eq_true b307
                    refine cE_cond false (congrArg Value.bool (congrArg (! ·) b307)) (fun h => by cases h) (fun _ => ?_)
                    refine cE_skip ?_
                    refine then_n ?_
                    refine cE_seq ?_
                    refine cE_region rfl ?_
                    refine s_cons (op_move vo uw305_6 ?_)
                    refine s_cons (op_loadN (cs := [(.int .i64 (((allA ((l.take n).drop i) (floorA ((l[i]'(by omega)).T) k)).1).From)), (.int .i64 (((allA ((l.take n).drop i) (floorA ((l[i]'(by omega)).T) k)).1).Count)), (.int .i64 (((allA ((l.take n).drop i) (floorA ((l[i]'(by omega)).T) k)).1).Sum)), (.int .i64 (((allA ((l.take n).drop i) (floorA ((l[i]'(by omega)).T) k)).1).Min)), (.int .i64 (((allA ((l.take n).drop i) (floorA ((l[i]'(by omega)).T) k)).1).Max)), (.int .i64 (((allA ((l.take n).drop i) (floorA ((l[i]'(by omega)).T) k)).1).First)), (.int .i64 (((allA ((l.take n).drop i) (floorA ((l[i]'(by omega)).T) k)).1).Last))]) Try.isAgg26 Try.sizeOf26 uw305_9 (Pt.of (hst.cell 0 rfl) rfl) rfl ?_)
                    refine s_cons (op_buildSlice (E := aggE) [((allA ((l.take n).drop i) (floorA ((l[i]'(by omega)).T) k)).1)] hst Try.underlying41 Try.sizeOf26 Try.zeroValue26 (evp_cons (v := (.agg #[(.int .i64 (((allA ((l.take n).drop i) (floorA ((l[i]'(by omega)).T) k)).1).From)), (.int .i64 (((allA ((l.take n).drop i) (floorA ((l[i]'(by omega)).T) k)).1).Count)), (.int .i64 (((allA ((l.take n).drop i) (floorA ((l[i]'(by omega)).T) k)).1).Sum)), (.int .i64 (((allA ((l.take n).drop i) (floorA ((l[i]'(by omega)).T) k)).1).Min)), (.int .i64 (((allA ((l.take n).drop i) (floorA ((l[i]'(by omega)).T) k)).1).Max)), (.int .i64 (((allA ((l.take n).drop i) (floorA ((l[i]'(by omega)).T) k)).1).First)), (.int .i64 (((allA ((l.take n).drop i) (floorA ((l[i]'(by omega)).T) k)).1).Last))])) rfl evp_nil) (parts_cons rfl parts_nil) rfl (by decide) (fun v309 w310 hst => ?_))
                    replace hst : St w0 w310 [rowT 26 aggE v309 ([((allA ((l.take n).drop i) (floorA ((l[i]'(by omega)).T) k)).1)]), .blk g306 26 #[(.int .i64 (((allA ((l.take n).drop i) (floorA ((l[i]'(by omega)).T) k)).1).From)), (.int .i64 (((allA ((l.take n).drop i) (floorA ((l[i]'(by omega)).T) k)).1).Count)), (.int .i64 (((allA ((l.take n).drop i) (floorA ((l[i]'(by omega)).T) k)).1).Sum)), (.int .i64 (((allA ((l.take n).drop i) (floorA ((l[i]'(by omega)).T) k)).1).Min)), (.int .i64 (((allA ((l.take n).drop i) (floorA ((l[i]'(by omega)).T) k)).1).Max)), (.int .i64 (((allA ((l.take n).drop i) (floorA ((l[i]'(by omega)).T) k)).1).First)), (.int .i64 (((allA ((l.take n).drop i) (floorA ((l[i]'(by omega)).T) k)).1).Last))], rowT 26 aggE vo out] := hst
                    refine s_cons (op_append (E := aggE) (xs := out) (ys := [((allA ((l.take n).drop i) (floorA ((l[i]'(by omega)).T) k)).1)]) (z := (.agg #[(.int .i64 0), (.int .i64 0), (.int .i64 0), (.int .i64 0), (.int .i64 0), (.int .i64 0), (.int .i64 0)])) (bytes := 56) hst 2 rfl Try.underlying41 (by kernel_rfl) rfl rfl rfl (hst.sl 0 rfl) (by first | omega | (simp; omega) | (simp; done)) (by first | omega | (simp; omega) | (simp; done)) (fun v311 w312 hst => ?_))
                    replace hst : St w0 w312 [rowT 26 aggE v309 ([((allA ((l.take n).drop i) (floorA ((l[i]'(by omega)).T) k)).1)]), .blk g306 26 #[(.int .i64 (((allA ((l.take n).drop i) (floorA ((l[i]'(by omega)).T) k)).1).From)), (.int .i64 (((allA ((l.take n).drop i) (floorA ((l[i]'(by omega)).T) k)).1).Count)), (.int .i64 (((allA ((l.take n).drop i) (floorA ((l[i]'(by omega)).T) k)).1).Sum)), (.int .i64 (((allA ((l.take n).drop i) (floorA ((l[i]'(by omega)).T) k)).1).Min)), (.int .i64 (((allA ((l.take n).drop i) (floorA ((l[i]'(by omega)).T) k)).1).Max)), (.int .i64 (((allA ((l.take n).drop i) (floorA ((l[i]'(by omega)).T) k)).1).First)), (.int .i64 (((allA ((l.take n).drop i) (floorA ((l[i]'(by omega)).T) k)).1).Last))], rowT 26 aggE v311 (out ++ ([((allA ((l.take n).drop i) (floorA ((l[i]'(by omega)).T) k)).1)]))] := hst
                    refine s_cons (op_assign v311 rfl ?_)
                    refine s_nil ?_
                    refine then_n ?_
                    refine cE_region rfl ?_
                    refine s_cons (op_move (.int .i64 (n : Int)) uw305_8 ?_)
                    refine s_cons (op_assign (.int .i64 (n : Int)) rfl ?_)
                    refine s_nil ?_
                    refine block_n (then_n ?_)
                    exact ⟨_, ⟨v311, (out ++ ([((allA ((l.take n).drop i) (floorA ((l[i]'(by omega)).T) k)).1)])), (f - 1), n, rfl, uw305_0, uw305_1, uw305_11, uw305_12, uw305_13, uw305_14, uw305_15, uw305_16, uw305_17, uw305_18, uw305_19, uw305_20, uw305_21, rfl, rfl, (hst.sub (.cons _ (.cons _ (.cons_cons _ .slnil)))), (by omega), (by first | omega | (simp; omega) | (simp; done)), (by first | omega | (simp; omega) | (simp; done)), (by first | exact hI.trans (rrw_go (by omega) hf hw (by assumption) (by omega)) | (unfold rawA; rw [if_pos ⟨hri, hco⟩, List.drop_zero]))⟩, (by simp only [id]; omega)⟩
                  · have c313 : ¬ (((allA ((l.take n).drop i) (floorA ((l[i]'(by omega)).T) k)).2) = 0) := of_decide_eq_false b307
                    refine cE_cond true (congrArg Value.bool (congrArg (! ·) b307)) (fun _ => ?_) (fun h => by cases h)
                    refine cE_seq ?_
                    refine cE_region rfl ?_
                    refine s_cons (op_move (.int .i64 ((allA ((l.take n).drop i) (floorA ((l[i]'(by omega)).T) k)).2)) uw305_10 ?_)
                    refine s_cons (op_assign (.slice none 0 0) rfl ?_)
                    refine s_cons (op_assign (.int .i64 ((allA ((l.take n).drop i) (floorA ((l[i]'(by omega)).T) k)).2)) rfl ?_)
                    refine s_nil ?_
                    refine then_n ?_
                    refine cE_ret ?_
                    refine then_r (block_r (then_r (block_r (then_r ?_))))
                    refine post_r _ (res2 (v := (.slice none 0 0)) rfl (x := (.int .i64 ((allA ((l.take n).drop i) (floorA ((l[i]'(by omega)).T) k)).2))) rfl) ?_
                    replace hst : St w0 w305 [rowT 26 aggE (.slice none 0 0) ([]), .blk g306 26 #[(.int .i64 (((allA ((l.take n).drop i) (floorA ((l[i]'(by omega)).T) k)).1).From)), (.int .i64 (((allA ((l.take n).drop i) (floorA ((l[i]'(by omega)).T) k)).1).Count)), (.int .i64 (((allA ((l.take n).drop i) (floorA ((l[i]'(by omega)).T) k)).1).Sum)), (.int .i64 (((allA ((l.take n).drop i) (floorA ((l[i]'(by omega)).T) k)).1).Min)), (.int .i64 (((allA ((l.take n).drop i) (floorA ((l[i]'(by omega)).T) k)).1).Max)), (.int .i64 (((allA ((l.take n).drop i) (floorA ((l[i]'(by omega)).T) k)).1).First)), (.int .i64 (((allA ((l.take n).drop i) (floorA ((l[i]'(by omega)).T) k)).1).Last))], rowT 26 aggE vo out] := hst.nilRow 26 aggE
                    have e314 : [] = (rawA l k).1 := by first | exact (congrArg Prod.fst (raw_none (Or.inl (by assumption)))).symm | exact (congrArg Prod.snd (raw_none (Or.inl (by assumption)))).symm | exact (congrArg Prod.fst (raw_none (Or.inr (coarse_no (by omega))))).symm | exact (congrArg Prod.snd (raw_none (Or.inr (coarse_no (by omega))))).symm | exact (congrArg Prod.fst (hI.trans (rrw_stop (by omega) hf hw (by assumption)))).symm | exact (congrArg Prod.snd (hI.trans (rrw_stop (by omega) hf hw (by assumption)))).symm | exact (congrArg Prod.fst (hI.trans (rrw_end (by omega)))).symm | exact (congrArg Prod.snd (hI.trans (rrw_end (by omega)))).symm
                    replace hst : St w0 w305 [rowT 26 aggE (.slice none 0 0) ((rawA l k).1), .blk g306 26 #[(.int .i64 (((allA ((l.take n).drop i) (floorA ((l[i]'(by omega)).T) k)).1).From)), (.int .i64 (((allA ((l.take n).drop i) (floorA ((l[i]'(by omega)).T) k)).1).Count)), (.int .i64 (((allA ((l.take n).drop i) (floorA ((l[i]'(by omega)).T) k)).1).Sum)), (.int .i64 (((allA ((l.take n).drop i) (floorA ((l[i]'(by omega)).T) k)).1).Min)), (.int .i64 (((allA ((l.take n).drop i) (floorA ((l[i]'(by omega)).T) k)).1).Max)), (.int .i64 (((allA ((l.take n).drop i) (floorA ((l[i]'(by omega)).T) k)).1).First)), (.int .i64 (((allA ((l.take n).drop i) (floorA ((l[i]'(by omega)).T) k)).1).Last))], rowT 26 aggE vo out] := by rw [congrArg (fun l => rowT 26 aggE (.slice none 0 0) l) e314] at hst; exact hst
                    exact ⟨(.slice none 0 0), (retv2 rfl (congrArg (Value.int .i64) (show (allA ((l.take n).drop i) (floorA ((l[i]'(by omega)).T) k)).2 = (rawA l k).2 from by first | exact (congrArg Prod.fst (raw_none (Or.inl (by assumption)))).symm | exact (congrArg Prod.snd (raw_none (Or.inl (by assumption)))).symm | exact (congrArg Prod.fst (raw_none (Or.inr (coarse_no (by omega))))).symm | exact (congrArg Prod.snd (raw_none (Or.inr (coarse_no (by omega))))).symm | exact (congrArg Prod.fst (hI.trans (rrw_stop (by omega) hf hw (by assumption)))).symm | exact (congrArg Prod.snd (hI.trans (rrw_stop (by omega) hf hw (by assumption)))).symm | exact (congrArg Prod.fst (hI.trans (rrw_end (by omega)))).symm | exact (congrArg Prod.snd (hI.trans (rrw_end (by omega)))).symm))), hst.sub (.cons_cons _ (.cons _ (.cons _ .slnil)))⟩
          · have c315 : ¬ ((n : Int) < (l.length : Int)) := of_decide_eq_false b21
            refine cE_regionL hst [[(8, none)], [(0, none)], [(28, some 1)], [(27, some 0), (29, some 2)], [(30, some 3)], [(0, none), (31, some 4)], [(8, none), (31, some 4)], [(32, some 5), (33, some 6), (31, some 4)], [(34, some 7), (31, some 4)], [(35, some 8), (31, some 4)], [(1, none), (31, some 4)], [(36, some 9), (37, some 10), (31, some 4)], [(0, none), (31, some 4)], [(7, none), (31, some 4)], [(39, some 12), (40, some 13), (31, some 4)], [(41, some 14), (31, some 4)], [(42, some 15), (31, some 4)], [(1, none), (31, some 4)], [(43, some 16), (44, some 17), (31, some 4)], [(38, some 11), (45, some 18), (31, some 4)], [(31, some 4), (46, some 19)]] [(rEq (.int .i64 (n : Int))), (rEq v_l), (rEq (.int .i64 (l.length : Int))), (rEq (.bool (decide ((n : Int) < (l.length : Int))))), (rEq (.bool (decide ((n : Int) < (l.length : Int))))), (rEq undef), (rEq undef), (rEq undef), (rEq undef), (rEq undef), (rEq undef), (rEq undef), (rEq undef), (rEq undef), (rEq undef), (rEq undef), (rEq undef), (rEq undef), (rEq undef), (rEq undef), (rEq (.bool false))] (by kernel_rfl) rfl (by kernel_rfl) ⟨sEq, sEq, sEq, sEq, sEq, sEq, sEq, sEq, sEq, sEq, sEq, sEq, sEq, sEq, sEq, sEq, sEq, sEq, sEq, sEq, sEq, trivial⟩ ⟨?_, ?_, ?_, ?_, ?_, ?_, ?_, ?_, ?_, ?_, ?_, ?_, ?_, ?_, ?_, ?_, ?_, ?_, ?_, ?_, ?_, trivial⟩ ?_
            · rintro ρ316 w317 hj318 ⟨f8, _⟩
              have hst := hj318.2
              exact go_plain (op_move (.int .i64 (n : Int)) (f8.trans q17_8) (kS hj318 rfl))
            · rintro ρ319 w320 hj321 ⟨f0, _⟩
              have hst := hj321.2
              exact go_plain (op_move v_l (f0.trans q17_0) (kS hj321 rfl))
            · rintro ρ322 w323 hj324 ⟨f28, _⟩
              have hst := hj324.2
              exact go_plain (op_len (E := sampE) (xs := l) Try.underlying22 f28 h_l (kS hj324 rfl))
            · rintro ρ325 w326 hj327 ⟨f27, f29, _⟩
              have hst := hj327.2
              exact go_plain (op_lss (k := .i64) (a := (n : Int)) (b := (l.length : Int)) f27 f29 (kS hj327 rfl))
            · rintro ρ328 w329 hj330 ⟨f30, _⟩
              have hst := hj330.2
              exact go_plain (op_move (.bool (decide ((n : Int) < (l.length : Int)))) f30 (kS hj330 rfl))
            · rintro ρ331 w332 hj333 ⟨f0, f31, _⟩
              have hst := hj333.2
              exact go_no 31 rfl (f31.trans (congrArg Value.bool b21)) (kS hj333 rfl)
            · rintro ρ334 w335 hj336 ⟨f8, f31, _⟩
              have hst := hj336.2
              exact go_no 31 rfl (f31.trans (congrArg Value.bool b21)) (kS hj336 rfl)
            · rintro ρ337 w338 hj339 ⟨f32, f33, f31, _⟩
              have hst := hj339.2
              exact go_no 31 rfl (f31.trans (congrArg Value.bool b21)) (kS hj339 rfl)
            · rintro ρ340 w341 hj342 ⟨f34, f31, _⟩
              have hst := hj342.2
              exact go_no 31 rfl (f31.trans (congrArg Value.bool b21)) (kS hj342 rfl)
            · rintro ρ343 w344 hj345 ⟨f35, f31, _⟩
              have hst := hj345.2
              exact go_no 31 rfl (f31.trans (congrArg Value.bool b21)) (kS hj345 rfl)
            · rintro ρ346 w347 hj348 ⟨f1, f31, _⟩
              have hst := hj348.2
              exact go_no 31 rfl (f31.trans (congrArg Value.bool b21)) (kS hj348 rfl)
            · rintro ρ349 w350 hj351 ⟨f36, f37, f31, _⟩
              have hst := hj351.2
              exact go_no 31 rfl (f31.trans (congrArg Value.bool b21)) (kS hj351 rfl)
            · rintro ρ352 w353 hj354 ⟨f0, f31, _⟩
              have hst := hj354.2
              exact go_no 31 rfl (f31.trans (congrArg Value.bool b21)) (kS hj354 rfl)
            · rintro ρ355 w356 hj357 ⟨f7, f31, _⟩
              have hst := hj357.2
              exact go_no 31 rfl (f31.trans (congrArg Value.bool b21)) (kS hj357 rfl)
            · rintro ρ358 w359 hj360 ⟨f39, f40, f31, _⟩
              have hst := hj360.2
              exact go_no 31 rfl (f31.trans (congrArg Value.bool b21)) (kS hj360 rfl)
            · rintro ρ361 w362 hj363 ⟨f41, f31, _⟩
              have hst := hj363.2
              exact go_no 31 rfl (f31.trans (congrArg Value.bool b21)) (kS hj363 rfl)
            · rintro ρ364 w365 hj366 ⟨f42, f31, _⟩
              have hst := hj366.2
              exact go_no 31 rfl (f31.trans (congrArg Value.bool b21)) (kS hj366 rfl)
            · rintro ρ367 w368 hj369 ⟨f1, f31, _⟩
              have hst := hj369.2
              exact go_no 31 rfl (f31.trans (congrArg Value.bool b21)) (kS hj369 rfl)
            · rintro ρ370 w371 hj372 ⟨f43, f44, f31, _⟩
              have hst := hj372.2
              exact go_no 31 rfl (f31.trans (congrArg Value.bool b21)) (kS hj372 rfl)
            · rintro ρ373 w374 hj375 ⟨f38, f45, f31, _⟩
              have hst := hj375.2
              exact go_no 31 rfl (f31.trans (congrArg Value.bool b21)) (kS hj375 rfl)
            · rintro ρ376 w377 hj378 ⟨f31, f46, _⟩
              have hst := hj378.2
              exact go_plain (op_pick_f (.bool false) (f31.trans (congrArg Value.bool b21)) rfl (kS hj378 rfl))
            · intro ρ379 w380 hbw380 hst hRw380 hkw380
              have uw380_0 : ρ379 0 = v_l := (hkw380 0 rfl).trans q17_0
              have uw380_1 : ρ379 1 = (.int .i64 k) := (hkw380 1 rfl).trans q17_1
              have uw380_11 : ρ379 11 = (.int .i64 k) := (hkw380 11 rfl).trans q17_11
              have uw380_12 : ρ379 12 = (.bool (decide (k < 1))) := (hkw380 12 rfl).trans q17_12
              have uw380_13 : ρ379 13 = (.bool (decide (k < 1))) := (hkw380 13 rfl).trans q17_13
              have uw380_14 : ρ379 14 = (.int .i64 k) := (hkw380 14 rfl).trans q17_14
              have uw380_15 : ρ379 15 = (.bool (decide (3 < k))) := (hkw380 15 rfl).trans q17_15
              have uw380_16 : ρ379 16 = (.bool (decide (3 < k))) := (hkw380 16 rfl).trans q17_16
              have uw380_17 : ρ379 17 = (.bool (decide (3 < k))) := (hkw380 17 rfl).trans q17_17
              have uw380_18 : ρ379 18 = v_l := (hkw380 18 rfl).trans q17_18
              have uw380_19 : ρ379 19 = (.bool (risingA l)) := (hkw380 19 rfl).trans q17_19
              have uw380_20 : ρ379 20 = (.bool (!(risingA l))) := (hkw380 20 rfl).trans q17_20
              have uw380_21 : ρ379 21 = (.bool (!(risingA l))) := (hkw380 21 rfl).trans q17_21
              have uw380_7 : ρ379 7 = (.int .i64 (i : Int)) := (hkw380 7 rfl).trans q17_7
              have uw380_6 : ρ379 6 = vo := (hkw380 6 rfl).trans q17_6
              have uw380_22 : ρ379 22 = (.int .i64 (i : Int)) := (hkw380 22 rfl).trans q17_22
              have uw380_23 : ρ379 23 = v_l := (hkw380 23 rfl).trans q17_23
              have uw380_24 : ρ379 24 = (.int .i64 (l.length : Int)) := (hkw380 24 rfl).trans q17_24
              have uw380_25 : ρ379 25 = (.bool (decide ((i : Int) < (l.length : Int)))) := (hkw380 25 rfl).trans q17_25
              have uw380_26 : ρ379 26 = (.int .i64 (i : Int)) := (hkw380 26 rfl).trans q17_26
              have uw380_8 : ρ379 8 = (.int .i64 (n : Int)) := (hkw380 8 rfl).trans q17_8
              have uw380_47 : ρ379 47 = (.bool false) := hRw380 20 47 rfl
              refine then_n ?_
              refine cE_cond false uw380_47 (fun h => by cases h) (fun _ => ?_)
              refine cE_exit ?_
              refine then_x (then_x (block_hit (then_n ?_)))
              refine cE_seq ?_
              have hw : winLen k (floorA ((l[i]'(by omega)).T) k) (l.drop i) = n - i := hw0.trans (by first | rw [win_end (by omega), Nat.add_zero] | rw [win_no (by omega) (by assumption), Nat.add_zero])
              have hnp := win_pos' (k := k) (l := l) (i := i) (by omega)
              rw [hw] at hnp
              have hfr := floorA_r ((l[i]'(by omega)).T) k
              have hM391 : stabML [16] [(kEq v_l), (kEq (.int .i64 (i : Int))), (kEq (.int .i64 (n : Int))), (kSl0 w0 sampE ((l.take n).drop i)), (kEq v_l), (kEq (.int .i64 (i : Int))), (kPt0 w0 [(.int .i64 ((l[i]'(by omega)).T)), (.int .i64 ((l[i]'(by omega)).V))]), (kPt0 w0 [(.int .i64 ((l[i]'(by omega)).T)), (.int .i64 ((l[i]'(by omega)).V))]), (kEq (.int .i64 ((l[i]'(by omega)).T))), (kEq (.int .i64 k)), (kEq (.int .i64 (floorA ((l[i]'(by omega)).T) k))), (kEq (.tuple #[(.agg #[(.int .i64 (((allA ((l.take n).drop i) (floorA ((l[i]'(by omega)).T) k)).1).From)), (.int .i64 (((allA ((l.take n).drop i) (floorA ((l[i]'(by omega)).T) k)).1).Count)), (.int .i64 (((allA ((l.take n).drop i) (floorA ((l[i]'(by omega)).T) k)).1).Sum)), (.int .i64 (((allA ((l.take n).drop i) (floorA ((l[i]'(by omega)).T) k)).1).Min)), (.int .i64 (((allA ((l.take n).drop i) (floorA ((l[i]'(by omega)).T) k)).1).Max)), (.int .i64 (((allA ((l.take n).drop i) (floorA ((l[i]'(by omega)).T) k)).1).First)), (.int .i64 (((allA ((l.take n).drop i) (floorA ((l[i]'(by omega)).T) k)).1).Last))]), (.int .i64 ((allA ((l.take n).drop i) (floorA ((l[i]'(by omega)).T) k)).2))])), (kEq (.tuple #[(.agg #[(.int .i64 (((allA ((l.take n).drop i) (floorA ((l[i]'(by omega)).T) k)).1).From)), (.int .i64 (((allA ((l.take n).drop i) (floorA ((l[i]'(by omega)).T) k)).1).Count)), (.int .i64 (((allA ((l.take n).drop i) (floorA ((l[i]'(by omega)).T) k)).1).Sum)), (.int .i64 (((allA ((l.take n).drop i) (floorA ((l[i]'(by omega)).T) k)).1).Min)), (.int .i64 (((allA ((l.take n).drop i) (floorA ((l[i]'(by omega)).T) k)).1).Max)), (.int .i64 (((allA ((l.take n).drop i) (floorA ((l[i]'(by omega)).T) k)).1).First)), (.int .i64 (((allA ((l.take n).drop i) (floorA ((l[i]'(by omega)).T) k)).1).Last))]), (.int .i64 ((allA ((l.take n).drop i) (floorA ((l[i]'(by omega)).T) k)).2))])), (kEq (.agg #[(.int .i64 (((allA ((l.take n).drop i) (floorA ((l[i]'(by omega)).T) k)).1).From)), (.int .i64 (((allA ((l.take n).drop i) (floorA ((l[i]'(by omega)).T) k)).1).Count)), (.int .i64 (((allA ((l.take n).drop i) (floorA ((l[i]'(by omega)).T) k)).1).Sum)), (.int .i64 (((allA ((l.take n).drop i) (floorA ((l[i]'(by omega)).T) k)).1).Min)), (.int .i64 (((allA ((l.take n).drop i) (floorA ((l[i]'(by omega)).T) k)).1).Max)), (.int .i64 (((allA ((l.take n).drop i) (floorA ((l[i]'(by omega)).T) k)).1).First)), (.int .i64 (((allA ((l.take n).drop i) (floorA ((l[i]'(by omega)).T) k)).1).Last))])), (kEq (.int .i64 ((allA ((l.take n).drop i) (floorA ((l[i]'(by omega)).T) k)).2))), (fun (D : Nat → Bool) (v : Value) (w : World) => ∃ g388 : Nat, v = .pointer (some ⟨g388, 0, none⟩) ∧ (D 16 = false → St w0 w [.blk g388 26 #[(.int .i64 0), (.int .i64 0), (.int .i64 0), (.int .i64 0), (.int .i64 0), (.int .i64 0), (.int .i64 0)], rowT 26 aggE vo out]) ∧ (D 16 = true → St w0 w [.blk g388 26 #[(.int .i64 (((allA ((l.take n).drop i) (floorA ((l[i]'(by omega)).T) k)).1).From)), (.int .i64 (((allA ((l.take n).drop i) (floorA ((l[i]'(by omega)).T) k)).1).Count)), (.int .i64 (((allA ((l.take n).drop i) (floorA ((l[i]'(by omega)).T) k)).1).Sum)), (.int .i64 (((allA ((l.take n).drop i) (floorA ((l[i]'(by omega)).T) k)).1).Min)), (.int .i64 (((allA ((l.take n).drop i) (floorA ((l[i]'(by omega)).T) k)).1).Max)), (.int .i64 (((allA ((l.take n).drop i) (floorA ((l[i]'(by omega)).T) k)).1).First)), (.int .i64 (((allA ((l.take n).drop i) (floorA ((l[i]'(by omega)).T) k)).1).Last))], rowT 26 aggE vo out])), kAny, (kEq (.int .i64 ((allA ((l.take n).drop i) (floorA ((l[i]'(by omega)).T) k)).2)))] := ⟨mEq, mEq, mEq, mSl0, mEq, mEq, mPt0, mPt0, mEq, mEq, mEq, mEq, mEq, mEq, mEq, (fun D D' v w w' hD hb ⟨g, h1, h2⟩ => ⟨g, h1, (fun x0 => (h2.1 ((hD 16 (by decide)).symm.trans x0)).ext hb), (fun x0 => (h2.2 ((hD 16 (by decide)).symm.trans x0)).ext hb)⟩), mAny, mEq, trivial⟩
              refine cE_regionK (fun (D : Nat → Bool) (w : World) => St w0 w [rowT 26 aggE vo out] ∧ (D 16 = false → St w0 w [rowT 26 aggE vo out]) ∧ (D 16 = true → St w0 w [rowT 26 aggE vo out])) [[(0, none)], [(7, none)], [(8, none)], [(51, some 0), (52, some 1), (53, some 2)], [(0, none)], [(7, none)], [(55, some 4), (56, some 5)], [(57, some 6)], [(58, some 7)], [(1, none)], [(59, some 8), (60, some 9)], [(54, some 3), (61, some 10)], [(62, some 11)], [(50, some 12)], [(50, some 12)], [], [(9, some 15), (63, some 13)], [(64, some 14)]] (RofK [(kEq v_l), (kEq (.int .i64 (i : Int))), (kEq (.int .i64 (n : Int))), (kSl0 w0 sampE ((l.take n).drop i)), (kEq v_l), (kEq (.int .i64 (i : Int))), (kPt0 w0 [(.int .i64 ((l[i]'(by omega)).T)), (.int .i64 ((l[i]'(by omega)).V))]), (kPt0 w0 [(.int .i64 ((l[i]'(by omega)).T)), (.int .i64 ((l[i]'(by omega)).V))]), (kEq (.int .i64 ((l[i]'(by omega)).T))), (kEq (.int .i64 k)), (kEq (.int .i64 (floorA ((l[i]'(by omega)).T) k))), (kEq (.tuple #[(.agg #[(.int .i64 (((allA ((l.take n).drop i) (floorA ((l[i]'(by omega)).T) k)).1).From)), (.int .i64 (((allA ((l.take n).drop i) (floorA ((l[i]'(by omega)).T) k)).1).Count)), (.int .i64 (((allA ((l.take n).drop i) (floorA ((l[i]'(by omega)).T) k)).1).Sum)), (.int .i64 (((allA ((l.take n).drop i) (floorA ((l[i]'(by omega)).T) k)).1).Min)), (.int .i64 (((allA ((l.take n).drop i) (floorA ((l[i]'(by omega)).T) k)).1).Max)), (.int .i64 (((allA ((l.take n).drop i) (floorA ((l[i]'(by omega)).T) k)).1).First)), (.int .i64 (((allA ((l.take n).drop i) (floorA ((l[i]'(by omega)).T) k)).1).Last))]), (.int .i64 ((allA ((l.take n).drop i) (floorA ((l[i]'(by omega)).T) k)).2))])), (kEq (.tuple #[(.agg #[(.int .i64 (((allA ((l.take n).drop i) (floorA ((l[i]'(by omega)).T) k)).1).From)), (.int .i64 (((allA ((l.take n).drop i) (floorA ((l[i]'(by omega)).T) k)).1).Count)), (.int .i64 (((allA ((l.take n).drop i) (floorA ((l[i]'(by omega)).T) k)).1).Sum)), (.int .i64 (((allA ((l.take n).drop i) (floorA ((l[i]'(by omega)).T) k)).1).Min)), (.int .i64 (((allA ((l.take n).drop i) (floorA ((l[i]'(by omega)).T) k)).1).Max)), (.int .i64 (((allA ((l.take n).drop i) (floorA ((l[i]'(by omega)).T) k)).1).First)), (.int .i64 (((allA ((l.take n).drop i) (floorA ((l[i]'(by omega)).T) k)).1).Last))]), (.int .i64 ((allA ((l.take n).drop i) (floorA ((l[i]'(by omega)).T) k)).2))])), (kEq (.agg #[(.int .i64 (((allA ((l.take n).drop i) (floorA ((l[i]'(by omega)).T) k)).1).From)), (.int .i64 (((allA ((l.take n).drop i) (floorA ((l[i]'(by omega)).T) k)).1).Count)), (.int .i64 (((allA ((l.take n).drop i) (floorA ((l[i]'(by omega)).T) k)).1).Sum)), (.int .i64 (((allA ((l.take n).drop i) (floorA ((l[i]'(by omega)).T) k)).1).Min)), (.int .i64 (((allA ((l.take n).drop i) (floorA ((l[i]'(by omega)).T) k)).1).Max)), (.int .i64 (((allA ((l.take n).drop i) (floorA ((l[i]'(by omega)).T) k)).1).First)), (.int .i64 (((allA ((l.take n).drop i) (floorA ((l[i]'(by omega)).T) k)).1).Last))])), (kEq (.int .i64 ((allA ((l.take n).drop i) (floorA ((l[i]'(by omega)).T) k)).2))), (fun (D : Nat → Bool) (v : Value) (w : World) => ∃ g388 : Nat, v = .pointer (some ⟨g388, 0, none⟩) ∧ (D 16 = false → St w0 w [.blk g388 26 #[(.int .i64 0), (.int .i64 0), (.int .i64 0), (.int .i64 0), (.int .i64 0), (.int .i64 0), (.int .i64 0)], rowT 26 aggE vo out]) ∧ (D 16 = true → St w0 w [.blk g388 26 #[(.int .i64 (((allA ((l.take n).drop i) (floorA ((l[i]'(by omega)).T) k)).1).From)), (.int .i64 (((allA ((l.take n).drop i) (floorA ((l[i]'(by omega)).T) k)).1).Count)), (.int .i64 (((allA ((l.take n).drop i) (floorA ((l[i]'(by omega)).T) k)).1).Sum)), (.int .i64 (((allA ((l.take n).drop i) (floorA ((l[i]'(by omega)).T) k)).1).Min)), (.int .i64 (((allA ((l.take n).drop i) (floorA ((l[i]'(by omega)).T) k)).1).Max)), (.int .i64 (((allA ((l.take n).drop i) (floorA ((l[i]'(by omega)).T) k)).1).First)), (.int .i64 (((allA ((l.take n).drop i) (floorA ((l[i]'(by omega)).T) k)).1).Last))], rowT 26 aggE vo out])), kAny, (kEq (.int .i64 ((allA ((l.take n).drop i) (floorA ((l[i]'(by omega)).T) k)).2)))]) (by kernel_rfl) rfl (by kernel_rfl) ⟨hst.drewW.sub (.cons_cons _ .slnil), (fun _ => hst.drewW), (fun h => absurd h Bool.false_ne_true)⟩ ⟨?_, ?_, ?_, ?_, ?_, ?_, ?_, ?_, ?_, ?_, ?_, ?_, ?_, ?_, ?_, ?_, ?_, ?_, trivial⟩ ?_
              · rintro D393 ρ394 w395 hD396 hE397 hC398 hJ399 hA400 ⟨f0, _⟩
                have hst := hJ399.2.1 (not_yet hD396 (fun hm => (hC398 16 0 hm (by kernel_rfl))))
                replace hst : St w0 w395 [rowT 26 aggE vo out] := hst
                exact go_plain (op_move v_l (f0.trans uw380_0) (kN0 (i := 0) hM391 (by decide) (by exact hJ399) (by exact rfl)))
              · rintro D401 ρ402 w403 hD404 hE405 hC406 hJ407 hA408 ⟨f7, _⟩
                have hst := hJ407.2.1 (not_yet hD404 (fun hm => (hC406 16 1 hm (by kernel_rfl))))
                replace hst : St w0 w403 [rowT 26 aggE vo out] := hst
                exact go_plain (op_move (.int .i64 (i : Int)) (f7.trans uw380_7) (kN0 (i := 1) hM391 (by decide) (by exact hJ407) (by exact rfl)))
              · rintro D409 ρ410 w411 hD412 hE413 hC414 hJ415 hA416 ⟨f8, _⟩
                have hst := hJ415.2.1 (not_yet hD412 (fun hm => (hC414 16 2 hm (by kernel_rfl))))
                replace hst : St w0 w411 [rowT 26 aggE vo out] := hst
                exact go_plain (op_move (.int .i64 (n : Int)) (f8.trans uw380_8) (kN0 (i := 2) hM391 (by decide) (by exact hJ415) (by exact rfl)))
              · rintro D417 ρ418 w419 hD420 hE421 hC422 hJ423 hA424 ⟨f51, f52, f53, _⟩
                have hst := hJ423.2.1 (not_yet hD420 (fun hm => (hC422 16 3 hm (by kernel_rfl))))
                replace hst : St w0 w419 [rowT 26 aggE vo out] := hst
                refine go_plain (op_slice_bothN i n (E := sampE) (xs := l) Try.underlying22 Try.sizeOf32 f51 h_l f52 f53 (by omega) (by omega) (by omega) (by omega) (fun v425 hs426 => ?_))
                exact (kN0 (i := 3) hM391 (by decide) (by exact hJ423) (by exact hs426))
              · rintro D427 ρ428 w429 hD430 hE431 hC432 hJ433 hA434 ⟨f0, _⟩
                have hst := hJ433.2.1 (not_yet hD430 (fun hm => (hC432 16 4 hm (by kernel_rfl))))
                replace hst : St w0 w429 [rowT 26 aggE vo out] := hst
                exact go_plain (op_move v_l (f0.trans uw380_0) (kN0 (i := 4) hM391 (by decide) (by exact hJ433) (by exact rfl)))
              · rintro D435 ρ436 w437 hD438 hE439 hC440 hJ441 hA442 ⟨f7, _⟩
                have hst := hJ441.2.1 (not_yet hD438 (fun hm => (hC440 16 5 hm (by kernel_rfl))))
                replace hst : St w0 w437 [rowT 26 aggE vo out] := hst
                exact go_plain (op_move (.int .i64 (i : Int)) (f7.trans uw380_7) (kN0 (i := 5) hM391 (by decide) (by exact hJ441) (by exact rfl)))
              · rintro D443 ρ444 w445 hD446 hE447 hC448 hJ449 hA450 ⟨f55, f56, _⟩
                have hst := hJ449.2.1 (not_yet hD446 (fun hm => (hC448 16 6 hm (by kernel_rfl))))
                replace hst : St w0 w445 [rowT 26 aggE vo out] := hst
                refine go_plain (op_indexAddrN (E := sampE) (xs := l) i Try.underlying22 Try.sizeOf32 f55 h_l f56 (by omega) (by omega) (fun a451 o452 p453 => ?_))
                exact (kN0 (i := 6) hM391 (by decide) (by exact hJ449) (by exact ⟨_, _, rfl, p453⟩))
              · rintro D454 ρ455 w456 hD457 hE458 hC459 hJ460 hA461 ⟨f57, _⟩
                have hst := hJ460.2.1 (not_yet hD457 (fun hm => (hC459 16 7 hm (by kernel_rfl))))
                replace hst : St w0 w456 [rowT 26 aggE vo out] := hst
                obtain ⟨a462, o463, e464, p465⟩ := f57
                exact go_plain (op_fieldAddr (s := 0) Try.underlying32 rfl rfl Try.sizeOf2 e464 (kN0 (i := 7) hM391 (by decide) (by exact hJ460) (by exact ⟨_, _, rfl, p465⟩)))
              · rintro D466 ρ467 w468 hD469 hE470 hC471 hJ472 hA473 ⟨f58, _⟩
                have hst := hJ472.2.1 (not_yet hD469 (fun hm => (hC471 16 8 hm (by kernel_rfl))))
                replace hst : St w0 w468 [rowT 26 aggE vo out] := hst
                obtain ⟨a474, o475, e476, p477⟩ := f58
                exact go_plain (op_load1 (u := (.int .i64 ((l[i]'(by omega)).T))) Try.isAgg2 e476 (p477.below hst.below) (kN0 (i := 8) hM391 (by decide) (by exact hJ472) (by exact rfl)))
              · rintro D478 ρ479 w480 hD481 hE482 hC483 hJ484 hA485 ⟨f1, _⟩
                have hst := hJ484.2.1 (not_yet hD481 (fun hm => (hC483 16 9 hm (by kernel_rfl))))
                replace hst : St w0 w480 [rowT 26 aggE vo out] := hst
                exact go_plain (op_move (.int .i64 k) (f1.trans uw380_1) (kN0 (i := 9) hM391 (by decide) (by exact hJ484) (by exact rfl)))
              · rintro D486 ρ487 w488 hD489 hE490 hC491 hJ492 hA493 ⟨f59, f60, _⟩
                have hst := hJ492.2.1 (not_yet hD489 (fun hm => (hC491 16 10 hm (by kernel_rfl))))
                replace hst : St w0 w488 [rowT 26 aggE vo out] := hst
                refine go_plain (op_call Try.call31 (evs_cons (v := (.int .i64 ((l[i]'(by omega)).T))) f59 (evs_cons (v := (.int .i64 k)) f60 evs_nil)) (c_rFloor (w0 := w488) (t := (l[i]'(by omega)).T) (k := k) (t0 := (hl _ (List.getElem_mem _)).1.1) (k0 := (by omega)) (t1 := (hl _ (List.getElem_mem _)).1.2) (k1 := (by omega))) ?_)
                rintro _ w494 ⟨rfl, hcall⟩
                refine ⟨_, rfl, ?_⟩
                exact kN (i := 10) hM391 (by decide) hcall.below (by exact ⟨(hJ492.1).ext hcall.below, (fun x0 => (hJ492.2.1 x0).ext hcall.below), (fun x0 => (hJ492.2.2 x0).ext hcall.below)⟩) (by exact rfl)
              · rintro D495 ρ496 w497 hD498 hE499 hC500 hJ501 hA502 ⟨f54, f61, _⟩
                have hst := hJ501.2.1 (not_yet hD498 (fun hm => (hC500 16 11 hm (by kernel_rfl))))
                replace hst : St w0 w497 [rowT 26 aggE vo out] := hst
                obtain ⟨v504, e505⟩ : ∃ x, ρ496 54 = x := ⟨_, rfl⟩
                have hs503 := f54
                replace hs503 : Sl w0 sampE v504 ((l.take n).drop i) := e505 ▸ hs503
                refine go_plain (op_call Try.call36 (evs_cons (v := v504) e505 (evs_cons (v := (.int .i64 (floorA ((l[i]'(by omega)).T) k))) f61 evs_nil)) (c_rAll (w0 := w497) (v_l := v504) (l := ((l.take n).drop i)) (h_l := (hs503.below hst.below)) (fr := (floorA ((l[i]'(by omega)).T) k)) (hl := (fun s h => hl s (List.mem_of_mem_take (List.mem_of_mem_drop h)))) (fr0 := (by omega)) (fr1 := (by omega)) (hn := (by simp; omega))) ?_)
                rintro _ w506 ⟨rfl, hcall⟩
                refine ⟨_, rfl, ?_⟩
                exact kN (i := 11) hM391 (by decide) hcall.below (by exact ⟨(hJ501.1).ext hcall.below, (fun x0 => (hJ501.2.1 x0).ext hcall.below), (fun x0 => (hJ501.2.2 x0).ext hcall.below)⟩) (by exact rfl)
              · rintro D507 ρ508 w509 hD510 hE511 hC512 hJ513 hA514 ⟨f62, _⟩
                have hst := hJ513.2.1 (not_yet hD510 (fun hm => (hC512 16 12 hm (by kernel_rfl))))
                replace hst : St w0 w509 [rowT 26 aggE vo out] := hst
                exact go_plain (op_move (.tuple #[(.agg #[(.int .i64 (((allA ((l.take n).drop i) (floorA ((l[i]'(by omega)).T) k)).1).From)), (.int .i64 (((allA ((l.take n).drop i) (floorA ((l[i]'(by omega)).T) k)).1).Count)), (.int .i64 (((allA ((l.take n).drop i) (floorA ((l[i]'(by omega)).T) k)).1).Sum)), (.int .i64 (((allA ((l.take n).drop i) (floorA ((l[i]'(by omega)).T) k)).1).Min)), (.int .i64 (((allA ((l.take n).drop i) (floorA ((l[i]'(by omega)).T) k)).1).Max)), (.int .i64 (((allA ((l.take n).drop i) (floorA ((l[i]'(by omega)).T) k)).1).First)), (.int .i64 (((allA ((l.take n).drop i) (floorA ((l[i]'(by omega)).T) k)).1).Last))]), (.int .i64 ((allA ((l.take n).drop i) (floorA ((l[i]'(by omega)).T) k)).2))]) f62 (kN0 (i := 12) hM391 (by decide) (by exact hJ513) (by exact rfl)))
              · rintro D515 ρ516 w517 hD518 hE519 hC520 hJ521 hA522 ⟨f50, _⟩
                have hst := hJ521.2.1 (not_yet hD518 (fun hm => (hC520 16 13 hm (by kernel_rfl))))
                replace hst : St w0 w517 [rowT 26 aggE vo out] := hst
                exact go_plain (op_extract (.agg #[(.int .i64 (((allA ((l.take n).drop i) (floorA ((l[i]'(by omega)).T) k)).1).From)), (.int .i64 (((allA ((l.take n).drop i) (floorA ((l[i]'(by omega)).T) k)).1).Count)), (.int .i64 (((allA ((l.take n).drop i) (floorA ((l[i]'(by omega)).T) k)).1).Sum)), (.int .i64 (((allA ((l.take n).drop i) (floorA ((l[i]'(by omega)).T) k)).1).Min)), (.int .i64 (((allA ((l.take n).drop i) (floorA ((l[i]'(by omega)).T) k)).1).Max)), (.int .i64 (((allA ((l.take n).drop i) (floorA ((l[i]'(by omega)).T) k)).1).First)), (.int .i64 (((allA ((l.take n).drop i) (floorA ((l[i]'(by omega)).T) k)).1).Last))]) f50 rfl (kN0 (i := 13) hM391 (by decide) (by exact hJ521) (by exact rfl)))
              · rintro D523 ρ524 w525 hD526 hE527 hC528 hJ529 hA530 ⟨f50, _⟩
                have hst := hJ529.1
                exact go_plain (op_extract (.int .i64 ((allA ((l.take n).drop i) (floorA ((l[i]'(by omega)).T) k)).2)) f50 rfl (kN0 (i := 14) hM391 (by decide) (by exact hJ529) (by exact rfl)))
              · rintro D531 ρ532 w533 hD534 hE535 hC536 hJ537 hA538 ⟨_⟩
                have hst := hJ537.2.1 (not_yet hD534 (fun hm => (hC536 16 15 hm (by kernel_rfl))))
                replace hst : St w0 w533 [rowT 26 aggE vo out] := hst
                have hst := St.start w533
                refine go_plain (op_alloc (cs := #[(.int .i64 0), (.int .i64 0), (.int .i64 0), (.int .i64 0), (.int .i64 0), (.int .i64 0), (.int .i64 0)]) hst Try.zeroValue26 rfl (fun g539 w540 hst _ => ?_))
                exact kN (i := 15) hM391 (by decide) hst.below (by exact ⟨(hJ537.1).ext hst.below, (fun x0 => (hJ537.2.1 x0).ext hst.below), (fun x0 => (hJ537.2.2 x0).ext hst.below)⟩) (by exact ⟨_, rfl, (fun y0 => (hJ537.2.1 y0).call hst), (fun y0 => absurd (show D531 16 = true from y0) (by rw [(not_yet hD534 (fun hm => (hC536 16 15 hm (by kernel_rfl))))]; decide))⟩)
              · rintro D541 ρ542 w543 hD544 hE545 hC546 hJ547 hA548 ⟨f9, f63, _⟩
                obtain ⟨g549, e550, hh551⟩ := hA548 15 9 (hE545 15 (by kernel_rfl)) rfl
                have hst : St w0 w543 [.blk g549 26 #[(.int .i64 0), (.int .i64 0), (.int .i64 0), (.int .i64 0), (.int .i64 0), (.int .i64 0), (.int .i64 0)], rowT 26 aggE vo out] := hh551.1 hD544
                refine go_plain (op_storeAll hst 0 rfl Try.sizeOf26 e550 f63 rfl rfl (by simp [Value.oneCell']) (fun w552 hst => ?_))
                replace hst : St w0 w552 [.blk g549 26 #[(.int .i64 (((allA ((l.take n).drop i) (floorA ((l[i]'(by omega)).T) k)).1).From)), (.int .i64 (((allA ((l.take n).drop i) (floorA ((l[i]'(by omega)).T) k)).1).Count)), (.int .i64 (((allA ((l.take n).drop i) (floorA ((l[i]'(by omega)).T) k)).1).Sum)), (.int .i64 (((allA ((l.take n).drop i) (floorA ((l[i]'(by omega)).T) k)).1).Min)), (.int .i64 (((allA ((l.take n).drop i) (floorA ((l[i]'(by omega)).T) k)).1).Max)), (.int .i64 (((allA ((l.take n).drop i) (floorA ((l[i]'(by omega)).T) k)).1).First)), (.int .i64 (((allA ((l.take n).drop i) (floorA ((l[i]'(by omega)).T) k)).1).Last))], rowT 26 aggE vo out] := hst
                have hI553 : stabIXs 16 [15] D541 0 [(kEq v_l), (kEq (.int .i64 (i : Int))), (kEq (.int .i64 (n : Int))), (kSl0 w0 sampE ((l.take n).drop i)), (kEq v_l), (kEq (.int .i64 (i : Int))), (kPt0 w0 [(.int .i64 ((l[i]'(by omega)).T)), (.int .i64 ((l[i]'(by omega)).V))]), (kPt0 w0 [(.int .i64 ((l[i]'(by omega)).T)), (.int .i64 ((l[i]'(by omega)).V))]), (kEq (.int .i64 ((l[i]'(by omega)).T))), (kEq (.int .i64 k)), (kEq (.int .i64 (floorA ((l[i]'(by omega)).T) k))), (kEq (.tuple #[(.agg #[(.int .i64 (((allA ((l.take n).drop i) (floorA ((l[i]'(by omega)).T) k)).1).From)), (.int .i64 (((allA ((l.take n).drop i) (floorA ((l[i]'(by omega)).T) k)).1).Count)), (.int .i64 (((allA ((l.take n).drop i) (floorA ((l[i]'(by omega)).T) k)).1).Sum)), (.int .i64 (((allA ((l.take n).drop i) (floorA ((l[i]'(by omega)).T) k)).1).Min)), (.int .i64 (((allA ((l.take n).drop i) (floorA ((l[i]'(by omega)).T) k)).1).Max)), (.int .i64 (((allA ((l.take n).drop i) (floorA ((l[i]'(by omega)).T) k)).1).First)), (.int .i64 (((allA ((l.take n).drop i) (floorA ((l[i]'(by omega)).T) k)).1).Last))]), (.int .i64 ((allA ((l.take n).drop i) (floorA ((l[i]'(by omega)).T) k)).2))])), (kEq (.tuple #[(.agg #[(.int .i64 (((allA ((l.take n).drop i) (floorA ((l[i]'(by omega)).T) k)).1).From)), (.int .i64 (((allA ((l.take n).drop i) (floorA ((l[i]'(by omega)).T) k)).1).Count)), (.int .i64 (((allA ((l.take n).drop i) (floorA ((l[i]'(by omega)).T) k)).1).Sum)), (.int .i64 (((allA ((l.take n).drop i) (floorA ((l[i]'(by omega)).T) k)).1).Min)), (.int .i64 (((allA ((l.take n).drop i) (floorA ((l[i]'(by omega)).T) k)).1).Max)), (.int .i64 (((allA ((l.take n).drop i) (floorA ((l[i]'(by omega)).T) k)).1).First)), (.int .i64 (((allA ((l.take n).drop i) (floorA ((l[i]'(by omega)).T) k)).1).Last))]), (.int .i64 ((allA ((l.take n).drop i) (floorA ((l[i]'(by omega)).T) k)).2))])), (kEq (.agg #[(.int .i64 (((allA ((l.take n).drop i) (floorA ((l[i]'(by omega)).T) k)).1).From)), (.int .i64 (((allA ((l.take n).drop i) (floorA ((l[i]'(by omega)).T) k)).1).Count)), (.int .i64 (((allA ((l.take n).drop i) (floorA ((l[i]'(by omega)).T) k)).1).Sum)), (.int .i64 (((allA ((l.take n).drop i) (floorA ((l[i]'(by omega)).T) k)).1).Min)), (.int .i64 (((allA ((l.take n).drop i) (floorA ((l[i]'(by omega)).T) k)).1).Max)), (.int .i64 (((allA ((l.take n).drop i) (floorA ((l[i]'(by omega)).T) k)).1).First)), (.int .i64 (((allA ((l.take n).drop i) (floorA ((l[i]'(by omega)).T) k)).1).Last))])), (kEq (.int .i64 ((allA ((l.take n).drop i) (floorA ((l[i]'(by omega)).T) k)).2))), (fun (D : Nat → Bool) (v : Value) (w : World) => ∃ g388 : Nat, v = .pointer (some ⟨g388, 0, none⟩) ∧ (D 16 = false → St w0 w [.blk g388 26 #[(.int .i64 0), (.int .i64 0), (.int .i64 0), (.int .i64 0), (.int .i64 0), (.int .i64 0), (.int .i64 0)], rowT 26 aggE vo out]) ∧ (D 16 = true → St w0 w [.blk g388 26 #[(.int .i64 (((allA ((l.take n).drop i) (floorA ((l[i]'(by omega)).T) k)).1).From)), (.int .i64 (((allA ((l.take n).drop i) (floorA ((l[i]'(by omega)).T) k)).1).Count)), (.int .i64 (((allA ((l.take n).drop i) (floorA ((l[i]'(by omega)).T) k)).1).Sum)), (.int .i64 (((allA ((l.take n).drop i) (floorA ((l[i]'(by omega)).T) k)).1).Min)), (.int .i64 (((allA ((l.take n).drop i) (floorA ((l[i]'(by omega)).T) k)).1).Max)), (.int .i64 (((allA ((l.take n).drop i) (floorA ((l[i]'(by omega)).T) k)).1).First)), (.int .i64 (((allA ((l.take n).drop i) (floorA ((l[i]'(by omega)).T) k)).1).Last))], rowT 26 aggE vo out])), kAny, (kEq (.int .i64 ((allA ((l.take n).drop i) (floorA ((l[i]'(by omega)).T) k)).2)))] := ⟨Or.inr (Or.inr (Or.inr iEq)), Or.inr (Or.inr (Or.inr iEq)), Or.inr (Or.inr (Or.inr iEq)), Or.inr (Or.inr (Or.inr iSl0)), Or.inr (Or.inr (Or.inr iEq)), Or.inr (Or.inr (Or.inr iEq)), Or.inr (Or.inr (Or.inr iPt0)), Or.inr (Or.inr (Or.inr iPt0)), Or.inr (Or.inr (Or.inr iEq)), Or.inr (Or.inr (Or.inr iEq)), Or.inr (Or.inr (Or.inr iEq)), Or.inr (Or.inr (Or.inr iEq)), Or.inr (Or.inr (Or.inr iEq)), Or.inr (Or.inr (Or.inr iEq)), Or.inr (Or.inr (Or.inr iEq)), Or.inr (Or.inl (by decide)), Or.inl rfl, Or.inr (Or.inr (Or.inl (not_yet hD544 (fun hm => (hC546 17 16 hm (by kernel_rfl)))))), trivial⟩
                refine ⟨by exact ⟨hst.sub (.cons _ (.cons_cons _ .slnil)), (fun y0 => absurd y0 (fun h => Bool.noConfusion h)), (fun y0 => hst.sub (.cons _ (.cons_cons _ .slnil)))⟩, by exact trivial, kX [15] hI553 ?_⟩
                intro j d hj hjd hDj h
                simp only [List.mem_cons, List.not_mem_nil, or_false] at hj
                subst hj
                obtain rfl : 9 = d := Option.some.inj hjd
                exact ⟨_, e550, (fun y0 => absurd y0 (fun h => Bool.noConfusion h)), (fun y0 => hst.sub (.cons_cons _ (.cons_cons _ .slnil)))⟩
              · rintro D554 ρ555 w556 hD557 hE558 hC559 hJ560 hA561 ⟨f64, _⟩
                have hst := hJ560.2.2 (hE558 16 (by kernel_rfl))
                replace hst : St w0 w556 [rowT 26 aggE vo out] := hst
                exact go_plain (op_assign (.int .i64 ((allA ((l.take n).drop i) (floorA ((l[i]'(by omega)).T) k)).2)) f64 (kN0 (i := 17) hM391 (by decide) (by exact hJ560) (by exact rfl)))
              · intro ρ562 w563 Dw563 hallw563 hJw563 hRw563 hkw563
                obtain ⟨g564, uw563_9, hhw563⟩ := hRw563 15 9 rfl
                have hst : St w0 w563 [.blk g564 26 #[(.int .i64 (((allA ((l.take n).drop i) (floorA ((l[i]'(by omega)).T) k)).1).From)), (.int .i64 (((allA ((l.take n).drop i) (floorA ((l[i]'(by omega)).T) k)).1).Count)), (.int .i64 (((allA ((l.take n).drop i) (floorA ((l[i]'(by omega)).T) k)).1).Sum)), (.int .i64 (((allA ((l.take n).drop i) (floorA ((l[i]'(by omega)).T) k)).1).Min)), (.int .i64 (((allA ((l.take n).drop i) (floorA ((l[i]'(by omega)).T) k)).1).Max)), (.int .i64 (((allA ((l.take n).drop i) (floorA ((l[i]'(by omega)).T) k)).1).First)), (.int .i64 (((allA ((l.take n).drop i) (floorA ((l[i]'(by omega)).T) k)).1).Last))], rowT 26 aggE vo out] := hhw563.2 (hallw563 16 (show 16 < 18 from by decide))
                have uw563_0 : ρ562 0 = v_l := (hkw563 0 rfl).trans uw380_0
                have uw563_1 : ρ562 1 = (.int .i64 k) := (hkw563 1 rfl).trans uw380_1
                have uw563_11 : ρ562 11 = (.int .i64 k) := (hkw563 11 rfl).trans uw380_11
                have uw563_12 : ρ562 12 = (.bool (decide (k < 1))) := (hkw563 12 rfl).trans uw380_12
                have uw563_13 : ρ562 13 = (.bool (decide (k < 1))) := (hkw563 13 rfl).trans uw380_13
                have uw563_14 : ρ562 14 = (.int .i64 k) := (hkw563 14 rfl).trans uw380_14
                have uw563_15 : ρ562 15 = (.bool (decide (3 < k))) := (hkw563 15 rfl).trans uw380_15
                have uw563_16 : ρ562 16 = (.bool (decide (3 < k))) := (hkw563 16 rfl).trans uw380_16
                have uw563_17 : ρ562 17 = (.bool (decide (3 < k))) := (hkw563 17 rfl).trans uw380_17
                have uw563_18 : ρ562 18 = v_l := (hkw563 18 rfl).trans uw380_18
                have uw563_19 : ρ562 19 = (.bool (risingA l)) := (hkw563 19 rfl).trans uw380_19
                have uw563_20 : ρ562 20 = (.bool (!(risingA l))) := (hkw563 20 rfl).trans uw380_20
                have uw563_21 : ρ562 21 = (.bool (!(risingA l))) := (hkw563 21 rfl).trans uw380_21
                have uw563_7 : ρ562 7 = (.int .i64 (i : Int)) := (hkw563 7 rfl).trans uw380_7
                have uw563_6 : ρ562 6 = vo := (hkw563 6 rfl).trans uw380_6
                have uw563_22 : ρ562 22 = (.int .i64 (i : Int)) := (hkw563 22 rfl).trans uw380_22
                have uw563_23 : ρ562 23 = v_l := (hkw563 23 rfl).trans uw380_23
                have uw563_24 : ρ562 24 = (.int .i64 (l.length : Int)) := (hkw563 24 rfl).trans uw380_24
                have uw563_25 : ρ562 25 = (.bool (decide ((i : Int) < (l.length : Int)))) := (hkw563 25 rfl).trans uw380_25
                have uw563_26 : ρ562 26 = (.int .i64 (i : Int)) := (hkw563 26 rfl).trans uw380_26
                have uw563_8 : ρ562 8 = (.int .i64 (n : Int)) := (hkw563 8 rfl).trans uw380_8
                have uw563_47 : ρ562 47 = (.bool false) := (hkw563 47 rfl).trans uw380_47
                have uw563_10 : ρ562 10 = (.int .i64 ((allA ((l.take n).drop i) (floorA ((l[i]'(by omega)).T) k)).2)) := hRw563 17 10 rfl
                refine then_n ?_
                refine cE_seq ?_
                refine cE_seq ?_
                refine cE_region rfl ?_
                refine s_cons (op_move (.int .i64 ((allA ((l.take n).drop i) (floorA ((l[i]'(by omega)).T) k)).2)) uw563_10 ?_)
                refine s_cons (op_neq (k := .i64) (a := (allA ((l.take n).drop i) (floorA ((l[i]'(by omega)).T) k)).2) (b := 0) rfl rfl ?_)
                refine s_nil ?_
                refine then_n ?_
                rcases Bool.eq_false_or_eq_true (decide (((allA ((l.take n).drop i) (floorA ((l[i]'(by omega)).T) k)).2) = 0)) with b565 | b565
                · have c566 : ((allA ((l.take n).drop i) (floorA ((l[i]'(by omega)).T) k)).2) = 0 := of_decide_eq_true b565
                  refine cE_cond false (congrArg Value.bool (congrArg (! ·) b565)) (fun h => by cases h) (fun _ => ?_)
                  refine cE_skip ?_
                  refine then_n ?_
                  refine cE_seq ?_
                  refine cE_region rfl ?_
                  refine s_cons (op_move vo uw563_6 ?_)
                  refine s_cons (op_loadN (cs := [(.int .i64 (((allA ((l.take n).drop i) (floorA ((l[i]'(by omega)).T) k)).1).From)), (.int .i64 (((allA ((l.take n).drop i) (floorA ((l[i]'(by omega)).T) k)).1).Count)), (.int .i64 (((allA ((l.take n).drop i) (floorA ((l[i]'(by omega)).T) k)).1).Sum)), (.int .i64 (((allA ((l.take n).drop i) (floorA ((l[i]'(by omega)).T) k)).1).Min)), (.int .i64 (((allA ((l.take n).drop i) (floorA ((l[i]'(by omega)).T) k)).1).Max)), (.int .i64 (((allA ((l.take n).drop i) (floorA ((l[i]'(by omega)).T) k)).1).First)), (.int .i64 (((allA ((l.take n).drop i) (floorA ((l[i]'(by omega)).T) k)).1).Last))]) Try.isAgg26 Try.sizeOf26 uw563_9 (Pt.of (hst.cell 0 rfl) rfl) rfl ?_)
                  refine s_cons (op_buildSlice (E := aggE) [((allA ((l.take n).drop i) (floorA ((l[i]'(by omega)).T) k)).1)] hst Try.underlying41 Try.sizeOf26 Try.zeroValue26 (evp_cons (v := (.agg #[(.int .i64 (((allA ((l.take n).drop i) (floorA ((l[i]'(by omega)).T) k)).1).From)), (.int .i64 (((allA ((l.take n).drop i) (floorA ((l[i]'(by omega)).T) k)).1).Count)), (.int .i64 (((allA ((l.take n).drop i) (floorA ((l[i]'(by omega)).T) k)).1).Sum)), (.int .i64 (((allA ((l.take n).drop i) (floorA ((l[i]'(by omega)).T) k)).1).Min)), (.int .i64 (((allA ((l.take n).drop i) (floorA ((l[i]'(by omega)).T) k)).1).Max)), (.int .i64 (((allA ((l.take n).drop i) (floorA ((l[i]'(by omega)).T) k)).1).First)), (.int .i64 (((allA ((l.take n).drop i) (floorA ((l[i]'(by omega)).T) k)).1).Last))])) rfl evp_nil) (parts_cons rfl parts_nil) rfl (by decide) (fun v567 w568 hst => ?_))
                  replace hst : St w0 w568 [rowT 26 aggE v567 ([((allA ((l.take n).drop i) (floorA ((l[i]'(by omega)).T) k)).1)]), .blk g564 26 #[(.int .i64 (((allA ((l.take n).drop i) (floorA ((l[i]'(by omega)).T) k)).1).From)), (.int .i64 (((allA ((l.take n).drop i) (floorA ((l[i]'(by omega)).T) k)).1).Count)), (.int .i64 (((allA ((l.take n).drop i) (floorA ((l[i]'(by omega)).T) k)).1).Sum)), (.int .i64 (((allA ((l.take n).drop i) (floorA ((l[i]'(by omega)).T) k)).1).Min)), (.int .i64 (((allA ((l.take n).drop i) (floorA ((l[i]'(by omega)).T) k)).1).Max)), (.int .i64 (((allA ((l.take n).drop i) (floorA ((l[i]'(by omega)).T) k)).1).First)), (.int .i64 (((allA ((l.take n).drop i) (floorA ((l[i]'(by omega)).T) k)).1).Last))], rowT 26 aggE vo out] := hst
                  refine s_cons (op_append (E := aggE) (xs := out) (ys := [((allA ((l.take n).drop i) (floorA ((l[i]'(by omega)).T) k)).1)]) (z := (.agg #[(.int .i64 0), (.int .i64 0), (.int .i64 0), (.int .i64 0), (.int .i64 0), (.int .i64 0), (.int .i64 0)])) (bytes := 56) hst 2 rfl Try.underlying41 (by kernel_rfl) rfl rfl rfl (hst.sl 0 rfl) (by first | omega | (simp; omega) | (simp; done)) (by first | omega | (simp; omega) | (simp; done)) (fun v569 w570 hst => ?_))
                  replace hst : St w0 w570 [rowT 26 aggE v567 ([((allA ((l.take n).drop i) (floorA ((l[i]'(by omega)).T) k)).1)]), .blk g564 26 #[(.int .i64 (((allA ((l.take n).drop i) (floorA ((l[i]'(by omega)).T) k)).1).From)), (.int .i64 (((allA ((l.take n).drop i) (floorA ((l[i]'(by omega)).T) k)).1).Count)), (.int .i64 (((allA ((l.take n).drop i) (floorA ((l[i]'(by omega)).T) k)).1).Sum)), (.int .i64 (((allA ((l.take n).drop i) (floorA ((l[i]'(by omega)).T) k)).1).Min)), (.int .i64 (((allA ((l.take n).drop i) (floorA ((l[i]'(by omega)).T) k)).1).Max)), (.int .i64 (((allA ((l.take n).drop i) (floorA ((l[i]'(by omega)).T) k)).1).First)), (.int .i64 (((allA ((l.take n).drop i) (floorA ((l[i]'(by omega)).T) k)).1).Last))], rowT 26 aggE v569 (out ++ ([((allA ((l.take n).drop i) (floorA ((l[i]'(by omega)).T) k)).1)]))] := hst
                  refine s_cons (op_assign v569 rfl ?_)
                  refine s_nil ?_
                  refine then_n ?_
                  refine cE_region rfl ?_
                  refine s_cons (op_move (.int .i64 (n : Int)) uw563_8 ?_)
                  refine s_cons (op_assign (.int .i64 (n : Int)) rfl ?_)
                  refine s_nil ?_
                  refine block_n (then_n ?_)
                  exact ⟨_, ⟨v569, (out ++ ([((allA ((l.take n).drop i) (floorA ((l[i]'(by omega)).T) k)).1)])), (f - 1), n, rfl, uw563_0, uw563_1, uw563_11, uw563_12, uw563_13, uw563_14, uw563_15, uw563_16, uw563_17, uw563_18, uw563_19, uw563_20, uw563_21, rfl, rfl, (hst.sub (.cons _ (.cons _ (.cons_cons _ .slnil)))), (by omega), (by first | omega | (simp; omega) | (simp; done)), (by first | omega | (simp; omega) | (simp; done)), (by first | exact hI.trans (rrw_go (by omega) hf hw (by assumption) (by omega)) | (unfold rawA; rw [if_pos ⟨hri, hco⟩, List.drop_zero]))⟩, (by simp only [id]; omega)⟩
                · have c571 : ¬ (((allA ((l.take n).drop i) (floorA ((l[i]'(by omega)).T) k)).2) = 0) := of_decide_eq_false b565
                  refine cE_cond true (congrArg Value.bool (congrArg (! ·) b565)) (fun _ => ?_) (fun h => by cases h)
                  refine cE_seq ?_
                  refine cE_region rfl ?_
                  refine s_cons (op_move (.int .i64 ((allA ((l.take n).drop i) (floorA ((l[i]'(by omega)).T) k)).2)) uw563_10 ?_)
                  refine s_cons (op_assign (.slice none 0 0) rfl ?_)
                  refine s_cons (op_assign (.int .i64 ((allA ((l.take n).drop i) (floorA ((l[i]'(by omega)).T) k)).2)) rfl ?_)
                  refine s_nil ?_
                  refine then_n ?_
                  refine cE_ret ?_
                  refine then_r (block_r (then_r (block_r (then_r ?_))))
                  refine post_r _ (res2 (v := (.slice none 0 0)) rfl (x := (.int .i64 ((allA ((l.take n).drop i) (floorA ((l[i]'(by omega)).T) k)).2))) rfl) ?_
                  replace hst : St w0 w563 [rowT 26 aggE (.slice none 0 0) ([]), .blk g564 26 #[(.int .i64 (((allA ((l.take n).drop i) (floorA ((l[i]'(by omega)).T) k)).1).From)), (.int .i64 (((allA ((l.take n).drop i) (floorA ((l[i]'(by omega)).T) k)).1).Count)), (.int .i64 (((allA ((l.take n).drop i) (floorA ((l[i]'(by omega)).T) k)).1).Sum)), (.int .i64 (((allA ((l.take n).drop i) (floorA ((l[i]'(by omega)).T) k)).1).Min)), (.int .i64 (((allA ((l.take n).drop i) (floorA ((l[i]'(by omega)).T) k)).1).Max)), (.int .i64 (((allA ((l.take n).drop i) (floorA ((l[i]'(by omega)).T) k)).1).First)), (.int .i64 (((allA ((l.take n).drop i) (floorA ((l[i]'(by omega)).T) k)).1).Last))], rowT 26 aggE vo out] := hst.nilRow 26 aggE
                  have e572 : [] = (rawA l k).1 := by first | exact (congrArg Prod.fst (raw_none (Or.inl (by assumption)))).symm | exact (congrArg Prod.snd (raw_none (Or.inl (by assumption)))).symm | exact (congrArg Prod.fst (raw_none (Or.inr (coarse_no (by omega))))).symm | exact (congrArg Prod.snd (raw_none (Or.inr (coarse_no (by omega))))).symm | exact (congrArg Prod.fst (hI.trans (rrw_stop (by omega) hf hw (by assumption)))).symm | exact (congrArg Prod.snd (hI.trans (rrw_stop (by omega) hf hw (by assumption)))).symm | exact (congrArg Prod.fst (hI.trans (rrw_end (by omega)))).symm | exact (congrArg Prod.snd (hI.trans (rrw_end (by omega)))).symm
                  replace hst : St w0 w563 [rowT 26 aggE (.slice none 0 0) ((rawA l k).1), .blk g564 26 #[(.int .i64 (((allA ((l.take n).drop i) (floorA ((l[i]'(by omega)).T) k)).1).From)), (.int .i64 (((allA ((l.take n).drop i) (floorA ((l[i]'(by omega)).T) k)).1).Count)), (.int .i64 (((allA ((l.take n).drop i) (floorA ((l[i]'(by omega)).T) k)).1).Sum)), (.int .i64 (((allA ((l.take n).drop i) (floorA ((l[i]'(by omega)).T) k)).1).Min)), (.int .i64 (((allA ((l.take n).drop i) (floorA ((l[i]'(by omega)).T) k)).1).Max)), (.int .i64 (((allA ((l.take n).drop i) (floorA ((l[i]'(by omega)).T) k)).1).First)), (.int .i64 (((allA ((l.take n).drop i) (floorA ((l[i]'(by omega)).T) k)).1).Last))], rowT 26 aggE vo out] := by rw [congrArg (fun l => rowT 26 aggE (.slice none 0 0) l) e572] at hst; exact hst
                  exact ⟨(.slice none 0 0), (retv2 rfl (congrArg (Value.int .i64) (show (allA ((l.take n).drop i) (floorA ((l[i]'(by omega)).T) k)).2 = (rawA l k).2 from by first | exact (congrArg Prod.fst (raw_none (Or.inl (by assumption)))).symm | exact (congrArg Prod.snd (raw_none (Or.inl (by assumption)))).symm | exact (congrArg Prod.fst (raw_none (Or.inr (coarse_no (by omega))))).symm | exact (congrArg Prod.snd (raw_none (Or.inr (coarse_no (by omega))))).symm | exact (congrArg Prod.fst (hI.trans (rrw_stop (by omega) hf hw (by assumption)))).symm | exact (congrArg Prod.snd (hI.trans (rrw_stop (by omega) hf hw (by assumption)))).symm | exact (congrArg Prod.fst (hI.trans (rrw_end (by omega)))).symm | exact (congrArg Prod.snd (hI.trans (rrw_end (by omega)))).symm))), hst.sub (.cons_cons _ (.cons _ (.cons _ .slnil)))⟩
        · have c573 : ¬ ((i : Int) < (l.length : Int)) := of_decide_eq_false b15
          refine cE_cond false (congrArg Value.bool b15) (fun h => by cases h) (fun _ => ?_)
          refine cE_exit ?_
          refine then_x (then_x (block_hit (then_n ?_)))
          refine cE_seq ?_
          refine cE_region rfl ?_
          refine s_cons (op_move vo q11_6 ?_)
          refine s_cons (op_assign vo rfl ?_)
          refine s_cons (op_assign (.int .i64 0) rfl ?_)
          refine s_nil ?_
          refine then_n ?_
          refine cE_ret ?_
          refine post_r _ (res2 (v := vo) rfl (x := (.int .i64 0)) rfl) ?_
          have e574 : out = (rawA l k).1 := by first | exact (congrArg Prod.fst (raw_none (Or.inl (by assumption)))).symm | exact (congrArg Prod.snd (raw_none (Or.inl (by assumption)))).symm | exact (congrArg Prod.fst (raw_none (Or.inr (coarse_no (by omega))))).symm | exact (congrArg Prod.snd (raw_none (Or.inr (coarse_no (by omega))))).symm | exact (congrArg Prod.fst (hI.trans (rrw_stop (by omega) hf hw (by assumption)))).symm | exact (congrArg Prod.snd (hI.trans (rrw_stop (by omega) hf hw (by assumption)))).symm | exact (congrArg Prod.fst (hI.trans (rrw_end (by omega)))).symm | exact (congrArg Prod.snd (hI.trans (rrw_end (by omega)))).symm
          replace hst : St w0 w14 [rowT 26 aggE vo ((rawA l k).1)] := by rw [congrArg (fun l => rowT 26 aggE vo l) e574] at hst; exact hst
          exact ⟨vo, (retv2 rfl (congrArg (Value.int .i64) (show 0 = (rawA l k).2 from by first | exact (congrArg Prod.fst (raw_none (Or.inl (by assumption)))).symm | exact (congrArg Prod.snd (raw_none (Or.inl (by assumption)))).symm | exact (congrArg Prod.fst (raw_none (Or.inr (coarse_no (by omega))))).symm | exact (congrArg Prod.snd (raw_none (Or.inr (coarse_no (by omega))))).symm | exact (congrArg Prod.fst (hI.trans (rrw_stop (by omega) hf hw (by assumption)))).symm | exact (congrArg Prod.snd (hI.trans (rrw_stop (by omega) hf hw (by assumption)))).symm | exact (congrArg Prod.fst (hI.trans (rrw_end (by omega)))).symm | exact (congrArg Prod.snd (hI.trans (rrw_end (by omega)))).symm))), hst.sub (.cons_cons _ .slnil)⟩
      · refine cE_cond true (congrArg Value.bool (congrArg (! ·) b10)) (fun _ => ?_) (fun h => by cases h)
        refine cE_seq ?_
        refine cE_region rfl ?_
        refine s_cons (op_assign (.slice none 0 0) rfl ?_)
        refine s_cons (op_assign (.int .i64 1) rfl ?_)
        refine s_nil ?_
        refine then_n ?_
        refine cE_ret ?_
        refine then_r ?_
        refine post_r _ (res2 (v := (.slice none 0 0)) rfl (x := (.int .i64 1)) rfl) ?_
        replace hst : St w0 w9 [rowT 26 aggE (.slice none 0 0) ([])] := hst.nilRow 26 aggE
        have e575 : [] = (rawA l k).1 := by first | exact (congrArg Prod.fst (raw_none (Or.inl (by assumption)))).symm | exact (congrArg Prod.snd (raw_none (Or.inl (by assumption)))).symm | exact (congrArg Prod.fst (raw_none (Or.inr (coarse_no (by omega))))).symm | exact (congrArg Prod.snd (raw_none (Or.inr (coarse_no (by omega))))).symm | exact (congrArg Prod.fst (hI.trans (rrw_stop (by omega) hf hw (by assumption)))).symm | exact (congrArg Prod.snd (hI.trans (rrw_stop (by omega) hf hw (by assumption)))).symm | exact (congrArg Prod.fst (hI.trans (rrw_end (by omega)))).symm | exact (congrArg Prod.snd (hI.trans (rrw_end (by omega)))).symm
        replace hst : St w0 w9 [rowT 26 aggE (.slice none 0 0) ((rawA l k).1)] := by rw [congrArg (fun l => rowT 26 aggE (.slice none 0 0) l) e575] at hst; exact hst
        exact ⟨(.slice none 0 0), (retv2 rfl (congrArg (Value.int .i64) (show 1 = (rawA l k).2 from by first | exact (congrArg Prod.fst (raw_none (Or.inl (by assumption)))).symm | exact (congrArg Prod.snd (raw_none (Or.inl (by assumption)))).symm | exact (congrArg Prod.fst (raw_none (Or.inr (coarse_no (by omega))))).symm | exact (congrArg Prod.snd (raw_none (Or.inr (coarse_no (by omega))))).symm | exact (congrArg Prod.fst (hI.trans (rrw_stop (by omega) hf hw (by assumption)))).symm | exact (congrArg Prod.snd (hI.trans (rrw_stop (by omega) hf hw (by assumption)))).symm | exact (congrArg Prod.fst (hI.trans (rrw_end (by omega)))).symm | exact (congrArg Prod.snd (hI.trans (rrw_end (by omega)))).symm))), hst.sub (.cons_cons _ .slnil)⟩

end Go.Proofs.Ytffnhcioponbbaa
