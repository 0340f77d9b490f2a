/- twinkeepref1.Raw, twinkeepref1.Down -/
import Derived.Test.YtldfnkhccaglmaaXW74
import Derived.Test.YtldfnkhccaglmaaXLA
namespace Go.Proofs.Ytldfnkhccaglmaa
open Go.RowKit

set_option maxRecDepth 8000 in
set_option maxHeartbeats 8000000 in
theorem c_rRaw (w0 : World) (v_l : Value) (l : List Sample) (h_l : Sl w0 sampE v_l l) (k : Int) (hl : ∀ s ∈ l, s.ok) (hn : l.length ≤ 1000000) (k0 : -9223372036854775808 ≤ k) (k1 : k ≤ 9223372036854775807) :
  Calls Try.prog 49 #[v_l, (iV k)] w0 fun e w' => ∃ (r : Value), e = .returned (.tuple #[r, (iV ((rawA l k).2))]) ∧ St w0 w' [rowT 29 aggE r ((rawA l k).1)] := by
 refine calls_E (n := 74) (ts := [4, 5]) Try.func49 rfl rfl rfl (by simp) ?_
 have hst := St.start w0
 refine cE_seq (cE_region rfl (s_cons (op_assign nS rfl (s_cons (op_assign (iV 0) rfl (s_nil (then_n (cE_seq (cE_seq (cE_region rfl (s_cons (op_move (iV k) rfl (s_cons (op_lss (k := .i64) (a := k) (b := 1) rfl rfl (s_cons (op_move (.bool (decide (k < 1))) rfl ?_))))))))))))))))
 rcases Bool.eq_false_or_eq_true (decide (k < 1)) with b1 | b1
 ·have c2 := of_decide_eq_true b1
  refine s_no 13 rfl (congrArg Value.bool b1) (s_no 13 rfl (congrArg Value.bool b1) (s_cons (op_pick_t (.bool true) (congrArg Value.bool b1) rfl (s_cons (op_move (.bool true) rfl (s_no 17 rfl rfl (s_no 17 rfl rfl (s_no 17 rfl rfl (s_cons (op_pick_t (.bool true) rfl rfl (s_nil (then_n (cE_cond true rfl (fun _ => ?_) (fun h => by cases h))))))))))))))
  refine cE_seq (cE_region rfl (s_cons (op_assign nS rfl (s_cons (op_assign (iV 1) rfl (s_nil (then_n (cE_ret (then_r (post_r _ (res2 (v := nS) rfl (x := (iV 1)) rfl) ?_))))))))))
  replace hst := hst.nilRow 29 aggE
  have e3 : [] = (rawA l k).1 := by exact (congrArg Prod.fst (raw_none (Or.inr (coarse_no (by omega))))).symm
  replace hst : St w0 w0 [rowT 29 aggE nS ((rawA l k).1)] := by rw [congrArg (fun l => rowT 29 aggE nS l) e3] at hst; exact hst
  exact ⟨nS, (retv2 rfl (congrArg iV (show 1 = (rawA l k).2 from by exact (congrArg Prod.snd (raw_none (Or.inr (coarse_no (by omega))))).symm))), hst.sub (.cons_cons _ .slnil)⟩
 have c4 := of_decide_eq_false b1
 refine s_yes 13 rfl (congrArg Value.bool b1) (op_move (iV k) rfl (s_yes 13 rfl (congrArg Value.bool b1) (op_gtr (k := .i64) (a := k) (b := 3) rfl rfl (s_cons (op_pick_f (.bool (decide (3 < k))) (congrArg Value.bool b1) rfl (s_cons (op_move (.bool (decide (3 < k))) rfl ?_)))))))
 rcases Bool.eq_false_or_eq_true (decide (3 < k)) with b5 | b5
 ·have c6 := of_decide_eq_true b5
  refine s_no 17 rfl (congrArg Value.bool b5) (s_no 17 rfl (congrArg Value.bool b5) (s_no 17 rfl (congrArg Value.bool b5) (s_cons (op_pick_t (.bool true) (congrArg Value.bool b5) rfl (s_nil (then_n (cE_cond true rfl (fun _ => ?_) (fun h => by cases h))))))))
  refine cE_seq (cE_region rfl (s_cons (op_assign nS rfl (s_cons (op_assign (iV 1) rfl (s_nil (then_n (cE_ret (then_r (post_r _ (res2 (v := nS) rfl (x := (iV 1)) rfl) ?_))))))))))
  replace hst := hst.nilRow 29 aggE
  have e7 : [] = (rawA l k).1 := by exact (congrArg Prod.fst (raw_none (Or.inr (coarse_no (by omega))))).symm
  replace hst : St w0 w0 [rowT 29 aggE nS ((rawA l k).1)] := by rw [congrArg (fun l => rowT 29 aggE nS l) e7] at hst; exact hst
  exact ⟨nS, (retv2 rfl (congrArg iV (show 1 = (rawA l k).2 from by exact (congrArg Prod.snd (raw_none (Or.inr (coarse_no (by omega))))).symm))), hst.sub (.cons_cons _ .slnil)⟩
 have c8 := of_decide_eq_false b5
 refine s_yes 17 rfl (congrArg Value.bool b5) (op_move v_l rfl (s_yes 17 rfl (congrArg Value.bool b5) (op_call Try.call23 (evs_cons (v := v_l) rfl evs_nil) (c_rRising (w0 := w0) (v_l := v_l) (l := l) (h_l := (h_l.below hst.below)) (hl := hl)) ?_)))
 rintro _ w9 ⟨rfl, hcall⟩
 refine ⟨_, rfl, ?_⟩
 have hst := hst.call hcall
 refine s_yes 17 rfl (congrArg Value.bool b5) (op_not (b := risingA l) rfl (s_cons (op_pick_f (.bool (!(risingA l))) (congrArg Value.bool b5) rfl (s_nil (then_n ?_)))))
 rcases Bool.eq_false_or_eq_true (risingA l) with b10 | b10
 ·have hri := b10
  refine cE_cond false (congrArg Value.bool (congrArg (! ·) b10)) (fun h => by cases h) (fun _ => ?_)
  refine cE_skip (then_n (cE_seq ?_))
  have hco := coarse_yes (k := k) (by omega) (by omega)
  refine cE_region rfl (s_cons (op_assign nS rfl (s_nil (then_n (cE_seq (cE_seq (cE_region rfl (s_cons (op_assign (iV 0) rfl (s_nil (then_n (cE_block ?_))))))))))))
  replace hst := hst.nilRow 29 aggE
  refine cE_loop (fun (m : Nat) (ρ : Env) (w : World) => ∃ (vo : Value) (out : List Agg) (f : Nat) (i : Nat), m = l.length - i ∧ ρ 0 = v_l ∧ ρ 1 = (iV k) ∧ ρ 7 = (iV (i : Int)) ∧ ρ 6 = vo ∧ St w0 w [rowT 29 aggE vo out] ∧ (i ≤ l.length) ∧ (l.length - i ≤ f) ∧ (out.length ≤ i) ∧ (rawA l k = rawL k f (l.drop i) out)) id _ ⟨nS, [], l.length, 0, rfl, rfl, rfl, (congrArg iV (show 0 = _ from by omega)), rfl, hst, (by omega), (by omega), (by (simp; done)), (by (unfold rawA; rw [if_pos ⟨hri, hco⟩, List.drop_zero]))⟩ ?_
  rintro m12 ρ13 w14 ⟨vo, out, f, i, hm12, q11_0, q11_1, q11_7, q11_6, hst, hi, hf, hout, hI⟩
  refine cE_seq (cE_seq (cE_region rfl (s_cons (op_move (iV (i : Int)) q11_7 (s_cons (op_move v_l q11_0 (s_cons (op_len (E := sampE) (xs := l) Try.underlying23 rfl h_l (s_cons (op_lss (k := .i64) (a := (i : Int)) (b := (l.length : Int)) rfl rfl (s_nil (then_n ?_))))))))))))
  rcases Bool.eq_false_or_eq_true (decide ((i : Int) < (l.length : Int))) with b15 | b15
  ·have c16 := of_decide_eq_true b15
   refine cE_cond true (congrArg Value.bool b15) (fun _ => ?_) (fun h => by cases h)
   refine cE_skip (then_n (cE_block (cE_seq (cE_region rfl (s_cons (op_move (iV (i : Int)) q11_7 (s_cons (op_assign (iV (i : Int)) rfl (s_nil (then_n (cE_seq (cE_block (cE_loop (fun (m : Nat) (ρ : Env) (w : World) => ∃ (n : Nat), m = l.length - n ∧ ρ 0 = v_l ∧ ρ 1 = (iV k) ∧ ρ 7 = (iV (i : Int)) ∧ ρ 6 = vo ∧ ρ 8 = (iV (n : Int)) ∧ St w0 w [rowT 29 aggE vo out] ∧ (i ≤ n) ∧ (n ≤ l.length) ∧ (winLen k (floorA ((l[i]'(by omega)).T) k) (l.drop i) = n - i + winLen k (floorA ((l[i]'(by omega)).T) k) (l.drop n))) id _ ⟨i, rfl, q11_0, q11_1, q11_7, q11_6, rfl, hst, (by omega), (by omega), (by (rw [Nat.sub_self, Nat.zero_add]; done))⟩ ?_)))))))))))))
   rintro m18 ρ19 w20 ⟨n, hm18, q17_0, q17_1, q17_7, q17_6, q17_8, hst, hn1, hnr, hw0⟩
   have hel := fun (s : Sample) (h : s ∈ l) => (hl s h).1
   refine cE_seq (cE_seq ?_)
   rcases Bool.eq_false_or_eq_true (decide ((n : Int) < (l.length : Int))) with b21 | b21
   ·have c22 := of_decide_eq_true b21
    refine cE_regionL hst [[(8, none)], [(0, none)], [(28, some 1)], [(27, some 0), (29, some 2)], [(30, some 3)], [(0, none), (31, some 4)], [(8, none), (31, some 4)], [(32, some 5), (33, some 6), (31, some 4)], [(34, some 7), (31, some 4)], [(35, some 8), (31, some 4)], [(1, none), (31, some 4)], [(36, some 9), (37, some 10), (31, some 4)], [(0, none), (31, some 4)], [(7, none), (31, some 4)], [(39, some 12), (40, some 13), (31, some 4)], [(41, some 14), (31, some 4)], [(42, some 15), (31, some 4)], [(1, none), (31, some 4)], [(43, some 16), (44, some 17), (31, some 4)], [(38, some 11), (45, some 18), (31, some 4)], [(31, some 4), (46, some 19)]] [(rEq (iV (n : Int))), (rEq v_l), (rEq (iV (l.length : Int))), (rEq (.bool (decide ((n : Int) < (l.length : Int))))), (rEq (.bool (decide ((n : Int) < (l.length : Int))))), (rEq v_l), (rEq (iV (n : Int))), (rPt [(iV ((l[n]'(by omega)).T)), (iV ((l[n]'(by omega)).V))]), (rPt [(iV ((l[n]'(by omega)).T)), (iV ((l[n]'(by omega)).V))]), (rEq (iV ((l[n]'(by omega)).T))), (rEq (iV k)), (rEq (iV (floorA ((l[n]'(by omega)).T) k))), (rEq v_l), (rEq (iV (i : Int))), (rPt [(iV ((l[i]'(by omega)).T)), (iV ((l[i]'(by omega)).V))]), (rPt [(iV ((l[i]'(by omega)).T)), (iV ((l[i]'(by omega)).V))]), (rEq (iV ((l[i]'(by omega)).T))), (rEq (iV k)), (rEq (iV (floorA ((l[i]'(by omega)).T) k))), (rEq (.bool (decide ((floorA ((l[n]'(by omega)).T) k) = (floorA ((l[i]'(by omega)).T) k))))), (rEq (.bool (decide ((floorA ((l[n]'(by omega)).T) k) = (floorA ((l[i]'(by omega)).T) k)))))] (by kernel_rfl) rfl (by kernel_rfl) ⟨sEq, sEq, sEq, sEq, sEq, sEq, sEq, sPt, sPt, sEq, sEq, sEq, sEq, sEq, sPt, sPt, sEq, sEq, sEq, sEq, sEq, trivial⟩ ⟨?_, ?_, ?_, ?_, ?_, ?_, ?_, ?_, ?_, ?_, ?_, ?_, ?_, ?_, ?_, ?_, ?_, ?_, ?_, ?_, ?_, trivial⟩ ?_
    ·rintro ρ31 w32 hj33 ⟨f8, _⟩
     have hst := hj33.2
     exact go_plain (op_move (iV (n : Int)) (f8.trans q17_8) (kS hj33 rfl))
    ·rintro ρ34 w35 hj36 ⟨f0, _⟩
     have hst := hj36.2
     exact go_plain (op_move v_l (f0.trans q17_0) (kS hj36 rfl))
    ·rintro ρ37 w38 hj39 ⟨f28, _⟩
     have hst := hj39.2
     exact go_plain (op_len (E := sampE) (xs := l) Try.underlying23 f28 h_l (kS hj39 rfl))
    ·rintro ρ40 w41 hj42 ⟨f27, f29, _⟩
     have hst := hj42.2
     exact go_plain (op_lss (k := .i64) (a := (n : Int)) (b := (l.length : Int)) f27 f29 (kS hj42 rfl))
    ·rintro ρ43 w44 hj45 ⟨f30, _⟩
     have hst := hj45.2
     exact go_plain (op_move (.bool (decide ((n : Int) < (l.length : Int)))) f30 (kS hj45 rfl))
    ·rintro ρ46 w47 hj48 ⟨f0, f31, _⟩
     have hst := hj48.2
     exact go_yes 31 rfl (f31.trans (congrArg Value.bool b21)) (op_move v_l (f0.trans q17_0) (kS hj48 rfl))
    ·rintro ρ49 w50 hj51 ⟨f8, f31, _⟩
     have hst := hj51.2
     exact go_yes 31 rfl (f31.trans (congrArg Value.bool b21)) (op_move (iV (n : Int)) (f8.trans q17_8) (kS hj51 rfl))
    ·rintro ρ52 w53 hj54 ⟨f32, f33, f31, _⟩
     have hst := hj54.2
     refine go_yes 31 rfl (f31.trans (congrArg Value.bool b21)) (op_indexAddrN (E := sampE) (xs := l) n Try.underlying23 Try.sizeOf51 f32 h_l f33 (by omega) (by omega) (fun a55 o56 p57 => ?_))
     exact kS hj54 ⟨_, _, rfl, (p57.below hst.below)⟩
    ·rintro ρ58 w59 hj60 ⟨f34, f31, _⟩
     have hst := hj60.2
     obtain ⟨a61, o62, e63, p64⟩ := f34
     exact go_yes 31 rfl (f31.trans (congrArg Value.bool b21)) (op_fieldAddr (s := 0) Try.underlying51 rfl rfl Try.sizeOf2 e63 (kS hj60 ⟨_, _, rfl, p64⟩))
    ·rintro ρ65 w66 hj67 ⟨f35, f31, _⟩
     have hst := hj67.2
     obtain ⟨a68, o69, e70, p71⟩ := f35
     exact go_yes 31 rfl (f31.trans (congrArg Value.bool b21)) (op_load1 (u := (iV ((l[n]'(by omega)).T))) Try.isAgg2 e70 p71 (kS hj67 rfl))
    ·rintro ρ72 w73 hj74 ⟨f1, f31, _⟩
     have hst := hj74.2
     exact go_yes 31 rfl (f31.trans (congrArg Value.bool b21)) (op_move (iV k) (f1.trans q17_1) (kS hj74 rfl))
    ·rintro ρ75 w76 hj77 ⟨f36, f37, f31, _⟩
     have hst := hj77.2
     refine go_yes 31 rfl (f31.trans (congrArg Value.bool b21)) (op_call Try.call31 (evs_cons (v := (iV ((l[n]'(by omega)).T))) f36 (evs_cons (v := (iV k)) f37 evs_nil)) (c_rFloor (w0 := w76) (t := (l[n]'(by omega)).T) (k := k) (t0 := (hl _ (List.getElem_mem _)).1.1) (k0 := (by omega)) (t1 := (hl _ (List.getElem_mem _)).1.2) (k1 := (by omega))) ?_)
     rintro _ w78 ⟨rfl, hcall⟩
     refine ⟨_, rfl, ?_⟩
     exact kD hj77 hcall rfl
    ·rintro ρ79 w80 hj81 ⟨f0, f31, _⟩
     have hst := hj81.2
     exact go_yes 31 rfl (f31.trans (congrArg Value.bool b21)) (op_move v_l (f0.trans q17_0) (kS hj81 rfl))
    ·rintro ρ82 w83 hj84 ⟨f7, f31, _⟩
     have hst := hj84.2
     exact go_yes 31 rfl (f31.trans (congrArg Value.bool b21)) (op_move (iV (i : Int)) (f7.trans q17_7) (kS hj84 rfl))
    ·rintro ρ85 w86 hj87 ⟨f39, f40, f31, _⟩
     have hst := hj87.2
     refine go_yes 31 rfl (f31.trans (congrArg Value.bool b21)) (op_indexAddrN (E := sampE) (xs := l) i Try.underlying23 Try.sizeOf51 f39 h_l f40 (by omega) (by omega) (fun a88 o89 p90 => ?_))
     exact kS hj87 ⟨_, _, rfl, (p90.below hst.below)⟩
    ·rintro ρ91 w92 hj93 ⟨f41, f31, _⟩
     have hst := hj93.2
     obtain ⟨a94, o95, e96, p97⟩ := f41
     exact go_yes 31 rfl (f31.trans (congrArg Value.bool b21)) (op_fieldAddr (s := 0) Try.underlying51 rfl rfl Try.sizeOf2 e96 (kS hj93 ⟨_, _, rfl, p97⟩))
    ·rintro ρ98 w99 hj100 ⟨f42, f31, _⟩
     have hst := hj100.2
     obtain ⟨a101, o102, e103, p104⟩ := f42
     exact go_yes 31 rfl (f31.trans (congrArg Value.bool b21)) (op_load1 (u := (iV ((l[i]'(by omega)).T))) Try.isAgg2 e103 p104 (kS hj100 rfl))
    ·rintro ρ105 w106 hj107 ⟨f1, f31, _⟩
     have hst := hj107.2
     exact go_yes 31 rfl (f31.trans (congrArg Value.bool b21)) (op_move (iV k) (f1.trans q17_1) (kS hj107 rfl))
    ·rintro ρ108 w109 hj110 ⟨f43, f44, f31, _⟩
     have hst := hj110.2
     refine go_yes 31 rfl (f31.trans (congrArg Value.bool b21)) (op_call Try.call31 (evs_cons (v := (iV ((l[i]'(by omega)).T))) f43 (evs_cons (v := (iV k)) f44 evs_nil)) (c_rFloor (w0 := w109) (t := (l[i]'(by omega)).T) (k := k) (t0 := (hl _ (List.getElem_mem _)).1.1) (k0 := (by omega)) (t1 := (hl _ (List.getElem_mem _)).1.2) (k1 := (by omega))) ?_)
     rintro _ w111 ⟨rfl, hcall⟩
     refine ⟨_, rfl, ?_⟩
     exact kD hj110 hcall rfl
    ·rintro ρ112 w113 hj114 ⟨f38, f45, f31, _⟩
     have hst := hj114.2
     exact go_yes 31 rfl (f31.trans (congrArg Value.bool b21)) (op_eql (k := .i64) (a := (floorA ((l[n]'(by omega)).T) k)) (b := (floorA ((l[i]'(by omega)).T) k)) f38 f45 (kS hj114 rfl))
    ·rintro ρ115 w116 hj117 ⟨f31, f46, _⟩
     have hst := hj117.2
     exact go_plain (op_pick_t (.bool (decide ((floorA ((l[n]'(by omega)).T) k) = (floorA ((l[i]'(by omega)).T) k)))) (f31.trans (congrArg Value.bool b21)) f46 (kS hj117 rfl))
    intro ρ118 w119 hbw119 hst hRw119 hkw119
    have uw119_0 := (hkw119 0 rfl).trans q17_0
    have uw119_1 := (hkw119 1 rfl).trans q17_1
    have uw119_7 := (hkw119 7 rfl).trans q17_7
    have uw119_6 := (hkw119 6 rfl).trans q17_6
    have uw119_8 := (hkw119 8 rfl).trans q17_8
    have uw119_47 : ρ118 47 = (.bool (decide ((floorA ((l[n]'(by omega)).T) k) = (floorA ((l[i]'(by omega)).T) k)))) := hRw119 20 47 rfl
    refine then_n ?_
    rcases Bool.eq_false_or_eq_true (decide ((floorA ((l[n]'(by omega)).T) k) = (floorA ((l[i]'(by omega)).T) k))) with b120 | b120
    ·have c121 := of_decide_eq_true b120
     refine cE_cond true (uw119_47.trans (congrArg Value.bool b120)) (fun _ => ?_) (fun h => by cases h)
     refine cE_skip (then_n (cE_block (cE_region rfl (s_cons (op_move (iV (n : Int)) uw119_8 (s_cons (op_add (k := .i64) (a := (n : Int)) (b := 1) ((n : Int) + 1) rfl rfl (xi64 (by omega) (by omega)) (s_cons (op_assign (iV ((n : Int) + 1)) rfl (s_nil (block_n (then_n ?_))))))))))))
     exact ⟨_, ⟨(n + 1), rfl, uw119_0, uw119_1, uw119_7, uw119_6, (congrArg iV (show ((n : Int) + 1) = _ from by omega)), hst, (by omega), (by omega), (by exact hw0.trans (by rw [win_go (by omega) (by assumption)]; omega))⟩, (by simp only [id]; omega)⟩
    have c122 := of_decide_eq_false b120
    refine cE_cond false (uw119_47.trans (congrArg Value.bool b120)) (fun h => by cases h) (fun _ => ?_)
    refine cE_exit (then_x (then_x (block_hit (then_n (cE_seq ?_)))))
    have hw : winLen k (floorA ((l[i]'(by omega)).T) k) (l.drop i) = n - i := hw0.trans (by rw [win_no (by omega) (by assumption), Nat.add_zero])
    have hnp := win_pos' (k := k) (l := l) (i := i) (by omega)
    rw [hw] at hnp
    have hfr := floorA_r ((l[i]'(by omega)).T) k
    refine cE_regionM (fun (D : Nat → Bool) (w : World) => St w0 w [rowT 29 aggE vo out] ∧ (D 16 = false → St w0 w [rowT 29 aggE vo out]) ∧ (D 16 = true → St w0 w [rowT 29 aggE vo out])) [[(0, none)], [(7, none)], [(8, none)], [(51, some 0), (52, some 1), (53, some 2)], [(0, none)], [(7, none)], [(55, some 4), (56, some 5)], [(57, some 6)], [(58, some 7)], [(1, none)], [(59, some 8), (60, some 9)], [(54, some 3), (61, some 10)], [(62, some 11)], [(50, some 12)], [(50, some 12)], [], [(9, some 15), (63, some 13)], [(64, some 14)]] [16] [(kEq v_l), (kEq (iV (i : Int))), (kEq (iV (n : Int))), (kSl0 w0 sampE ((l.take n).drop i)), (kEq v_l), (kEq (iV (i : Int))), (kPt0 w0 [(iV ((l[i]'(by omega)).T)), (iV ((l[i]'(by omega)).V))]), (kPt0 w0 [(iV ((l[i]'(by omega)).T)), (iV ((l[i]'(by omega)).V))]), (kEq (iV ((l[i]'(by omega)).T))), (kEq (iV k)), (kEq (iV (floorA ((l[i]'(by omega)).T) k))), (kEq (.tuple #[(.agg (aggA ((allA ((l.take n).drop i) (floorA ((l[i]'(by omega)).T) k)).1))), (iV ((allA ((l.take n).drop i) (floorA ((l[i]'(by omega)).T) k)).2))])), (kEq (.tuple #[(.agg (aggA ((allA ((l.take n).drop i) (floorA ((l[i]'(by omega)).T) k)).1))), (iV ((allA ((l.take n).drop i) (floorA ((l[i]'(by omega)).T) k)).2))])), (kEq (.agg (aggA ((allA ((l.take n).drop i) (floorA ((l[i]'(by omega)).T) k)).1)))), (kEq (iV ((allA ((l.take n).drop i) (floorA ((l[i]'(by omega)).T) k)).2))), (fun (D : Nat → Bool) (v : Value) (w : World) => ∃ g130 : Nat, v = .pointer (some ⟨g130, 0, none⟩) ∧ (D 16 = false → St w0 w [.blk g130 29 #[(iV 0), (iV 0), (iV 0), (iV 0), (iV 0), (iV 0), (iV 0)], rowT 29 aggE vo out]) ∧ (D 16 = true → St w0 w [.blk g130 29 (aggA ((allA ((l.take n).drop i) (floorA ((l[i]'(by omega)).T) k)).1)), rowT 29 aggE vo out])), kAny, (kEq (iV ((allA ((l.take n).drop i) (floorA ((l[i]'(by omega)).T) k)).2)))] ⟨mEq, mEq, mEq, mSl0, mEq, mEq, mPt0, mPt0, mEq, mEq, mEq, mEq, mEq, mEq, mEq, (fun D D' v w w' hD hb ⟨g, h1, h2⟩ => ⟨g, h1, (fun x0 => (h2.1 ((hD 16 (by decide)).symm.trans x0)).ext hb), (fun x0 => (h2.2 ((hD 16 (by decide)).symm.trans x0)).ext hb)⟩), mAny, mEq, trivial⟩ (by kernel_rfl) rfl (by kernel_rfl) ⟨hst.drewW.sub (.cons_cons _ .slnil), (fun _ => hst.drewW), (fun h => absurd h Bool.false_ne_true)⟩ (fun hM => ⟨?_, ?_, ?_, ?_, ?_, ?_, ?_, ?_, ?_, ?_, ?_, ?_, ?_, ?_, ?_, ?_, ?_, ?_, trivial⟩) ?_
    ·rintro D ρo wo nD eD cD jD aD ⟨f0, _⟩
     exact go_plain (op_move v_l (f0.trans uw119_0) (kN0 (i := 0) hM (by decide) (by exact jD) (by exact rfl)))
    ·rintro D ρo wo nD eD cD jD aD ⟨f7, _⟩
     exact go_plain (op_move (iV (i : Int)) (f7.trans uw119_7) (kN0 (i := 1) hM (by decide) (by exact jD) (by exact rfl)))
    ·rintro D ρo wo nD eD cD jD aD ⟨f8, _⟩
     exact go_plain (op_move (iV (n : Int)) (f8.trans uw119_8) (kN0 (i := 2) hM (by decide) (by exact jD) (by exact rfl)))
    ·rintro D ρo wo nD eD cD jD aD ⟨f51, f52, f53, _⟩
     refine go_plain (op_slice_bothN i n (E := sampE) (xs := l) Try.underlying23 Try.sizeOf51 f51 h_l f52 f53 (by omega) (by omega) (by omega) (by omega) (fun v134 hs135 => ?_))
     exact (kN0 (i := 3) hM (by decide) (by exact jD) (by exact hs135))
    ·rintro D ρo wo nD eD cD jD aD ⟨f0, _⟩
     exact go_plain (op_move v_l (f0.trans uw119_0) (kN0 (i := 4) hM (by decide) (by exact jD) (by exact rfl)))
    ·rintro D ρo wo nD eD cD jD aD ⟨f7, _⟩
     exact go_plain (op_move (iV (i : Int)) (f7.trans uw119_7) (kN0 (i := 5) hM (by decide) (by exact jD) (by exact rfl)))
    ·rintro D ρo wo nD eD cD jD aD ⟨f55, f56, _⟩
     refine go_plain (op_indexAddrN (E := sampE) (xs := l) i Try.underlying23 Try.sizeOf51 f55 h_l f56 (by omega) (by omega) (fun a136 o137 p138 => ?_))
     exact (kN0 (i := 6) hM (by decide) (by exact jD) (by exact ⟨_, _, rfl, p138⟩))
    ·rintro D ρo wo nD eD cD jD aD ⟨f57, _⟩
     obtain ⟨a139, o140, e141, p142⟩ := f57
     exact go_plain (op_fieldAddr (s := 0) Try.underlying51 rfl rfl Try.sizeOf2 e141 (kN0 (i := 7) hM (by decide) (by exact jD) (by exact ⟨_, _, rfl, p142⟩)))
    ·rintro D ρo wo nD eD cD jD aD ⟨f58, _⟩
     have hst := jD.2.1 (not_yet nD (fun hm => (cD 16 8 hm (by kernel_rfl))))
     obtain ⟨a143, o144, e145, p146⟩ := f58
     exact go_plain (op_load1 (u := (iV ((l[i]'(by omega)).T))) Try.isAgg2 e145 (p146.below hst.below) (kN0 (i := 8) hM (by decide) (by exact jD) (by exact rfl)))
    ·rintro D ρo wo nD eD cD jD aD ⟨f1, _⟩
     exact go_plain (op_move (iV k) (f1.trans uw119_1) (kN0 (i := 9) hM (by decide) (by exact jD) (by exact rfl)))
    ·rintro D ρo wo nD eD cD jD aD ⟨f59, f60, _⟩
     refine go_plain (op_call Try.call31 (evs_cons (v := (iV ((l[i]'(by omega)).T))) f59 (evs_cons (v := (iV k)) f60 evs_nil)) (c_rFloor (w0 := wo) (t := (l[i]'(by omega)).T) (k := k) (t0 := (hl _ (List.getElem_mem _)).1.1) (k0 := (by omega)) (t1 := (hl _ (List.getElem_mem _)).1.2) (k1 := (by omega))) ?_)
     rintro _ w147 ⟨rfl, hcall⟩
     refine ⟨_, rfl, ?_⟩
     exact kN (i := 10) hM (by decide) hcall.below (by exact ⟨(jD.1).ext hcall.below, (fun x0 => (jD.2.1 x0).ext hcall.below), (fun x0 => (jD.2.2 x0).ext hcall.below)⟩) (by exact rfl)
    ·rintro D ρo wo nD eD cD jD aD ⟨f54, f61, _⟩
     have hst := jD.2.1 (not_yet nD (fun hm => (cD 16 11 hm (by kernel_rfl))))
     obtain ⟨v149, e150⟩ : ∃ x, ρo 54 = x := ⟨_, rfl⟩
     have hs148 := f54
     replace hs148 : Sl w0 sampE v149 ((l.take n).drop i) := e150 ▸ hs148
     refine go_plain (op_call Try.call33 (evs_cons (v := v149) e150 (evs_cons (v := (iV (floorA ((l[i]'(by omega)).T) k))) f61 evs_nil)) (c_rAll (w0 := wo) (v_l := v149) (l := ((l.take n).drop i)) (h_l := (hs148.below hst.below)) (fr := (floorA ((l[i]'(by omega)).T) k)) (hl := (fun s h => hl s (List.mem_of_mem_take (List.mem_of_mem_drop h)))) (fr0 := (by omega)) (fr1 := (by omega)) (hn := (by simp; omega))) ?_)
     rintro _ w151 ⟨rfl, hcall⟩
     refine ⟨_, rfl, ?_⟩
     exact kN (i := 11) hM (by decide) hcall.below (by exact ⟨(jD.1).ext hcall.below, (fun x0 => (jD.2.1 x0).ext hcall.below), (fun x0 => (jD.2.2 x0).ext hcall.below)⟩) (by exact rfl)
    ·rintro D ρo wo nD eD cD jD aD ⟨f62, _⟩
     exact go_plain (op_move (.tuple #[(.agg (aggA ((allA ((l.take n).drop i) (floorA ((l[i]'(by omega)).T) k)).1))), (iV ((allA ((l.take n).drop i) (floorA ((l[i]'(by omega)).T) k)).2))]) f62 (kN0 (i := 12) hM (by decide) (by exact jD) (by exact rfl)))
    ·rintro D ρo wo nD eD cD jD aD ⟨f50, _⟩
     exact go_plain (op_extract (.agg (aggA ((allA ((l.take n).drop i) (floorA ((l[i]'(by omega)).T) k)).1))) f50 rfl (kN0 (i := 13) hM (by decide) (by exact jD) (by exact rfl)))
    ·rintro D ρo wo nD eD cD jD aD ⟨f50, _⟩
     exact go_plain (op_extract (iV ((allA ((l.take n).drop i) (floorA ((l[i]'(by omega)).T) k)).2)) f50 rfl (kN0 (i := 14) hM (by decide) (by exact jD) (by exact rfl)))
    ·rintro D ρo wo nD eD cD jD aD ⟨_⟩
     have hst := jD.2.1 (not_yet nD (fun hm => (cD 16 15 hm (by kernel_rfl))))
     have hst := St.start wo
     refine go_plain (op_alloc (cs := #[(iV 0), (iV 0), (iV 0), (iV 0), (iV 0), (iV 0), (iV 0)]) hst Try.zeroValue29 rfl (fun g152 w153 hst _ => ?_))
     exact kN (i := 15) hM (by decide) hst.below (by exact ⟨(jD.1).ext hst.below, (fun x0 => (jD.2.1 x0).ext hst.below), (fun x0 => (jD.2.2 x0).ext hst.below)⟩) (by exact ⟨_, rfl, (fun y0 => (jD.2.1 y0).call hst), (fun y0 => absurd (show D 16 = true from y0) (by rw [(not_yet nD (fun hm => (cD 16 15 hm (by kernel_rfl))))]; decide))⟩)
    ·rintro D ρo wo nD eD cD jD aD ⟨f9, f63, _⟩
     obtain ⟨g154, e155, hh156⟩ := aD 15 9 (eD 15 (by kernel_rfl)) rfl
     have hst : St w0 wo [.blk g154 29 #[(iV 0), (iV 0), (iV 0), (iV 0), (iV 0), (iV 0), (iV 0)], rowT 29 aggE vo out] := hh156.1 nD
     refine go_plain (op_storeAll hst 0 rfl Try.sizeOf29 e155 f63 rfl rfl (by simp [Value.oneCell']) (fun w157 hst => ?_))
     refine ⟨by exact ⟨hst.sub (.cons _ (.cons_cons _ .slnil)), (fun y0 => absurd y0 (fun h => Bool.noConfusion h)), (fun y0 => hst.sub (.cons _ (.cons_cons _ .slnil)))⟩, by exact trivial, kX [15] (by exact ⟨Or.inr (Or.inr (Or.inr iEq)), Or.inr (Or.inr (Or.inr iEq)), Or.inr (Or.inr (Or.inr iEq)), Or.inr (Or.inr (Or.inr iSl0)), Or.inr (Or.inr (Or.inr iEq)), Or.inr (Or.inr (Or.inr iEq)), Or.inr (Or.inr (Or.inr iPt0)), Or.inr (Or.inr (Or.inr iPt0)), Or.inr (Or.inr (Or.inr iEq)), Or.inr (Or.inr (Or.inr iEq)), Or.inr (Or.inr (Or.inr iEq)), Or.inr (Or.inr (Or.inr iEq)), Or.inr (Or.inr (Or.inr iEq)), Or.inr (Or.inr (Or.inr iEq)), Or.inr (Or.inr (Or.inr iEq)), Or.inr (Or.inl (by decide)), Or.inl rfl, Or.inr (Or.inr (Or.inl (not_yet nD (fun hm => (cD 17 16 hm (by kernel_rfl)))))), trivial⟩) ?_⟩
     intro j d hj hjd hDj h
     simp only [List.mem_cons, List.not_mem_nil, or_false] at hj
     subst hj
     obtain rfl : 9 = d := Option.some.inj hjd
     exact ⟨_, e155, (fun y0 => absurd y0 (fun h => Bool.noConfusion h)), (fun y0 => hst.sub (.cons_cons _ (.cons_cons _ .slnil)))⟩
    ·rintro D ρo wo nD eD cD jD aD ⟨f64, _⟩
     exact go_plain (op_assign (iV ((allA ((l.take n).drop i) (floorA ((l[i]'(by omega)).T) k)).2)) f64 (kN0 (i := 17) hM (by decide) (by exact jD) (by exact rfl)))
    intro ρ159 w160 Dw160 hallw160 hJw160 hRw160 hkw160
    obtain ⟨g161, uw160_9, hhw160⟩ := hRw160 15 9 rfl
    have hst : St w0 w160 [.blk g161 29 (aggA ((allA ((l.take n).drop i) (floorA ((l[i]'(by omega)).T) k)).1)), rowT 29 aggE vo out] := hhw160.2 (hallw160 16 (show 16 < 18 from by decide))
    have uw160_0 := (hkw160 0 rfl).trans uw119_0
    have uw160_1 := (hkw160 1 rfl).trans uw119_1
    have uw160_6 := (hkw160 6 rfl).trans uw119_6
    have uw160_8 := (hkw160 8 rfl).trans uw119_8
    have uw160_10 : ρ159 10 = (iV ((allA ((l.take n).drop i) (floorA ((l[i]'(by omega)).T) k)).2)) := hRw160 17 10 rfl
    refine then_n (cE_seq (cE_seq (cE_region rfl (s_cons (op_move (iV ((allA ((l.take n).drop i) (floorA ((l[i]'(by omega)).T) k)).2)) uw160_10 (s_cons (op_neq (k := .i64) (a := (allA ((l.take n).drop i) (floorA ((l[i]'(by omega)).T) k)).2) (b := 0) rfl rfl (s_nil (then_n ?_)))))))))
    rcases Bool.eq_false_or_eq_true (decide (((allA ((l.take n).drop i) (floorA ((l[i]'(by omega)).T) k)).2) = 0)) with b162 | b162
    ·have c163 := of_decide_eq_true b162
     refine cE_cond false (congrArg Value.bool (congrArg (! ·) b162)) (fun h => by cases h) (fun _ => ?_)
     refine cE_skip (then_n (cE_seq (cE_region rfl (s_cons (op_move vo uw160_6 (s_cons (op_loadN (cs := (aggC ((allA ((l.take n).drop i) (floorA ((l[i]'(by omega)).T) k)).1))) Try.isAgg29 Try.sizeOf29 uw160_9 (Pt.of (hst.cell 0 rfl) rfl) rfl (s_cons (op_buildSlice (E := aggE) [((allA ((l.take n).drop i) (floorA ((l[i]'(by omega)).T) k)).1)] hst Try.underlying74 Try.sizeOf29 Try.zeroValue29 (evp_cons (v := (.agg (aggA ((allA ((l.take n).drop i) (floorA ((l[i]'(by omega)).T) k)).1)))) rfl evp_nil) (parts_cons rfl parts_nil) rfl (by decide) (fun v164 w165 hst => ?_))))))))))
     refine s_cons (op_append (E := aggE) (xs := out) (ys := [((allA ((l.take n).drop i) (floorA ((l[i]'(by omega)).T) k)).1)]) (z := (.agg #[(iV 0), (iV 0), (iV 0), (iV 0), (iV 0), (iV 0), (iV 0)])) (bytes := 56) hst 2 rfl Try.underlying74 (by kernel_rfl) rfl rfl rfl (hst.sl 0 rfl) (by (simp; omega)) (by (simp; omega)) (fun v166 w167 hst => ?_))
     refine s_cons (op_assign v166 rfl (s_nil (then_n (cE_region rfl (s_cons (op_move (iV (n : Int)) uw160_8 (s_cons (op_assign (iV (n : Int)) rfl (s_nil (block_n (then_n ?_)))))))))))
     exact ⟨_, ⟨v166, (out ++ ([((allA ((l.take n).drop i) (floorA ((l[i]'(by omega)).T) k)).1)])), (f - 1), n, rfl, uw160_0, uw160_1, rfl, rfl, (hst.sub (.cons _ (.cons _ (.cons_cons _ .slnil)))), (by omega), (by omega), (by (simp; omega)), (by exact hI.trans (rrw_go (by omega) hf hw (by assumption) (by omega)))⟩, (by simp only [id]; omega)⟩
    have c168 := of_decide_eq_false b162
    refine cE_cond true (congrArg Value.bool (congrArg (! ·) b162)) (fun _ => ?_) (fun h => by cases h)
    refine cE_seq (cE_region rfl (s_cons (op_move (iV ((allA ((l.take n).drop i) (floorA ((l[i]'(by omega)).T) k)).2)) uw160_10 (s_cons (op_assign nS rfl (s_cons (op_assign (iV ((allA ((l.take n).drop i) (floorA ((l[i]'(by omega)).T) k)).2)) rfl (s_nil (then_n (cE_ret (then_r (block_r (then_r (block_r (then_r (post_r _ (res2 (v := nS) rfl (x := (iV ((allA ((l.take n).drop i) (floorA ((l[i]'(by omega)).T) k)).2))) rfl) ?_))))))))))))))))
    replace hst := hst.nilRow 29 aggE
    have e169 : [] = (rawA l k).1 := by exact (congrArg Prod.fst (hI.trans (rrw_stop (by omega) hf hw (by assumption)))).symm
    replace hst : St w0 w160 [rowT 29 aggE nS ((rawA l k).1), .blk g161 29 (aggA ((allA ((l.take n).drop i) (floorA ((l[i]'(by omega)).T) k)).1)), rowT 29 aggE vo out] := by rw [congrArg (fun l => rowT 29 aggE nS l) e169] at hst; exact hst
    exact ⟨nS, (retv2 rfl (congrArg iV (show (allA ((l.take n).drop i) (floorA ((l[i]'(by omega)).T) k)).2 = (rawA l k).2 from by exact (congrArg Prod.snd (hI.trans (rrw_stop (by omega) hf hw (by assumption)))).symm))), hst.sub (.cons_cons _ (.cons _ (.cons _ .slnil)))⟩
   have c170 := of_decide_eq_false b21
   refine cE_regionL hst [[(8, none)], [(0, none)], [(28, some 1)], [(27, some 0), (29, some 2)], [(30, some 3)], [(0, none), (31, some 4)], [(8, none), (31, some 4)], [(32, some 5), (33, some 6), (31, some 4)], [(34, some 7), (31, some 4)], [(35, some 8), (31, some 4)], [(1, none), (31, some 4)], [(36, some 9), (37, some 10), (31, some 4)], [(0, none), (31, some 4)], [(7, none), (31, some 4)], [(39, some 12), (40, some 13), (31, some 4)], [(41, some 14), (31, some 4)], [(42, some 15), (31, some 4)], [(1, none), (31, some 4)], [(43, some 16), (44, some 17), (31, some 4)], [(38, some 11), (45, some 18), (31, some 4)], [(31, some 4), (46, some 19)]] [(rEq (iV (n : Int))), (rEq v_l), (rEq (iV (l.length : Int))), (rEq (.bool (decide ((n : Int) < (l.length : Int))))), (rEq (.bool (decide ((n : Int) < (l.length : Int))))), (rEq undef), (rEq undef), (rEq undef), (rEq undef), (rEq undef), (rEq undef), (rEq undef), (rEq undef), (rEq undef), (rEq undef), (rEq undef), (rEq undef), (rEq undef), (rEq undef), (rEq undef), (rEq (.bool false))] (by kernel_rfl) rfl (by kernel_rfl) ⟨sEq, sEq, sEq, sEq, sEq, sEq, sEq, sEq, sEq, sEq, sEq, sEq, sEq, sEq, sEq, sEq, sEq, sEq, sEq, sEq, sEq, trivial⟩ ⟨?_, ?_, ?_, ?_, ?_, ?_, ?_, ?_, ?_, ?_, ?_, ?_, ?_, ?_, ?_, ?_, ?_, ?_, ?_, ?_, ?_, trivial⟩ ?_
   ·rintro ρ171 w172 hj173 ⟨f8, _⟩
    have hst := hj173.2
    exact go_plain (op_move (iV (n : Int)) (f8.trans q17_8) (kS hj173 rfl))
   ·rintro ρ174 w175 hj176 ⟨f0, _⟩
    have hst := hj176.2
    exact go_plain (op_move v_l (f0.trans q17_0) (kS hj176 rfl))
   ·rintro ρ177 w178 hj179 ⟨f28, _⟩
    have hst := hj179.2
    exact go_plain (op_len (E := sampE) (xs := l) Try.underlying23 f28 h_l (kS hj179 rfl))
   ·rintro ρ180 w181 hj182 ⟨f27, f29, _⟩
    have hst := hj182.2
    exact go_plain (op_lss (k := .i64) (a := (n : Int)) (b := (l.length : Int)) f27 f29 (kS hj182 rfl))
   ·rintro ρ183 w184 hj185 ⟨f30, _⟩
    have hst := hj185.2
    exact go_plain (op_move (.bool (decide ((n : Int) < (l.length : Int)))) f30 (kS hj185 rfl))
   ·rintro ρ186 w187 hj188 ⟨f0, f31, _⟩
    have hst := hj188.2
    exact go_no 31 rfl (f31.trans (congrArg Value.bool b21)) (kS hj188 rfl)
   ·rintro ρ189 w190 hj191 ⟨f8, f31, _⟩
    have hst := hj191.2
    exact go_no 31 rfl (f31.trans (congrArg Value.bool b21)) (kS hj191 rfl)
   ·rintro ρ192 w193 hj194 ⟨f32, f33, f31, _⟩
    have hst := hj194.2
    exact go_no 31 rfl (f31.trans (congrArg Value.bool b21)) (kS hj194 rfl)
   ·rintro ρ195 w196 hj197 ⟨f34, f31, _⟩
    have hst := hj197.2
    exact go_no 31 rfl (f31.trans (congrArg Value.bool b21)) (kS hj197 rfl)
   ·rintro ρ198 w199 hj200 ⟨f35, f31, _⟩
    have hst := hj200.2
    exact go_no 31 rfl (f31.trans (congrArg Value.bool b21)) (kS hj200 rfl)
   ·rintro ρ201 w202 hj203 ⟨f1, f31, _⟩
    have hst := hj203.2
    exact go_no 31 rfl (f31.trans (congrArg Value.bool b21)) (kS hj203 rfl)
   ·rintro ρ204 w205 hj206 ⟨f36, f37, f31, _⟩
    have hst := hj206.2
    exact go_no 31 rfl (f31.trans (congrArg Value.bool b21)) (kS hj206 rfl)
   ·rintro ρ207 w208 hj209 ⟨f0, f31, _⟩
    have hst := hj209.2
    exact go_no 31 rfl (f31.trans (congrArg Value.bool b21)) (kS hj209 rfl)
   ·rintro ρ210 w211 hj212 ⟨f7, f31, _⟩
    have hst := hj212.2
    exact go_no 31 rfl (f31.trans (congrArg Value.bool b21)) (kS hj212 rfl)
   ·rintro ρ213 w214 hj215 ⟨f39, f40, f31, _⟩
    have hst := hj215.2
    exact go_no 31 rfl (f31.trans (congrArg Value.bool b21)) (kS hj215 rfl)
   ·rintro ρ216 w217 hj218 ⟨f41, f31, _⟩
    have hst := hj218.2
    exact go_no 31 rfl (f31.trans (congrArg Value.bool b21)) (kS hj218 rfl)
   ·rintro ρ219 w220 hj221 ⟨f42, f31, _⟩
    have hst := hj221.2
    exact go_no 31 rfl (f31.trans (congrArg Value.bool b21)) (kS hj221 rfl)
   ·rintro ρ222 w223 hj224 ⟨f1, f31, _⟩
    have hst := hj224.2
    exact go_no 31 rfl (f31.trans (congrArg Value.bool b21)) (kS hj224 rfl)
   ·rintro ρ225 w226 hj227 ⟨f43, f44, f31, _⟩
    have hst := hj227.2
    exact go_no 31 rfl (f31.trans (congrArg Value.bool b21)) (kS hj227 rfl)
   ·rintro ρ228 w229 hj230 ⟨f38, f45, f31, _⟩
    have hst := hj230.2
    exact go_no 31 rfl (f31.trans (congrArg Value.bool b21)) (kS hj230 rfl)
   ·rintro ρ231 w232 hj233 ⟨f31, f46, _⟩
    have hst := hj233.2
    exact go_plain (op_pick_f (.bool false) (f31.trans (congrArg Value.bool b21)) rfl (kS hj233 rfl))
   intro ρ234 w235 hbw235 hst hRw235 hkw235
   have uw235_0 := (hkw235 0 rfl).trans q17_0
   have uw235_1 := (hkw235 1 rfl).trans q17_1
   have uw235_7 := (hkw235 7 rfl).trans q17_7
   have uw235_6 := (hkw235 6 rfl).trans q17_6
   have uw235_8 := (hkw235 8 rfl).trans q17_8
   have uw235_47 : ρ234 47 = (.bool false) := hRw235 20 47 rfl
   refine then_n (cE_cond false uw235_47 (fun h => by cases h) (fun _ => ?_))
   refine cE_exit (then_x (then_x (block_hit (then_n (cE_seq ?_)))))
   have hw : winLen k (floorA ((l[i]'(by omega)).T) k) (l.drop i) = n - i := hw0.trans (by rw [win_end (by omega), Nat.add_zero])
   have hnp := win_pos' (k := k) (l := l) (i := i) (by omega)
   rw [hw] at hnp
   have hfr := floorA_r ((l[i]'(by omega)).T) k
   refine cE_regionM (fun (D : Nat → Bool) (w : World) => St w0 w [rowT 29 aggE vo out] ∧ (D 16 = false → St w0 w [rowT 29 aggE vo out]) ∧ (D 16 = true → St w0 w [rowT 29 aggE vo out])) [[(0, none)], [(7, none)], [(8, none)], [(51, some 0), (52, some 1), (53, some 2)], [(0, none)], [(7, none)], [(55, some 4), (56, some 5)], [(57, some 6)], [(58, some 7)], [(1, none)], [(59, some 8), (60, some 9)], [(54, some 3), (61, some 10)], [(62, some 11)], [(50, some 12)], [(50, some 12)], [], [(9, some 15), (63, some 13)], [(64, some 14)]] [16] [(kEq v_l), (kEq (iV (i : Int))), (kEq (iV (n : Int))), (kSl0 w0 sampE ((l.take n).drop i)), (kEq v_l), (kEq (iV (i : Int))), (kPt0 w0 [(iV ((l[i]'(by omega)).T)), (iV ((l[i]'(by omega)).V))]), (kPt0 w0 [(iV ((l[i]'(by omega)).T)), (iV ((l[i]'(by omega)).V))]), (kEq (iV ((l[i]'(by omega)).T))), (kEq (iV k)), (kEq (iV (floorA ((l[i]'(by omega)).T) k))), (kEq (.tuple #[(.agg (aggA ((allA ((l.take n).drop i) (floorA ((l[i]'(by omega)).T) k)).1))), (iV ((allA ((l.take n).drop i) (floorA ((l[i]'(by omega)).T) k)).2))])), (kEq (.tuple #[(.agg (aggA ((allA ((l.take n).drop i) (floorA ((l[i]'(by omega)).T) k)).1))), (iV ((allA ((l.take n).drop i) (floorA ((l[i]'(by omega)).T) k)).2))])), (kEq (.agg (aggA ((allA ((l.take n).drop i) (floorA ((l[i]'(by omega)).T) k)).1)))), (kEq (iV ((allA ((l.take n).drop i) (floorA ((l[i]'(by omega)).T) k)).2))), (fun (D : Nat → Bool) (v : Value) (w : World) => ∃ g243 : Nat, v = .pointer (some ⟨g243, 0, none⟩) ∧ (D 16 = false → St w0 w [.blk g243 29 #[(iV 0), (iV 0), (iV 0), (iV 0), (iV 0), (iV 0), (iV 0)], rowT 29 aggE vo out]) ∧ (D 16 = true → St w0 w [.blk g243 29 (aggA ((allA ((l.take n).drop i) (floorA ((l[i]'(by omega)).T) k)).1)), rowT 29 aggE vo out])), kAny, (kEq (iV ((allA ((l.take n).drop i) (floorA ((l[i]'(by omega)).T) k)).2)))] ⟨mEq, mEq, mEq, mSl0, mEq, mEq, mPt0, mPt0, mEq, mEq, mEq, mEq, mEq, mEq, mEq, (fun D D' v w w' hD hb ⟨g, h1, h2⟩ => ⟨g, h1, (fun x0 => (h2.1 ((hD 16 (by decide)).symm.trans x0)).ext hb), (fun x0 => (h2.2 ((hD 16 (by decide)).symm.trans x0)).ext hb)⟩), mAny, mEq, trivial⟩ (by kernel_rfl) rfl (by kernel_rfl) ⟨hst.drewW.sub (.cons_cons _ .slnil), (fun _ => hst.drewW), (fun h => absurd h Bool.false_ne_true)⟩ (fun hM => ⟨?_, ?_, ?_, ?_, ?_, ?_, ?_, ?_, ?_, ?_, ?_, ?_, ?_, ?_, ?_, ?_, ?_, ?_, trivial⟩) ?_
   ·rintro D ρo wo nD eD cD jD aD ⟨f0, _⟩
    exact go_plain (op_move v_l (f0.trans uw235_0) (kN0 (i := 0) hM (by decide) (by exact jD) (by exact rfl)))
   ·rintro D ρo wo nD eD cD jD aD ⟨f7, _⟩
    exact go_plain (op_move (iV (i : Int)) (f7.trans uw235_7) (kN0 (i := 1) hM (by decide) (by exact jD) (by exact rfl)))
   ·rintro D ρo wo nD eD cD jD aD ⟨f8, _⟩
    exact go_plain (op_move (iV (n : Int)) (f8.trans uw235_8) (kN0 (i := 2) hM (by decide) (by exact jD) (by exact rfl)))
   ·rintro D ρo wo nD eD cD jD aD ⟨f51, f52, f53, _⟩
    refine go_plain (op_slice_bothN i n (E := sampE) (xs := l) Try.underlying23 Try.sizeOf51 f51 h_l f52 f53 (by omega) (by omega) (by omega) (by omega) (fun v247 hs248 => ?_))
    exact (kN0 (i := 3) hM (by decide) (by exact jD) (by exact hs248))
   ·rintro D ρo wo nD eD cD jD aD ⟨f0, _⟩
    exact go_plain (op_move v_l (f0.trans uw235_0) (kN0 (i := 4) hM (by decide) (by exact jD) (by exact rfl)))
   ·rintro D ρo wo nD eD cD jD aD ⟨f7, _⟩
    exact go_plain (op_move (iV (i : Int)) (f7.trans uw235_7) (kN0 (i := 5) hM (by decide) (by exact jD) (by exact rfl)))
   ·rintro D ρo wo nD eD cD jD aD ⟨f55, f56, _⟩
    refine go_plain (op_indexAddrN (E := sampE) (xs := l) i Try.underlying23 Try.sizeOf51 f55 h_l f56 (by omega) (by omega) (fun a249 o250 p251 => ?_))
    exact (kN0 (i := 6) hM (by decide) (by exact jD) (by exact ⟨_, _, rfl, p251⟩))
   ·rintro D ρo wo nD eD cD jD aD ⟨f57, _⟩
    obtain ⟨a252, o253, e254, p255⟩ := f57
    exact go_plain (op_fieldAddr (s := 0) Try.underlying51 rfl rfl Try.sizeOf2 e254 (kN0 (i := 7) hM (by decide) (by exact jD) (by exact ⟨_, _, rfl, p255⟩)))
   ·rintro D ρo wo nD eD cD jD aD ⟨f58, _⟩
    have hst := jD.2.1 (not_yet nD (fun hm => (cD 16 8 hm (by kernel_rfl))))
    obtain ⟨a256, o257, e258, p259⟩ := f58
    exact go_plain (op_load1 (u := (iV ((l[i]'(by omega)).T))) Try.isAgg2 e258 (p259.below hst.below) (kN0 (i := 8) hM (by decide) (by exact jD) (by exact rfl)))
   ·rintro D ρo wo nD eD cD jD aD ⟨f1, _⟩
    exact go_plain (op_move (iV k) (f1.trans uw235_1) (kN0 (i := 9) hM (by decide) (by exact jD) (by exact rfl)))
   ·rintro D ρo wo nD eD cD jD aD ⟨f59, f60, _⟩
    refine go_plain (op_call Try.call31 (evs_cons (v := (iV ((l[i]'(by omega)).T))) f59 (evs_cons (v := (iV k)) f60 evs_nil)) (c_rFloor (w0 := wo) (t := (l[i]'(by omega)).T) (k := k) (t0 := (hl _ (List.getElem_mem _)).1.1) (k0 := (by omega)) (t1 := (hl _ (List.getElem_mem _)).1.2) (k1 := (by omega))) ?_)
    rintro _ w260 ⟨rfl, hcall⟩
    refine ⟨_, rfl, ?_⟩
    exact kN (i := 10) hM (by decide) hcall.below (by exact ⟨(jD.1).ext hcall.below, (fun x0 => (jD.2.1 x0).ext hcall.below), (fun x0 => (jD.2.2 x0).ext hcall.below)⟩) (by exact rfl)
   ·rintro D ρo wo nD eD cD jD aD ⟨f54, f61, _⟩
    have hst := jD.2.1 (not_yet nD (fun hm => (cD 16 11 hm (by kernel_rfl))))
    obtain ⟨v262, e263⟩ : ∃ x, ρo 54 = x := ⟨_, rfl⟩
    have hs261 := f54
    replace hs261 : Sl w0 sampE v262 ((l.take n).drop i) := e263 ▸ hs261
    refine go_plain (op_call Try.call33 (evs_cons (v := v262) e263 (evs_cons (v := (iV (floorA ((l[i]'(by omega)).T) k))) f61 evs_nil)) (c_rAll (w0 := wo) (v_l := v262) (l := ((l.take n).drop i)) (h_l := (hs261.below hst.below)) (fr := (floorA ((l[i]'(by omega)).T) k)) (hl := (fun s h => hl s (List.mem_of_mem_take (List.mem_of_mem_drop h)))) (fr0 := (by omega)) (fr1 := (by omega)) (hn := (by simp; omega))) ?_)
    rintro _ w264 ⟨rfl, hcall⟩
    refine ⟨_, rfl, ?_⟩
    exact kN (i := 11) hM (by decide) hcall.below (by exact ⟨(jD.1).ext hcall.below, (fun x0 => (jD.2.1 x0).ext hcall.below), (fun x0 => (jD.2.2 x0).ext hcall.below)⟩) (by exact rfl)
   ·rintro D ρo wo nD eD cD jD aD ⟨f62, _⟩
    exact go_plain (op_move (.tuple #[(.agg (aggA ((allA ((l.take n).drop i) (floorA ((l[i]'(by omega)).T) k)).1))), (iV ((allA ((l.take n).drop i) (floorA ((l[i]'(by omega)).T) k)).2))]) f62 (kN0 (i := 12) hM (by decide) (by exact jD) (by exact rfl)))
   ·rintro D ρo wo nD eD cD jD aD ⟨f50, _⟩
    exact go_plain (op_extract (.agg (aggA ((allA ((l.take n).drop i) (floorA ((l[i]'(by omega)).T) k)).1))) f50 rfl (kN0 (i := 13) hM (by decide) (by exact jD) (by exact rfl)))
   ·rintro D ρo wo nD eD cD jD aD ⟨f50, _⟩
    exact go_plain (op_extract (iV ((allA ((l.take n).drop i) (floorA ((l[i]'(by omega)).T) k)).2)) f50 rfl (kN0 (i := 14) hM (by decide) (by exact jD) (by exact rfl)))
   ·rintro D ρo wo nD eD cD jD aD ⟨_⟩
    have hst := jD.2.1 (not_yet nD (fun hm => (cD 16 15 hm (by kernel_rfl))))
    have hst := St.start wo
    refine go_plain (op_alloc (cs := #[(iV 0), (iV 0), (iV 0), (iV 0), (iV 0), (iV 0), (iV 0)]) hst Try.zeroValue29 rfl (fun g265 w266 hst _ => ?_))
    exact kN (i := 15) hM (by decide) hst.below (by exact ⟨(jD.1).ext hst.below, (fun x0 => (jD.2.1 x0).ext hst.below), (fun x0 => (jD.2.2 x0).ext hst.below)⟩) (by exact ⟨_, rfl, (fun y0 => (jD.2.1 y0).call hst), (fun y0 => absurd (show D 16 = true from y0) (by rw [(not_yet nD (fun hm => (cD 16 15 hm (by kernel_rfl))))]; decide))⟩)
   ·rintro D ρo wo nD eD cD jD aD ⟨f9, f63, _⟩
    obtain ⟨g267, e268, hh269⟩ := aD 15 9 (eD 15 (by kernel_rfl)) rfl
    have hst : St w0 wo [.blk g267 29 #[(iV 0), (iV 0), (iV 0), (iV 0), (iV 0), (iV 0), (iV 0)], rowT 29 aggE vo out] := hh269.1 nD
    refine go_plain (op_storeAll hst 0 rfl Try.sizeOf29 e268 f63 rfl rfl (by simp [Value.oneCell']) (fun w270 hst => ?_))
    refine ⟨by exact ⟨hst.sub (.cons _ (.cons_cons _ .slnil)), (fun y0 => absurd y0 (fun h => Bool.noConfusion h)), (fun y0 => hst.sub (.cons _ (.cons_cons _ .slnil)))⟩, by exact trivial, kX [15] (by exact ⟨Or.inr (Or.inr (Or.inr iEq)), Or.inr (Or.inr (Or.inr iEq)), Or.inr (Or.inr (Or.inr iEq)), Or.inr (Or.inr (Or.inr iSl0)), Or.inr (Or.inr (Or.inr iEq)), Or.inr (Or.inr (Or.inr iEq)), Or.inr (Or.inr (Or.inr iPt0)), Or.inr (Or.inr (Or.inr iPt0)), Or.inr (Or.inr (Or.inr iEq)), Or.inr (Or.inr (Or.inr iEq)), Or.inr (Or.inr (Or.inr iEq)), Or.inr (Or.inr (Or.inr iEq)), Or.inr (Or.inr (Or.inr iEq)), Or.inr (Or.inr (Or.inr iEq)), Or.inr (Or.inr (Or.inr iEq)), Or.inr (Or.inl (by decide)), Or.inl rfl, Or.inr (Or.inr (Or.inl (not_yet nD (fun hm => (cD 17 16 hm (by kernel_rfl)))))), trivial⟩) ?_⟩
    intro j d hj hjd hDj h
    simp only [List.mem_cons, List.not_mem_nil, or_false] at hj
    subst hj
    obtain rfl : 9 = d := Option.some.inj hjd
    exact ⟨_, e268, (fun y0 => absurd y0 (fun h => Bool.noConfusion h)), (fun y0 => hst.sub (.cons_cons _ (.cons_cons _ .slnil)))⟩
   ·rintro D ρo wo nD eD cD jD aD ⟨f64, _⟩
    exact go_plain (op_assign (iV ((allA ((l.take n).drop i) (floorA ((l[i]'(by omega)).T) k)).2)) f64 (kN0 (i := 17) hM (by decide) (by exact jD) (by exact rfl)))
   intro ρ272 w273 Dw273 hallw273 hJw273 hRw273 hkw273
   obtain ⟨g274, uw273_9, hhw273⟩ := hRw273 15 9 rfl
   have hst : St w0 w273 [.blk g274 29 (aggA ((allA ((l.take n).drop i) (floorA ((l[i]'(by omega)).T) k)).1)), rowT 29 aggE vo out] := hhw273.2 (hallw273 16 (show 16 < 18 from by decide))
   have uw273_0 := (hkw273 0 rfl).trans uw235_0
   have uw273_1 := (hkw273 1 rfl).trans uw235_1
   have uw273_6 := (hkw273 6 rfl).trans uw235_6
   have uw273_8 := (hkw273 8 rfl).trans uw235_8
   have uw273_10 : ρ272 10 = (iV ((allA ((l.take n).drop i) (floorA ((l[i]'(by omega)).T) k)).2)) := hRw273 17 10 rfl
   refine then_n (cE_seq (cE_seq (cE_region rfl (s_cons (op_move (iV ((allA ((l.take n).drop i) (floorA ((l[i]'(by omega)).T) k)).2)) uw273_10 (s_cons (op_neq (k := .i64) (a := (allA ((l.take n).drop i) (floorA ((l[i]'(by omega)).T) k)).2) (b := 0) rfl rfl (s_nil (then_n ?_)))))))))
   rcases Bool.eq_false_or_eq_true (decide (((allA ((l.take n).drop i) (floorA ((l[i]'(by omega)).T) k)).2) = 0)) with b275 | b275
   ·have c276 := of_decide_eq_true b275
    refine cE_cond false (congrArg Value.bool (congrArg (! ·) b275)) (fun h => by cases h) (fun _ => ?_)
    refine cE_skip (then_n (cE_seq (cE_region rfl (s_cons (op_move vo uw273_6 (s_cons (op_loadN (cs := (aggC ((allA ((l.take n).drop i) (floorA ((l[i]'(by omega)).T) k)).1))) Try.isAgg29 Try.sizeOf29 uw273_9 (Pt.of (hst.cell 0 rfl) rfl) rfl (s_cons (op_buildSlice (E := aggE) [((allA ((l.take n).drop i) (floorA ((l[i]'(by omega)).T) k)).1)] hst Try.underlying74 Try.sizeOf29 Try.zeroValue29 (evp_cons (v := (.agg (aggA ((allA ((l.take n).drop i) (floorA ((l[i]'(by omega)).T) k)).1)))) rfl evp_nil) (parts_cons rfl parts_nil) rfl (by decide) (fun v277 w278 hst => ?_))))))))))
    refine s_cons (op_append (E := aggE) (xs := out) (ys := [((allA ((l.take n).drop i) (floorA ((l[i]'(by omega)).T) k)).1)]) (z := (.agg #[(iV 0), (iV 0), (iV 0), (iV 0), (iV 0), (iV 0), (iV 0)])) (bytes := 56) hst 2 rfl Try.underlying74 (by kernel_rfl) rfl rfl rfl (hst.sl 0 rfl) (by (simp; omega)) (by (simp; omega)) (fun v279 w280 hst => ?_))
    refine s_cons (op_assign v279 rfl (s_nil (then_n (cE_region rfl (s_cons (op_move (iV (n : Int)) uw273_8 (s_cons (op_assign (iV (n : Int)) rfl (s_nil (block_n (then_n ?_)))))))))))
    exact ⟨_, ⟨v279, (out ++ ([((allA ((l.take n).drop i) (floorA ((l[i]'(by omega)).T) k)).1)])), (f - 1), n, rfl, uw273_0, uw273_1, rfl, rfl, (hst.sub (.cons _ (.cons _ (.cons_cons _ .slnil)))), (by omega), (by omega), (by (simp; omega)), (by exact hI.trans (rrw_go (by omega) hf hw (by assumption) (by omega)))⟩, (by simp only [id]; omega)⟩
   have c281 := of_decide_eq_false b275
   refine cE_cond true (congrArg Value.bool (congrArg (! ·) b275)) (fun _ => ?_) (fun h => by cases h)
   refine cE_seq (cE_region rfl (s_cons (op_move (iV ((allA ((l.take n).drop i) (floorA ((l[i]'(by omega)).T) k)).2)) uw273_10 (s_cons (op_assign nS rfl (s_cons (op_assign (iV ((allA ((l.take n).drop i) (floorA ((l[i]'(by omega)).T) k)).2)) rfl (s_nil (then_n (cE_ret (then_r (block_r (then_r (block_r (then_r (post_r _ (res2 (v := nS) rfl (x := (iV ((allA ((l.take n).drop i) (floorA ((l[i]'(by omega)).T) k)).2))) rfl) ?_))))))))))))))))
   replace hst := hst.nilRow 29 aggE
   have e282 : [] = (rawA l k).1 := by exact (congrArg Prod.fst (hI.trans (rrw_stop (by omega) hf hw (by assumption)))).symm
   replace hst : St w0 w273 [rowT 29 aggE nS ((rawA l k).1), .blk g274 29 (aggA ((allA ((l.take n).drop i) (floorA ((l[i]'(by omega)).T) k)).1)), rowT 29 aggE vo out] := by rw [congrArg (fun l => rowT 29 aggE nS l) e282] at hst; exact hst
   exact ⟨nS, (retv2 rfl (congrArg iV (show (allA ((l.take n).drop i) (floorA ((l[i]'(by omega)).T) k)).2 = (rawA l k).2 from by exact (congrArg Prod.snd (hI.trans (rrw_stop (by omega) hf hw (by assumption)))).symm))), hst.sub (.cons_cons _ (.cons _ (.cons _ .slnil)))⟩
  have c283 := of_decide_eq_false b15
  refine cE_cond false (congrArg Value.bool b15) (fun h => by cases h) (fun _ => ?_)
  refine cE_exit (then_x (then_x (block_hit (then_n (cE_seq (cE_region rfl (s_cons (op_move vo q11_6 (s_cons (op_assign vo rfl (s_cons (op_assign (iV 0) rfl (s_nil (then_n (cE_ret (post_r _ (res2 (v := vo) rfl (x := (iV 0)) rfl) ?_))))))))))))))))
  have e284 : out = (rawA l k).1 := by exact (congrArg Prod.fst (hI.trans (rrw_end (by omega)))).symm
  replace hst : St w0 w14 [rowT 29 aggE vo ((rawA l k).1)] := by rw [congrArg (fun l => rowT 29 aggE vo l) e284] at hst; exact hst
  exact ⟨vo, (retv2 rfl (congrArg iV (show 0 = (rawA l k).2 from by exact (congrArg Prod.snd (hI.trans (rrw_end (by omega)))).symm))), hst.sub (.cons_cons _ .slnil)⟩
 refine cE_cond true (congrArg Value.bool (congrArg (! ·) b10)) (fun _ => ?_) (fun h => by cases h)
 refine cE_seq (cE_region rfl (s_cons (op_assign nS rfl (s_cons (op_assign (iV 1) rfl (s_nil (then_n (cE_ret (then_r (post_r _ (res2 (v := nS) rfl (x := (iV 1)) rfl) ?_))))))))))
 replace hst := hst.nilRow 29 aggE
 have e285 : [] = (rawA l k).1 := by exact (congrArg Prod.fst (raw_none (Or.inl (by assumption)))).symm
 replace hst : St w0 w9 [rowT 29 aggE nS ((rawA l k).1)] := by rw [congrArg (fun l => rowT 29 aggE nS l) e285] at hst; exact hst
 exact ⟨nS, (retv2 rfl (congrArg iV (show 1 = (rawA l k).2 from by exact (congrArg Prod.snd (raw_none (Or.inl (by assumption)))).symm))), hst.sub (.cons_cons _ .slnil)⟩

set_option maxRecDepth 8000 in
set_option maxHeartbeats 8000000 in
theorem c_rDown (w0 : World) (v_l : Value) (l : List Agg) (h_l : Sl w0 aggE v_l l) (k : Int) (hl : ∀ s ∈ l, s.ok) (hn : l.length ≤ 1000000) (k0 : -9223372036854775808 ≤ k) (k1 : k ≤ 9223372036854775807) :
  Calls Try.prog 50 #[v_l, (iV k)] w0 fun e w' => ∃ (r : Value), e = .returned (.tuple #[r, (iV ((downA l k).2))]) ∧ St w0 w' [rowT 29 aggE r ((downA l k).1)] := by
 refine calls_E (n := 77) (ts := [4, 5]) Try.func50 rfl rfl rfl (by simp) ?_
 have hst := St.start w0
 refine cE_seq (cE_region rfl (s_cons (op_assign nS rfl (s_cons (op_assign (iV 0) rfl (s_nil (then_n (cE_seq (cE_seq (cE_region rfl (s_cons (op_move (iV k) rfl (s_cons (op_lss (k := .i64) (a := k) (b := 2) rfl rfl (s_cons (op_move (.bool (decide (k < 2))) rfl ?_))))))))))))))))
 rcases Bool.eq_false_or_eq_true (decide (k < 2)) with b286 | b286
 ·have c287 := of_decide_eq_true b286
  refine s_no 14 rfl (congrArg Value.bool b286) (s_no 14 rfl (congrArg Value.bool b286) (s_cons (op_pick_t (.bool true) (congrArg Value.bool b286) rfl (s_cons (op_move (.bool true) rfl (s_no 18 rfl rfl (s_no 18 rfl rfl (s_no 18 rfl rfl (s_no 18 rfl rfl (s_no 18 rfl rfl (s_cons (op_pick_t (.bool true) rfl rfl (s_nil (then_n (cE_cond true rfl (fun _ => ?_) (fun h => by cases h))))))))))))))))
  refine cE_seq (cE_region rfl (s_cons (op_assign nS rfl (s_cons (op_assign (iV 1) rfl (s_nil (then_n (cE_ret (then_r (post_r _ (res2 (v := nS) rfl (x := (iV 1)) rfl) ?_))))))))))
  replace hst := hst.nilRow 29 aggE
  have e288 : [] = (downA l k).1 := by exact (congrArg Prod.fst (down_none (Or.inl (by omega)))).symm
  replace hst : St w0 w0 [rowT 29 aggE nS ((downA l k).1)] := by rw [congrArg (fun l => rowT 29 aggE nS l) e288] at hst; exact hst
  exact ⟨nS, (retv2 rfl (congrArg iV (show 1 = (downA l k).2 from by exact (congrArg Prod.snd (down_none (Or.inl (by omega)))).symm))), hst.sub (.cons_cons _ .slnil)⟩
 have c289 := of_decide_eq_false b286
 refine s_yes 14 rfl (congrArg Value.bool b286) (op_move (iV k) rfl (s_yes 14 rfl (congrArg Value.bool b286) (op_gtr (k := .i64) (a := k) (b := 3) rfl rfl (s_cons (op_pick_f (.bool (decide (3 < k))) (congrArg Value.bool b286) rfl (s_cons (op_move (.bool (decide (3 < k))) rfl ?_)))))))
 rcases Bool.eq_false_or_eq_true (decide (3 < k)) with b290 | b290
 ·have c291 := of_decide_eq_true b290
  refine s_no 18 rfl (congrArg Value.bool b290) (s_no 18 rfl (congrArg Value.bool b290) (s_no 18 rfl (congrArg Value.bool b290) (s_no 18 rfl (congrArg Value.bool b290) (s_no 18 rfl (congrArg Value.bool b290) (s_cons (op_pick_t (.bool true) (congrArg Value.bool b290) rfl (s_nil (then_n (cE_cond true rfl (fun _ => ?_) (fun h => by cases h))))))))))
  refine cE_seq (cE_region rfl (s_cons (op_assign nS rfl (s_cons (op_assign (iV 1) rfl (s_nil (then_n (cE_ret (then_r (post_r _ (res2 (v := nS) rfl (x := (iV 1)) rfl) ?_))))))))))
  replace hst := hst.nilRow 29 aggE
  have e292 : [] = (downA l k).1 := by exact (congrArg Prod.fst (down_none (Or.inr (Or.inr (coarse_no (by omega)))))).symm
  replace hst : St w0 w0 [rowT 29 aggE nS ((downA l k).1)] := by rw [congrArg (fun l => rowT 29 aggE nS l) e292] at hst; exact hst
  exact ⟨nS, (retv2 rfl (congrArg iV (show 1 = (downA l k).2 from by exact (congrArg Prod.snd (down_none (Or.inr (Or.inr (coarse_no (by omega)))))).symm))), hst.sub (.cons_cons _ .slnil)⟩
 have c293 := of_decide_eq_false b290
 refine s_yes 18 rfl (congrArg Value.bool b290) (op_move v_l rfl (s_yes 18 rfl (congrArg Value.bool b290) (op_move (iV k) rfl (s_yes 18 rfl (congrArg Value.bool b290) (op_sub (k := .i64) (a := k) (b := 1) (k - 1) rfl rfl (xi64 (by omega) (by omega)) (s_yes 18 rfl (congrArg Value.bool b290) (op_call Try.call58 (evs_cons (v := v_l) rfl (evs_cons (v := (iV (k - 1))) rfl evs_nil)) (c_rAligned (w0 := w0) (v_l := v_l) (l := l) (h_l := (h_l.below hst.below)) (k := (k - 1)) (hl := hl) (k0 := (by omega)) (k1 := (by omega))) ?_)))))))
 rintro _ w294 ⟨rfl, hcall⟩
 refine ⟨_, rfl, ?_⟩
 have hst := hst.call hcall
 refine s_yes 18 rfl (congrArg Value.bool b290) (op_not (b := alignedA l (k - 1)) rfl (s_cons (op_pick_f (.bool (!(alignedA l (k - 1)))) (congrArg Value.bool b290) rfl (s_nil (then_n ?_)))))
 rcases Bool.eq_false_or_eq_true (alignedA l (k - 1)) with b295 | b295
 ·have hal := b295
  have ham := aligned_may hal
  refine cE_cond false (congrArg Value.bool (congrArg (! ·) b295)) (fun h => by cases h) (fun _ => ?_)
  refine cE_skip (then_n (cE_seq ?_))
  have hco := coarse_yes (k := k) (by omega) (by omega)
  refine cE_region rfl (s_cons (op_assign nS rfl (s_nil (then_n (cE_seq (cE_seq (cE_region rfl (s_cons (op_assign (iV 0) rfl (s_nil (then_n (cE_block ?_))))))))))))
  replace hst := hst.nilRow 29 aggE
  refine cE_loop (fun (m : Nat) (ρ : Env) (w : World) => ∃ (vo : Value) (out : List Agg) (i : Nat), m = l.length - i ∧ ρ 0 = v_l ∧ ρ 1 = (iV k) ∧ ρ 7 = (iV (i : Int)) ∧ ρ 6 = vo ∧ St w0 w [rowT 29 aggE vo out] ∧ (i ≤ l.length) ∧ (out.length ≤ i) ∧ (downA l k = downL k (l.drop i) out) ∧ (Fresh l out k i)) id _ ⟨nS, [], 0, rfl, rfl, rfl, (congrArg iV (show 0 = _ from by omega)), rfl, hst, (by omega), (by (simp; done)), (by exact down_start (by omega) hal hco), (by exact fresh_nil)⟩ ?_
  rintro m297 ρ298 w299 ⟨vo, out, i, hm297, q296_0, q296_1, q296_7, q296_6, hst, hi, hout, hI, hF⟩
  refine cE_seq (cE_seq (cE_region rfl (s_cons (op_move (iV (i : Int)) q296_7 (s_cons (op_move v_l q296_0 (s_cons (op_len (E := aggE) (xs := l) Try.underlying74 rfl h_l (s_cons (op_lss (k := .i64) (a := (i : Int)) (b := (l.length : Int)) rfl rfl (s_nil (then_n ?_))))))))))))
  rcases Bool.eq_false_or_eq_true (decide ((i : Int) < (l.length : Int))) with b300 | b300
  ·have c301 := of_decide_eq_true b300
   refine cE_cond true (congrArg Value.bool b300) (fun _ => ?_) (fun h => by cases h)
   refine cE_skip (then_n (cE_block (cE_seq ?_)))
   have hli := hl _ (List.getElem_mem (show i < l.length by omega))
   refine cE_region rfl (s_cons (op_move v_l q296_0 (s_cons (op_move (iV (i : Int)) q296_7 (s_cons (op_indexAddrN (E := aggE) (xs := l) i Try.underlying74 Try.sizeOf29 rfl h_l rfl (by omega) (by omega) (fun a302 o303 p304 => ?_)))))))
   refine s_cons (op_loadN (cs := (aggC (l[i]'(by omega)))) Try.isAgg29 Try.sizeOf29 rfl (Pt.of (p304.below hst.below) rfl) rfl (s_cons (op_alloc (cs := #[(iV 0), (iV 0), (iV 0), (iV 0), (iV 0), (iV 0), (iV 0)]) hst Try.zeroValue29 rfl (fun g305 w306 hst _ => ?_))))
   refine s_cons0 (op_storeAll hst 0 rfl Try.sizeOf29 rfl rfl rfl rfl (by simp [Value.oneCell']) (fun w307 hst => ?_))
   refine s_nil (then_n (cE_seq (cE_region rfl (s_cons (op_fieldAddr (s := 0) Try.underlying29 rfl rfl Try.sizeOf2 rfl (s_cons (op_load1 (u := (iV ((l[i]'(by omega)).From))) Try.isAgg2 rfl (hst.cell 0 rfl) (s_cons (op_move (iV k) q296_1 (s_cons (op_call Try.call31 (evs_cons (v := (iV ((l[i]'(by omega)).From))) rfl (evs_cons (v := (iV k)) rfl evs_nil)) (c_rFloor (w0 := w307) (t := (l[i]'(by omega)).From) (k := k) (t0 := (by omega)) (k0 := (by omega)) (t1 := (by omega)) (k1 := (by omega))) ?_)))))))))))
   rintro _ w308 ⟨rfl, hcall⟩
   refine ⟨_, rfl, ?_⟩
   have hst := hst.call hcall
   refine s_cons (op_fieldAddr (s := 0) Try.underlying29 rfl rfl Try.sizeOf2 rfl (s_cons0 (op_store1 hst 0 rfl Try.sizeOf2 rfl rfl rfl (show 0 < 7 from by decide) (fun w309 hst => ?_))))
   refine s_nil (then_n (cE_seq ?_))
   have hai := atK_ok (k := k) hli
   refine cE_region rfl (s_cons (op_move (iV (i : Int)) q296_7 (s_cons (op_add (k := .i64) (a := (i : Int)) (b := 1) ((i : Int) + 1) rfl rfl (xi64 (by omega) (by omega)) (s_cons (op_assign (iV ((i : Int) + 1)) rfl (s_nil (then_n (cE_seq (cE_block (cE_loop (fun (m : Nat) (ρ : Env) (w : World) => ∃ (a : Agg) (n : Nat), m = l.length - n ∧ ρ 0 = v_l ∧ ρ 1 = (iV k) ∧ ρ 7 = (iV (i : Int)) ∧ ρ 6 = vo ∧ ρ 8 = (.pointer (some ⟨g305, 0, none⟩)) ∧ ρ 9 = (iV (n : Int)) ∧ St w0 w [.blk g305 29 (aggA a), rowT 29 aggE vo out] ∧ (i < n) ∧ (n ≤ l.length) ∧ a.ok ∧ (downA l k = downL k (l.drop n) (out ++ [a]))) id _ ⟨(⟨(floorA ((l[i]'(by omega)).From) k), (l[i]'(by omega)).Count, (l[i]'(by omega)).Sum, (l[i]'(by omega)).Min, (l[i]'(by omega)).Max, (l[i]'(by omega)).First, (l[i]'(by omega)).Last⟩ : Agg), (i + 1), rfl, q296_0, q296_1, q296_7, q296_6, rfl, (congrArg iV (show ((i : Int) + 1) = _ from by omega)), (hst.sub (.cons_cons _ (.cons_cons _ .slnil))), (by omega), (by omega), (by exact hai), (by exact hI.trans (down_fresh (by omega) hF))⟩ ?_)))))))))))
   rintro m311 ρ312 w313 ⟨a, n, hm311, q310_0, q310_1, q310_7, q310_6, q310_8, q310_9, hst, hn1, hnr, hao, hJ⟩
   have hel := fun (s : Agg) (h : s ∈ l) => (hl s h).1
   refine cE_seq (cE_seq ?_)
   rcases Bool.eq_false_or_eq_true (decide ((n : Int) < (l.length : Int))) with b314 | b314
   ·have c315 := of_decide_eq_true b314
    refine cE_regionL hst [[(9, none)], [(0, none)], [(41, some 1)], [(40, some 0), (42, some 2)], [(43, some 3)], [(0, none), (44, some 4)], [(9, none), (44, some 4)], [(45, some 5), (46, some 6), (44, some 4)], [(47, some 7), (44, some 4)], [(48, some 8), (44, some 4)], [(1, none), (44, some 4)], [(49, some 9), (50, some 10), (44, some 4)], [(8, none), (44, some 4)], [(52, some 12), (44, some 4)], [(51, some 11), (53, some 13), (44, some 4)], [(44, some 4), (54, some 14)]] [(rEq (iV (n : Int))), (rEq v_l), (rEq (iV (l.length : Int))), (rEq (.bool (decide ((n : Int) < (l.length : Int))))), (rEq (.bool (decide ((n : Int) < (l.length : Int))))), (rEq v_l), (rEq (iV (n : Int))), (rPt (aggC (l[n]'(by omega)))), (rPt (aggC (l[n]'(by omega)))), (rEq (iV ((l[n]'(by omega)).From))), (rEq (iV k)), (rEq (iV (floorA ((l[n]'(by omega)).From) k))), (rEq (.pointer (some ⟨g305, (0 + 0), none⟩))), (rEq (iV a.From)), (rEq (.bool (decide ((floorA ((l[n]'(by omega)).From) k) = a.From)))), (rEq (.bool (decide ((floorA ((l[n]'(by omega)).From) k) = a.From))))] (by kernel_rfl) rfl (by kernel_rfl) ⟨sEq, sEq, sEq, sEq, sEq, sEq, sEq, sPt, sPt, sEq, sEq, sEq, sEq, sEq, sEq, sEq, trivial⟩ ⟨?_, ?_, ?_, ?_, ?_, ?_, ?_, ?_, ?_, ?_, ?_, ?_, ?_, ?_, ?_, ?_, trivial⟩ ?_
    ·rintro ρ320 w321 hj322 ⟨f9, _⟩
     have hst := hj322.2
     exact go_plain (op_move (iV (n : Int)) (f9.trans q310_9) (kS hj322 rfl))
    ·rintro ρ323 w324 hj325 ⟨f0, _⟩
     have hst := hj325.2
     exact go_plain (op_move v_l (f0.trans q310_0) (kS hj325 rfl))
    ·rintro ρ326 w327 hj328 ⟨f41, _⟩
     have hst := hj328.2
     exact go_plain (op_len (E := aggE) (xs := l) Try.underlying74 f41 h_l (kS hj328 rfl))
    ·rintro ρ329 w330 hj331 ⟨f40, f42, _⟩
     have hst := hj331.2
     exact go_plain (op_lss (k := .i64) (a := (n : Int)) (b := (l.length : Int)) f40 f42 (kS hj331 rfl))
    ·rintro ρ332 w333 hj334 ⟨f43, _⟩
     have hst := hj334.2
     exact go_plain (op_move (.bool (decide ((n : Int) < (l.length : Int)))) f43 (kS hj334 rfl))
    ·rintro ρ335 w336 hj337 ⟨f0, f44, _⟩
     have hst := hj337.2
     exact go_yes 44 rfl (f44.trans (congrArg Value.bool b314)) (op_move v_l (f0.trans q310_0) (kS hj337 rfl))
    ·rintro ρ338 w339 hj340 ⟨f9, f44, _⟩
     have hst := hj340.2
     exact go_yes 44 rfl (f44.trans (congrArg Value.bool b314)) (op_move (iV (n : Int)) (f9.trans q310_9) (kS hj340 rfl))
    ·rintro ρ341 w342 hj343 ⟨f45, f46, f44, _⟩
     have hst := hj343.2
     refine go_yes 44 rfl (f44.trans (congrArg Value.bool b314)) (op_indexAddrN (E := aggE) (xs := l) n Try.underlying74 Try.sizeOf29 f45 h_l f46 (by omega) (by omega) (fun a344 o345 p346 => ?_))
     exact kS hj343 ⟨_, _, rfl, (p346.below hst.below)⟩
    ·rintro ρ347 w348 hj349 ⟨f47, f44, _⟩
     have hst := hj349.2
     obtain ⟨a350, o351, e352, p353⟩ := f47
     exact go_yes 44 rfl (f44.trans (congrArg Value.bool b314)) (op_fieldAddr (s := 0) Try.underlying29 rfl rfl Try.sizeOf2 e352 (kS hj349 ⟨_, _, rfl, p353⟩))
    ·rintro ρ354 w355 hj356 ⟨f48, f44, _⟩
     have hst := hj356.2
     obtain ⟨a357, o358, e359, p360⟩ := f48
     exact go_yes 44 rfl (f44.trans (congrArg Value.bool b314)) (op_load1 (u := (iV ((l[n]'(by omega)).From))) Try.isAgg2 e359 p360 (kS hj356 rfl))
    ·rintro ρ361 w362 hj363 ⟨f1, f44, _⟩
     have hst := hj363.2
     exact go_yes 44 rfl (f44.trans (congrArg Value.bool b314)) (op_move (iV k) (f1.trans q310_1) (kS hj363 rfl))
    ·rintro ρ364 w365 hj366 ⟨f49, f50, f44, _⟩
     have hst := hj366.2
     refine go_yes 44 rfl (f44.trans (congrArg Value.bool b314)) (op_call Try.call31 (evs_cons (v := (iV ((l[n]'(by omega)).From))) f49 (evs_cons (v := (iV k)) f50 evs_nil)) (c_rFloor (w0 := w365) (t := (l[n]'(by omega)).From) (k := k) (t0 := (by exact (hl _ (List.getElem_mem _)).1.1)) (k0 := (by omega)) (t1 := (by exact (hl _ (List.getElem_mem _)).1.2)) (k1 := (by omega))) ?_)
     rintro _ w367 ⟨rfl, hcall⟩
     refine ⟨_, rfl, ?_⟩
     exact kD hj366 hcall rfl
    ·rintro ρ368 w369 hj370 ⟨f8, f44, _⟩
     have hst := hj370.2
     exact go_yes 44 rfl (f44.trans (congrArg Value.bool b314)) (op_fieldAddr (s := 0) Try.underlying29 rfl rfl Try.sizeOf2 (f8.trans q310_8) (kS hj370 rfl))
    ·rintro ρ371 w372 hj373 ⟨f52, f44, _⟩
     have hst := hj373.2
     exact go_yes 44 rfl (f44.trans (congrArg Value.bool b314)) (op_load1 (u := (iV a.From)) Try.isAgg2 f52 (hst.cell 0 rfl) (kS hj373 rfl))
    ·rintro ρ374 w375 hj376 ⟨f51, f53, f44, _⟩
     have hst := hj376.2
     exact go_yes 44 rfl (f44.trans (congrArg Value.bool b314)) (op_eql (k := .i64) (a := (floorA ((l[n]'(by omega)).From) k)) (b := a.From) f51 f53 (kS hj376 rfl))
    ·rintro ρ377 w378 hj379 ⟨f44, f54, _⟩
     have hst := hj379.2
     exact go_plain (op_pick_t (.bool (decide ((floorA ((l[n]'(by omega)).From) k) = a.From))) (f44.trans (congrArg Value.bool b314)) f54 (kS hj379 rfl))
    intro ρ380 w381 hbw381 hst hRw381 hkw381
    have uw381_0 := (hkw381 0 rfl).trans q310_0
    have uw381_1 := (hkw381 1 rfl).trans q310_1
    have uw381_7 := (hkw381 7 rfl).trans q310_7
    have uw381_6 := (hkw381 6 rfl).trans q310_6
    have uw381_8 := (hkw381 8 rfl).trans q310_8
    have uw381_9 := (hkw381 9 rfl).trans q310_9
    have uw381_55 : ρ380 55 = (.bool (decide ((floorA ((l[n]'(by omega)).From) k) = a.From))) := hRw381 15 55 rfl
    refine then_n ?_
    rcases Bool.eq_false_or_eq_true (decide ((floorA ((l[n]'(by omega)).From) k) = a.From)) with b382 | b382
    ·have c383 := of_decide_eq_true b382
     refine cE_cond true (uw381_55.trans (congrArg Value.bool b382)) (fun _ => ?_) (fun h => by cases h)
     refine cE_skip (then_n (cE_block (cE_seq (cE_regionM (fun (D : Nat → Bool) (w : World) => St w0 w [.blk g305 29 (aggA a), rowT 29 aggE vo out] ∧ (D 10 = false → St w0 w [.blk g305 29 (aggA a), rowT 29 aggE vo out]) ∧ (D 10 = true → St w0 w [.blk g305 29 (aggA a), rowT 29 aggE vo out])) [[(8, none)], [(0, none)], [(9, none)], [(58, some 1), (59, some 2)], [(60, some 3)], [(57, some 0), (61, some 4)], [(62, some 5)], [(56, some 6)], [(56, some 6)], [], [(10, some 9), (63, some 7)], [(64, some 8)]] [10] [(kEq (.agg (aggA a))), (kEq v_l), (kEq (iV (n : Int))), (kPt0 w0 (aggC (l[n]'(by omega)))), (kEq (.agg (aggA (l[n]'(by omega))))), (kEq (.tuple #[(.agg (aggA ((joinA a (l[n]'(by omega))).1))), (iV ((joinA a (l[n]'(by omega))).2))])), (kEq (.tuple #[(.agg (aggA ((joinA a (l[n]'(by omega))).1))), (iV ((joinA a (l[n]'(by omega))).2))])), (kEq (.agg (aggA ((joinA a (l[n]'(by omega))).1)))), (kEq (iV ((joinA a (l[n]'(by omega))).2))), (fun (D : Nat → Bool) (v : Value) (w : World) => ∃ g388 : Nat, v = .pointer (some ⟨g388, 0, none⟩) ∧ (D 10 = false → St w0 w [.blk g388 29 #[(iV 0), (iV 0), (iV 0), (iV 0), (iV 0), (iV 0), (iV 0)], .blk g305 29 (aggA a), rowT 29 aggE vo out]) ∧ (D 10 = true → St w0 w [.blk g388 29 (aggA ((joinA a (l[n]'(by omega))).1)), .blk g305 29 (aggA a), rowT 29 aggE vo out])), kAny, (kEq (iV ((joinA a (l[n]'(by omega))).2)))] ⟨mEq, mEq, mEq, mPt0, mEq, mEq, mEq, mEq, mEq, (fun D D' v w w' hD hb ⟨g, h1, h2⟩ => ⟨g, h1, (fun x0 => (h2.1 ((hD 10 (by decide)).symm.trans x0)).ext hb), (fun x0 => (h2.2 ((hD 10 (by decide)).symm.trans x0)).ext hb)⟩), mAny, mEq, trivial⟩ (by kernel_rfl) rfl (by kernel_rfl) ⟨hst.drewW.sub (.cons_cons _ (.cons_cons _ .slnil)), (fun _ => hst.drewW), (fun h => absurd h Bool.false_ne_true)⟩ (fun hM => ⟨?_, ?_, ?_, ?_, ?_, ?_, ?_, ?_, ?_, ?_, ?_, ?_, trivial⟩) ?_))))
     ·rintro D ρo wo nD eD cD jD aD ⟨f8, _⟩
      have hst := jD.2.1 (not_yet nD (fun hm => (cD 10 0 hm (by kernel_rfl))))
      exact go_plain (op_loadN (cs := (aggC a)) Try.isAgg29 Try.sizeOf29 (f8.trans uw381_8) (Pt.of (hst.cell 0 rfl) rfl) rfl (kN0 (i := 0) hM (by decide) (by exact jD) (by exact rfl)))
     ·rintro D ρo wo nD eD cD jD aD ⟨f0, _⟩
      exact go_plain (op_move v_l (f0.trans uw381_0) (kN0 (i := 1) hM (by decide) (by exact jD) (by exact rfl)))
     ·rintro D ρo wo nD eD cD jD aD ⟨f9, _⟩
      exact go_plain (op_move (iV (n : Int)) (f9.trans uw381_9) (kN0 (i := 2) hM (by decide) (by exact jD) (by exact rfl)))
     ·rintro D ρo wo nD eD cD jD aD ⟨f58, f59, _⟩
      refine go_plain (op_indexAddrN (E := aggE) (xs := l) n Try.underlying74 Try.sizeOf29 f58 h_l f59 (by omega) (by omega) (fun a392 o393 p394 => ?_))
      exact (kN0 (i := 3) hM (by decide) (by exact jD) (by exact ⟨_, _, rfl, p394⟩))
     ·rintro D ρo wo nD eD cD jD aD ⟨f60, _⟩
      have hst := jD.2.1 (not_yet nD (fun hm => (cD 10 4 hm (by kernel_rfl))))
      obtain ⟨a395, o396, e397, p398⟩ := f60
      exact go_plain (op_loadN (cs := (aggC (l[n]'(by omega)))) Try.isAgg29 Try.sizeOf29 e397 (Pt.of (p398.below hst.below) rfl) rfl (kN0 (i := 4) hM (by decide) (by exact jD) (by exact rfl)))
     ·rintro D ρo wo nD eD cD jD aD ⟨f57, f61, _⟩
      refine go_plain (op_call Try.call46 (evs_cons (v := (.agg (aggA a))) f57 (evs_cons (v := (.agg (aggA (l[n]'(by omega))))) f61 evs_nil)) (c_rJoin (w0 := wo) (a := a) (b := (l[n]'(by omega))) (ha := hao) (hb := (hl _ (List.getElem_mem _)))) ?_)
      rintro _ w399 ⟨rfl, hcall⟩
      refine ⟨_, rfl, ?_⟩
      exact kN (i := 5) hM (by decide) hcall.below (by exact ⟨(jD.1).ext hcall.below, (fun x0 => (jD.2.1 x0).ext hcall.below), (fun x0 => (jD.2.2 x0).ext hcall.below)⟩) (by exact rfl)
     ·rintro D ρo wo nD eD cD jD aD ⟨f62, _⟩
      exact go_plain (op_move (.tuple #[(.agg (aggA ((joinA a (l[n]'(by omega))).1))), (iV ((joinA a (l[n]'(by omega))).2))]) f62 (kN0 (i := 6) hM (by decide) (by exact jD) (by exact rfl)))
     ·rintro D ρo wo nD eD cD jD aD ⟨f56, _⟩
      exact go_plain (op_extract (.agg (aggA ((joinA a (l[n]'(by omega))).1))) f56 rfl (kN0 (i := 7) hM (by decide) (by exact jD) (by exact rfl)))
     ·rintro D ρo wo nD eD cD jD aD ⟨f56, _⟩
      exact go_plain (op_extract (iV ((joinA a (l[n]'(by omega))).2)) f56 rfl (kN0 (i := 8) hM (by decide) (by exact jD) (by exact rfl)))
     ·rintro D ρo wo nD eD cD jD aD ⟨_⟩
      have hst := jD.2.1 (not_yet nD (fun hm => (cD 10 9 hm (by kernel_rfl))))
      have hst := St.start wo
      refine go_plain (op_alloc (cs := #[(iV 0), (iV 0), (iV 0), (iV 0), (iV 0), (iV 0), (iV 0)]) hst Try.zeroValue29 rfl (fun g400 w401 hst _ => ?_))
      exact kN (i := 9) hM (by decide) hst.below (by exact ⟨(jD.1).ext hst.below, (fun x0 => (jD.2.1 x0).ext hst.below), (fun x0 => (jD.2.2 x0).ext hst.below)⟩) (by exact ⟨_, rfl, (fun y0 => (jD.2.1 y0).call hst), (fun y0 => absurd (show D 10 = true from y0) (by rw [(not_yet nD (fun hm => (cD 10 9 hm (by kernel_rfl))))]; decide))⟩)
     ·rintro D ρo wo nD eD cD jD aD ⟨f10, f63, _⟩
      obtain ⟨g402, e403, hh404⟩ := aD 9 10 (eD 9 (by kernel_rfl)) rfl
      have hst : St w0 wo [.blk g402 29 #[(iV 0), (iV 0), (iV 0), (iV 0), (iV 0), (iV 0), (iV 0)], .blk g305 29 (aggA a), rowT 29 aggE vo out] := hh404.1 nD
      refine go_plain (op_storeAll hst 0 rfl Try.sizeOf29 e403 f63 rfl rfl (by simp [Value.oneCell']) (fun w405 hst => ?_))
      refine ⟨by exact ⟨hst.sub (.cons _ (.cons_cons _ (.cons_cons _ .slnil))), (fun y0 => absurd y0 (fun h => Bool.noConfusion h)), (fun y0 => hst.sub (.cons _ (.cons_cons _ (.cons_cons _ .slnil))))⟩, by exact trivial, kX [9] (by exact ⟨Or.inr (Or.inr (Or.inr iEq)), Or.inr (Or.inr (Or.inr iEq)), Or.inr (Or.inr (Or.inr iEq)), Or.inr (Or.inr (Or.inr iPt0)), Or.inr (Or.inr (Or.inr iEq)), Or.inr (Or.inr (Or.inr iEq)), Or.inr (Or.inr (Or.inr iEq)), Or.inr (Or.inr (Or.inr iEq)), Or.inr (Or.inr (Or.inr iEq)), Or.inr (Or.inl (by decide)), Or.inl rfl, Or.inr (Or.inr (Or.inl (not_yet nD (fun hm => (cD 11 10 hm (by kernel_rfl)))))), trivial⟩) ?_⟩
      intro j d hj hjd hDj h
      simp only [List.mem_cons, List.not_mem_nil, or_false] at hj
      subst hj
      obtain rfl : 10 = d := Option.some.inj hjd
      exact ⟨_, e403, (fun y0 => absurd y0 (fun h => Bool.noConfusion h)), (fun y0 => hst.sub (.cons_cons _ (.cons_cons _ (.cons_cons _ .slnil))))⟩
     ·rintro D ρo wo nD eD cD jD aD ⟨f64, _⟩
      exact go_plain (op_assign (iV ((joinA a (l[n]'(by omega))).2)) f64 (kN0 (i := 11) hM (by decide) (by exact jD) (by exact rfl)))
     intro ρ407 w408 Dw408 hallw408 hJw408 hRw408 hkw408
     obtain ⟨g409, uw408_10, hhw408⟩ := hRw408 9 10 rfl
     have hst : St w0 w408 [.blk g409 29 (aggA ((joinA a (l[n]'(by omega))).1)), .blk g305 29 (aggA a), rowT 29 aggE vo out] := hhw408.2 (hallw408 10 (show 10 < 12 from by decide))
     have uw408_0 := (hkw408 0 rfl).trans uw381_0
     have uw408_1 := (hkw408 1 rfl).trans uw381_1
     have uw408_7 := (hkw408 7 rfl).trans uw381_7
     have uw408_6 := (hkw408 6 rfl).trans uw381_6
     have uw408_8 := (hkw408 8 rfl).trans uw381_8
     have uw408_9 := (hkw408 9 rfl).trans uw381_9
     have uw408_11 : ρ407 11 = (iV ((joinA a (l[n]'(by omega))).2)) := hRw408 11 11 rfl
     refine then_n (cE_seq (cE_seq (cE_region rfl (s_cons (op_move (iV ((joinA a (l[n]'(by omega))).2)) uw408_11 (s_cons (op_neq (k := .i64) (a := (joinA a (l[n]'(by omega))).2) (b := 0) rfl rfl (s_nil (then_n ?_)))))))))
     rcases Bool.eq_false_or_eq_true (decide (((joinA a (l[n]'(by omega))).2) = 0)) with b410 | b410
     ·have c411 := of_decide_eq_true b410
      refine cE_cond false (congrArg Value.bool (congrArg (! ·) b410)) (fun h => by cases h) (fun _ => ?_)
      refine cE_skip (then_n (cE_seq (cE_region rfl (s_cons (op_loadN (cs := (aggC ((joinA a (l[n]'(by omega))).1))) Try.isAgg29 Try.sizeOf29 uw408_10 (Pt.of (hst.cell 0 rfl) rfl) rfl (s_cons0 (op_storeAll hst 1 rfl Try.sizeOf29 uw408_8 rfl rfl rfl (by simp [Value.oneCell']) (fun w412 hst => ?_))))))))
      refine s_nil (then_n (cE_region rfl (s_cons (op_move (iV (n : Int)) uw408_9 (s_cons (op_add (k := .i64) (a := (n : Int)) (b := 1) ((n : Int) + 1) rfl rfl (xi64 (by omega) (by omega)) (s_cons (op_assign (iV ((n : Int) + 1)) rfl (s_nil (block_n (then_n ?_)))))))))))
      exact ⟨_, ⟨((joinA a (l[n]'(by omega))).1), (n + 1), rfl, uw408_0, uw408_1, uw408_7, uw408_6, uw408_8, (congrArg iV (show ((n : Int) + 1) = _ from by omega)), (hst.sub (.cons _ (.cons_cons _ (.cons_cons _ .slnil)))), (by omega), (by omega), (by exact joinA_ok hao (hl _ (List.getElem_mem _))), (by exact hJ.trans (rd_join (by omega) (by assumption) (ham _ (List.getElem_mem _)) hco (by assumption)))⟩, (by simp only [id]; omega)⟩
     have c413 := of_decide_eq_false b410
     refine cE_cond true (congrArg Value.bool (congrArg (! ·) b410)) (fun _ => ?_) (fun h => by cases h)
     refine cE_seq (cE_region rfl (s_cons (op_move (iV ((joinA a (l[n]'(by omega))).2)) uw408_11 (s_cons (op_assign nS rfl (s_cons (op_assign (iV ((joinA a (l[n]'(by omega))).2)) rfl (s_nil (then_n (cE_ret (then_r (block_r (then_r (block_r (then_r (block_r (then_r (block_r (then_r (post_r _ (res2 (v := nS) rfl (x := (iV ((joinA a (l[n]'(by omega))).2))) rfl) ?_))))))))))))))))))))
     replace hst := hst.nilRow 29 aggE
     have e414 : [] = (downA l k).1 := by exact (congrArg Prod.fst (hJ.trans (rd_stop (by omega) (by assumption) (ham _ (List.getElem_mem _)) hco (by assumption)))).symm
     replace hst : St w0 w408 [rowT 29 aggE nS ((downA l k).1), .blk g409 29 (aggA ((joinA a (l[n]'(by omega))).1)), .blk g305 29 (aggA a), rowT 29 aggE vo out] := by rw [congrArg (fun l => rowT 29 aggE nS l) e414] at hst; exact hst
     exact ⟨nS, (retv2 rfl (congrArg iV (show (joinA a (l[n]'(by omega))).2 = (downA l k).2 from by exact (congrArg Prod.snd (hJ.trans (rd_stop (by omega) (by assumption) (ham _ (List.getElem_mem _)) hco (by assumption)))).symm))), hst.sub (.cons_cons _ (.cons _ (.cons _ (.cons _ .slnil))))⟩
    have c415 := of_decide_eq_false b382
    refine cE_cond false (uw381_55.trans (congrArg Value.bool b382)) (fun h => by cases h) (fun _ => ?_)
    refine cE_exit (then_x (then_x (block_hit (then_n (cE_seq (cE_region rfl (s_cons (op_move vo uw381_6 (s_cons (op_loadN (cs := (aggC a)) Try.isAgg29 Try.sizeOf29 uw381_8 (Pt.of (hst.cell 0 rfl) rfl) rfl (s_cons (op_buildSlice (E := aggE) [a] hst Try.underlying74 Try.sizeOf29 Try.zeroValue29 (evp_cons (v := (.agg (aggA a))) rfl evp_nil) (parts_cons rfl parts_nil) rfl (by decide) (fun v416 w417 hst => ?_)))))))))))))
    refine s_cons (op_append (E := aggE) (xs := out) (ys := [a]) (z := (.agg #[(iV 0), (iV 0), (iV 0), (iV 0), (iV 0), (iV 0), (iV 0)])) (bytes := 56) hst 2 rfl Try.underlying74 (by kernel_rfl) rfl rfl rfl (hst.sl 0 rfl) (by (simp; omega)) (by (simp; omega)) (fun v418 w419 hst => ?_))
    refine s_cons (op_assign v418 rfl (s_nil (then_n (cE_region rfl (s_cons (op_move (iV (n : Int)) uw381_9 (s_cons (op_assign (iV (n : Int)) rfl (s_nil (block_n (then_n ?_)))))))))))
    exact ⟨_, ⟨v418, (out ++ ([a])), n, rfl, uw381_0, uw381_1, rfl, rfl, (hst.sub (.cons _ (.cons _ (.cons_cons _ .slnil)))), (by omega), (by (simp; omega)), (by exact hJ), (by exact fresh_next (by (right; exact ⟨by omega, by assumption⟩)))⟩, (by simp only [id]; omega)⟩
   have c420 := of_decide_eq_false b314
   refine cE_regionL hst [[(9, none)], [(0, none)], [(41, some 1)], [(40, some 0), (42, some 2)], [(43, some 3)], [(0, none), (44, some 4)], [(9, none), (44, some 4)], [(45, some 5), (46, some 6), (44, some 4)], [(47, some 7), (44, some 4)], [(48, some 8), (44, some 4)], [(1, none), (44, some 4)], [(49, some 9), (50, some 10), (44, some 4)], [(8, none), (44, some 4)], [(52, some 12), (44, some 4)], [(51, some 11), (53, some 13), (44, some 4)], [(44, some 4), (54, some 14)]] [(rEq (iV (n : Int))), (rEq v_l), (rEq (iV (l.length : Int))), (rEq (.bool (decide ((n : Int) < (l.length : Int))))), (rEq (.bool (decide ((n : Int) < (l.length : Int))))), (rEq undef), (rEq undef), (rEq undef), (rEq undef), (rEq undef), (rEq undef), (rEq undef), (rEq undef), (rEq undef), (rEq undef), (rEq (.bool false))] (by kernel_rfl) rfl (by kernel_rfl) ⟨sEq, sEq, sEq, sEq, sEq, sEq, sEq, sEq, sEq, sEq, sEq, sEq, sEq, sEq, sEq, sEq, trivial⟩ ⟨?_, ?_, ?_, ?_, ?_, ?_, ?_, ?_, ?_, ?_, ?_, ?_, ?_, ?_, ?_, ?_, trivial⟩ ?_
   ·rintro ρ421 w422 hj423 ⟨f9, _⟩
    have hst := hj423.2
    exact go_plain (op_move (iV (n : Int)) (f9.trans q310_9) (kS hj423 rfl))
   ·rintro ρ424 w425 hj426 ⟨f0, _⟩
    have hst := hj426.2
    exact go_plain (op_move v_l (f0.trans q310_0) (kS hj426 rfl))
   ·rintro ρ427 w428 hj429 ⟨f41, _⟩
    have hst := hj429.2
    exact go_plain (op_len (E := aggE) (xs := l) Try.underlying74 f41 h_l (kS hj429 rfl))
   ·rintro ρ430 w431 hj432 ⟨f40, f42, _⟩
    have hst := hj432.2
    exact go_plain (op_lss (k := .i64) (a := (n : Int)) (b := (l.length : Int)) f40 f42 (kS hj432 rfl))
   ·rintro ρ433 w434 hj435 ⟨f43, _⟩
    have hst := hj435.2
    exact go_plain (op_move (.bool (decide ((n : Int) < (l.length : Int)))) f43 (kS hj435 rfl))
   ·rintro ρ436 w437 hj438 ⟨f0, f44, _⟩
    have hst := hj438.2
    exact go_no 44 rfl (f44.trans (congrArg Value.bool b314)) (kS hj438 rfl)
   ·rintro ρ439 w440 hj441 ⟨f9, f44, _⟩
    have hst := hj441.2
    exact go_no 44 rfl (f44.trans (congrArg Value.bool b314)) (kS hj441 rfl)
   ·rintro ρ442 w443 hj444 ⟨f45, f46, f44, _⟩
    have hst := hj444.2
    exact go_no 44 rfl (f44.trans (congrArg Value.bool b314)) (kS hj444 rfl)
   ·rintro ρ445 w446 hj447 ⟨f47, f44, _⟩
    have hst := hj447.2
    exact go_no 44 rfl (f44.trans (congrArg Value.bool b314)) (kS hj447 rfl)
   ·rintro ρ448 w449 hj450 ⟨f48, f44, _⟩
    have hst := hj450.2
    exact go_no 44 rfl (f44.trans (congrArg Value.bool b314)) (kS hj450 rfl)
   ·rintro ρ451 w452 hj453 ⟨f1, f44, _⟩
    have hst := hj453.2
    exact go_no 44 rfl (f44.trans (congrArg Value.bool b314)) (kS hj453 rfl)
   ·rintro ρ454 w455 hj456 ⟨f49, f50, f44, _⟩
    have hst := hj456.2
    exact go_no 44 rfl (f44.trans (congrArg Value.bool b314)) (kS hj456 rfl)
   ·rintro ρ457 w458 hj459 ⟨f8, f44, _⟩
    have hst := hj459.2
    exact go_no 44 rfl (f44.trans (congrArg Value.bool b314)) (kS hj459 rfl)
   ·rintro ρ460 w461 hj462 ⟨f52, f44, _⟩
    have hst := hj462.2
    exact go_no 44 rfl (f44.trans (congrArg Value.bool b314)) (kS hj462 rfl)
   ·rintro ρ463 w464 hj465 ⟨f51, f53, f44, _⟩
    have hst := hj465.2
    exact go_no 44 rfl (f44.trans (congrArg Value.bool b314)) (kS hj465 rfl)
   ·rintro ρ466 w467 hj468 ⟨f44, f54, _⟩
    have hst := hj468.2
    exact go_plain (op_pick_f (.bool false) (f44.trans (congrArg Value.bool b314)) rfl (kS hj468 rfl))
   intro ρ469 w470 hbw470 hst hRw470 hkw470
   have uw470_0 := (hkw470 0 rfl).trans q310_0
   have uw470_1 := (hkw470 1 rfl).trans q310_1
   have uw470_6 := (hkw470 6 rfl).trans q310_6
   have uw470_8 := (hkw470 8 rfl).trans q310_8
   have uw470_9 := (hkw470 9 rfl).trans q310_9
   have uw470_55 : ρ469 55 = (.bool false) := hRw470 15 55 rfl
   refine then_n (cE_cond false uw470_55 (fun h => by cases h) (fun _ => ?_))
   refine cE_exit (then_x (then_x (block_hit (then_n (cE_seq (cE_region rfl (s_cons (op_move vo uw470_6 (s_cons (op_loadN (cs := (aggC a)) Try.isAgg29 Try.sizeOf29 uw470_8 (Pt.of (hst.cell 0 rfl) rfl) rfl (s_cons (op_buildSlice (E := aggE) [a] hst Try.underlying74 Try.sizeOf29 Try.zeroValue29 (evp_cons (v := (.agg (aggA a))) rfl evp_nil) (parts_cons rfl parts_nil) rfl (by decide) (fun v471 w472 hst => ?_)))))))))))))
   refine s_cons (op_append (E := aggE) (xs := out) (ys := [a]) (z := (.agg #[(iV 0), (iV 0), (iV 0), (iV 0), (iV 0), (iV 0), (iV 0)])) (bytes := 56) hst 2 rfl Try.underlying74 (by kernel_rfl) rfl rfl rfl (hst.sl 0 rfl) (by (simp; omega)) (by (simp; omega)) (fun v473 w474 hst => ?_))
   refine s_cons (op_assign v473 rfl (s_nil (then_n (cE_region rfl (s_cons (op_move (iV (n : Int)) uw470_9 (s_cons (op_assign (iV (n : Int)) rfl (s_nil (block_n (then_n ?_)))))))))))
   exact ⟨_, ⟨v473, (out ++ ([a])), n, rfl, uw470_0, uw470_1, rfl, rfl, (hst.sub (.cons _ (.cons _ (.cons_cons _ .slnil)))), (by omega), (by (simp; omega)), (by exact hJ), (by exact fresh_next (by (left; omega)))⟩, (by simp only [id]; omega)⟩
  have c475 := of_decide_eq_false b300
  refine cE_cond false (congrArg Value.bool b300) (fun h => by cases h) (fun _ => ?_)
  refine cE_exit (then_x (then_x (block_hit (then_n (cE_seq (cE_region rfl (s_cons (op_move vo q296_6 (s_cons (op_assign vo rfl (s_cons (op_assign (iV 0) rfl (s_nil (then_n (cE_ret (post_r _ (res2 (v := vo) rfl (x := (iV 0)) rfl) ?_))))))))))))))))
  have e476 : out = (downA l k).1 := by exact (congrArg Prod.fst (hI.trans (down_end (by omega)))).symm
  replace hst : St w0 w299 [rowT 29 aggE vo ((downA l k).1)] := by rw [congrArg (fun l => rowT 29 aggE vo l) e476] at hst; exact hst
  exact ⟨vo, (retv2 rfl (congrArg iV (show 0 = (downA l k).2 from by exact (congrArg Prod.snd (hI.trans (down_end (by omega)))).symm))), hst.sub (.cons_cons _ .slnil)⟩
 refine cE_cond true (congrArg Value.bool (congrArg (! ·) b295)) (fun _ => ?_) (fun h => by cases h)
 refine cE_seq (cE_region rfl (s_cons (op_assign nS rfl (s_cons (op_assign (iV 1) rfl (s_nil (then_n (cE_ret (then_r (post_r _ (res2 (v := nS) rfl (x := (iV 1)) rfl) ?_))))))))))
 replace hst := hst.nilRow 29 aggE
 have e477 : [] = (downA l k).1 := by exact (congrArg Prod.fst (down_none (Or.inr (Or.inl (by assumption))))).symm
 replace hst : St w0 w294 [rowT 29 aggE nS ((downA l k).1)] := by rw [congrArg (fun l => rowT 29 aggE nS l) e477] at hst; exact hst
 exact ⟨nS, (retv2 rfl (congrArg iV (show 1 = (downA l k).2 from by exact (congrArg Prod.snd (down_none (Or.inr (Or.inl (by assumption))))).symm))), hst.sub (.cons_cons _ .slnil)⟩

end Go.Proofs.Ytldfnkhccaglmaa
