/- twinkeepref5.Roll -/
import Derived.Test.YtldfnkhccaglmaaXLA
import Derived.Test.YtldfnkhccaglmaaXW7
import Derived.Test.YtldfnkhccaglmaaXW75
namespace Go.Proofs.Ytldfnkhccaglmaa
open Go.RowKit

set_option maxRecDepth 8000 in
set_option maxHeartbeats 8000000 in
theorem c_rRoll (w0 : World) (v_l : Value) (l : List Seg) (h_l : Sl w0 segE v_l l) (nid : Int) (k : Int) (hsg : SegsIn w0 l) (hso : ∀ s ∈ l, s.d.ok) (hl1 : l.length = 1) (nid0 : -9223372036854775808 ≤ nid) (k0 : -9223372036854775808 ≤ k) (nid1 : nid ≤ 9223372036854775807) (k1 : k ≤ 9223372036854775807) :
  Calls Try.prog 35 #[v_l, (iV nid), (iV k)] w0 fun e w' => ∃ (s : Seg), e = .returned (.tuple #[(.agg #[(iV s.d.Id), (iV s.d.Tier), (iV s.d.From), (iV s.d.To), s.sv.1, s.av.1]), (iV ((rollS (gd l 0).d nid k).2))]) ∧ St w0 w' [rowT 51 sampE s.sv.1 s.d.Samples, rowT 29 aggE s.av.1 s.d.Aggs] ∧ s.d = (rollS (gd l 0).d nid k).1 := by
 refine calls_G (n := 188) (rs := [.cell 6 76, .tmp 7]) Try.func35 rfl rfl rfl (by simp) ?_
 have hst := St.start w0
 refine cE_seq (cE_region rfl (s_cons (op_alloc (cs := #[(iV 0), (iV 0), (iV 0), (iV 0), nS, nS]) hst Try.zeroValue76 rfl (fun g1 w2 hst _ => ?_))))
 refine s_cons (op_assign (iV 0) rfl (s_nil (then_n (cE_seq (cE_seq (cE_region rfl (s_cons (op_move v_l rfl (s_cons (op_len (E := segE) (xs := l) Try.underlying44 rfl h_l (s_cons (op_eql (k := .i64) (a := (l.length : Int)) (b := 0) rfl rfl (s_cons (op_move (.bool (decide ((l.length : Int) = 0))) rfl (s_yes 22 rfl (congrArg Value.bool (show (decide ((l.length : Int) = 0)) = false from (decide_eq_false (by omega)))) (op_move (iV nid) rfl ?_))))))))))))))))
 refine s_yes 22 rfl (congrArg Value.bool (show (decide ((l.length : Int) = 0)) = false from (decide_eq_false (by omega)))) (op_lss (k := .i64) (a := nid) (b := 1) rfl rfl (s_cons (op_pick_f (.bool (decide (nid < 1))) (congrArg Value.bool (show (decide ((l.length : Int) = 0)) = false from (decide_eq_false (by omega)))) rfl (s_cons (op_move (.bool (decide (nid < 1))) rfl ?_)))))
 rcases Bool.eq_false_or_eq_true (decide (nid < 1)) with b3 | b3
 ·have c4 := of_decide_eq_true b3
  refine s_no 26 rfl (congrArg Value.bool b3) (s_no 26 rfl (congrArg Value.bool b3) (s_cons (op_pick_t (.bool true) (congrArg Value.bool b3) rfl (s_cons (op_move (.bool true) rfl (s_no 30 rfl rfl (s_no 30 rfl rfl (s_cons (op_pick_t (.bool true) rfl rfl (s_cons (op_move (.bool true) rfl (s_no 34 rfl rfl (s_no 34 rfl rfl (s_cons (op_pick_t (.bool true) rfl rfl (s_nil (then_n (cE_cond true rfl (fun _ => ?_) (fun h => by cases h)))))))))))))))))))
  refine cE_seq (cE_region rfl (s_cons (op_build (r := (.agg #[(iV 0), (iV 0), (iV 0), (iV 0), nS, nS])) evp_nil (by simp [Instr.build, Instr.fill, Value.cells, Try.runUnderlying76, Try.zeroValue76]) (s_cons0 (op_storeAll hst 0 rfl Try.sizeOf76 rfl rfl rfl rfl (by simp [Value.oneCell']) (fun w5 hst => ?_))))))
  refine s_cons (op_assign (iV 1) rfl (s_nil (then_n (cE_ret (then_r (postG_r _ (rvN (cs := [(iV 0), (iV 0), (iV 0), (iV 0), nS, nS]) Try.isAgg76 Try.sizeOf76 rfl (Pt.of (hst.cell 0 rfl) rfl) rfl (rvt (v := (iV 1)) rfl rvnil)) ?_))))))
  replace hst := hst.nilRow 51 sampE
  replace hst := hst.nilRow 29 aggE
  replace hst := hst.front 1 rfl
  exact ⟨(⟨⟨0, 0, 0, 0, [], []⟩, nilV, nilV⟩ : Seg), (retv2 rfl (congrArg iV (show 1 = (rollS (gd l 0).d nid k).2 from by exact snd_of (roll_out (by omega))))), hst.sub (.cons_cons _ (.cons_cons _ (.cons _ .slnil))), (by exact fst_of (roll_out (by omega)))⟩
 have c6 := of_decide_eq_false b3
 refine s_yes 26 rfl (congrArg Value.bool b3) (op_move (iV nid) rfl (s_yes 26 rfl (congrArg Value.bool b3) (op_gtr (k := .i64) (a := nid) (b := 1073741824) rfl rfl (s_cons (op_pick_f (.bool (decide (1073741824 < nid))) (congrArg Value.bool b3) rfl (s_cons (op_move (.bool (decide (1073741824 < nid))) rfl ?_)))))))
 rcases Bool.eq_false_or_eq_true (decide (1073741824 < nid)) with b7 | b7
 ·have c8 := of_decide_eq_true b7
  refine s_no 30 rfl (congrArg Value.bool b7) (s_no 30 rfl (congrArg Value.bool b7) (s_cons (op_pick_t (.bool true) (congrArg Value.bool b7) rfl (s_cons (op_move (.bool true) rfl (s_no 34 rfl rfl (s_no 34 rfl rfl (s_cons (op_pick_t (.bool true) rfl rfl (s_nil (then_n (cE_cond true rfl (fun _ => ?_) (fun h => by cases h)))))))))))))
  refine cE_seq (cE_region rfl (s_cons (op_build (r := (.agg #[(iV 0), (iV 0), (iV 0), (iV 0), nS, nS])) evp_nil (by simp [Instr.build, Instr.fill, Value.cells, Try.runUnderlying76, Try.zeroValue76]) (s_cons0 (op_storeAll hst 0 rfl Try.sizeOf76 rfl rfl rfl rfl (by simp [Value.oneCell']) (fun w9 hst => ?_))))))
  refine s_cons (op_assign (iV 1) rfl (s_nil (then_n (cE_ret (then_r (postG_r _ (rvN (cs := [(iV 0), (iV 0), (iV 0), (iV 0), nS, nS]) Try.isAgg76 Try.sizeOf76 rfl (Pt.of (hst.cell 0 rfl) rfl) rfl (rvt (v := (iV 1)) rfl rvnil)) ?_))))))
  replace hst := hst.nilRow 51 sampE
  replace hst := hst.nilRow 29 aggE
  replace hst := hst.front 1 rfl
  exact ⟨(⟨⟨0, 0, 0, 0, [], []⟩, nilV, nilV⟩ : Seg), (retv2 rfl (congrArg iV (show 1 = (rollS (gd l 0).d nid k).2 from by exact snd_of (roll_out (by omega))))), hst.sub (.cons_cons _ (.cons_cons _ (.cons _ .slnil))), (by exact fst_of (roll_out (by omega)))⟩
 have c10 := of_decide_eq_false b7
 refine s_yes 30 rfl (congrArg Value.bool b7) (op_move (iV k) rfl (s_yes 30 rfl (congrArg Value.bool b7) (op_lss (k := .i64) (a := k) (b := 1) rfl rfl (s_cons (op_pick_f (.bool (decide (k < 1))) (congrArg Value.bool b7) rfl (s_cons (op_move (.bool (decide (k < 1))) rfl ?_)))))))
 rcases Bool.eq_false_or_eq_true (decide (k < 1)) with b11 | b11
 ·have c12 := of_decide_eq_true b11
  refine s_no 34 rfl (congrArg Value.bool b11) (s_no 34 rfl (congrArg Value.bool b11) (s_cons (op_pick_t (.bool true) (congrArg Value.bool b11) rfl (s_nil (then_n (cE_cond true rfl (fun _ => ?_) (fun h => by cases h)))))))
  refine cE_seq (cE_region rfl (s_cons (op_build (r := (.agg #[(iV 0), (iV 0), (iV 0), (iV 0), nS, nS])) evp_nil (by simp [Instr.build, Instr.fill, Value.cells, Try.runUnderlying76, Try.zeroValue76]) (s_cons0 (op_storeAll hst 0 rfl Try.sizeOf76 rfl rfl rfl rfl (by simp [Value.oneCell']) (fun w13 hst => ?_))))))
  refine s_cons (op_assign (iV 1) rfl (s_nil (then_n (cE_ret (then_r (postG_r _ (rvN (cs := [(iV 0), (iV 0), (iV 0), (iV 0), nS, nS]) Try.isAgg76 Try.sizeOf76 rfl (Pt.of (hst.cell 0 rfl) rfl) rfl (rvt (v := (iV 1)) rfl rvnil)) ?_))))))
  replace hst := hst.nilRow 51 sampE
  replace hst := hst.nilRow 29 aggE
  replace hst := hst.front 1 rfl
  exact ⟨(⟨⟨0, 0, 0, 0, [], []⟩, nilV, nilV⟩ : Seg), (retv2 rfl (congrArg iV (show 1 = (rollS (gd l 0).d nid k).2 from by exact snd_of (roll_out (by omega))))), hst.sub (.cons_cons _ (.cons_cons _ (.cons _ .slnil))), (by exact fst_of (roll_out (by omega)))⟩
 have c14 := of_decide_eq_false b11
 refine s_yes 34 rfl (congrArg Value.bool b11) (op_move (iV k) rfl (s_yes 34 rfl (congrArg Value.bool b11) (op_gtr (k := .i64) (a := k) (b := 3) rfl rfl (s_cons (op_pick_f (.bool (decide (3 < k))) (congrArg Value.bool b11) rfl (s_nil (then_n ?_)))))))
 rcases Bool.eq_false_or_eq_true (decide (3 < k)) with b15 | b15
 ·have c16 := of_decide_eq_true b15
  refine cE_cond true (congrArg Value.bool b15) (fun _ => ?_) (fun h => by cases h)
  refine cE_seq (cE_region rfl (s_cons (op_build (r := (.agg #[(iV 0), (iV 0), (iV 0), (iV 0), nS, nS])) evp_nil (by simp [Instr.build, Instr.fill, Value.cells, Try.runUnderlying76, Try.zeroValue76]) (s_cons0 (op_storeAll hst 0 rfl Try.sizeOf76 rfl rfl rfl rfl (by simp [Value.oneCell']) (fun w17 hst => ?_))))))
  refine s_cons (op_assign (iV 1) rfl (s_nil (then_n (cE_ret (then_r (postG_r _ (rvN (cs := [(iV 0), (iV 0), (iV 0), (iV 0), nS, nS]) Try.isAgg76 Try.sizeOf76 rfl (Pt.of (hst.cell 0 rfl) rfl) rfl (rvt (v := (iV 1)) rfl rvnil)) ?_))))))
  replace hst := hst.nilRow 51 sampE
  replace hst := hst.nilRow 29 aggE
  replace hst := hst.front 1 rfl
  exact ⟨(⟨⟨0, 0, 0, 0, [], []⟩, nilV, nilV⟩ : Seg), (retv2 rfl (congrArg iV (show 1 = (rollS (gd l 0).d nid k).2 from by exact snd_of (roll_out (by omega))))), hst.sub (.cons_cons _ (.cons_cons _ (.cons _ .slnil))), (by exact fst_of (roll_out (by omega)))⟩
 have c18 := of_decide_eq_false b15
 refine cE_cond false (congrArg Value.bool b15) (fun h => by cases h) (fun _ => ?_)
 refine cE_skip (then_n (cE_seq (cE_seq (cE_region rfl (s_cons (op_assign (iV 0) rfl (s_nil (then_n (cE_block (cE_loop (fun (m : Nat) (ρ : Env) (w : World) => ∃ (i : Nat), m = l.length - i ∧ ρ 0 = v_l ∧ ρ 1 = (iV nid) ∧ ρ 2 = (iV k) ∧ ρ 6 = (.pointer (some ⟨g1, 0, none⟩)) ∧ ρ 8 = (iV (i : Int)) ∧ St w0 w [.blk g1 76 #[(iV 0), (iV 0), (iV 0), (iV 0), nS, nS]] ∧ (i ≤ l.length) ∧ (i = 0 ∨ (mayS (gd l 0).d = true ∧ (gd l 0).d.Tier = k - 1))) id _ ⟨0, rfl, rfl, rfl, rfl, rfl, (congrArg iV (show 0 = _ from by omega)), hst, (by omega), (by exact Or.inl rfl)⟩ ?_))))))))))
 rintro m20 ρ21 w22 ⟨i, hm20, q19_0, q19_1, q19_2, q19_6, q19_8, hst, hi, hm⟩
 have hlen := h_l.len
 refine cE_seq (cE_seq (cE_region rfl (s_cons (op_move (iV (i : Int)) q19_8 (s_cons (op_move v_l q19_0 (s_cons (op_len (E := segE) (xs := l) Try.underlying44 rfl h_l (s_cons (op_lss (k := .i64) (a := (i : Int)) (b := (l.length : Int)) rfl rfl (s_nil (then_n ?_))))))))))))
 rcases Bool.eq_false_or_eq_true (decide ((i : Int) < (l.length : Int))) with b23 | b23
 ·have c24 := of_decide_eq_true b23
  refine cE_cond true (congrArg Value.bool b23) (fun _ => ?_) (fun h => by cases h)
  refine cE_skip (then_n (cE_seq (cE_block (cE_seq ?_))))
  rcases Bool.eq_false_or_eq_true (mayS (l[i]'(by omega)).d) with b29 | b29
  ·rcases Bool.eq_false_or_eq_true (decide (((l[i]'(by omega)).d.Tier) = (k - 1))) with b37 | b37
   ·have c38 := of_decide_eq_true b37
    refine cE_regionM (fun (D : Nat → Bool) (w : World) => St w0 w [.blk g1 76 #[(iV 0), (iV 0), (iV 0), (iV 0), nS, nS]] ∧ (D 4 = false → St w0 w [.blk g1 76 #[(iV 0), (iV 0), (iV 0), (iV 0), nS, nS]]) ∧ (D 4 = true → St w0 w [.blk g1 76 #[(iV 0), (iV 0), (iV 0), (iV 0), nS, nS]])) [[(0, none)], [(8, none)], [(45, some 0), (46, some 1)], [(47, some 2)], [(48, some 3)], [(49, some 4)], [(50, some 5)], [(0, none), (51, some 6)], [(8, none), (51, some 6)], [(52, some 7), (53, some 8), (51, some 6)], [(54, some 9), (51, some 6)], [(55, some 10), (51, some 6)], [(2, none), (51, some 6)], [(57, some 12), (51, some 6)], [(56, some 11), (58, some 13), (51, some 6)], [(51, some 6), (59, some 14)], [(60, some 15)], [(8, none), (61, some 16)], [(62, some 17), (61, some 16)], [(63, some 18), (61, some 16)], [(0, none), (64, some 19)], [(8, none), (64, some 19)], [(65, some 20), (66, some 21), (64, some 19)], [(67, some 22), (64, some 19)], [(68, some 23), (64, some 19)], [(0, none), (64, some 19)], [(8, none), (64, some 19)], [(71, some 26), (64, some 19)], [(70, some 25), (72, some 27), (64, some 19)], [(73, some 28), (64, some 19)], [(74, some 29), (64, some 19)], [(69, some 24), (75, some 30), (64, some 19)], [(64, some 19), (76, some 31), (61, some 16)], [(61, some 16), (77, some 32)]] [4] [(kEq v_l), (kEq (iV (i : Int))), (kPt0 w0 [(iV ((l[i]'(by omega)).d.Id)), (iV ((l[i]'(by omega)).d.Tier)), (iV ((l[i]'(by omega)).d.From)), (iV ((l[i]'(by omega)).d.To)), (l[i]'(by omega)).sv.1, (l[i]'(by omega)).av.1]), (kEq (.agg #[(iV ((l[i]'(by omega)).d.Id)), (iV ((l[i]'(by omega)).d.Tier)), (iV ((l[i]'(by omega)).d.From)), (iV ((l[i]'(by omega)).d.To)), (l[i]'(by omega)).sv.1, (l[i]'(by omega)).av.1])), (kEq (.bool (mayS (l[i]'(by omega)).d))), (kEq (.bool (!(mayS (l[i]'(by omega)).d)))), (kEq (.bool (!(mayS (l[i]'(by omega)).d)))), (kEq v_l), (kEq (iV (i : Int))), (kPt0 w0 [(iV ((l[i]'(by omega)).d.Id)), (iV ((l[i]'(by omega)).d.Tier)), (iV ((l[i]'(by omega)).d.From)), (iV ((l[i]'(by omega)).d.To)), (l[i]'(by omega)).sv.1, (l[i]'(by omega)).av.1]), (kPt0 w0 [(iV ((l[i]'(by omega)).d.Tier)), (iV ((l[i]'(by omega)).d.From)), (iV ((l[i]'(by omega)).d.To)), (l[i]'(by omega)).sv.1, (l[i]'(by omega)).av.1]), (kEq (iV ((l[i]'(by omega)).d.Tier))), (kEq (iV k)), (kEq (iV (k - 1))), (kEq (.bool (!decide (((l[i]'(by omega)).d.Tier) = (k - 1))))), (kEq (.bool (!decide (((l[i]'(by omega)).d.Tier) = (k - 1))))), (kEq (.bool (!decide (((l[i]'(by omega)).d.Tier) = (k - 1))))), (kEq (iV (i : Int))), (kEq (.bool (decide (0 < (i : Int))))), (kEq (.bool (decide (0 < (i : Int))))), kEq undef, kEq undef, kEq undef, kEq undef, kEq undef, kEq undef, kEq undef, kEq undef, kEq undef, kEq undef, kEq undef, kEq undef, (kEq (.bool false)), (kEq (.bool false))] ⟨mEq, mEq, mPt0, mEq, mEq, mEq, mEq, mEq, mEq, mPt0, mPt0, mEq, mEq, mEq, mEq, mEq, mEq, mEq, mEq, mEq, mEq, mEq, mEq, mEq, mEq, mEq, mEq, mEq, mEq, mEq, mEq, mEq, mEq, mEq, trivial⟩ (by kernel_rfl) rfl (by kernel_rfl) ⟨hst.drewW.sub (.cons_cons _ .slnil), (fun _ => hst.drewW), (fun h => absurd h Bool.false_ne_true)⟩ (fun hM => ⟨?_, ?_, ?_, ?_, ?_, ?_, ?_, ?_, ?_, ?_, ?_, ?_, ?_, ?_, ?_, ?_, ?_, ?_, ?_, ?_, ?_, ?_, ?_, ?_, ?_, ?_, ?_, ?_, ?_, ?_, ?_, ?_, ?_, ?_, trivial⟩) ?_
    ·rintro D ρo wo nD eD cD jD aD ⟨f0, _⟩
     exact go_plain (op_move v_l (f0.trans q19_0) (kN0 (i := 0) hM (by decide) (by exact jD) (by exact rfl)))
    ·rintro D ρo wo nD eD cD jD aD ⟨f8, _⟩
     exact go_plain (op_move (iV (i : Int)) (f8.trans q19_8) (kN0 (i := 1) hM (by decide) (by exact jD) (by exact rfl)))
    ·rintro D ρo wo nD eD cD jD aD ⟨f45, f46, _⟩
     refine go_plain (op_indexAddrN (E := segE) (xs := l) i Try.underlying44 Try.sizeOf76 f45 h_l f46 (by omega) (by omega) (fun a47 o48 p49 => ?_))
     exact (kN0 (i := 2) hM (by decide) (by exact jD) (by exact ⟨_, _, rfl, p49⟩))
    ·rintro D ρo wo nD eD cD jD aD ⟨f47, _⟩
     have hst := jD.2.1 (not_yet nD (fun hm => (cD 4 3 hm (by kernel_rfl))))
     obtain ⟨a50, o51, e52, p53⟩ := f47
     exact go_plain (op_loadN (cs := [(iV ((l[i]'(by omega)).d.Id)), (iV ((l[i]'(by omega)).d.Tier)), (iV ((l[i]'(by omega)).d.From)), (iV ((l[i]'(by omega)).d.To)), (l[i]'(by omega)).sv.1, (l[i]'(by omega)).av.1]) Try.isAgg76 Try.sizeOf76 e52 (Pt.of (p53.below hst.below) rfl) rfl (kN0 (i := 3) hM (by decide) (by exact jD) (by exact rfl)))
    ·rintro D ρo wo nD eD cD jD aD ⟨f48, _⟩
     have hst := jD.2.1 nD
     refine go_plain (op_call Try.call48 (evs_cons (v := (.agg #[(iV ((l[i]'(by omega)).d.Id)), (iV ((l[i]'(by omega)).d.Tier)), (iV ((l[i]'(by omega)).d.From)), (iV ((l[i]'(by omega)).d.To)), (l[i]'(by omega)).sv.1, (l[i]'(by omega)).av.1])) f48 evs_nil) (c_rMaySeg (w0 := wo) (s := (l[i]'(by omega))) (h_s := ⟨((hsg (l[i]'(by omega)) (List.getElem_mem _)).1.below hst.below), ((hsg (l[i]'(by omega)) (List.getElem_mem _)).2.below hst.below)⟩) (hs := (hso _ (List.getElem_mem _)))) ?_)
     rintro _ w54 ⟨rfl, hcall⟩
     refine ⟨_, rfl, ?_⟩
     have hst := hst.call hcall
     refine ⟨by exact ⟨hst.sub (.cons_cons _ .slnil), (fun y0 => absurd y0 (fun h => Bool.noConfusion h)), (fun y0 => hst.sub (.cons_cons _ .slnil))⟩, by exact rfl, kX [] (by exact ⟨Or.inr (Or.inr (Or.inr iEq)), Or.inr (Or.inr (Or.inr iEq)), Or.inr (Or.inr (Or.inr iPt0)), Or.inr (Or.inr (Or.inr iEq)), Or.inl rfl, Or.inr (Or.inr (Or.inl (not_yet nD (fun hm => (cD 5 4 hm (by kernel_rfl)))))), Or.inr (Or.inr (Or.inl (not_yet nD (fun hm => (cD 6 4 hm (by kernel_rfl)))))), Or.inr (Or.inr (Or.inl (not_yet nD (fun hm => (cD 6 4 (cD 7 6 hm (by kernel_rfl)) (by kernel_rfl)))))), Or.inr (Or.inr (Or.inl (not_yet nD (fun hm => (cD 6 4 (cD 8 6 hm (by kernel_rfl)) (by kernel_rfl)))))), Or.inr (Or.inr (Or.inl (not_yet nD (fun hm => (cD 6 4 (cD 9 6 hm (by kernel_rfl)) (by kernel_rfl)))))), Or.inr (Or.inr (Or.inl (not_yet nD (fun hm => (cD 6 4 (cD 10 6 hm (by kernel_rfl)) (by kernel_rfl)))))), Or.inr (Or.inr (Or.inl (not_yet nD (fun hm => (cD 6 4 (cD 11 6 hm (by kernel_rfl)) (by kernel_rfl)))))), Or.inr (Or.inr (Or.inl (not_yet nD (fun hm => (cD 6 4 (cD 12 6 hm (by kernel_rfl)) (by kernel_rfl)))))), Or.inr (Or.inr (Or.inl (not_yet nD (fun hm => (cD 6 4 (cD 13 6 hm (by kernel_rfl)) (by kernel_rfl)))))), Or.inr (Or.inr (Or.inl (not_yet nD (fun hm => (cD 6 4 (cD 14 6 hm (by kernel_rfl)) (by kernel_rfl)))))), Or.inr (Or.inr (Or.inl (not_yet nD (fun hm => (cD 6 4 (cD 15 6 hm (by kernel_rfl)) (by kernel_rfl)))))), Or.inr (Or.inr (Or.inl (not_yet nD (fun hm => (cD 6 4 (cD 16 6 hm (by kernel_rfl)) (by kernel_rfl)))))), Or.inr (Or.inr (Or.inl (not_yet nD (fun hm => (cD 6 4 (cD 16 6 (cD 17 16 hm (by kernel_rfl)) (by kernel_rfl)) (by kernel_rfl)))))), Or.inr (Or.inr (Or.inl (not_yet nD (fun hm => (cD 6 4 (cD 16 6 (cD 18 16 hm (by kernel_rfl)) (by kernel_rfl)) (by kernel_rfl)))))), Or.inr (Or.inr (Or.inl (not_yet nD (fun hm => (cD 6 4 (cD 16 6 (cD 19 16 hm (by kernel_rfl)) (by kernel_rfl)) (by kernel_rfl)))))), Or.inr (Or.inr (Or.inl (not_yet nD (fun hm => (cD 6 4 (cD 16 6 (cD 19 16 (cD 20 19 hm (by kernel_rfl)) (by kernel_rfl)) (by kernel_rfl)) (by kernel_rfl)))))), Or.inr (Or.inr (Or.inl (not_yet nD (fun hm => (cD 6 4 (cD 16 6 (cD 19 16 (cD 21 19 hm (by kernel_rfl)) (by kernel_rfl)) (by kernel_rfl)) (by kernel_rfl)))))), Or.inr (Or.inr (Or.inl (not_yet nD (fun hm => (cD 6 4 (cD 16 6 (cD 19 16 (cD 22 19 hm (by kernel_rfl)) (by kernel_rfl)) (by kernel_rfl)) (by kernel_rfl)))))), Or.inr (Or.inr (Or.inl (not_yet nD (fun hm => (cD 6 4 (cD 16 6 (cD 19 16 (cD 23 19 hm (by kernel_rfl)) (by kernel_rfl)) (by kernel_rfl)) (by kernel_rfl)))))), Or.inr (Or.inr (Or.inl (not_yet nD (fun hm => (cD 6 4 (cD 16 6 (cD 19 16 (cD 24 19 hm (by kernel_rfl)) (by kernel_rfl)) (by kernel_rfl)) (by kernel_rfl)))))), Or.inr (Or.inr (Or.inl (not_yet nD (fun hm => (cD 6 4 (cD 16 6 (cD 19 16 (cD 25 19 hm (by kernel_rfl)) (by kernel_rfl)) (by kernel_rfl)) (by kernel_rfl)))))), Or.inr (Or.inr (Or.inl (not_yet nD (fun hm => (cD 6 4 (cD 16 6 (cD 19 16 (cD 26 19 hm (by kernel_rfl)) (by kernel_rfl)) (by kernel_rfl)) (by kernel_rfl)))))), Or.inr (Or.inr (Or.inl (not_yet nD (fun hm => (cD 6 4 (cD 16 6 (cD 19 16 (cD 27 19 hm (by kernel_rfl)) (by kernel_rfl)) (by kernel_rfl)) (by kernel_rfl)))))), Or.inr (Or.inr (Or.inl (not_yet nD (fun hm => (cD 6 4 (cD 16 6 (cD 19 16 (cD 28 19 hm (by kernel_rfl)) (by kernel_rfl)) (by kernel_rfl)) (by kernel_rfl)))))), Or.inr (Or.inr (Or.inl (not_yet nD (fun hm => (cD 6 4 (cD 16 6 (cD 19 16 (cD 29 19 hm (by kernel_rfl)) (by kernel_rfl)) (by kernel_rfl)) (by kernel_rfl)))))), Or.inr (Or.inr (Or.inl (not_yet nD (fun hm => (cD 6 4 (cD 16 6 (cD 19 16 (cD 30 19 hm (by kernel_rfl)) (by kernel_rfl)) (by kernel_rfl)) (by kernel_rfl)))))), Or.inr (Or.inr (Or.inl (not_yet nD (fun hm => (cD 6 4 (cD 16 6 (cD 19 16 (cD 31 19 hm (by kernel_rfl)) (by kernel_rfl)) (by kernel_rfl)) (by kernel_rfl)))))), Or.inr (Or.inr (Or.inl (not_yet nD (fun hm => (cD 6 4 (cD 16 6 (cD 32 16 hm (by kernel_rfl)) (by kernel_rfl)) (by kernel_rfl)))))), Or.inr (Or.inr (Or.inl (not_yet nD (fun hm => (cD 6 4 (cD 16 6 (cD 33 16 hm (by kernel_rfl)) (by kernel_rfl)) (by kernel_rfl)))))), trivial⟩) ?_⟩
     intro j d hj; cases hj
    ·rintro D ρo wo nD eD cD jD aD ⟨f49, _⟩
     exact go_plain (op_not (b := (mayS (l[i]'(by omega)).d)) f49 (kN0 (i := 5) hM (by decide) (by exact jD) (by exact rfl)))
    ·rintro D ρo wo nD eD cD jD aD ⟨f50, _⟩
     exact go_plain (op_move (.bool (!(mayS (l[i]'(by omega)).d))) f50 (kN0 (i := 6) hM (by decide) (by exact jD) (by exact rfl)))
    ·rintro D ρo wo nD eD cD jD aD ⟨f0, f51, _⟩
     exact go_yes 51 rfl (f51.trans (congrArg Value.bool (congrArg (! ·) b29))) (op_move v_l (f0.trans q19_0) (kN0 (i := 7) hM (by decide) (by exact jD) (by exact rfl)))
    ·rintro D ρo wo nD eD cD jD aD ⟨f8, f51, _⟩
     exact go_yes 51 rfl (f51.trans (congrArg Value.bool (congrArg (! ·) b29))) (op_move (iV (i : Int)) (f8.trans q19_8) (kN0 (i := 8) hM (by decide) (by exact jD) (by exact rfl)))
    ·rintro D ρo wo nD eD cD jD aD ⟨f52, f53, f51, _⟩
     refine go_yes 51 rfl (f51.trans (congrArg Value.bool (congrArg (! ·) b29))) (op_indexAddrN (E := segE) (xs := l) i Try.underlying44 Try.sizeOf76 f52 h_l f53 (by omega) (by omega) (fun a56 o57 p58 => ?_))
     exact (kN0 (i := 9) hM (by decide) (by exact jD) (by exact ⟨_, _, rfl, p58⟩))
    ·rintro D ρo wo nD eD cD jD aD ⟨f54, f51, _⟩
     obtain ⟨a59, o60, e61, p62⟩ := f54
     exact go_yes 51 rfl (f51.trans (congrArg Value.bool (congrArg (! ·) b29))) (op_fieldAddr (s := 0) Try.underlying76 rfl rfl Try.sizeOf3 e61 (kN0 (i := 10) hM (by decide) (by exact jD) (by exact ⟨_, _, rfl, (p62.drop 1)⟩)))
    ·rintro D ρo wo nD eD cD jD aD ⟨f55, f51, _⟩
     have hst := jD.2.2 (cD 6 4 (eD 6 (by kernel_rfl)) (by kernel_rfl))
     obtain ⟨a63, o64, e65, p66⟩ := f55
     exact go_yes 51 rfl (f51.trans (congrArg Value.bool (congrArg (! ·) b29))) (op_load1 (u := (iV ((l[i]'(by omega)).d.Tier))) Try.isAgg3 e65 (p66.below hst.below) (kN0 (i := 11) hM (by decide) (by exact jD) (by exact rfl)))
    ·rintro D ρo wo nD eD cD jD aD ⟨f2, f51, _⟩
     exact go_yes 51 rfl (f51.trans (congrArg Value.bool (congrArg (! ·) b29))) (op_move (iV k) (f2.trans q19_2) (kN0 (i := 12) hM (by decide) (by exact jD) (by exact rfl)))
    ·rintro D ρo wo nD eD cD jD aD ⟨f57, f51, _⟩
     exact go_yes 51 rfl (f51.trans (congrArg Value.bool (congrArg (! ·) b29))) (op_sub (k := .i64) (a := k) (b := 1) (k - 1) f57 rfl (xi64 (by omega) (by omega)) (kN0 (i := 13) hM (by decide) (by exact jD) (by exact rfl)))
    ·rintro D ρo wo nD eD cD jD aD ⟨f56, f58, f51, _⟩
     exact go_yes 51 rfl (f51.trans (congrArg Value.bool (congrArg (! ·) b29))) (op_neq (k := .i64) (a := (l[i]'(by omega)).d.Tier) (b := (k - 1)) f56 f58 (kN0 (i := 14) hM (by decide) (by exact jD) (by exact rfl)))
    ·rintro D ρo wo nD eD cD jD aD ⟨f51, f59, _⟩
     exact go_plain (op_pick_f (.bool (!decide (((l[i]'(by omega)).d.Tier) = (k - 1)))) (f51.trans (congrArg Value.bool (congrArg (! ·) b29))) f59 (kN0 (i := 15) hM (by decide) (by exact jD) (by exact rfl)))
    ·rintro D ρo wo nD eD cD jD aD ⟨f60, _⟩
     exact go_plain (op_move (.bool (!decide (((l[i]'(by omega)).d.Tier) = (k - 1)))) f60 (kN0 (i := 16) hM (by decide) (by exact jD) (by exact rfl)))
    ·rintro D ρo wo nD eD cD jD aD ⟨f8, f61, _⟩
     exact go_yes 61 rfl (f61.trans (congrArg Value.bool (congrArg (! ·) b37))) (op_move (iV (i : Int)) (f8.trans q19_8) (kN0 (i := 17) hM (by decide) (by exact jD) (by exact rfl)))
    ·rintro D ρo wo nD eD cD jD aD ⟨f62, f61, _⟩
     exact go_yes 61 rfl (f61.trans (congrArg Value.bool (congrArg (! ·) b37))) (op_gtr (k := .i64) (a := (i : Int)) (b := 0) f62 rfl (kN0 (i := 18) hM (by decide) (by exact jD) (by exact rfl)))
    ·rintro D ρo wo nD eD cD jD aD ⟨f63, f61, _⟩
     exact go_yes 61 rfl (f61.trans (congrArg Value.bool (congrArg (! ·) b37))) (op_move (.bool (decide (0 < (i : Int)))) f63 (kN0 (i := 19) hM (by decide) (by exact jD) (by exact rfl)))
    ·rintro D ρo wo nD eD cD jD aD ⟨f0, f64, _⟩
     exact go_no 64 rfl (f64.trans (congrArg Value.bool (show (decide (0 < (i : Int))) = false from (decide_eq_false (by omega))))) (kN0 (i := 20) hM (by decide) (by exact jD) (by exact rfl))
    ·rintro D ρo wo nD eD cD jD aD ⟨f8, f64, _⟩
     exact go_no 64 rfl (f64.trans (congrArg Value.bool (show (decide (0 < (i : Int))) = false from (decide_eq_false (by omega))))) (kN0 (i := 21) hM (by decide) (by exact jD) (by exact rfl))
    ·rintro D ρo wo nD eD cD jD aD ⟨f65, f66, f64, _⟩
     exact go_no 64 rfl (f64.trans (congrArg Value.bool (show (decide (0 < (i : Int))) = false from (decide_eq_false (by omega))))) (kN0 (i := 22) hM (by decide) (by exact jD) (by exact rfl))
    ·rintro D ρo wo nD eD cD jD aD ⟨f67, f64, _⟩
     exact go_no 64 rfl (f64.trans (congrArg Value.bool (show (decide (0 < (i : Int))) = false from (decide_eq_false (by omega))))) (kN0 (i := 23) hM (by decide) (by exact jD) (by exact rfl))
    ·rintro D ρo wo nD eD cD jD aD ⟨f68, f64, _⟩
     exact go_no 64 rfl (f64.trans (congrArg Value.bool (show (decide (0 < (i : Int))) = false from (decide_eq_false (by omega))))) (kN0 (i := 24) hM (by decide) (by exact jD) (by exact rfl))
    ·rintro D ρo wo nD eD cD jD aD ⟨f0, f64, _⟩
     exact go_no 64 rfl (f64.trans (congrArg Value.bool (show (decide (0 < (i : Int))) = false from (decide_eq_false (by omega))))) (kN0 (i := 25) hM (by decide) (by exact jD) (by exact rfl))
    ·rintro D ρo wo nD eD cD jD aD ⟨f8, f64, _⟩
     exact go_no 64 rfl (f64.trans (congrArg Value.bool (show (decide (0 < (i : Int))) = false from (decide_eq_false (by omega))))) (kN0 (i := 26) hM (by decide) (by exact jD) (by exact rfl))
    ·rintro D ρo wo nD eD cD jD aD ⟨f71, f64, _⟩
     exact go_no 64 rfl (f64.trans (congrArg Value.bool (show (decide (0 < (i : Int))) = false from (decide_eq_false (by omega))))) (kN0 (i := 27) hM (by decide) (by exact jD) (by exact rfl))
    ·rintro D ρo wo nD eD cD jD aD ⟨f70, f72, f64, _⟩
     exact go_no 64 rfl (f64.trans (congrArg Value.bool (show (decide (0 < (i : Int))) = false from (decide_eq_false (by omega))))) (kN0 (i := 28) hM (by decide) (by exact jD) (by exact rfl))
    ·rintro D ρo wo nD eD cD jD aD ⟨f73, f64, _⟩
     exact go_no 64 rfl (f64.trans (congrArg Value.bool (show (decide (0 < (i : Int))) = false from (decide_eq_false (by omega))))) (kN0 (i := 29) hM (by decide) (by exact jD) (by exact rfl))
    ·rintro D ρo wo nD eD cD jD aD ⟨f74, f64, _⟩
     exact go_no 64 rfl (f64.trans (congrArg Value.bool (show (decide (0 < (i : Int))) = false from (decide_eq_false (by omega))))) (kN0 (i := 30) hM (by decide) (by exact jD) (by exact rfl))
    ·rintro D ρo wo nD eD cD jD aD ⟨f69, f75, f64, _⟩
     exact go_no 64 rfl (f64.trans (congrArg Value.bool (show (decide (0 < (i : Int))) = false from (decide_eq_false (by omega))))) (kN0 (i := 31) hM (by decide) (by exact jD) (by exact rfl))
    ·rintro D ρo wo nD eD cD jD aD ⟨f64, f76, f61, _⟩
     exact go_yes 61 rfl (f61.trans (congrArg Value.bool (congrArg (! ·) b37))) (op_pick_f (.bool false) (f64.trans (congrArg Value.bool (show (decide (0 < (i : Int))) = false from (decide_eq_false (by omega))))) rfl (kN0 (i := 32) hM (by decide) (by exact jD) (by exact rfl)))
    ·rintro D ρo wo nD eD cD jD aD ⟨f61, f77, _⟩
     exact go_plain (op_pick_f (.bool false) (f61.trans (congrArg Value.bool (congrArg (! ·) b37))) f77 (kN0 (i := 33) hM (by decide) (by exact jD) (by exact rfl)))
    intro ρ67 w68 Dw68 hallw68 hJw68 hRw68 hkw68
    have hst : St w0 w68 [.blk g1 76 #[(iV 0), (iV 0), (iV 0), (iV 0), nS, nS]] := hJw68.2.2 (hallw68 4 (show 4 < 34 from by decide))
    have uw68_0 := (hkw68 0 rfl).trans q19_0
    have uw68_1 := (hkw68 1 rfl).trans q19_1
    have uw68_2 := (hkw68 2 rfl).trans q19_2
    have uw68_6 := (hkw68 6 rfl).trans q19_6
    have uw68_8 := (hkw68 8 rfl).trans q19_8
    have uw68_78 : ρ67 78 = (.bool false) := hRw68 33 78 rfl
    refine then_n (cE_cond false uw68_78 (fun h => by cases h) (fun _ => ?_))
    refine cE_skip (block_n (then_n (cE_region rfl (s_cons (op_move (iV (i : Int)) uw68_8 (s_cons (op_add (k := .i64) (a := (i : Int)) (b := 1) ((i : Int) + 1) rfl rfl (xi64 (by omega) (by omega)) (s_cons (op_assign (iV ((i : Int) + 1)) rfl (s_nil (then_n ?_)))))))))))
    exact ⟨_, ⟨(i + 1), rfl, uw68_0, uw68_1, uw68_2, uw68_6, (congrArg iV (show ((i : Int) + 1) = _ from by omega)), hst, (by omega), (by exact Or.inr (roll_may (i := i) (by omega) hl1 (by assumption) (by omega)))⟩, (by simp only [id]; omega)⟩
   have c69 := of_decide_eq_false b37
   refine cE_regionM (fun (D : Nat → Bool) (w : World) => St w0 w [.blk g1 76 #[(iV 0), (iV 0), (iV 0), (iV 0), nS, nS]] ∧ (D 4 = false → St w0 w [.blk g1 76 #[(iV 0), (iV 0), (iV 0), (iV 0), nS, nS]]) ∧ (D 4 = true → St w0 w [.blk g1 76 #[(iV 0), (iV 0), (iV 0), (iV 0), nS, nS]])) [[(0, none)], [(8, none)], [(45, some 0), (46, some 1)], [(47, some 2)], [(48, some 3)], [(49, some 4)], [(50, some 5)], [(0, none), (51, some 6)], [(8, none), (51, some 6)], [(52, some 7), (53, some 8), (51, some 6)], [(54, some 9), (51, some 6)], [(55, some 10), (51, some 6)], [(2, none), (51, some 6)], [(57, some 12), (51, some 6)], [(56, some 11), (58, some 13), (51, some 6)], [(51, some 6), (59, some 14)], [(60, some 15)], [(8, none), (61, some 16)], [(62, some 17), (61, some 16)], [(63, some 18), (61, some 16)], [(0, none), (64, some 19)], [(8, none), (64, some 19)], [(65, some 20), (66, some 21), (64, some 19)], [(67, some 22), (64, some 19)], [(68, some 23), (64, some 19)], [(0, none), (64, some 19)], [(8, none), (64, some 19)], [(71, some 26), (64, some 19)], [(70, some 25), (72, some 27), (64, some 19)], [(73, some 28), (64, some 19)], [(74, some 29), (64, some 19)], [(69, some 24), (75, some 30), (64, some 19)], [(64, some 19), (76, some 31), (61, some 16)], [(61, some 16), (77, some 32)]] [4] [(kEq v_l), (kEq (iV (i : Int))), (kPt0 w0 [(iV ((l[i]'(by omega)).d.Id)), (iV ((l[i]'(by omega)).d.Tier)), (iV ((l[i]'(by omega)).d.From)), (iV ((l[i]'(by omega)).d.To)), (l[i]'(by omega)).sv.1, (l[i]'(by omega)).av.1]), (kEq (.agg #[(iV ((l[i]'(by omega)).d.Id)), (iV ((l[i]'(by omega)).d.Tier)), (iV ((l[i]'(by omega)).d.From)), (iV ((l[i]'(by omega)).d.To)), (l[i]'(by omega)).sv.1, (l[i]'(by omega)).av.1])), (kEq (.bool (mayS (l[i]'(by omega)).d))), (kEq (.bool (!(mayS (l[i]'(by omega)).d)))), (kEq (.bool (!(mayS (l[i]'(by omega)).d)))), (kEq v_l), (kEq (iV (i : Int))), (kPt0 w0 [(iV ((l[i]'(by omega)).d.Id)), (iV ((l[i]'(by omega)).d.Tier)), (iV ((l[i]'(by omega)).d.From)), (iV ((l[i]'(by omega)).d.To)), (l[i]'(by omega)).sv.1, (l[i]'(by omega)).av.1]), (kPt0 w0 [(iV ((l[i]'(by omega)).d.Tier)), (iV ((l[i]'(by omega)).d.From)), (iV ((l[i]'(by omega)).d.To)), (l[i]'(by omega)).sv.1, (l[i]'(by omega)).av.1]), (kEq (iV ((l[i]'(by omega)).d.Tier))), (kEq (iV k)), (kEq (iV (k - 1))), (kEq (.bool (!decide (((l[i]'(by omega)).d.Tier) = (k - 1))))), (kEq (.bool (!decide (((l[i]'(by omega)).d.Tier) = (k - 1))))), (kEq (.bool (!decide (((l[i]'(by omega)).d.Tier) = (k - 1))))), kEq undef, kEq undef, kEq undef, kEq undef, kEq undef, kEq undef, kEq undef, kEq undef, kEq undef, kEq undef, kEq undef, kEq undef, kEq undef, kEq undef, kEq undef, kEq undef, (kEq (.bool true))] ⟨mEq, mEq, mPt0, mEq, mEq, mEq, mEq, mEq, mEq, mPt0, mPt0, mEq, mEq, mEq, mEq, mEq, mEq, mEq, mEq, mEq, mEq, mEq, mEq, mEq, mEq, mEq, mEq, mEq, mEq, mEq, mEq, mEq, mEq, mEq, trivial⟩ (by kernel_rfl) rfl (by kernel_rfl) ⟨hst.drewW.sub (.cons_cons _ .slnil), (fun _ => hst.drewW), (fun h => absurd h Bool.false_ne_true)⟩ (fun hM => ⟨?_, ?_, ?_, ?_, ?_, ?_, ?_, ?_, ?_, ?_, ?_, ?_, ?_, ?_, ?_, ?_, ?_, ?_, ?_, ?_, ?_, ?_, ?_, ?_, ?_, ?_, ?_, ?_, ?_, ?_, ?_, ?_, ?_, ?_, trivial⟩) ?_
   ·rintro D ρo wo nD eD cD jD aD ⟨f0, _⟩
    exact go_plain (op_move v_l (f0.trans q19_0) (kN0 (i := 0) hM (by decide) (by exact jD) (by exact rfl)))
   ·rintro D ρo wo nD eD cD jD aD ⟨f8, _⟩
    exact go_plain (op_move (iV (i : Int)) (f8.trans q19_8) (kN0 (i := 1) hM (by decide) (by exact jD) (by exact rfl)))
   ·rintro D ρo wo nD eD cD jD aD ⟨f45, f46, _⟩
    refine go_plain (op_indexAddrN (E := segE) (xs := l) i Try.underlying44 Try.sizeOf76 f45 h_l f46 (by omega) (by omega) (fun a78 o79 p80 => ?_))
    exact (kN0 (i := 2) hM (by decide) (by exact jD) (by exact ⟨_, _, rfl, p80⟩))
   ·rintro D ρo wo nD eD cD jD aD ⟨f47, _⟩
    have hst := jD.2.1 (not_yet nD (fun hm => (cD 4 3 hm (by kernel_rfl))))
    obtain ⟨a81, o82, e83, p84⟩ := f47
    exact go_plain (op_loadN (cs := [(iV ((l[i]'(by omega)).d.Id)), (iV ((l[i]'(by omega)).d.Tier)), (iV ((l[i]'(by omega)).d.From)), (iV ((l[i]'(by omega)).d.To)), (l[i]'(by omega)).sv.1, (l[i]'(by omega)).av.1]) Try.isAgg76 Try.sizeOf76 e83 (Pt.of (p84.below hst.below) rfl) rfl (kN0 (i := 3) hM (by decide) (by exact jD) (by exact rfl)))
   ·rintro D ρo wo nD eD cD jD aD ⟨f48, _⟩
    have hst := jD.2.1 nD
    refine go_plain (op_call Try.call48 (evs_cons (v := (.agg #[(iV ((l[i]'(by omega)).d.Id)), (iV ((l[i]'(by omega)).d.Tier)), (iV ((l[i]'(by omega)).d.From)), (iV ((l[i]'(by omega)).d.To)), (l[i]'(by omega)).sv.1, (l[i]'(by omega)).av.1])) f48 evs_nil) (c_rMaySeg (w0 := wo) (s := (l[i]'(by omega))) (h_s := ⟨((hsg (l[i]'(by omega)) (List.getElem_mem _)).1.below hst.below), ((hsg (l[i]'(by omega)) (List.getElem_mem _)).2.below hst.below)⟩) (hs := (hso _ (List.getElem_mem _)))) ?_)
    rintro _ w85 ⟨rfl, hcall⟩
    refine ⟨_, rfl, ?_⟩
    have hst := hst.call hcall
    refine ⟨by exact ⟨hst.sub (.cons_cons _ .slnil), (fun y0 => absurd y0 (fun h => Bool.noConfusion h)), (fun y0 => hst.sub (.cons_cons _ .slnil))⟩, by exact rfl, kX [] (by exact ⟨Or.inr (Or.inr (Or.inr iEq)), Or.inr (Or.inr (Or.inr iEq)), Or.inr (Or.inr (Or.inr iPt0)), Or.inr (Or.inr (Or.inr iEq)), Or.inl rfl, Or.inr (Or.inr (Or.inl (not_yet nD (fun hm => (cD 5 4 hm (by kernel_rfl)))))), Or.inr (Or.inr (Or.inl (not_yet nD (fun hm => (cD 6 4 hm (by kernel_rfl)))))), Or.inr (Or.inr (Or.inl (not_yet nD (fun hm => (cD 6 4 (cD 7 6 hm (by kernel_rfl)) (by kernel_rfl)))))), Or.inr (Or.inr (Or.inl (not_yet nD (fun hm => (cD 6 4 (cD 8 6 hm (by kernel_rfl)) (by kernel_rfl)))))), Or.inr (Or.inr (Or.inl (not_yet nD (fun hm => (cD 6 4 (cD 9 6 hm (by kernel_rfl)) (by kernel_rfl)))))), Or.inr (Or.inr (Or.inl (not_yet nD (fun hm => (cD 6 4 (cD 10 6 hm (by kernel_rfl)) (by kernel_rfl)))))), Or.inr (Or.inr (Or.inl (not_yet nD (fun hm => (cD 6 4 (cD 11 6 hm (by kernel_rfl)) (by kernel_rfl)))))), Or.inr (Or.inr (Or.inl (not_yet nD (fun hm => (cD 6 4 (cD 12 6 hm (by kernel_rfl)) (by kernel_rfl)))))), Or.inr (Or.inr (Or.inl (not_yet nD (fun hm => (cD 6 4 (cD 13 6 hm (by kernel_rfl)) (by kernel_rfl)))))), Or.inr (Or.inr (Or.inl (not_yet nD (fun hm => (cD 6 4 (cD 14 6 hm (by kernel_rfl)) (by kernel_rfl)))))), Or.inr (Or.inr (Or.inl (not_yet nD (fun hm => (cD 6 4 (cD 15 6 hm (by kernel_rfl)) (by kernel_rfl)))))), Or.inr (Or.inr (Or.inl (not_yet nD (fun hm => (cD 6 4 (cD 16 6 hm (by kernel_rfl)) (by kernel_rfl)))))), Or.inr (Or.inr (Or.inl (not_yet nD (fun hm => (cD 6 4 (cD 16 6 (cD 17 16 hm (by kernel_rfl)) (by kernel_rfl)) (by kernel_rfl)))))), Or.inr (Or.inr (Or.inl (not_yet nD (fun hm => (cD 6 4 (cD 16 6 (cD 18 16 hm (by kernel_rfl)) (by kernel_rfl)) (by kernel_rfl)))))), Or.inr (Or.inr (Or.inl (not_yet nD (fun hm => (cD 6 4 (cD 16 6 (cD 19 16 hm (by kernel_rfl)) (by kernel_rfl)) (by kernel_rfl)))))), Or.inr (Or.inr (Or.inl (not_yet nD (fun hm => (cD 6 4 (cD 16 6 (cD 19 16 (cD 20 19 hm (by kernel_rfl)) (by kernel_rfl)) (by kernel_rfl)) (by kernel_rfl)))))), Or.inr (Or.inr (Or.inl (not_yet nD (fun hm => (cD 6 4 (cD 16 6 (cD 19 16 (cD 21 19 hm (by kernel_rfl)) (by kernel_rfl)) (by kernel_rfl)) (by kernel_rfl)))))), Or.inr (Or.inr (Or.inl (not_yet nD (fun hm => (cD 6 4 (cD 16 6 (cD 19 16 (cD 22 19 hm (by kernel_rfl)) (by kernel_rfl)) (by kernel_rfl)) (by kernel_rfl)))))), Or.inr (Or.inr (Or.inl (not_yet nD (fun hm => (cD 6 4 (cD 16 6 (cD 19 16 (cD 23 19 hm (by kernel_rfl)) (by kernel_rfl)) (by kernel_rfl)) (by kernel_rfl)))))), Or.inr (Or.inr (Or.inl (not_yet nD (fun hm => (cD 6 4 (cD 16 6 (cD 19 16 (cD 24 19 hm (by kernel_rfl)) (by kernel_rfl)) (by kernel_rfl)) (by kernel_rfl)))))), Or.inr (Or.inr (Or.inl (not_yet nD (fun hm => (cD 6 4 (cD 16 6 (cD 19 16 (cD 25 19 hm (by kernel_rfl)) (by kernel_rfl)) (by kernel_rfl)) (by kernel_rfl)))))), Or.inr (Or.inr (Or.inl (not_yet nD (fun hm => (cD 6 4 (cD 16 6 (cD 19 16 (cD 26 19 hm (by kernel_rfl)) (by kernel_rfl)) (by kernel_rfl)) (by kernel_rfl)))))), Or.inr (Or.inr (Or.inl (not_yet nD (fun hm => (cD 6 4 (cD 16 6 (cD 19 16 (cD 27 19 hm (by kernel_rfl)) (by kernel_rfl)) (by kernel_rfl)) (by kernel_rfl)))))), Or.inr (Or.inr (Or.inl (not_yet nD (fun hm => (cD 6 4 (cD 16 6 (cD 19 16 (cD 28 19 hm (by kernel_rfl)) (by kernel_rfl)) (by kernel_rfl)) (by kernel_rfl)))))), Or.inr (Or.inr (Or.inl (not_yet nD (fun hm => (cD 6 4 (cD 16 6 (cD 19 16 (cD 29 19 hm (by kernel_rfl)) (by kernel_rfl)) (by kernel_rfl)) (by kernel_rfl)))))), Or.inr (Or.inr (Or.inl (not_yet nD (fun hm => (cD 6 4 (cD 16 6 (cD 19 16 (cD 30 19 hm (by kernel_rfl)) (by kernel_rfl)) (by kernel_rfl)) (by kernel_rfl)))))), Or.inr (Or.inr (Or.inl (not_yet nD (fun hm => (cD 6 4 (cD 16 6 (cD 19 16 (cD 31 19 hm (by kernel_rfl)) (by kernel_rfl)) (by kernel_rfl)) (by kernel_rfl)))))), Or.inr (Or.inr (Or.inl (not_yet nD (fun hm => (cD 6 4 (cD 16 6 (cD 32 16 hm (by kernel_rfl)) (by kernel_rfl)) (by kernel_rfl)))))), Or.inr (Or.inr (Or.inl (not_yet nD (fun hm => (cD 6 4 (cD 16 6 (cD 33 16 hm (by kernel_rfl)) (by kernel_rfl)) (by kernel_rfl)))))), trivial⟩) ?_⟩
    intro j d hj; cases hj
   ·rintro D ρo wo nD eD cD jD aD ⟨f49, _⟩
    exact go_plain (op_not (b := (mayS (l[i]'(by omega)).d)) f49 (kN0 (i := 5) hM (by decide) (by exact jD) (by exact rfl)))
   ·rintro D ρo wo nD eD cD jD aD ⟨f50, _⟩
    exact go_plain (op_move (.bool (!(mayS (l[i]'(by omega)).d))) f50 (kN0 (i := 6) hM (by decide) (by exact jD) (by exact rfl)))
   ·rintro D ρo wo nD eD cD jD aD ⟨f0, f51, _⟩
    exact go_yes 51 rfl (f51.trans (congrArg Value.bool (congrArg (! ·) b29))) (op_move v_l (f0.trans q19_0) (kN0 (i := 7) hM (by decide) (by exact jD) (by exact rfl)))
   ·rintro D ρo wo nD eD cD jD aD ⟨f8, f51, _⟩
    exact go_yes 51 rfl (f51.trans (congrArg Value.bool (congrArg (! ·) b29))) (op_move (iV (i : Int)) (f8.trans q19_8) (kN0 (i := 8) hM (by decide) (by exact jD) (by exact rfl)))
   ·rintro D ρo wo nD eD cD jD aD ⟨f52, f53, f51, _⟩
    refine go_yes 51 rfl (f51.trans (congrArg Value.bool (congrArg (! ·) b29))) (op_indexAddrN (E := segE) (xs := l) i Try.underlying44 Try.sizeOf76 f52 h_l f53 (by omega) (by omega) (fun a87 o88 p89 => ?_))
    exact (kN0 (i := 9) hM (by decide) (by exact jD) (by exact ⟨_, _, rfl, p89⟩))
   ·rintro D ρo wo nD eD cD jD aD ⟨f54, f51, _⟩
    obtain ⟨a90, o91, e92, p93⟩ := f54
    exact go_yes 51 rfl (f51.trans (congrArg Value.bool (congrArg (! ·) b29))) (op_fieldAddr (s := 0) Try.underlying76 rfl rfl Try.sizeOf3 e92 (kN0 (i := 10) hM (by decide) (by exact jD) (by exact ⟨_, _, rfl, (p93.drop 1)⟩)))
   ·rintro D ρo wo nD eD cD jD aD ⟨f55, f51, _⟩
    have hst := jD.2.2 (cD 6 4 (eD 6 (by kernel_rfl)) (by kernel_rfl))
    obtain ⟨a94, o95, e96, p97⟩ := f55
    exact go_yes 51 rfl (f51.trans (congrArg Value.bool (congrArg (! ·) b29))) (op_load1 (u := (iV ((l[i]'(by omega)).d.Tier))) Try.isAgg3 e96 (p97.below hst.below) (kN0 (i := 11) hM (by decide) (by exact jD) (by exact rfl)))
   ·rintro D ρo wo nD eD cD jD aD ⟨f2, f51, _⟩
    exact go_yes 51 rfl (f51.trans (congrArg Value.bool (congrArg (! ·) b29))) (op_move (iV k) (f2.trans q19_2) (kN0 (i := 12) hM (by decide) (by exact jD) (by exact rfl)))
   ·rintro D ρo wo nD eD cD jD aD ⟨f57, f51, _⟩
    exact go_yes 51 rfl (f51.trans (congrArg Value.bool (congrArg (! ·) b29))) (op_sub (k := .i64) (a := k) (b := 1) (k - 1) f57 rfl (xi64 (by omega) (by omega)) (kN0 (i := 13) hM (by decide) (by exact jD) (by exact rfl)))
   ·rintro D ρo wo nD eD cD jD aD ⟨f56, f58, f51, _⟩
    exact go_yes 51 rfl (f51.trans (congrArg Value.bool (congrArg (! ·) b29))) (op_neq (k := .i64) (a := (l[i]'(by omega)).d.Tier) (b := (k - 1)) f56 f58 (kN0 (i := 14) hM (by decide) (by exact jD) (by exact rfl)))
   ·rintro D ρo wo nD eD cD jD aD ⟨f51, f59, _⟩
    exact go_plain (op_pick_f (.bool (!decide (((l[i]'(by omega)).d.Tier) = (k - 1)))) (f51.trans (congrArg Value.bool (congrArg (! ·) b29))) f59 (kN0 (i := 15) hM (by decide) (by exact jD) (by exact rfl)))
   ·rintro D ρo wo nD eD cD jD aD ⟨f60, _⟩
    exact go_plain (op_move (.bool (!decide (((l[i]'(by omega)).d.Tier) = (k - 1)))) f60 (kN0 (i := 16) hM (by decide) (by exact jD) (by exact rfl)))
   ·rintro D ρo wo nD eD cD jD aD ⟨f8, f61, _⟩
    exact go_no 61 rfl (f61.trans (congrArg Value.bool (congrArg (! ·) b37))) (kN0 (i := 17) hM (by decide) (by exact jD) (by exact rfl))
   ·rintro D ρo wo nD eD cD jD aD ⟨f62, f61, _⟩
    exact go_no 61 rfl (f61.trans (congrArg Value.bool (congrArg (! ·) b37))) (kN0 (i := 18) hM (by decide) (by exact jD) (by exact rfl))
   ·rintro D ρo wo nD eD cD jD aD ⟨f63, f61, _⟩
    exact go_no 61 rfl (f61.trans (congrArg Value.bool (congrArg (! ·) b37))) (kN0 (i := 19) hM (by decide) (by exact jD) (by exact rfl))
   ·rintro D ρo wo nD eD cD jD aD ⟨f0, f64, _⟩
    exact go_un 64 rfl f64 (kN0 (i := 20) hM (by decide) (by exact jD) (by exact rfl))
   ·rintro D ρo wo nD eD cD jD aD ⟨f8, f64, _⟩
    exact go_un 64 rfl f64 (kN0 (i := 21) hM (by decide) (by exact jD) (by exact rfl))
   ·rintro D ρo wo nD eD cD jD aD ⟨f65, f66, f64, _⟩
    exact go_un 64 rfl f64 (kN0 (i := 22) hM (by decide) (by exact jD) (by exact rfl))
   ·rintro D ρo wo nD eD cD jD aD ⟨f67, f64, _⟩
    exact go_un 64 rfl f64 (kN0 (i := 23) hM (by decide) (by exact jD) (by exact rfl))
   ·rintro D ρo wo nD eD cD jD aD ⟨f68, f64, _⟩
    exact go_un 64 rfl f64 (kN0 (i := 24) hM (by decide) (by exact jD) (by exact rfl))
   ·rintro D ρo wo nD eD cD jD aD ⟨f0, f64, _⟩
    exact go_un 64 rfl f64 (kN0 (i := 25) hM (by decide) (by exact jD) (by exact rfl))
   ·rintro D ρo wo nD eD cD jD aD ⟨f8, f64, _⟩
    exact go_un 64 rfl f64 (kN0 (i := 26) hM (by decide) (by exact jD) (by exact rfl))
   ·rintro D ρo wo nD eD cD jD aD ⟨f71, f64, _⟩
    exact go_un 64 rfl f64 (kN0 (i := 27) hM (by decide) (by exact jD) (by exact rfl))
   ·rintro D ρo wo nD eD cD jD aD ⟨f70, f72, f64, _⟩
    exact go_un 64 rfl f64 (kN0 (i := 28) hM (by decide) (by exact jD) (by exact rfl))
   ·rintro D ρo wo nD eD cD jD aD ⟨f73, f64, _⟩
    exact go_un 64 rfl f64 (kN0 (i := 29) hM (by decide) (by exact jD) (by exact rfl))
   ·rintro D ρo wo nD eD cD jD aD ⟨f74, f64, _⟩
    exact go_un 64 rfl f64 (kN0 (i := 30) hM (by decide) (by exact jD) (by exact rfl))
   ·rintro D ρo wo nD eD cD jD aD ⟨f69, f75, f64, _⟩
    exact go_un 64 rfl f64 (kN0 (i := 31) hM (by decide) (by exact jD) (by exact rfl))
   ·rintro D ρo wo nD eD cD jD aD ⟨f64, f76, f61, _⟩
    exact go_no 61 rfl (f61.trans (congrArg Value.bool (congrArg (! ·) b37))) (kN0 (i := 32) hM (by decide) (by exact jD) (by exact rfl))
   ·rintro D ρo wo nD eD cD jD aD ⟨f61, f77, _⟩
    exact go_plain (op_pick_t (.bool true) (f61.trans (congrArg Value.bool (congrArg (! ·) b37))) rfl (kN0 (i := 33) hM (by decide) (by exact jD) (by exact rfl)))
   intro ρ98 w99 Dw99 hallw99 hJw99 hRw99 hkw99
   have hst : St w0 w99 [.blk g1 76 #[(iV 0), (iV 0), (iV 0), (iV 0), nS, nS]] := hJw99.2.2 (hallw99 4 (show 4 < 34 from by decide))
   have uw99_6 := (hkw99 6 rfl).trans q19_6
   have uw99_78 : ρ98 78 = (.bool true) := hRw99 33 78 rfl
   refine then_n (cE_cond true uw99_78 (fun _ => ?_) (fun h => by cases h))
   refine cE_seq (cE_region rfl (s_cons (op_build (r := (.agg #[(iV 0), (iV 0), (iV 0), (iV 0), nS, nS])) evp_nil (by simp [Instr.build, Instr.fill, Value.cells, Try.runUnderlying76, Try.zeroValue76]) (s_cons0 (op_storeAll hst 0 rfl Try.sizeOf76 uw99_6 rfl rfl rfl (by simp [Value.oneCell']) (fun w100 hst => ?_))))))
   refine s_cons (op_assign (iV 1) rfl (s_nil (then_n (cE_ret (block_r (then_r (then_r (block_r (then_r (postG_r _ (rvN (cs := [(iV 0), (iV 0), (iV 0), (iV 0), nS, nS]) Try.isAgg76 Try.sizeOf76 uw99_6 (Pt.of (hst.cell 0 rfl) rfl) rfl (rvt (v := (iV 1)) rfl rvnil)) ?_))))))))))
   replace hst := hst.nilRow 51 sampE
   replace hst := hst.nilRow 29 aggE
   replace hst := hst.front 1 rfl
   exact ⟨(⟨⟨0, 0, 0, 0, [], []⟩, nilV, nilV⟩ : Seg), (retv2 rfl (congrArg iV (show 1 = (rollS (gd l 0).d nid k).2 from by exact snd_of (roll_no2 (i := i) (by omega) hl1 (by assumption) (by omega))))), hst.sub (.cons_cons _ (.cons_cons _ (.cons _ .slnil))), (by exact fst_of (roll_no2 (i := i) (by omega) hl1 (by assumption) (by omega)))⟩
  refine cE_regionM (fun (D : Nat → Bool) (w : World) => St w0 w [.blk g1 76 #[(iV 0), (iV 0), (iV 0), (iV 0), nS, nS]] ∧ (D 4 = false → St w0 w [.blk g1 76 #[(iV 0), (iV 0), (iV 0), (iV 0), nS, nS]]) ∧ (D 4 = true → St w0 w [.blk g1 76 #[(iV 0), (iV 0), (iV 0), (iV 0), nS, nS]])) [[(0, none)], [(8, none)], [(45, some 0), (46, some 1)], [(47, some 2)], [(48, some 3)], [(49, some 4)], [(50, some 5)], [(0, none), (51, some 6)], [(8, none), (51, some 6)], [(52, some 7), (53, some 8), (51, some 6)], [(54, some 9), (51, some 6)], [(55, some 10), (51, some 6)], [(2, none), (51, some 6)], [(57, some 12), (51, some 6)], [(56, some 11), (58, some 13), (51, some 6)], [(51, some 6), (59, some 14)], [(60, some 15)], [(8, none), (61, some 16)], [(62, some 17), (61, some 16)], [(63, some 18), (61, some 16)], [(0, none), (64, some 19)], [(8, none), (64, some 19)], [(65, some 20), (66, some 21), (64, some 19)], [(67, some 22), (64, some 19)], [(68, some 23), (64, some 19)], [(0, none), (64, some 19)], [(8, none), (64, some 19)], [(71, some 26), (64, some 19)], [(70, some 25), (72, some 27), (64, some 19)], [(73, some 28), (64, some 19)], [(74, some 29), (64, some 19)], [(69, some 24), (75, some 30), (64, some 19)], [(64, some 19), (76, some 31), (61, some 16)], [(61, some 16), (77, some 32)]] [4] [(kEq v_l), (kEq (iV (i : Int))), (kPt0 w0 [(iV ((l[i]'(by omega)).d.Id)), (iV ((l[i]'(by omega)).d.Tier)), (iV ((l[i]'(by omega)).d.From)), (iV ((l[i]'(by omega)).d.To)), (l[i]'(by omega)).sv.1, (l[i]'(by omega)).av.1]), (kEq (.agg #[(iV ((l[i]'(by omega)).d.Id)), (iV ((l[i]'(by omega)).d.Tier)), (iV ((l[i]'(by omega)).d.From)), (iV ((l[i]'(by omega)).d.To)), (l[i]'(by omega)).sv.1, (l[i]'(by omega)).av.1])), (kEq (.bool (mayS (l[i]'(by omega)).d))), (kEq (.bool (!(mayS (l[i]'(by omega)).d)))), (kEq (.bool (!(mayS (l[i]'(by omega)).d)))), kEq undef, kEq undef, kEq undef, kEq undef, kEq undef, kEq undef, kEq undef, kEq undef, (kEq (.bool true)), (kEq (.bool true)), kEq undef, kEq undef, kEq undef, kEq undef, kEq undef, kEq undef, kEq undef, kEq undef, kEq undef, kEq undef, kEq undef, kEq undef, kEq undef, kEq undef, kEq undef, kEq undef, (kEq (.bool true))] ⟨mEq, mEq, mPt0, mEq, mEq, mEq, mEq, mEq, mEq, mEq, mEq, mEq, mEq, mEq, mEq, mEq, mEq, mEq, mEq, mEq, mEq, mEq, mEq, mEq, mEq, mEq, mEq, mEq, mEq, mEq, mEq, mEq, mEq, mEq, trivial⟩ (by kernel_rfl) rfl (by kernel_rfl) ⟨hst.drewW.sub (.cons_cons _ .slnil), (fun _ => hst.drewW), (fun h => absurd h Bool.false_ne_true)⟩ (fun hM => ⟨?_, ?_, ?_, ?_, ?_, ?_, ?_, ?_, ?_, ?_, ?_, ?_, ?_, ?_, ?_, ?_, ?_, ?_, ?_, ?_, ?_, ?_, ?_, ?_, ?_, ?_, ?_, ?_, ?_, ?_, ?_, ?_, ?_, ?_, trivial⟩) ?_
  ·rintro D ρo wo nD eD cD jD aD ⟨f0, _⟩
   exact go_plain (op_move v_l (f0.trans q19_0) (kN0 (i := 0) hM (by decide) (by exact jD) (by exact rfl)))
  ·rintro D ρo wo nD eD cD jD aD ⟨f8, _⟩
   exact go_plain (op_move (iV (i : Int)) (f8.trans q19_8) (kN0 (i := 1) hM (by decide) (by exact jD) (by exact rfl)))
  ·rintro D ρo wo nD eD cD jD aD ⟨f45, f46, _⟩
   refine go_plain (op_indexAddrN (E := segE) (xs := l) i Try.underlying44 Try.sizeOf76 f45 h_l f46 (by omega) (by omega) (fun a106 o107 p108 => ?_))
   exact (kN0 (i := 2) hM (by decide) (by exact jD) (by exact ⟨_, _, rfl, p108⟩))
  ·rintro D ρo wo nD eD cD jD aD ⟨f47, _⟩
   have hst := jD.2.1 (not_yet nD (fun hm => (cD 4 3 hm (by kernel_rfl))))
   obtain ⟨a109, o110, e111, p112⟩ := f47
   exact go_plain (op_loadN (cs := [(iV ((l[i]'(by omega)).d.Id)), (iV ((l[i]'(by omega)).d.Tier)), (iV ((l[i]'(by omega)).d.From)), (iV ((l[i]'(by omega)).d.To)), (l[i]'(by omega)).sv.1, (l[i]'(by omega)).av.1]) Try.isAgg76 Try.sizeOf76 e111 (Pt.of (p112.below hst.below) rfl) rfl (kN0 (i := 3) hM (by decide) (by exact jD) (by exact rfl)))
  ·rintro D ρo wo nD eD cD jD aD ⟨f48, _⟩
   have hst := jD.2.1 nD
   refine go_plain (op_call Try.call48 (evs_cons (v := (.agg #[(iV ((l[i]'(by omega)).d.Id)), (iV ((l[i]'(by omega)).d.Tier)), (iV ((l[i]'(by omega)).d.From)), (iV ((l[i]'(by omega)).d.To)), (l[i]'(by omega)).sv.1, (l[i]'(by omega)).av.1])) f48 evs_nil) (c_rMaySeg (w0 := wo) (s := (l[i]'(by omega))) (h_s := ⟨((hsg (l[i]'(by omega)) (List.getElem_mem _)).1.below hst.below), ((hsg (l[i]'(by omega)) (List.getElem_mem _)).2.below hst.below)⟩) (hs := (hso _ (List.getElem_mem _)))) ?_)
   rintro _ w113 ⟨rfl, hcall⟩
   refine ⟨_, rfl, ?_⟩
   have hst := hst.call hcall
   refine ⟨by exact ⟨hst.sub (.cons_cons _ .slnil), (fun y0 => absurd y0 (fun h => Bool.noConfusion h)), (fun y0 => hst.sub (.cons_cons _ .slnil))⟩, by exact rfl, kX [] (by exact ⟨Or.inr (Or.inr (Or.inr iEq)), Or.inr (Or.inr (Or.inr iEq)), Or.inr (Or.inr (Or.inr iPt0)), Or.inr (Or.inr (Or.inr iEq)), Or.inl rfl, Or.inr (Or.inr (Or.inl (not_yet nD (fun hm => (cD 5 4 hm (by kernel_rfl)))))), Or.inr (Or.inr (Or.inl (not_yet nD (fun hm => (cD 6 4 hm (by kernel_rfl)))))), Or.inr (Or.inr (Or.inl (not_yet nD (fun hm => (cD 6 4 (cD 7 6 hm (by kernel_rfl)) (by kernel_rfl)))))), Or.inr (Or.inr (Or.inl (not_yet nD (fun hm => (cD 6 4 (cD 8 6 hm (by kernel_rfl)) (by kernel_rfl)))))), Or.inr (Or.inr (Or.inl (not_yet nD (fun hm => (cD 6 4 (cD 9 6 hm (by kernel_rfl)) (by kernel_rfl)))))), Or.inr (Or.inr (Or.inl (not_yet nD (fun hm => (cD 6 4 (cD 10 6 hm (by kernel_rfl)) (by kernel_rfl)))))), Or.inr (Or.inr (Or.inl (not_yet nD (fun hm => (cD 6 4 (cD 11 6 hm (by kernel_rfl)) (by kernel_rfl)))))), Or.inr (Or.inr (Or.inl (not_yet nD (fun hm => (cD 6 4 (cD 12 6 hm (by kernel_rfl)) (by kernel_rfl)))))), Or.inr (Or.inr (Or.inl (not_yet nD (fun hm => (cD 6 4 (cD 13 6 hm (by kernel_rfl)) (by kernel_rfl)))))), Or.inr (Or.inr (Or.inl (not_yet nD (fun hm => (cD 6 4 (cD 14 6 hm (by kernel_rfl)) (by kernel_rfl)))))), Or.inr (Or.inr (Or.inl (not_yet nD (fun hm => (cD 6 4 (cD 15 6 hm (by kernel_rfl)) (by kernel_rfl)))))), Or.inr (Or.inr (Or.inl (not_yet nD (fun hm => (cD 6 4 (cD 16 6 hm (by kernel_rfl)) (by kernel_rfl)))))), Or.inr (Or.inr (Or.inl (not_yet nD (fun hm => (cD 6 4 (cD 16 6 (cD 17 16 hm (by kernel_rfl)) (by kernel_rfl)) (by kernel_rfl)))))), Or.inr (Or.inr (Or.inl (not_yet nD (fun hm => (cD 6 4 (cD 16 6 (cD 18 16 hm (by kernel_rfl)) (by kernel_rfl)) (by kernel_rfl)))))), Or.inr (Or.inr (Or.inl (not_yet nD (fun hm => (cD 6 4 (cD 16 6 (cD 19 16 hm (by kernel_rfl)) (by kernel_rfl)) (by kernel_rfl)))))), Or.inr (Or.inr (Or.inl (not_yet nD (fun hm => (cD 6 4 (cD 16 6 (cD 19 16 (cD 20 19 hm (by kernel_rfl)) (by kernel_rfl)) (by kernel_rfl)) (by kernel_rfl)))))), Or.inr (Or.inr (Or.inl (not_yet nD (fun hm => (cD 6 4 (cD 16 6 (cD 19 16 (cD 21 19 hm (by kernel_rfl)) (by kernel_rfl)) (by kernel_rfl)) (by kernel_rfl)))))), Or.inr (Or.inr (Or.inl (not_yet nD (fun hm => (cD 6 4 (cD 16 6 (cD 19 16 (cD 22 19 hm (by kernel_rfl)) (by kernel_rfl)) (by kernel_rfl)) (by kernel_rfl)))))), Or.inr (Or.inr (Or.inl (not_yet nD (fun hm => (cD 6 4 (cD 16 6 (cD 19 16 (cD 23 19 hm (by kernel_rfl)) (by kernel_rfl)) (by kernel_rfl)) (by kernel_rfl)))))), Or.inr (Or.inr (Or.inl (not_yet nD (fun hm => (cD 6 4 (cD 16 6 (cD 19 16 (cD 24 19 hm (by kernel_rfl)) (by kernel_rfl)) (by kernel_rfl)) (by kernel_rfl)))))), Or.inr (Or.inr (Or.inl (not_yet nD (fun hm => (cD 6 4 (cD 16 6 (cD 19 16 (cD 25 19 hm (by kernel_rfl)) (by kernel_rfl)) (by kernel_rfl)) (by kernel_rfl)))))), Or.inr (Or.inr (Or.inl (not_yet nD (fun hm => (cD 6 4 (cD 16 6 (cD 19 16 (cD 26 19 hm (by kernel_rfl)) (by kernel_rfl)) (by kernel_rfl)) (by kernel_rfl)))))), Or.inr (Or.inr (Or.inl (not_yet nD (fun hm => (cD 6 4 (cD 16 6 (cD 19 16 (cD 27 19 hm (by kernel_rfl)) (by kernel_rfl)) (by kernel_rfl)) (by kernel_rfl)))))), Or.inr (Or.inr (Or.inl (not_yet nD (fun hm => (cD 6 4 (cD 16 6 (cD 19 16 (cD 28 19 hm (by kernel_rfl)) (by kernel_rfl)) (by kernel_rfl)) (by kernel_rfl)))))), Or.inr (Or.inr (Or.inl (not_yet nD (fun hm => (cD 6 4 (cD 16 6 (cD 19 16 (cD 29 19 hm (by kernel_rfl)) (by kernel_rfl)) (by kernel_rfl)) (by kernel_rfl)))))), Or.inr (Or.inr (Or.inl (not_yet nD (fun hm => (cD 6 4 (cD 16 6 (cD 19 16 (cD 30 19 hm (by kernel_rfl)) (by kernel_rfl)) (by kernel_rfl)) (by kernel_rfl)))))), Or.inr (Or.inr (Or.inl (not_yet nD (fun hm => (cD 6 4 (cD 16 6 (cD 19 16 (cD 31 19 hm (by kernel_rfl)) (by kernel_rfl)) (by kernel_rfl)) (by kernel_rfl)))))), Or.inr (Or.inr (Or.inl (not_yet nD (fun hm => (cD 6 4 (cD 16 6 (cD 32 16 hm (by kernel_rfl)) (by kernel_rfl)) (by kernel_rfl)))))), Or.inr (Or.inr (Or.inl (not_yet nD (fun hm => (cD 6 4 (cD 16 6 (cD 33 16 hm (by kernel_rfl)) (by kernel_rfl)) (by kernel_rfl)))))), trivial⟩) ?_⟩
   intro j d hj; cases hj
  ·rintro D ρo wo nD eD cD jD aD ⟨f49, _⟩
   exact go_plain (op_not (b := (mayS (l[i]'(by omega)).d)) f49 (kN0 (i := 5) hM (by decide) (by exact jD) (by exact rfl)))
  ·rintro D ρo wo nD eD cD jD aD ⟨f50, _⟩
   exact go_plain (op_move (.bool (!(mayS (l[i]'(by omega)).d))) f50 (kN0 (i := 6) hM (by decide) (by exact jD) (by exact rfl)))
  ·rintro D ρo wo nD eD cD jD aD ⟨f0, f51, _⟩
   exact go_no 51 rfl (f51.trans (congrArg Value.bool (congrArg (! ·) b29))) (kN0 (i := 7) hM (by decide) (by exact jD) (by exact rfl))
  ·rintro D ρo wo nD eD cD jD aD ⟨f8, f51, _⟩
   exact go_no 51 rfl (f51.trans (congrArg Value.bool (congrArg (! ·) b29))) (kN0 (i := 8) hM (by decide) (by exact jD) (by exact rfl))
  ·rintro D ρo wo nD eD cD jD aD ⟨f52, f53, f51, _⟩
   exact go_no 51 rfl (f51.trans (congrArg Value.bool (congrArg (! ·) b29))) (kN0 (i := 9) hM (by decide) (by exact jD) (by exact rfl))
  ·rintro D ρo wo nD eD cD jD aD ⟨f54, f51, _⟩
   exact go_no 51 rfl (f51.trans (congrArg Value.bool (congrArg (! ·) b29))) (kN0 (i := 10) hM (by decide) (by exact jD) (by exact rfl))
  ·rintro D ρo wo nD eD cD jD aD ⟨f55, f51, _⟩
   exact go_no 51 rfl (f51.trans (congrArg Value.bool (congrArg (! ·) b29))) (kN0 (i := 11) hM (by decide) (by exact jD) (by exact rfl))
  ·rintro D ρo wo nD eD cD jD aD ⟨f2, f51, _⟩
   exact go_no 51 rfl (f51.trans (congrArg Value.bool (congrArg (! ·) b29))) (kN0 (i := 12) hM (by decide) (by exact jD) (by exact rfl))
  ·rintro D ρo wo nD eD cD jD aD ⟨f57, f51, _⟩
   exact go_no 51 rfl (f51.trans (congrArg Value.bool (congrArg (! ·) b29))) (kN0 (i := 13) hM (by decide) (by exact jD) (by exact rfl))
  ·rintro D ρo wo nD eD cD jD aD ⟨f56, f58, f51, _⟩
   exact go_no 51 rfl (f51.trans (congrArg Value.bool (congrArg (! ·) b29))) (kN0 (i := 14) hM (by decide) (by exact jD) (by exact rfl))
  ·rintro D ρo wo nD eD cD jD aD ⟨f51, f59, _⟩
   exact go_plain (op_pick_t (.bool true) (f51.trans (congrArg Value.bool (congrArg (! ·) b29))) rfl (kN0 (i := 15) hM (by decide) (by exact jD) (by exact rfl)))
  ·rintro D ρo wo nD eD cD jD aD ⟨f60, _⟩
   exact go_plain (op_move (.bool true) f60 (kN0 (i := 16) hM (by decide) (by exact jD) (by exact rfl)))
  ·rintro D ρo wo nD eD cD jD aD ⟨f8, f61, _⟩
   exact go_no 61 rfl f61 (kN0 (i := 17) hM (by decide) (by exact jD) (by exact rfl))
  ·rintro D ρo wo nD eD cD jD aD ⟨f62, f61, _⟩
   exact go_no 61 rfl f61 (kN0 (i := 18) hM (by decide) (by exact jD) (by exact rfl))
  ·rintro D ρo wo nD eD cD jD aD ⟨f63, f61, _⟩
   exact go_no 61 rfl f61 (kN0 (i := 19) hM (by decide) (by exact jD) (by exact rfl))
  ·rintro D ρo wo nD eD cD jD aD ⟨f0, f64, _⟩
   exact go_un 64 rfl f64 (kN0 (i := 20) hM (by decide) (by exact jD) (by exact rfl))
  ·rintro D ρo wo nD eD cD jD aD ⟨f8, f64, _⟩
   exact go_un 64 rfl f64 (kN0 (i := 21) hM (by decide) (by exact jD) (by exact rfl))
  ·rintro D ρo wo nD eD cD jD aD ⟨f65, f66, f64, _⟩
   exact go_un 64 rfl f64 (kN0 (i := 22) hM (by decide) (by exact jD) (by exact rfl))
  ·rintro D ρo wo nD eD cD jD aD ⟨f67, f64, _⟩
   exact go_un 64 rfl f64 (kN0 (i := 23) hM (by decide) (by exact jD) (by exact rfl))
  ·rintro D ρo wo nD eD cD jD aD ⟨f68, f64, _⟩
   exact go_un 64 rfl f64 (kN0 (i := 24) hM (by decide) (by exact jD) (by exact rfl))
  ·rintro D ρo wo nD eD cD jD aD ⟨f0, f64, _⟩
   exact go_un 64 rfl f64 (kN0 (i := 25) hM (by decide) (by exact jD) (by exact rfl))
  ·rintro D ρo wo nD eD cD jD aD ⟨f8, f64, _⟩
   exact go_un 64 rfl f64 (kN0 (i := 26) hM (by decide) (by exact jD) (by exact rfl))
  ·rintro D ρo wo nD eD cD jD aD ⟨f71, f64, _⟩
   exact go_un 64 rfl f64 (kN0 (i := 27) hM (by decide) (by exact jD) (by exact rfl))
  ·rintro D ρo wo nD eD cD jD aD ⟨f70, f72, f64, _⟩
   exact go_un 64 rfl f64 (kN0 (i := 28) hM (by decide) (by exact jD) (by exact rfl))
  ·rintro D ρo wo nD eD cD jD aD ⟨f73, f64, _⟩
   exact go_un 64 rfl f64 (kN0 (i := 29) hM (by decide) (by exact jD) (by exact rfl))
  ·rintro D ρo wo nD eD cD jD aD ⟨f74, f64, _⟩
   exact go_un 64 rfl f64 (kN0 (i := 30) hM (by decide) (by exact jD) (by exact rfl))
  ·rintro D ρo wo nD eD cD jD aD ⟨f69, f75, f64, _⟩
   exact go_un 64 rfl f64 (kN0 (i := 31) hM (by decide) (by exact jD) (by exact rfl))
  ·rintro D ρo wo nD eD cD jD aD ⟨f64, f76, f61, _⟩
   exact go_no 61 rfl f61 (kN0 (i := 32) hM (by decide) (by exact jD) (by exact rfl))
  ·rintro D ρo wo nD eD cD jD aD ⟨f61, f77, _⟩
   exact go_plain (op_pick_t (.bool true) f61 rfl (kN0 (i := 33) hM (by decide) (by exact jD) (by exact rfl)))
  intro ρ115 w116 Dw116 hallw116 hJw116 hRw116 hkw116
  have hst : St w0 w116 [.blk g1 76 #[(iV 0), (iV 0), (iV 0), (iV 0), nS, nS]] := hJw116.2.2 (hallw116 4 (show 4 < 34 from by decide))
  have uw116_6 := (hkw116 6 rfl).trans q19_6
  have uw116_78 : ρ115 78 = (.bool true) := hRw116 33 78 rfl
  refine then_n (cE_cond true uw116_78 (fun _ => ?_) (fun h => by cases h))
  refine cE_seq (cE_region rfl (s_cons (op_build (r := (.agg #[(iV 0), (iV 0), (iV 0), (iV 0), nS, nS])) evp_nil (by simp [Instr.build, Instr.fill, Value.cells, Try.runUnderlying76, Try.zeroValue76]) (s_cons0 (op_storeAll hst 0 rfl Try.sizeOf76 uw116_6 rfl rfl rfl (by simp [Value.oneCell']) (fun w117 hst => ?_))))))
  refine s_cons (op_assign (iV 1) rfl (s_nil (then_n (cE_ret (block_r (then_r (then_r (block_r (then_r (postG_r _ (rvN (cs := [(iV 0), (iV 0), (iV 0), (iV 0), nS, nS]) Try.isAgg76 Try.sizeOf76 uw116_6 (Pt.of (hst.cell 0 rfl) rfl) rfl (rvt (v := (iV 1)) rfl rvnil)) ?_))))))))))
  replace hst := hst.nilRow 51 sampE
  replace hst := hst.nilRow 29 aggE
  replace hst := hst.front 1 rfl
  exact ⟨(⟨⟨0, 0, 0, 0, [], []⟩, nilV, nilV⟩ : Seg), (retv2 rfl (congrArg iV (show 1 = (rollS (gd l 0).d nid k).2 from by exact snd_of (roll_no1 (i := i) (by omega) hl1 (by assumption) (by omega))))), hst.sub (.cons_cons _ (.cons_cons _ (.cons _ .slnil))), (by exact fst_of (roll_no1 (i := i) (by omega) hl1 (by assumption) (by omega)))⟩
 have c118 := of_decide_eq_false b23
 refine cE_cond false (congrArg Value.bool b23) (fun h => by cases h) (fun _ => ?_)
 refine cE_exit (then_x (then_x (block_hit (then_n (cE_seq ?_)))))
 have hmA := hm.resolve_left (by omega)
 refine cE_region rfl (s_cons (op_assign nS rfl (s_nil (then_n (cE_seq (cE_region rfl (s_cons (op_assign nS rfl (s_nil (then_n (cE_seq (cE_seq (cE_region rfl (s_cons (op_assign (iV 0) rfl (s_nil (then_n (cE_block ?_))))))))))))))))))
 replace hst := hst.nilRow 51 sampE
 replace hst := hst.nilRow 29 aggE
 refine cE_loop (fun (m : Nat) (ρ : Env) (w : World) => ∃ (vo : Value) (vu : Value) (n : Nat), m = l.length - n ∧ ρ 0 = v_l ∧ ρ 1 = (iV nid) ∧ ρ 2 = (iV k) ∧ ρ 6 = (.pointer (some ⟨g1, 0, none⟩)) ∧ ρ 8 = (iV (i : Int)) ∧ ρ 9 = vo ∧ ρ 10 = vu ∧ ρ 11 = (iV (n : Int)) ∧ St w0 w [rowT 29 aggE vu (flatA (l.take n)), rowT 51 sampE vo (flatS (l.take n)), .blk g1 76 #[(iV 0), (iV 0), (iV 0), (iV 0), nS, nS]] ∧ (n ≤ l.length)) id _ ⟨nS, nS, 0, rfl, q19_0, q19_1, q19_2, q19_6, q19_8, rfl, rfl, (congrArg iV (show 0 = _ from by omega)), (by have h := hst; exact h), (by omega)⟩ ?_
 rintro m120 ρ121 w122 ⟨vo, vu, n, hm120, q119_0, q119_1, q119_2, q119_6, q119_8, q119_9, q119_10, q119_11, hst, hn⟩
 have hlen := h_l.len
 refine cE_seq (cE_seq (cE_region rfl (s_cons (op_move (iV (n : Int)) q119_11 (s_cons (op_move v_l q119_0 (s_cons (op_len (E := segE) (xs := l) Try.underlying44 rfl h_l (s_cons (op_lss (k := .i64) (a := (n : Int)) (b := (l.length : Int)) rfl rfl (s_nil (then_n ?_))))))))))))
 rcases Bool.eq_false_or_eq_true (decide ((n : Int) < (l.length : Int))) with b123 | b123
 ·have c124 := of_decide_eq_true b123
  refine cE_cond true (congrArg Value.bool b123) (fun _ => ?_) (fun h => by cases h)
  refine cE_skip (then_n (cE_seq (cE_block (cE_seq ?_))))
  have hy0 : (flatS (l.take n)).length = 0 := by rw [show n = 0 by omega]; rfl
  have hz0 : (flatA (l.take n)).length = 0 := by rw [show n = 0 by omega]; rfl
  have hsn : (l[n]'(by omega)).d.Samples.length ≤ 64 ∧ (l[n]'(by omega)).d.Aggs.length ≤ 64 := by rw [gd0 (by omega) hl1]; exact segS_len hmA.1
  refine cE_region rfl (s_cons (op_move vo q119_9 (s_cons (op_move v_l q119_0 (s_cons (op_move (iV (n : Int)) q119_11 (s_cons (op_indexAddrN (E := segE) (xs := l) n Try.underlying44 Try.sizeOf76 rfl h_l rfl (by omega) (by omega) (fun a125 o126 p127 => ?_)))))))))
  have hr := hso (l[n]'(by omega)) (List.getElem_mem _)
  refine s_cons (op_fieldAddr (s := 0) Try.underlying76 rfl rfl Try.sizeOf23 rfl (s_cons (op_load1 (u := (l[n]'(by omega)).sv.1) Try.isAgg23 rfl ((p127.below hst.below).drop 4) (s_cons (op_append (E := sampE) (xs := (flatS (l.take n))) (ys := (l[n]'(by omega)).d.Samples) (z := (.agg #[(iV 0), (iV 0)])) (bytes := 16) hst 1 rfl Try.underlying23 (by kernel_rfl) rfl rfl rfl ((hsg (l[n]'(by omega)) (List.getElem_mem _)).1.below hst.below) (by omega) (by omega) (fun v128 w129 hst => ?_))))))
  replace hst : St w0 w129 [rowT 29 aggE vu (flatA (l.take n)), rowT 51 sampE v128 (flatS (l.take (n + 1))), .blk g1 76 #[(iV 0), (iV 0), (iV 0), (iV 0), nS, nS]] := by rw [show ((flatS (l.take n)) ++ ((l[n]'(by omega)).d.Samples)) = (flatS (l.take (n + 1))) from (flatS_snoc (by omega))] at hst; exact hst
  refine s_cons (op_assign v128 rfl (s_nil (then_n (cE_seq (cE_region rfl (s_cons (op_assign (iV 0) rfl (s_nil (then_n (cE_block (cE_loop (fun (m : Nat) (ρ : Env) (w : World) => ∃ (vz : Value) (j : Nat), m = (l[n]'(by omega)).d.Aggs.length - j ∧ ρ 0 = v_l ∧ ρ 1 = (iV nid) ∧ ρ 2 = (iV k) ∧ ρ 6 = (.pointer (some ⟨g1, 0, none⟩)) ∧ ρ 8 = (iV (i : Int)) ∧ ρ 9 = v128 ∧ ρ 11 = (iV (n : Int)) ∧ ρ 10 = vz ∧ ρ 12 = (iV (j : Int)) ∧ St w0 w [rowT 29 aggE vz (flatA (l.take n) ++ (l[n]'(by omega)).d.Aggs.take j), rowT 51 sampE v128 (flatS (l.take (n + 1))), .blk g1 76 #[(iV 0), (iV 0), (iV 0), (iV 0), nS, nS]] ∧ (j ≤ (l[n]'(by omega)).d.Aggs.length)) id _ ⟨vu, 0, rfl, q119_0, q119_1, q119_2, q119_6, q119_8, rfl, q119_11, q119_10, (congrArg iV (show 0 = _ from by omega)), (by rw [List.take_zero, List.append_nil]; exact hst), (by omega)⟩ ?_)))))))))))
  rintro m131 ρ132 w133 ⟨vz, j, hm131, q130_0, q130_1, q130_2, q130_6, q130_8, q130_9, q130_11, q130_10, q130_12, hst, hj⟩
  have hxl : (flatA (l.take n) ++ (l[n]'(by omega)).d.Aggs.take j).length = j := by rw [List.length_append, List.length_take, hz0]; omega
  refine cE_seq (cE_seq (cE_region rfl (s_cons (op_move (iV (j : Int)) q130_12 (s_cons (op_move v_l q130_0 (s_cons (op_move (iV (n : Int)) q130_11 (s_cons (op_indexAddrN (E := segE) (xs := l) n Try.underlying44 Try.sizeOf76 rfl h_l rfl (by omega) (by omega) (fun a134 o135 p136 => ?_)))))))))))
  refine s_cons (op_fieldAddr (s := 0) Try.underlying76 rfl rfl Try.sizeOf74 rfl (s_cons (op_load1 (u := (l[n]'(by omega)).av.1) Try.isAgg74 rfl ((p136.below hst.below).drop 5) (s_cons (op_len (E := aggE) (xs := (l[n]'(by omega)).d.Aggs) Try.underlying74 rfl (hsg (l[n]'(by omega)) (List.getElem_mem _)).2 (s_cons (op_lss (k := .i64) (a := (j : Int)) (b := (((l[n]'(by omega)).d.Aggs).length : Int)) rfl rfl ?_)))))))
  refine s_nil (then_n ?_)
  rcases Bool.eq_false_or_eq_true (decide ((j : Int) < (((l[n]'(by omega)).d.Aggs).length : Int))) with b137 | b137
  ·have c138 := of_decide_eq_true b137
   refine cE_cond true (congrArg Value.bool b137) (fun _ => ?_) (fun h => by cases h)
   refine cE_skip (then_n (cE_seq (cE_block (cE_seq (cE_region rfl (s_cons (op_move v_l q130_0 (s_cons (op_move (iV (n : Int)) q130_11 (s_cons (op_indexAddrN (E := segE) (xs := l) n Try.underlying44 Try.sizeOf76 rfl h_l rfl (by omega) (by omega) (fun a139 o140 p141 => ?_))))))))))))
   refine s_cons (op_fieldAddr (s := 0) Try.underlying76 rfl rfl Try.sizeOf74 rfl (s_cons (op_load1 (u := (l[n]'(by omega)).av.1) Try.isAgg74 rfl ((p141.below hst.below).drop 5) (s_cons (op_move (iV (j : Int)) q130_12 (s_cons (op_indexAddrN (E := aggE) (xs := (l[n]'(by omega)).d.Aggs) j Try.underlying74 Try.sizeOf29 rfl (hsg (l[n]'(by omega)) (List.getElem_mem _)).2 rfl (by omega) (by omega) (fun a142 o143 p144 => ?_))))))))
   refine s_cons (op_loadN (cs := (aggC (((l[n]'(by omega)).d.Aggs)[j]'(by omega)))) Try.isAgg29 Try.sizeOf29 rfl (Pt.of (p144.below hst.below) rfl) rfl (s_cons (op_alloc (cs := #[(iV 0), (iV 0), (iV 0), (iV 0), (iV 0), (iV 0), (iV 0)]) hst Try.zeroValue29 rfl (fun g145 w146 hst _ => ?_))))
   refine s_cons0 (op_storeAll hst 0 rfl Try.sizeOf29 rfl rfl rfl rfl (by simp [Value.oneCell']) (fun w147 hst => ?_))
   refine s_nil (then_n (cE_seq (cE_seq (cE_region rfl (s_cons (op_move vz q130_10 (s_cons (op_len (E := aggE) (xs := (flatA (l.take n) ++ (l[n]'(by omega)).d.Aggs.take j)) Try.underlying74 rfl (hst.sl 1 rfl) (s_cons (op_sub (k := .i64) (a := ((flatA (l.take n) ++ (l[n]'(by omega)).d.Aggs.take j).length : Int)) (b := 1) (((flatA (l.take n) ++ (l[n]'(by omega)).d.Aggs.take j).length : Int) - 1) rfl rfl (xi64 (by omega) (by omega)) ?_))))))))))
   refine s_cons (op_assign (iV (((flatA (l.take n) ++ (l[n]'(by omega)).d.Aggs.take j).length : Int) - 1)) rfl (s_nil (then_n (cE_seq ?_))))
   rcases Bool.eq_false_or_eq_true (decide (0 ≤ (((flatA (l.take n) ++ (l[n]'(by omega)).d.Aggs.take j).length : Int) - 1))) with b148 | b148
   ·have c149 := of_decide_eq_true b148
    refine cE_regionM (fun (D : Nat → Bool) (w : World) => St w0 w [.blk g145 29 (aggA (((l[n]'(by omega)).d.Aggs)[j]'(by omega))), rowT 29 aggE vz (flatA (l.take n) ++ (l[n]'(by omega)).d.Aggs.take j), rowT 51 sampE v128 (flatS (l.take (n + 1))), .blk g1 76 #[(iV 0), (iV 0), (iV 0), (iV 0), nS, nS]] ∧ (St w0 w [.blk g145 29 (aggA (((l[n]'(by omega)).d.Aggs)[j]'(by omega))), rowT 29 aggE vz (flatA (l.take n) ++ (l[n]'(by omega)).d.Aggs.take j), rowT 51 sampE v128 (flatS (l.take (n + 1))), .blk g1 76 #[(iV 0), (iV 0), (iV 0), (iV 0), nS, nS]])) [[(14, none)], [(114, some 0)], [(115, some 1)], [(10, none), (116, some 2)], [(14, none), (116, some 2)], [(117, some 3), (118, some 4), (116, some 2)], [(119, some 5), (116, some 2)], [(120, some 6), (116, some 2)], [(13, none), (116, some 2)], [(122, some 8), (116, some 2)], [(121, some 7), (123, some 9), (116, some 2)], [(116, some 2), (124, some 10)]] [] [(kEq (iV (((flatA (l.take n) ++ (l[n]'(by omega)).d.Aggs.take j).length : Int) - 1))), (kEq (.bool (decide (0 ≤ (((flatA (l.take n) ++ (l[n]'(by omega)).d.Aggs.take j).length : Int) - 1))))), (kEq (.bool (decide (0 ≤ (((flatA (l.take n) ++ (l[n]'(by omega)).d.Aggs.take j).length : Int) - 1))))), (kEq vz), (kEq (iV (((flatA (l.take n) ++ (l[n]'(by omega)).d.Aggs.take j).length : Int) - 1))), (kPtU [] (aggC ((flatA (l.take n) ++ (l[n]'(by omega)).d.Aggs.take j)[((flatA (l.take n) ++ (l[n]'(by omega)).d.Aggs.take j).length - 1)]'(by omega)))), (kPtU [] (aggC ((flatA (l.take n) ++ (l[n]'(by omega)).d.Aggs.take j)[((flatA (l.take n) ++ (l[n]'(by omega)).d.Aggs.take j).length - 1)]'(by omega)))), (kEq (iV (((flatA (l.take n) ++ (l[n]'(by omega)).d.Aggs.take j)[((flatA (l.take n) ++ (l[n]'(by omega)).d.Aggs.take j).length - 1)]'(by omega)).From))), (kEq (.pointer (some ⟨g145, (0 + 0), none⟩))), (kEq (iV ((((l[n]'(by omega)).d.Aggs)[j]'(by omega)).From))), (kEq (.bool (decide ((((flatA (l.take n) ++ (l[n]'(by omega)).d.Aggs.take j)[((flatA (l.take n) ++ (l[n]'(by omega)).d.Aggs.take j).length - 1)]'(by omega)).From) = ((((l[n]'(by omega)).d.Aggs)[j]'(by omega)).From))))), (kEq (.bool (decide ((((flatA (l.take n) ++ (l[n]'(by omega)).d.Aggs.take j)[((flatA (l.take n) ++ (l[n]'(by omega)).d.Aggs.take j).length - 1)]'(by omega)).From) = ((((l[n]'(by omega)).d.Aggs)[j]'(by omega)).From)))))] ⟨mEq, mEq, mEq, mEq, mEq, (mPtUs (by decide)), (mPtUs (by decide)), mEq, mEq, mEq, mEq, mEq, trivial⟩ (by kernel_rfl) rfl (by kernel_rfl) ⟨hst.drewW.sub (.cons_cons _ (.cons_cons _ (.cons_cons _ (.cons_cons _ .slnil)))), hst.drewW⟩ (fun hM => ⟨?_, ?_, ?_, ?_, ?_, ?_, ?_, ?_, ?_, ?_, ?_, ?_, trivial⟩) ?_
    ·rintro D ρo wo nD eD cD jD aD ⟨f14, _⟩
     exact go_plain (op_move (iV (((flatA (l.take n) ++ (l[n]'(by omega)).d.Aggs.take j).length : Int) - 1)) (f14.trans rfl) (kN0 (i := 0) hM (by decide) (by exact jD) (by exact rfl)))
    ·rintro D ρo wo nD eD cD jD aD ⟨f114, _⟩
     exact go_plain (op_geq (k := .i64) (a := (((flatA (l.take n) ++ (l[n]'(by omega)).d.Aggs.take j).length : Int) - 1)) (b := 0) f114 rfl (kN0 (i := 1) hM (by decide) (by exact jD) (by exact rfl)))
    ·rintro D ρo wo nD eD cD jD aD ⟨f115, _⟩
     exact go_plain (op_move (.bool (decide (0 ≤ (((flatA (l.take n) ++ (l[n]'(by omega)).d.Aggs.take j).length : Int) - 1)))) f115 (kN0 (i := 2) hM (by decide) (by exact jD) (by exact rfl)))
    ·rintro D ρo wo nD eD cD jD aD ⟨f10, f116, _⟩
     exact go_yes 116 rfl (f116.trans (congrArg Value.bool b148)) (op_move vz (f10.trans q130_10) (kN0 (i := 3) hM (by decide) (by exact jD) (by exact rfl)))
    ·rintro D ρo wo nD eD cD jD aD ⟨f14, f116, _⟩
     exact go_yes 116 rfl (f116.trans (congrArg Value.bool b148)) (op_move (iV (((flatA (l.take n) ++ (l[n]'(by omega)).d.Aggs.take j).length : Int) - 1)) (f14.trans rfl) (kN0 (i := 4) hM (by decide) (by exact jD) (by exact rfl)))
    ·rintro D ρo wo nD eD cD jD aD ⟨f117, f118, f116, _⟩
     have hst := jD.2 
     refine go_yes 116 rfl (f116.trans (congrArg Value.bool b148)) (op_indexAddrN (E := aggE) (xs := (flatA (l.take n) ++ (l[n]'(by omega)).d.Aggs.take j)) ((flatA (l.take n) ++ (l[n]'(by omega)).d.Aggs.take j).length - 1) Try.underlying74 Try.sizeOf29 f117 (hst.sl 1 rfl) f118 (by omega) (by omega) (fun a154 o155 p156 => ?_))
     exact (kN0 (i := 5) hM (by decide) (by exact jD) (by exact ⟨_, _, rfl, fun _ => p156⟩))
    ·rintro D ρo wo nD eD cD jD aD ⟨f119, f116, _⟩
     obtain ⟨a157, o158, e159, p160⟩ := f119
     have p160 := p160 (by intro m hm; cases hm)
     exact go_yes 116 rfl (f116.trans (congrArg Value.bool b148)) (op_fieldAddr (s := 0) Try.underlying29 rfl rfl Try.sizeOf2 e159 (kN0 (i := 6) hM (by decide) (by exact jD) (by exact ⟨_, _, rfl, fun _ => p160⟩)))
    ·rintro D ρo wo nD eD cD jD aD ⟨f120, f116, _⟩
     obtain ⟨a161, o162, e163, p164⟩ := f120
     have p164 := p164 (by intro m hm; cases hm)
     exact go_yes 116 rfl (f116.trans (congrArg Value.bool b148)) (op_load1 (u := (iV (((flatA (l.take n) ++ (l[n]'(by omega)).d.Aggs.take j)[((flatA (l.take n) ++ (l[n]'(by omega)).d.Aggs.take j).length - 1)]'(by omega)).From))) Try.isAgg2 e163 p164 (kN0 (i := 7) hM (by decide) (by exact jD) (by exact rfl)))
    ·rintro D ρo wo nD eD cD jD aD ⟨f13, f116, _⟩
     exact go_yes 116 rfl (f116.trans (congrArg Value.bool b148)) (op_fieldAddr (s := 0) Try.underlying29 rfl rfl Try.sizeOf2 (f13.trans rfl) (kN0 (i := 8) hM (by decide) (by exact jD) (by exact rfl)))
    ·rintro D ρo wo nD eD cD jD aD ⟨f122, f116, _⟩
     have hst := jD.2 
     exact go_yes 116 rfl (f116.trans (congrArg Value.bool b148)) (op_load1 (u := (iV ((((l[n]'(by omega)).d.Aggs)[j]'(by omega)).From))) Try.isAgg2 f122 (hst.cell 0 rfl) (kN0 (i := 9) hM (by decide) (by exact jD) (by exact rfl)))
    ·rintro D ρo wo nD eD cD jD aD ⟨f121, f123, f116, _⟩
     exact go_yes 116 rfl (f116.trans (congrArg Value.bool b148)) (op_eql (k := .i64) (a := ((flatA (l.take n) ++ (l[n]'(by omega)).d.Aggs.take j)[((flatA (l.take n) ++ (l[n]'(by omega)).d.Aggs.take j).length - 1)]'(by omega)).From) (b := (((l[n]'(by omega)).d.Aggs)[j]'(by omega)).From) f121 f123 (kN0 (i := 10) hM (by decide) (by exact jD) (by exact rfl)))
    ·rintro D ρo wo nD eD cD jD aD ⟨f116, f124, _⟩
     exact go_plain (op_pick_t (.bool (decide ((((flatA (l.take n) ++ (l[n]'(by omega)).d.Aggs.take j)[((flatA (l.take n) ++ (l[n]'(by omega)).d.Aggs.take j).length - 1)]'(by omega)).From) = ((((l[n]'(by omega)).d.Aggs)[j]'(by omega)).From)))) (f116.trans (congrArg Value.bool b148)) f124 (kN0 (i := 11) hM (by decide) (by exact jD) (by exact rfl)))
    intro ρ165 w166 Dw166 hallw166 hJw166 hRw166 hkw166
    have hst : St w0 w166 [.blk g145 29 (aggA (((l[n]'(by omega)).d.Aggs)[j]'(by omega))), rowT 29 aggE vz (flatA (l.take n) ++ (l[n]'(by omega)).d.Aggs.take j), rowT 51 sampE v128 (flatS (l.take (n + 1))), .blk g1 76 #[(iV 0), (iV 0), (iV 0), (iV 0), nS, nS]] := hJw166.2 
    have uw166_0 := (hkw166 0 rfl).trans q130_0
    have uw166_1 := (hkw166 1 rfl).trans q130_1
    have uw166_2 := (hkw166 2 rfl).trans q130_2
    have uw166_6 := (hkw166 6 rfl).trans q130_6
    have uw166_8 := (hkw166 8 rfl).trans q130_8
    have uw166_9 := (hkw166 9 rfl).trans q130_9
    have uw166_11 := (hkw166 11 rfl).trans q130_11
    have uw166_10 := (hkw166 10 rfl).trans q130_10
    have uw166_12 := (hkw166 12 rfl).trans q130_12
    have uw166_13 : ρ165 13 = (.pointer (some ⟨g145, 0, none⟩)) := (hkw166 13 rfl).trans rfl
    have uw166_125 : ρ165 125 = (.bool (decide ((((flatA (l.take n) ++ (l[n]'(by omega)).d.Aggs.take j)[((flatA (l.take n) ++ (l[n]'(by omega)).d.Aggs.take j).length - 1)]'(by omega)).From) = ((((l[n]'(by omega)).d.Aggs)[j]'(by omega)).From)))) := hRw166 11 125 rfl
    refine then_n (cE_cond false (uw166_125.trans (congrArg Value.bool (show (decide ((((flatA (l.take n) ++ (l[n]'(by omega)).d.Aggs.take j)[((flatA (l.take n) ++ (l[n]'(by omega)).d.Aggs.take j).length - 1)]'(by omega)).From) = ((((l[n]'(by omega)).d.Aggs)[j]'(by omega)).From))) = false from (decide_eq_false (roll_fresh hl1 (by omega) hmA (by omega) (by omega)))))) (fun h => by cases h) (fun _ => ?_))
    refine cE_skip (then_n (cE_region rfl (s_cons (op_move vz uw166_10 (s_cons (op_loadN (cs := (aggC (((l[n]'(by omega)).d.Aggs)[j]'(by omega)))) Try.isAgg29 Try.sizeOf29 uw166_13 (Pt.of (hst.cell 0 rfl) rfl) rfl (s_cons (op_buildSlice (E := aggE) [(((l[n]'(by omega)).d.Aggs)[j]'(by omega))] hst Try.underlying74 Try.sizeOf29 Try.zeroValue29 (evp_cons (v := (.agg (aggA (((l[n]'(by omega)).d.Aggs)[j]'(by omega))))) rfl evp_nil) (parts_cons rfl parts_nil) rfl (by decide) (fun v167 w168 hst => ?_)))))))))
    refine s_cons (op_append (E := aggE) (xs := (flatA (l.take n) ++ (l[n]'(by omega)).d.Aggs.take j)) (ys := [(((l[n]'(by omega)).d.Aggs)[j]'(by omega))]) (z := (.agg #[(iV 0), (iV 0), (iV 0), (iV 0), (iV 0), (iV 0), (iV 0)])) (bytes := 56) hst 2 rfl Try.underlying74 (by kernel_rfl) rfl rfl rfl (hst.sl 0 rfl) (by (simp; omega)) (by (simp; omega)) (fun v169 w170 hst => ?_))
    replace hst : St w0 w170 [rowT 29 aggE v167 ([(((l[n]'(by omega)).d.Aggs)[j]'(by omega))]), .blk g145 29 (aggA (((l[n]'(by omega)).d.Aggs)[j]'(by omega))), rowT 29 aggE v169 (flatA (l.take n) ++ (l[n]'(by omega)).d.Aggs.take (j + 1)), rowT 51 sampE v128 (flatS (l.take (n + 1))), .blk g1 76 #[(iV 0), (iV 0), (iV 0), (iV 0), nS, nS]] := by rw [show ((flatA (l.take n) ++ (l[n]'(by omega)).d.Aggs.take j) ++ ([(((l[n]'(by omega)).d.Aggs)[j]'(by omega))])) = (flatA (l.take n) ++ (l[n]'(by omega)).d.Aggs.take (j + 1)) from (flatA_go (by omega) (by omega))] at hst; exact hst
    refine s_cons (op_assign v169 rfl (s_nil (block_n (then_n (cE_region rfl (s_cons (op_move (iV (j : Int)) uw166_12 (s_cons (op_add (k := .i64) (a := (j : Int)) (b := 1) ((j : Int) + 1) rfl rfl (xi64 (by omega) (by omega)) (s_cons (op_assign (iV ((j : Int) + 1)) rfl (s_nil (then_n ?_)))))))))))))
    exact ⟨_, ⟨v169, (j + 1), rfl, uw166_0, uw166_1, uw166_2, uw166_6, uw166_8, uw166_9, uw166_11, rfl, (congrArg iV (show ((j : Int) + 1) = _ from by omega)), (hst.sub (.cons _ (.cons _ (.cons_cons _ (.cons_cons _ (.cons_cons _ .slnil)))))), (by omega)⟩, (by simp only [id]; omega)⟩
   have c171 := of_decide_eq_false b148
   refine cE_regionM (fun (D : Nat → Bool) (w : World) => St w0 w [.blk g145 29 (aggA (((l[n]'(by omega)).d.Aggs)[j]'(by omega))), rowT 29 aggE vz (flatA (l.take n) ++ (l[n]'(by omega)).d.Aggs.take j), rowT 51 sampE v128 (flatS (l.take (n + 1))), .blk g1 76 #[(iV 0), (iV 0), (iV 0), (iV 0), nS, nS]] ∧ (St w0 w [.blk g145 29 (aggA (((l[n]'(by omega)).d.Aggs)[j]'(by omega))), rowT 29 aggE vz (flatA (l.take n) ++ (l[n]'(by omega)).d.Aggs.take j), rowT 51 sampE v128 (flatS (l.take (n + 1))), .blk g1 76 #[(iV 0), (iV 0), (iV 0), (iV 0), nS, nS]])) [[(14, none)], [(114, some 0)], [(115, some 1)], [(10, none), (116, some 2)], [(14, none), (116, some 2)], [(117, some 3), (118, some 4), (116, some 2)], [(119, some 5), (116, some 2)], [(120, some 6), (116, some 2)], [(13, none), (116, some 2)], [(122, some 8), (116, some 2)], [(121, some 7), (123, some 9), (116, some 2)], [(116, some 2), (124, some 10)]] [] [(kEq (iV (((flatA (l.take n) ++ (l[n]'(by omega)).d.Aggs.take j).length : Int) - 1))), (kEq (.bool (decide (0 ≤ (((flatA (l.take n) ++ (l[n]'(by omega)).d.Aggs.take j).length : Int) - 1))))), (kEq (.bool (decide (0 ≤ (((flatA (l.take n) ++ (l[n]'(by omega)).d.Aggs.take j).length : Int) - 1))))), kEq undef, kEq undef, kEq undef, kEq undef, kEq undef, kEq undef, kEq undef, kEq undef, (kEq (.bool false))] ⟨mEq, mEq, mEq, mEq, mEq, mEq, mEq, mEq, mEq, mEq, mEq, mEq, trivial⟩ (by kernel_rfl) rfl (by kernel_rfl) ⟨hst.drewW.sub (.cons_cons _ (.cons_cons _ (.cons_cons _ (.cons_cons _ .slnil)))), hst.drewW⟩ (fun hM => ⟨?_, ?_, ?_, ?_, ?_, ?_, ?_, ?_, ?_, ?_, ?_, ?_, trivial⟩) ?_
   ·rintro D ρo wo nD eD cD jD aD ⟨f14, _⟩
    exact go_plain (op_move (iV (((flatA (l.take n) ++ (l[n]'(by omega)).d.Aggs.take j).length : Int) - 1)) (f14.trans rfl) (kN0 (i := 0) hM (by decide) (by exact jD) (by exact rfl)))
   ·rintro D ρo wo nD eD cD jD aD ⟨f114, _⟩
    exact go_plain (op_geq (k := .i64) (a := (((flatA (l.take n) ++ (l[n]'(by omega)).d.Aggs.take j).length : Int) - 1)) (b := 0) f114 rfl (kN0 (i := 1) hM (by decide) (by exact jD) (by exact rfl)))
   ·rintro D ρo wo nD eD cD jD aD ⟨f115, _⟩
    exact go_plain (op_move (.bool (decide (0 ≤ (((flatA (l.take n) ++ (l[n]'(by omega)).d.Aggs.take j).length : Int) - 1)))) f115 (kN0 (i := 2) hM (by decide) (by exact jD) (by exact rfl)))
   ·rintro D ρo wo nD eD cD jD aD ⟨f10, f116, _⟩
    exact go_no 116 rfl (f116.trans (congrArg Value.bool b148)) (kN0 (i := 3) hM (by decide) (by exact jD) (by exact rfl))
   ·rintro D ρo wo nD eD cD jD aD ⟨f14, f116, _⟩
    exact go_no 116 rfl (f116.trans (congrArg Value.bool b148)) (kN0 (i := 4) hM (by decide) (by exact jD) (by exact rfl))
   ·rintro D ρo wo nD eD cD jD aD ⟨f117, f118, f116, _⟩
    exact go_no 116 rfl (f116.trans (congrArg Value.bool b148)) (kN0 (i := 5) hM (by decide) (by exact jD) (by exact rfl))
   ·rintro D ρo wo nD eD cD jD aD ⟨f119, f116, _⟩
    exact go_no 116 rfl (f116.trans (congrArg Value.bool b148)) (kN0 (i := 6) hM (by decide) (by exact jD) (by exact rfl))
   ·rintro D ρo wo nD eD cD jD aD ⟨f120, f116, _⟩
    exact go_no 116 rfl (f116.trans (congrArg Value.bool b148)) (kN0 (i := 7) hM (by decide) (by exact jD) (by exact rfl))
   ·rintro D ρo wo nD eD cD jD aD ⟨f13, f116, _⟩
    exact go_no 116 rfl (f116.trans (congrArg Value.bool b148)) (kN0 (i := 8) hM (by decide) (by exact jD) (by exact rfl))
   ·rintro D ρo wo nD eD cD jD aD ⟨f122, f116, _⟩
    exact go_no 116 rfl (f116.trans (congrArg Value.bool b148)) (kN0 (i := 9) hM (by decide) (by exact jD) (by exact rfl))
   ·rintro D ρo wo nD eD cD jD aD ⟨f121, f123, f116, _⟩
    exact go_no 116 rfl (f116.trans (congrArg Value.bool b148)) (kN0 (i := 10) hM (by decide) (by exact jD) (by exact rfl))
   ·rintro D ρo wo nD eD cD jD aD ⟨f116, f124, _⟩
    exact go_plain (op_pick_f (.bool false) (f116.trans (congrArg Value.bool b148)) rfl (kN0 (i := 11) hM (by decide) (by exact jD) (by exact rfl)))
   intro ρ173 w174 Dw174 hallw174 hJw174 hRw174 hkw174
   have hst : St w0 w174 [.blk g145 29 (aggA (((l[n]'(by omega)).d.Aggs)[j]'(by omega))), rowT 29 aggE vz (flatA (l.take n) ++ (l[n]'(by omega)).d.Aggs.take j), rowT 51 sampE v128 (flatS (l.take (n + 1))), .blk g1 76 #[(iV 0), (iV 0), (iV 0), (iV 0), nS, nS]] := hJw174.2 
   have uw174_0 := (hkw174 0 rfl).trans q130_0
   have uw174_1 := (hkw174 1 rfl).trans q130_1
   have uw174_2 := (hkw174 2 rfl).trans q130_2
   have uw174_6 := (hkw174 6 rfl).trans q130_6
   have uw174_8 := (hkw174 8 rfl).trans q130_8
   have uw174_9 := (hkw174 9 rfl).trans q130_9
   have uw174_11 := (hkw174 11 rfl).trans q130_11
   have uw174_10 := (hkw174 10 rfl).trans q130_10
   have uw174_12 := (hkw174 12 rfl).trans q130_12
   have uw174_13 : ρ173 13 = (.pointer (some ⟨g145, 0, none⟩)) := (hkw174 13 rfl).trans rfl
   have uw174_125 : ρ173 125 = (.bool false) := hRw174 11 125 rfl
   refine then_n (cE_cond false uw174_125 (fun h => by cases h) (fun _ => ?_))
   refine cE_skip (then_n (cE_region rfl (s_cons (op_move vz uw174_10 (s_cons (op_loadN (cs := (aggC (((l[n]'(by omega)).d.Aggs)[j]'(by omega)))) Try.isAgg29 Try.sizeOf29 uw174_13 (Pt.of (hst.cell 0 rfl) rfl) rfl (s_cons (op_buildSlice (E := aggE) [(((l[n]'(by omega)).d.Aggs)[j]'(by omega))] hst Try.underlying74 Try.sizeOf29 Try.zeroValue29 (evp_cons (v := (.agg (aggA (((l[n]'(by omega)).d.Aggs)[j]'(by omega))))) rfl evp_nil) (parts_cons rfl parts_nil) rfl (by decide) (fun v175 w176 hst => ?_)))))))))
   refine s_cons (op_append (E := aggE) (xs := (flatA (l.take n) ++ (l[n]'(by omega)).d.Aggs.take j)) (ys := [(((l[n]'(by omega)).d.Aggs)[j]'(by omega))]) (z := (.agg #[(iV 0), (iV 0), (iV 0), (iV 0), (iV 0), (iV 0), (iV 0)])) (bytes := 56) hst 2 rfl Try.underlying74 (by kernel_rfl) rfl rfl rfl (hst.sl 0 rfl) (by (simp; omega)) (by (simp; omega)) (fun v177 w178 hst => ?_))
   replace hst : St w0 w178 [rowT 29 aggE v175 ([(((l[n]'(by omega)).d.Aggs)[j]'(by omega))]), .blk g145 29 (aggA (((l[n]'(by omega)).d.Aggs)[j]'(by omega))), rowT 29 aggE v177 (flatA (l.take n) ++ (l[n]'(by omega)).d.Aggs.take (j + 1)), rowT 51 sampE v128 (flatS (l.take (n + 1))), .blk g1 76 #[(iV 0), (iV 0), (iV 0), (iV 0), nS, nS]] := by rw [show ((flatA (l.take n) ++ (l[n]'(by omega)).d.Aggs.take j) ++ ([(((l[n]'(by omega)).d.Aggs)[j]'(by omega))])) = (flatA (l.take n) ++ (l[n]'(by omega)).d.Aggs.take (j + 1)) from (flatA_go (by omega) (by omega))] at hst; exact hst
   refine s_cons (op_assign v177 rfl (s_nil (block_n (then_n (cE_region rfl (s_cons (op_move (iV (j : Int)) uw174_12 (s_cons (op_add (k := .i64) (a := (j : Int)) (b := 1) ((j : Int) + 1) rfl rfl (xi64 (by omega) (by omega)) (s_cons (op_assign (iV ((j : Int) + 1)) rfl (s_nil (then_n ?_)))))))))))))
   exact ⟨_, ⟨v177, (j + 1), rfl, uw174_0, uw174_1, uw174_2, uw174_6, uw174_8, uw174_9, uw174_11, rfl, (congrArg iV (show ((j : Int) + 1) = _ from by omega)), (hst.sub (.cons _ (.cons _ (.cons_cons _ (.cons_cons _ (.cons_cons _ .slnil)))))), (by omega)⟩, (by simp only [id]; omega)⟩
  have c179 := of_decide_eq_false b137
  refine cE_cond false (congrArg Value.bool b137) (fun h => by cases h) (fun _ => ?_)
  refine cE_exit (then_x (then_x (block_hit (block_n (then_n ?_)))))
  replace hst : St w0 w133 [rowT 29 aggE vz (flatA (l.take (n + 1))), rowT 51 sampE v128 (flatS (l.take (n + 1))), .blk g1 76 #[(iV 0), (iV 0), (iV 0), (iV 0), nS, nS]] := by rw [(flatA_snoc (i := n) (j := j) (by omega) (by omega))] at hst; exact hst
  refine cE_region rfl (s_cons (op_move (iV (n : Int)) q130_11 (s_cons (op_add (k := .i64) (a := (n : Int)) (b := 1) ((n : Int) + 1) rfl rfl (xi64 (by omega) (by omega)) (s_cons (op_assign (iV ((n : Int) + 1)) rfl (s_nil (then_n ?_))))))))
  exact ⟨_, ⟨v128, vz, (n + 1), rfl, q130_0, q130_1, q130_2, q130_6, q130_8, q130_9, q130_10, (congrArg iV (show ((n : Int) + 1) = _ from by omega)), hst, (by omega)⟩, (by simp only [id]; omega)⟩
 have c180 := of_decide_eq_false b123
 refine cE_cond false (congrArg Value.bool b123) (fun h => by cases h) (fun _ => ?_)
 refine cE_exit (then_x (then_x (block_hit (then_n (cE_seq ?_)))))
 replace hst : St w0 w122 [rowT 29 aggE vu (flatA (l.take n)), rowT 51 sampE vo ((gd l 0).d.Samples), .blk g1 76 #[(iV 0), (iV 0), (iV 0), (iV 0), nS, nS]] := by rw [(flatS_all (i := n) hl1 (by omega))] at hst; exact hst
 replace hst : St w0 w122 [rowT 29 aggE vu ((gd l 0).d.Aggs), rowT 51 sampE vo ((gd l 0).d.Samples), .blk g1 76 #[(iV 0), (iV 0), (iV 0), (iV 0), nS, nS]] := by rw [(flatA_all (i := n) hl1 (by omega))] at hst; exact hst
 refine cE_regionM (fun (D : Nat → Bool) (w : World) => St w0 w [rowT 29 aggE vu ((gd l 0).d.Aggs), rowT 51 sampE vo ((gd l 0).d.Samples), .blk g1 76 #[(iV 0), (iV 0), (iV 0), (iV 0), nS, nS]] ∧ (D 15 = false → St w0 w [rowT 29 aggE vu ((gd l 0).d.Aggs), rowT 51 sampE vo ((gd l 0).d.Samples), .blk g1 76 #[(iV 0), (iV 0), (iV 0), (iV 0), nS, nS]]) ∧ (D 15 = true → St w0 w [rowT 29 aggE vu ((gd l 0).d.Aggs), rowT 51 sampE vo ((gd l 0).d.Samples), .blk g1 76 #[(iV 0), (iV 0), (iV 0), (iV 0), nS, nS]])) [[(1, none)], [(2, none)], [(0, none)], [(149, some 2)], [(150, some 3)], [(151, some 4)], [(0, none)], [(0, none)], [(154, some 7)], [(155, some 8)], [(153, some 6), (156, some 9)], [(157, some 10)], [(158, some 11)], [(147, some 0), (148, some 1), (152, some 5), (159, some 12)], [], [(17, some 14), (160, some 13)]] [15] [(kEq (iV nid)), (kEq (iV k)), (kEq v_l), (kPt0 w0 [(iV ((l[0]'(by omega)).d.Id)), (iV ((l[0]'(by omega)).d.Tier)), (iV ((l[0]'(by omega)).d.From)), (iV ((l[0]'(by omega)).d.To)), (l[0]'(by omega)).sv.1, (l[0]'(by omega)).av.1]), (kPt0 w0 [(iV ((l[0]'(by omega)).d.From)), (iV ((l[0]'(by omega)).d.To)), (l[0]'(by omega)).sv.1, (l[0]'(by omega)).av.1]), (kEq (iV ((l[0]'(by omega)).d.From))), (kEq v_l), (kEq v_l), (kEq (iV (l.length : Int))), (kEq (iV ((l.length : Int) - 1))), (kPt0 w0 [(iV ((l[(l.length - 1)]'(by omega)).d.Id)), (iV ((l[(l.length - 1)]'(by omega)).d.Tier)), (iV ((l[(l.length - 1)]'(by omega)).d.From)), (iV ((l[(l.length - 1)]'(by omega)).d.To)), (l[(l.length - 1)]'(by omega)).sv.1, (l[(l.length - 1)]'(by omega)).av.1]), (kPt0 w0 [(iV ((l[(l.length - 1)]'(by omega)).d.To)), (l[(l.length - 1)]'(by omega)).sv.1, (l[(l.length - 1)]'(by omega)).av.1]), (kEq (iV ((l[(l.length - 1)]'(by omega)).d.To))), (kEq (.agg #[(iV nid), (iV k), (iV ((l[0]'(by omega)).d.From)), (iV ((l[(l.length - 1)]'(by omega)).d.To)), nS, nS])), (fun (D : Nat → Bool) (v : Value) (w : World) => ∃ g187 : Nat, v = .pointer (some ⟨g187, 0, none⟩) ∧ (D 15 = false → St w0 w [.blk g187 76 #[(iV 0), (iV 0), (iV 0), (iV 0), nS, nS], rowT 29 aggE vu ((gd l 0).d.Aggs), rowT 51 sampE vo ((gd l 0).d.Samples), .blk g1 76 #[(iV 0), (iV 0), (iV 0), (iV 0), nS, nS]]) ∧ (D 15 = true → St w0 w [.blk g187 76 #[(iV nid), (iV k), (iV ((l[0]'(by omega)).d.From)), (iV ((l[(l.length - 1)]'(by omega)).d.To)), nS, nS], rowT 29 aggE vu ((gd l 0).d.Aggs), rowT 51 sampE vo ((gd l 0).d.Samples), .blk g1 76 #[(iV 0), (iV 0), (iV 0), (iV 0), nS, nS]])), kAny] ⟨mEq, mEq, mEq, mPt0, mPt0, mEq, mEq, mEq, mEq, mEq, mPt0, mPt0, mEq, mEq, (fun D D' v w w' hD hb ⟨g, h1, h2⟩ => ⟨g, h1, (fun x0 => (h2.1 ((hD 15 (by decide)).symm.trans x0)).ext hb), (fun x0 => (h2.2 ((hD 15 (by decide)).symm.trans x0)).ext hb)⟩), mAny, trivial⟩ (by kernel_rfl) rfl (by kernel_rfl) ⟨hst.drewW.sub (.cons_cons _ (.cons_cons _ (.cons_cons _ .slnil))), (fun _ => hst.drewW), (fun h => absurd h Bool.false_ne_true)⟩ (fun hM => ⟨?_, ?_, ?_, ?_, ?_, ?_, ?_, ?_, ?_, ?_, ?_, ?_, ?_, ?_, ?_, ?_, trivial⟩) ?_
 ·rintro D ρo wo nD eD cD jD aD ⟨f1, _⟩
  exact go_plain (op_move (iV nid) (f1.trans q119_1) (kN0 (i := 0) hM (by decide) (by exact jD) (by exact rfl)))
 ·rintro D ρo wo nD eD cD jD aD ⟨f2, _⟩
  exact go_plain (op_move (iV k) (f2.trans q119_2) (kN0 (i := 1) hM (by decide) (by exact jD) (by exact rfl)))
 ·rintro D ρo wo nD eD cD jD aD ⟨f0, _⟩
  exact go_plain (op_move v_l (f0.trans q119_0) (kN0 (i := 2) hM (by decide) (by exact jD) (by exact rfl)))
 ·rintro D ρo wo nD eD cD jD aD ⟨f149, _⟩
  refine go_plain (op_indexAddrN (E := segE) (xs := l) 0 Try.underlying44 Try.sizeOf76 f149 h_l rfl (by omega) (by omega) (fun a191 o192 p193 => ?_))
  exact (kN0 (i := 3) hM (by decide) (by exact jD) (by exact ⟨_, _, rfl, p193⟩))
 ·rintro D ρo wo nD eD cD jD aD ⟨f150, _⟩
  obtain ⟨a194, o195, e196, p197⟩ := f150
  exact go_plain (op_fieldAddr (s := 0) Try.underlying76 rfl rfl Try.sizeOf2 e196 (kN0 (i := 4) hM (by decide) (by exact jD) (by exact ⟨_, _, rfl, (p197.drop 2)⟩)))
 ·rintro D ρo wo nD eD cD jD aD ⟨f151, _⟩
  have hst := jD.2.1 (not_yet nD (fun hm => (cD 15 5 hm (by kernel_rfl))))
  obtain ⟨a198, o199, e200, p201⟩ := f151
  exact go_plain (op_load1 (u := (iV ((l[0]'(by omega)).d.From))) Try.isAgg2 e200 (p201.below hst.below) (kN0 (i := 5) hM (by decide) (by exact jD) (by exact rfl)))
 ·rintro D ρo wo nD eD cD jD aD ⟨f0, _⟩
  exact go_plain (op_move v_l (f0.trans q119_0) (kN0 (i := 6) hM (by decide) (by exact jD) (by exact rfl)))
 ·rintro D ρo wo nD eD cD jD aD ⟨f0, _⟩
  exact go_plain (op_move v_l (f0.trans q119_0) (kN0 (i := 7) hM (by decide) (by exact jD) (by exact rfl)))
 ·rintro D ρo wo nD eD cD jD aD ⟨f154, _⟩
  exact go_plain (op_len (E := segE) (xs := l) Try.underlying44 f154 h_l (kN0 (i := 8) hM (by decide) (by exact jD) (by exact rfl)))
 ·rintro D ρo wo nD eD cD jD aD ⟨f155, _⟩
  exact go_plain (op_sub (k := .i64) (a := (l.length : Int)) (b := 1) ((l.length : Int) - 1) f155 rfl (xi64 (by omega) (by omega)) (kN0 (i := 9) hM (by decide) (by exact jD) (by exact rfl)))
 ·rintro D ρo wo nD eD cD jD aD ⟨f153, f156, _⟩
  refine go_plain (op_indexAddrN (E := segE) (xs := l) (l.length - 1) Try.underlying44 Try.sizeOf76 f153 h_l f156 (by omega) (by omega) (fun a202 o203 p204 => ?_))
  exact (kN0 (i := 10) hM (by decide) (by exact jD) (by exact ⟨_, _, rfl, p204⟩))
 ·rintro D ρo wo nD eD cD jD aD ⟨f157, _⟩
  obtain ⟨a205, o206, e207, p208⟩ := f157
  exact go_plain (op_fieldAddr (s := 0) Try.underlying76 rfl rfl Try.sizeOf2 e207 (kN0 (i := 11) hM (by decide) (by exact jD) (by exact ⟨_, _, rfl, (p208.drop 3)⟩)))
 ·rintro D ρo wo nD eD cD jD aD ⟨f158, _⟩
  have hst := jD.2.1 (not_yet nD (fun hm => (cD 15 12 hm (by kernel_rfl))))
  obtain ⟨a209, o210, e211, p212⟩ := f158
  exact go_plain (op_load1 (u := (iV ((l[(l.length - 1)]'(by omega)).d.To))) Try.isAgg2 e211 (p212.below hst.below) (kN0 (i := 12) hM (by decide) (by exact jD) (by exact rfl)))
 ·rintro D ρo wo nD eD cD jD aD ⟨f147, f148, f152, f159, _⟩
  exact go_plain (op_build (r := (.agg #[(iV nid), (iV k), (iV ((l[0]'(by omega)).d.From)), (iV ((l[(l.length - 1)]'(by omega)).d.To)), nS, nS])) (evp_cons (v := (iV nid)) f147 (evp_cons (v := (iV k)) f148 (evp_cons (v := (iV ((l[0]'(by omega)).d.From))) f152 (evp_cons (v := (iV ((l[(l.length - 1)]'(by omega)).d.To))) f159 evp_nil)))) (by simp [Instr.build, Instr.fill, Value.cells, Try.runUnderlying76, Try.zeroValue76]) (kN0 (i := 13) hM (by decide) (by exact jD) (by exact rfl)))
 ·rintro D ρo wo nD eD cD jD aD ⟨_⟩
  have hst := jD.2.1 (not_yet nD (fun hm => (cD 15 14 hm (by kernel_rfl))))
  have hst := St.start wo
  refine go_plain (op_alloc (cs := #[(iV 0), (iV 0), (iV 0), (iV 0), nS, nS]) hst Try.zeroValue76 rfl (fun g213 w214 hst _ => ?_))
  exact kN (i := 14) hM (by decide) hst.below (by exact ⟨(jD.1).ext hst.below, (fun x0 => (jD.2.1 x0).ext hst.below), (fun x0 => (jD.2.2 x0).ext hst.below)⟩) (by exact ⟨_, rfl, (fun y0 => (jD.2.1 y0).call hst), (fun y0 => absurd (show D 15 = true from y0) (by rw [(not_yet nD (fun hm => (cD 15 14 hm (by kernel_rfl))))]; decide))⟩)
 ·rintro D ρo wo nD eD cD jD aD ⟨f17, f160, _⟩
  obtain ⟨g215, e216, hh217⟩ := aD 14 17 (eD 14 (by kernel_rfl)) rfl
  have hst : St w0 wo [.blk g215 76 #[(iV 0), (iV 0), (iV 0), (iV 0), nS, nS], rowT 29 aggE vu ((gd l 0).d.Aggs), rowT 51 sampE vo ((gd l 0).d.Samples), .blk g1 76 #[(iV 0), (iV 0), (iV 0), (iV 0), nS, nS]] := hh217.1 nD
  refine go_plain (op_storeAll hst 0 rfl Try.sizeOf76 e216 f160 rfl rfl (by simp [Value.oneCell']) (fun w218 hst => ?_))
  refine ⟨by exact ⟨hst.sub (.cons _ (.cons_cons _ (.cons_cons _ (.cons_cons _ .slnil)))), (fun y0 => absurd y0 (fun h => Bool.noConfusion h)), (fun y0 => hst.sub (.cons _ (.cons_cons _ (.cons_cons _ (.cons_cons _ .slnil)))))⟩, by exact trivial, kX [14] (by exact ⟨Or.inr (Or.inr (Or.inr iEq)), Or.inr (Or.inr (Or.inr iEq)), Or.inr (Or.inr (Or.inr iEq)), Or.inr (Or.inr (Or.inr iPt0)), Or.inr (Or.inr (Or.inr iPt0)), Or.inr (Or.inr (Or.inr iEq)), Or.inr (Or.inr (Or.inr iEq)), Or.inr (Or.inr (Or.inr iEq)), Or.inr (Or.inr (Or.inr iEq)), Or.inr (Or.inr (Or.inr iEq)), Or.inr (Or.inr (Or.inr iPt0)), Or.inr (Or.inr (Or.inr iPt0)), Or.inr (Or.inr (Or.inr iEq)), Or.inr (Or.inr (Or.inr iEq)), Or.inr (Or.inl (by decide)), Or.inl rfl, trivial⟩) ?_⟩
  intro j d hj hjd hDj h
  simp only [List.mem_cons, List.not_mem_nil, or_false] at hj
  subst hj
  obtain rfl : 17 = d := Option.some.inj hjd
  exact ⟨_, e216, (fun y0 => absurd y0 (fun h => Bool.noConfusion h)), (fun y0 => hst.sub (.cons_cons _ (.cons_cons _ (.cons_cons _ (.cons_cons _ .slnil)))))⟩
 intro ρ220 w221 Dw221 hallw221 hJw221 hRw221 hkw221
 obtain ⟨g222, uw221_17, hhw221⟩ := hRw221 14 17 rfl
 have hst : St w0 w221 [.blk g222 76 #[(iV nid), (iV k), (iV ((l[0]'(by omega)).d.From)), (iV ((l[(l.length - 1)]'(by omega)).d.To)), nS, nS], rowT 29 aggE vu ((gd l 0).d.Aggs), rowT 51 sampE vo ((gd l 0).d.Samples), .blk g1 76 #[(iV 0), (iV 0), (iV 0), (iV 0), nS, nS]] := hhw221.2 (hallw221 15 (show 15 < 16 from by decide))
 have uw221_2 := (hkw221 2 rfl).trans q119_2
 have uw221_6 := (hkw221 6 rfl).trans q119_6
 have uw221_9 := (hkw221 9 rfl).trans q119_9
 have uw221_10 := (hkw221 10 rfl).trans q119_10
 refine then_n (cE_seq (cE_region rfl (s_cons (op_assign (iV 0) rfl (s_nil (then_n (cE_seq (cE_seq (cE_region rfl (s_cons (op_move (iV k) uw221_2 (s_cons (op_eql (k := .i64) (a := k) (b := 1) rfl rfl (s_nil (then_n ?_)))))))))))))))
 rcases Bool.eq_false_or_eq_true (decide (k = 1)) with b223 | b223
 ·have c224 := of_decide_eq_true b223
  refine cE_cond true (congrArg Value.bool b223) (fun _ => ?_) (fun h => by cases h)
  refine cE_region rfl (s_cons (op_move vo uw221_9 (s_cons (op_call Try.call49 (evs_cons (v := vo) rfl (evs_cons (v := (iV 1)) rfl evs_nil)) (c_rRaw (w0 := w221) (v_l := vo) (l := (gd l 0).d.Samples) (h_l := (hst.sl 2 rfl)) (k := 1) (hl := (hso _ (gd0_mem hl1)).2.2.2.2.1) (hn := (by have := segS_len hmA.1; omega)) (k0 := (by omega)) (k1 := (by omega))) ?_))))
  rintro _ w226 ⟨r225, rfl, hcall⟩
  refine ⟨_, rfl, ?_⟩
  have hst := hst.call hcall
  refine s_cons (op_move (.tuple #[r225, (iV ((rawA ((gd l 0).d.Samples) 1).2))]) rfl (s_cons (op_extract r225 rfl rfl (s_cons (op_extract (iV ((rawA ((gd l 0).d.Samples) 1).2)) rfl rfl (s_cons (op_fieldAddr (s := 0) Try.underlying76 rfl rfl Try.sizeOf74 uw221_17 (s_cons0 (op_store1 hst 1 rfl Try.sizeOf74 rfl rfl (sl_one (show Sl _ aggE r225 ((rawA ((gd l 0).d.Samples) 1).1) from (hst.sl 0 rfl))) (show 5 < 6 from by decide) (fun w227 hst => ?_))))))))))
  refine s_cons (op_assign (iV ((rawA ((gd l 0).d.Samples) 1).2)) rfl (s_nil (then_n (cE_seq (cE_block (cE_seq (cE_region rfl (s_cons (op_move (iV ((rawA ((gd l 0).d.Samples) 1).2)) rfl (s_cons (op_neq (k := .i64) (a := (rawA ((gd l 0).d.Samples) 1).2) (b := 0) rfl rfl (s_cons (op_assign (.bool (!decide (((rawA ((gd l 0).d.Samples) 1).2) = 0))) rfl (s_nil (then_n ?_)))))))))))))))
  rcases Bool.eq_false_or_eq_true (decide (((rawA ((gd l 0).d.Samples) 1).2) = 0)) with b228 | b228
  ·have c229 := of_decide_eq_true b228
   refine cE_cond false (congrArg Value.bool (congrArg (! ·) b228)) (fun h => by cases h) (fun _ => ?_)
   refine cE_seq (cE_region rfl (s_cons (op_fieldAddr (s := 0) Try.underlying76 rfl rfl Try.sizeOf74 uw221_17 (s_cons (op_load1 (u := r225) Try.isAgg74 rfl ((hst.cell 1 rfl).drop 5) (s_cons (op_len (E := aggE) (xs := (rawA ((gd l 0).d.Samples) 1).1) Try.underlying74 rfl (hst.sl 0 rfl) (s_cons (op_gtr (k := .i64) (a := (((rawA ((gd l 0).d.Samples) 1).1).length : Int)) (b := 64) rfl rfl ?_)))))))))
   refine s_cons (op_assign (.bool (decide (64 < (((rawA ((gd l 0).d.Samples) 1).1).length : Int)))) rfl (s_nil (then_n ?_)))
   rcases Bool.eq_false_or_eq_true (decide (64 < (((rawA ((gd l 0).d.Samples) 1).1).length : Int))) with b230 | b230
   ·have c231 := of_decide_eq_true b230
    refine cE_cond true (congrArg Value.bool b230) (fun _ => ?_) (fun h => by cases h)
    refine cE_seq (cE_region rfl (s_cons (op_build (r := (.agg #[(iV 0), (iV 0), (iV 0), (iV 0), nS, nS])) evp_nil (by simp [Instr.build, Instr.fill, Value.cells, Try.runUnderlying76, Try.zeroValue76]) (s_cons0 (op_storeAll hst 4 rfl Try.sizeOf76 uw221_6 rfl rfl rfl (by simp [Value.oneCell']) (fun w232 hst => ?_))))))
    refine s_cons (op_assign (iV 8) rfl (s_nil (then_n (cE_ret (block_r (then_r (postG_r _ (rvN (cs := [(iV 0), (iV 0), (iV 0), (iV 0), nS, nS]) Try.isAgg76 Try.sizeOf76 uw221_6 (Pt.of (hst.cell 4 rfl) rfl) rfl (rvt (v := (iV 8)) rfl rvnil)) ?_)))))))
    replace hst := hst.nilRow 51 sampE
    replace hst := hst.nilRow 29 aggE
    replace hst := hst.front 1 rfl
    exact ⟨(⟨⟨0, 0, 0, 0, [], []⟩, nilV, nilV⟩ : Seg), (retv2 rfl (congrArg iV (show 8 = (rollS (gd l 0).d nid k).2 from by exact snd_of (roll_full hl1 (by omega) hmA (by (rw [if_pos (by omega)]; done)) (by omega) (by assumption))))), hst.sub (.cons_cons _ (.cons_cons _ (.cons _ (.cons _ (.cons _ (.cons _ (.cons _ .slnil))))))), (by exact fst_of (roll_full hl1 (by omega) hmA (by (rw [if_pos (by omega)]; done)) (by omega) (by assumption)))⟩
   have c233 := of_decide_eq_false b230
   refine cE_cond false (congrArg Value.bool b230) (fun h => by cases h) (fun _ => ?_)
   refine cE_skip (block_n (then_n (cE_seq (cE_region rfl (s_cons (op_loadN (cs := [(iV nid), (iV k), (iV ((l[0]'(by omega)).d.From)), (iV ((l[(l.length - 1)]'(by omega)).d.To)), nS, r225]) Try.isAgg76 Try.sizeOf76 uw221_17 (Pt.of (hst.cell 1 rfl) rfl) rfl (s_cons0 (op_storeAll hst 4 rfl Try.sizeOf76 uw221_6 rfl rfl rfl (oneL_all (l := [(iV nid), (iV k), (iV ((l[0]'(by omega)).d.From)), (iV ((l[(l.length - 1)]'(by omega)).d.To)), nS, r225]) ⟨rfl, rfl, rfl, rfl, rfl, (sl_one (show Sl _ aggE r225 ((rawA ((gd l 0).d.Samples) 1).1) from (hst.sl 0 rfl))), trivial⟩) (fun w234 hst => ?_)))))))))
   refine s_cons (op_assign (iV 0) rfl (s_nil (then_n (cE_ret (postG_r _ (rvN (cs := [(iV nid), (iV k), (iV ((l[0]'(by omega)).d.From)), (iV ((l[(l.length - 1)]'(by omega)).d.To)), nS, r225]) Try.isAgg76 Try.sizeOf76 uw221_6 (Pt.of (hst.cell 4 rfl) rfl) rfl (rvt (v := (iV 0)) rfl rvnil)) ?_)))))
   have ho235 : r225.oneCell' = true := (sl_one (show Sl _ aggE r225 ((rawA ((gd l 0).d.Samples) 1).1) from (hst.sl 0 rfl)))
   replace hst := hst.nilRow 51 sampE
   exact ⟨(⟨⟨nid, k, (l[0]'(by omega)).d.From, (l[(l.length - 1)]'(by omega)).d.To, [], (rawA ((gd l 0).d.Samples) 1).1⟩, nilV, ⟨r225, ho235⟩⟩ : Seg), (retv2 rfl (congrArg iV (show 0 = (rollS (gd l 0).d nid k).2 from by exact snd_of (roll_ok (i := l.length - 1) (by omega) hl1 (by omega) hmA (by (rw [if_pos (by omega)]; done)) (by omega) (by assumption))))), hst.sub (.cons_cons _ (.cons_cons _ (.cons _ (.cons _ (.cons _ (.cons _ .slnil)))))), (by exact fst_of (roll_ok (i := l.length - 1) (by omega) hl1 (by omega) hmA (by (rw [if_pos (by omega)]; done)) (by omega) (by assumption)))⟩
  have c236 := of_decide_eq_false b228
  refine cE_cond true (congrArg Value.bool (congrArg (! ·) b228)) (fun _ => ?_) (fun h => by cases h)
  refine cE_seq (cE_region rfl (s_cons (op_build (r := (.agg #[(iV 0), (iV 0), (iV 0), (iV 0), nS, nS])) evp_nil (by simp [Instr.build, Instr.fill, Value.cells, Try.runUnderlying76, Try.zeroValue76]) (s_cons (op_move (iV ((rawA ((gd l 0).d.Samples) 1).2)) rfl (s_cons0 (op_storeAll hst 4 rfl Try.sizeOf76 uw221_6 rfl rfl rfl (by simp [Value.oneCell']) (fun w237 hst => ?_))))))))
  refine s_cons (op_assign (iV ((rawA ((gd l 0).d.Samples) 1).2)) rfl (s_nil (then_n (cE_ret (block_r (then_r (postG_r _ (rvN (cs := [(iV 0), (iV 0), (iV 0), (iV 0), nS, nS]) Try.isAgg76 Try.sizeOf76 uw221_6 (Pt.of (hst.cell 4 rfl) rfl) rfl (rvt (v := (iV ((rawA ((gd l 0).d.Samples) 1).2))) rfl rvnil)) ?_)))))))
  replace hst := hst.nilRow 51 sampE
  replace hst := hst.nilRow 29 aggE
  replace hst := hst.front 1 rfl
  exact ⟨(⟨⟨0, 0, 0, 0, [], []⟩, nilV, nilV⟩ : Seg), (retv2 rfl (congrArg iV (show (rawA ((gd l 0).d.Samples) 1).2 = (rollS (gd l 0).d nid k).2 from by exact snd_of (roll_bad hl1 (by omega) hmA (by (rw [if_pos (by omega)]; done)) (by assumption))))), hst.sub (.cons_cons _ (.cons_cons _ (.cons _ (.cons _ (.cons _ (.cons _ (.cons _ .slnil))))))), (by exact fst_of (roll_bad hl1 (by omega) hmA (by (rw [if_pos (by omega)]; done)) (by assumption)))⟩
 have c238 := of_decide_eq_false b223
 refine cE_cond false (congrArg Value.bool b223) (fun h => by cases h) (fun _ => ?_)
 refine cE_region rfl (s_cons (op_move vu uw221_10 (s_cons (op_move (iV k) uw221_2 (s_cons (op_call Try.call50 (evs_cons (v := vu) rfl (evs_cons (v := (iV k)) rfl evs_nil)) (c_rDown (w0 := w221) (v_l := vu) (l := (gd l 0).d.Aggs) (h_l := (hst.sl 1 rfl)) (k := k) (hl := (hso _ (gd0_mem hl1)).2.2.2.2.2) (hn := (by have := segS_len hmA.1; omega)) (k0 := (by omega)) (k1 := (by omega))) ?_))))))
 rintro _ w240 ⟨r239, rfl, hcall⟩
 refine ⟨_, rfl, ?_⟩
 have hst := hst.call hcall
 refine s_cons (op_move (.tuple #[r239, (iV ((downA ((gd l 0).d.Aggs) k).2))]) rfl (s_cons (op_extract r239 rfl rfl (s_cons (op_extract (iV ((downA ((gd l 0).d.Aggs) k).2)) rfl rfl (s_cons (op_fieldAddr (s := 0) Try.underlying76 rfl rfl Try.sizeOf74 uw221_17 (s_cons0 (op_store1 hst 1 rfl Try.sizeOf74 rfl rfl (sl_one (show Sl _ aggE r239 ((downA ((gd l 0).d.Aggs) k).1) from (hst.sl 0 rfl))) (show 5 < 6 from by decide) (fun w241 hst => ?_))))))))))
 refine s_cons (op_assign (iV ((downA ((gd l 0).d.Aggs) k).2)) rfl (s_nil (then_n (cE_seq (cE_block (cE_seq (cE_region rfl (s_cons (op_move (iV ((downA ((gd l 0).d.Aggs) k).2)) rfl (s_cons (op_neq (k := .i64) (a := (downA ((gd l 0).d.Aggs) k).2) (b := 0) rfl rfl (s_cons (op_assign (.bool (!decide (((downA ((gd l 0).d.Aggs) k).2) = 0))) rfl (s_nil (then_n ?_)))))))))))))))
 rcases Bool.eq_false_or_eq_true (decide (((downA ((gd l 0).d.Aggs) k).2) = 0)) with b242 | b242
 ·have c243 := of_decide_eq_true b242
  refine cE_cond false (congrArg Value.bool (congrArg (! ·) b242)) (fun h => by cases h) (fun _ => ?_)
  refine cE_seq (cE_region rfl (s_cons (op_fieldAddr (s := 0) Try.underlying76 rfl rfl Try.sizeOf74 uw221_17 (s_cons (op_load1 (u := r239) Try.isAgg74 rfl ((hst.cell 1 rfl).drop 5) (s_cons (op_len (E := aggE) (xs := (downA ((gd l 0).d.Aggs) k).1) Try.underlying74 rfl (hst.sl 0 rfl) (s_cons (op_gtr (k := .i64) (a := (((downA ((gd l 0).d.Aggs) k).1).length : Int)) (b := 64) rfl rfl (s_cons (op_assign (.bool (decide (64 < (((downA ((gd l 0).d.Aggs) k).1).length : Int)))) rfl ?_)))))))))))
  refine s_nil (then_n ?_)
  rcases Bool.eq_false_or_eq_true (decide (64 < (((downA ((gd l 0).d.Aggs) k).1).length : Int))) with b244 | b244
  ·have c245 := of_decide_eq_true b244
   refine cE_cond true (congrArg Value.bool b244) (fun _ => ?_) (fun h => by cases h)
   refine cE_seq (cE_region rfl (s_cons (op_build (r := (.agg #[(iV 0), (iV 0), (iV 0), (iV 0), nS, nS])) evp_nil (by simp [Instr.build, Instr.fill, Value.cells, Try.runUnderlying76, Try.zeroValue76]) (s_cons0 (op_storeAll hst 4 rfl Try.sizeOf76 uw221_6 rfl rfl rfl (by simp [Value.oneCell']) (fun w246 hst => ?_))))))
   refine s_cons (op_assign (iV 8) rfl (s_nil (then_n (cE_ret (block_r (then_r (postG_r _ (rvN (cs := [(iV 0), (iV 0), (iV 0), (iV 0), nS, nS]) Try.isAgg76 Try.sizeOf76 uw221_6 (Pt.of (hst.cell 4 rfl) rfl) rfl (rvt (v := (iV 8)) rfl rvnil)) ?_)))))))
   replace hst := hst.nilRow 51 sampE
   replace hst := hst.nilRow 29 aggE
   replace hst := hst.front 1 rfl
   exact ⟨(⟨⟨0, 0, 0, 0, [], []⟩, nilV, nilV⟩ : Seg), (retv2 rfl (congrArg iV (show 8 = (rollS (gd l 0).d nid k).2 from by exact snd_of (roll_full hl1 (by omega) hmA (by (rw [if_neg (by omega)]; done)) (by omega) (by assumption))))), hst.sub (.cons_cons _ (.cons_cons _ (.cons _ (.cons _ (.cons _ (.cons _ (.cons _ .slnil))))))), (by exact fst_of (roll_full hl1 (by omega) hmA (by (rw [if_neg (by omega)]; done)) (by omega) (by assumption)))⟩
  have c247 := of_decide_eq_false b244
  refine cE_cond false (congrArg Value.bool b244) (fun h => by cases h) (fun _ => ?_)
  refine cE_skip (block_n (then_n (cE_seq (cE_region rfl (s_cons (op_loadN (cs := [(iV nid), (iV k), (iV ((l[0]'(by omega)).d.From)), (iV ((l[(l.length - 1)]'(by omega)).d.To)), nS, r239]) Try.isAgg76 Try.sizeOf76 uw221_17 (Pt.of (hst.cell 1 rfl) rfl) rfl (s_cons0 (op_storeAll hst 4 rfl Try.sizeOf76 uw221_6 rfl rfl rfl (oneL_all (l := [(iV nid), (iV k), (iV ((l[0]'(by omega)).d.From)), (iV ((l[(l.length - 1)]'(by omega)).d.To)), nS, r239]) ⟨rfl, rfl, rfl, rfl, rfl, (sl_one (show Sl _ aggE r239 ((downA ((gd l 0).d.Aggs) k).1) from (hst.sl 0 rfl))), trivial⟩) (fun w248 hst => ?_)))))))))
  refine s_cons (op_assign (iV 0) rfl (s_nil (then_n (cE_ret (postG_r _ (rvN (cs := [(iV nid), (iV k), (iV ((l[0]'(by omega)).d.From)), (iV ((l[(l.length - 1)]'(by omega)).d.To)), nS, r239]) Try.isAgg76 Try.sizeOf76 uw221_6 (Pt.of (hst.cell 4 rfl) rfl) rfl (rvt (v := (iV 0)) rfl rvnil)) ?_)))))
  have ho249 : r239.oneCell' = true := (sl_one (show Sl _ aggE r239 ((downA ((gd l 0).d.Aggs) k).1) from (hst.sl 0 rfl)))
  replace hst := hst.nilRow 51 sampE
  exact ⟨(⟨⟨nid, k, (l[0]'(by omega)).d.From, (l[(l.length - 1)]'(by omega)).d.To, [], (downA ((gd l 0).d.Aggs) k).1⟩, nilV, ⟨r239, ho249⟩⟩ : Seg), (retv2 rfl (congrArg iV (show 0 = (rollS (gd l 0).d nid k).2 from by exact snd_of (roll_ok (i := l.length - 1) (by omega) hl1 (by omega) hmA (by (rw [if_neg (by omega)]; done)) (by omega) (by assumption))))), hst.sub (.cons_cons _ (.cons_cons _ (.cons _ (.cons _ (.cons _ (.cons _ .slnil)))))), (by exact fst_of (roll_ok (i := l.length - 1) (by omega) hl1 (by omega) hmA (by (rw [if_neg (by omega)]; done)) (by omega) (by assumption)))⟩
 have c250 := of_decide_eq_false b242
 refine cE_cond true (congrArg Value.bool (congrArg (! ·) b242)) (fun _ => ?_) (fun h => by cases h)
 refine cE_seq (cE_region rfl (s_cons (op_build (r := (.agg #[(iV 0), (iV 0), (iV 0), (iV 0), nS, nS])) evp_nil (by simp [Instr.build, Instr.fill, Value.cells, Try.runUnderlying76, Try.zeroValue76]) (s_cons (op_move (iV ((downA ((gd l 0).d.Aggs) k).2)) rfl (s_cons0 (op_storeAll hst 4 rfl Try.sizeOf76 uw221_6 rfl rfl rfl (by simp [Value.oneCell']) (fun w251 hst => ?_))))))))
 refine s_cons (op_assign (iV ((downA ((gd l 0).d.Aggs) k).2)) rfl (s_nil (then_n (cE_ret (block_r (then_r (postG_r _ (rvN (cs := [(iV 0), (iV 0), (iV 0), (iV 0), nS, nS]) Try.isAgg76 Try.sizeOf76 uw221_6 (Pt.of (hst.cell 4 rfl) rfl) rfl (rvt (v := (iV ((downA ((gd l 0).d.Aggs) k).2))) rfl rvnil)) ?_)))))))
 replace hst := hst.nilRow 51 sampE
 replace hst := hst.nilRow 29 aggE
 replace hst := hst.front 1 rfl
 exact ⟨(⟨⟨0, 0, 0, 0, [], []⟩, nilV, nilV⟩ : Seg), (retv2 rfl (congrArg iV (show (downA ((gd l 0).d.Aggs) k).2 = (rollS (gd l 0).d nid k).2 from by exact snd_of (roll_bad hl1 (by omega) hmA (by (rw [if_neg (by omega)]; done)) (by assumption))))), hst.sub (.cons_cons _ (.cons_cons _ (.cons _ (.cons _ (.cons _ (.cons _ (.cons _ .slnil))))))), (by exact fst_of (roll_bad hl1 (by omega) hmA (by (rw [if_neg (by omega)]; done)) (by assumption)))⟩

end Go.Proofs.Ytldfnkhccaglmaa
