/- order.Roll -/
import Derived.Test.YtadnedoecbfojaaOP
import Derived.Test.YtadnedoecbfojaaW27
import Derived.Test.YtadnedoecbfojaaW2
import Derived.Test.YtadnedoecbfojaaW4
import Derived.Test.YtadnedoecbfojaaW5
namespace Go.Proofs.Ytadnedoecbfojaa
open Go.RowKit

set_option maxHeartbeats 4000000 in
theorem c_roll (w0 : World) (v_l : Value) (l : List Info) (h_l : Sl w0 infoE v_l l) (hl : ∀ s ∈ l, s.ok) :
    Calls Try.prog 9 #[v_l] w0 fun e w' => e = .returned (.tuple #[(.int .i64 ((rollI l).1)), (.int .i64 ((rollI l).2))]) ∧ St w0 w' [] := by
  refine calls_E (n := 70) (ts := [2, 3]) Try.func9 rfl rfl rfl (by simp) ?_
  have hst := St.start w0
  refine cE_seq ?_
  refine cE_region rfl ?_
  refine s_cons (op_assign (.int .i64 0) rfl ?_)
  refine s_cons (op_assign (.int .i64 0) rfl ?_)
  refine s_nil ?_
  refine then_n ?_
  refine cE_scope ?_
  refine cE_seq ?_
  refine cE_region rfl ?_
  refine s_cons (op_assign (.int .i64 (-1)) rfl ?_)
  refine s_nil ?_
  refine then_n ?_
  refine cE_seq ?_
  refine cE_label ?_
  refine then_n ?_
  refine cE_seq ?_
  refine cE_seq ?_
  refine cE_region rfl ?_
  refine s_cons (op_move v_l rfl ?_)
  refine s_cons (op_len (E := infoE) (xs := l) Try.underlying22 rfl h_l ?_)
  refine s_cons (op_move (.int .i64 0) rfl ?_)
  refine s_nil ?_
  refine then_n ?_
  refine cE_block ?_
  refine cE_loop (fun (m : Nat) (ρ : Env) (w : World) => ∃ (i : Nat), m = l.length - i ∧ ρ 0 = v_l ∧ ρ 2 = (.int .i64 0) ∧ ρ 3 = (.int .i64 0) ∧ ρ 8 = v_l ∧ ρ 9 = (.int .i64 (l.length : Int)) ∧ ρ 4 = (.int .i64 (bst l i)) ∧ ρ 10 = (.int .i64 (i : Int)) ∧ St w0 w [] ∧ (i ≤ l.length)) id _ ⟨0, rfl, rfl, rfl, rfl, rfl, rfl, (congrArg (Value.int .i64) (show (-1) = _ from by first | rfl | exact Eq.symm (bst_skip (by omega) (can_no3 (by omega))) | exact Eq.symm (bst_skip (by omega) (can_noup (by first | assumption | (show upI _ _ = _; assumption)))) | exact Eq.symm (bst_new (by omega) (can_yes (by omega) (by first | assumption | (show upI _ _ = _; assumption))) (Or.inl (by omega))) | exact Eq.symm (bst_new (by omega) (can_yes (by omega) (by first | assumption | (show upI _ _ = _; assumption))) (Or.inr (Eq.trans (lowAt_at (by omega) (by omega)) (orI3.1 (by assumption))))) | exact Eq.symm (bst_old (by omega) (can_yes (by omega) (by first | assumption | (show upI _ _ = _; assumption))) (by omega) (Eq.trans (lowAt_at (by omega) (by omega)) (orI3_not (by assumption)))))), (congrArg (Value.int .i64) (show 0 = _ from by omega)), hst, (by omega)⟩ ?_
  rintro m2 ρ3 w4 ⟨i, hm2, q1_0, q1_2, q1_3, q1_8, q1_9, q1_4, q1_10, hst, hi⟩
  have hlen := h_l.len
  have hbr := bst_r l i
  refine cE_seq ?_
  refine cE_region rfl ?_
  refine s_cons (op_lss (k := .i64) (a := (i : Int)) (b := (l.length : Int)) q1_10 q1_9 ?_)
  refine s_nil ?_
  refine then_n ?_
  refine cE_seq ?_
  rcases Bool.eq_false_or_eq_true (decide ((i : Int) < (l.length : Int))) with b5 | b5
  · have c6 : (i : Int) < (l.length : Int) := of_decide_eq_true b5
    refine cE_cond true (congrArg Value.bool b5) (fun _ => ?_) (fun h => by cases h)
    refine cE_skip ?_
    refine then_n ?_
    refine cE_seq ?_
    refine cE_block ?_
    refine cE_seq ?_
    refine cE_region rfl ?_
    refine s_cons (op_move (.int .i64 (i : Int)) q1_10 ?_)
    refine s_cons (op_indexAddrN (E := infoE) (xs := l) i Try.underlying22 Try.sizeOf34 q1_8 h_l q1_10 (by omega) (by omega) (fun a7 o8 p9 => ?_))
    have hr := hl (l[i]'(by omega)) (List.getElem_mem _)
    refine s_cons (op_loadN (cs := [(.int .i64 ((l[i]'(by omega)).Id)), (.int .i64 ((l[i]'(by omega)).Tier)), (.int .i64 ((l[i]'(by omega)).From)), (.int .i64 ((l[i]'(by omega)).To)), (.int .u32 ((l[i]'(by omega)).Sum))]) Try.isAgg34 Try.sizeOf34 rfl (Pt.of (p9.below hst.below) rfl) rfl ?_)
    refine s_cons (op_alloc (cs := #[(.int .i64 0), (.int .i64 0), (.int .i64 0), (.int .i64 0), (.int .u32 0)]) hst Try.zeroValue34 rfl (fun g10 w11 hst _ => ?_))
    replace hst : St w0 w11 [.blk g10 34 #[(.int .i64 0), (.int .i64 0), (.int .i64 0), (.int .i64 0), (.int .u32 0)]] := hst
    refine s_cons (op_assign (.int .i64 (i : Int)) rfl ?_)
    refine s_cons0 (op_storeAll hst 0 rfl Try.sizeOf34 rfl rfl rfl rfl (by simp [Value.oneCell']) (fun w12 hst => ?_))
    replace hst : St w0 w12 [.blk g10 34 #[(.int .i64 ((l[i]'(by omega)).Id)), (.int .i64 ((l[i]'(by omega)).Tier)), (.int .i64 ((l[i]'(by omega)).From)), (.int .i64 ((l[i]'(by omega)).To)), (.int .u32 ((l[i]'(by omega)).Sum))]] := hst
    refine s_nil ?_
    refine then_n ?_
    refine cE_seq ?_
    refine cE_region rfl ?_
    refine s_cons (op_makeFunc (evs_cons (v := (.pointer (some ⟨g10, 0, none⟩))) rfl evs_nil) ?_)
    refine s_cons (op_assign (.func (.func 16) #[] #[(.pointer (some ⟨g10, 0, none⟩))]) rfl ?_)
    refine s_nil ?_
    refine then_n ?_
    refine cE_seq ?_
    refine cE_seq ?_
    refine cE_region rfl ?_
    refine s_cons (op_fieldAddr (s := 0) Try.underlying34 rfl rfl Try.sizeOf3 rfl ?_)
    refine s_cons (op_load1 (u := (.int .i64 ((l[i]'(by omega)).Tier))) Try.isAgg3 rfl ((hst.cell 0 rfl).drop 1) ?_)
    refine s_cons (op_geq (k := .i64) (a := (l[i]'(by omega)).Tier) (b := 3) rfl rfl ?_)
    refine s_cons (op_move (.bool (decide (3 ≤ ((l[i]'(by omega)).Tier)))) rfl ?_)
    rcases Bool.eq_false_or_eq_true (decide (3 ≤ ((l[i]'(by omega)).Tier))) with b13 | b13
    · have c14 : 3 ≤ ((l[i]'(by omega)).Tier) := of_decide_eq_true b13
      refine s_no 19 rfl (congrArg Value.bool b13) ?_
      refine s_no 19 rfl (congrArg Value.bool b13) ?_
      refine s_no 19 rfl (congrArg Value.bool b13) ?_
      refine s_cons (op_pick_t (.bool true) (congrArg Value.bool b13) rfl ?_)
      refine s_nil ?_
      refine then_n ?_
      refine cE_cond true rfl (fun _ => ?_) (fun h => by cases h)
      refine cE_exit ?_
      refine then_x (block_hit (then_n ?_))
      refine cE_region rfl ?_
      refine s_cons (op_add (k := .i64) (a := (i : Int)) (b := 1) ((i : Int) + 1) q1_10 rfl (xi64 (by omega) (by omega)) ?_)
      refine s_cons (op_move (.int .i64 ((i : Int) + 1)) rfl ?_)
      refine s_nil ?_
      refine then_n ?_
      exact ⟨_, ⟨(i + 1), rfl, q1_0, q1_2, q1_3, q1_8, q1_9, (q1_4.trans (congrArg (Value.int .i64) (show (bst l i) = _ from by first | rfl | exact Eq.symm (bst_skip (by omega) (can_no3 (by omega))) | exact Eq.symm (bst_skip (by omega) (can_noup (by first | assumption | (show upI _ _ = _; assumption)))) | exact Eq.symm (bst_new (by omega) (can_yes (by omega) (by first | assumption | (show upI _ _ = _; assumption))) (Or.inl (by omega))) | exact Eq.symm (bst_new (by omega) (can_yes (by omega) (by first | assumption | (show upI _ _ = _; assumption))) (Or.inr (Eq.trans (lowAt_at (by omega) (by omega)) (orI3.1 (by assumption))))) | exact Eq.symm (bst_old (by omega) (can_yes (by omega) (by first | assumption | (show upI _ _ = _; assumption))) (by omega) (Eq.trans (lowAt_at (by omega) (by omega)) (orI3_not (by assumption))))))), (congrArg (Value.int .i64) (show ((i : Int) + 1) = _ from by omega)), (hst.sub (.cons _ .slnil)), (by omega)⟩, (by simp only [id]; omega)⟩
    have c15 : ¬ (3 ≤ ((l[i]'(by omega)).Tier)) := of_decide_eq_false b13
    refine s_yes 19 rfl (congrArg Value.bool b13) (op_move v_l q1_0 ?_)
    refine s_yes 19 rfl (congrArg Value.bool b13) (op_move (.func (.func 16) #[] #[(.pointer (some ⟨g10, 0, none⟩))]) rfl ?_)
    refine s_yes 19 rfl (congrArg Value.bool b13) (op_call Try.call17 (evs_cons (v := v_l) rfl (evs_cons (v := (.func (.func 16) #[] #[(.pointer (some ⟨g10, 0, none⟩))])) rfl evs_nil)) (c_containsR (v_l := v_l) (l := l) (h_l := h_l) (g_x := g10) (x0 := (l[i]'(by omega)).Id) (x1 := (l[i]'(by omega)).Tier) (x2 := (l[i]'(by omega)).From) (x3 := (l[i]'(by omega)).To) (x4 := (l[i]'(by omega)).Sum) (hx0 := (by omega)) (hx1 := (by omega)) (hst := hst)) ?_)
    rintro _ w16 ⟨rfl, hcall⟩
    refine ⟨_, rfl, ?_⟩
    have hst : St w0 w16 [.blk g10 34 #[(.int .i64 ((l[i]'(by omega)).Id)), (.int .i64 ((l[i]'(by omega)).Tier)), (.int .i64 ((l[i]'(by omega)).From)), (.int .i64 ((l[i]'(by omega)).To)), (.int .u32 ((l[i]'(by omega)).Sum))]] := hcall
    refine s_cons (op_pick_f (.bool (l.any (fun (y : Info) => decide (y.Tier = ((l[i]'(by omega)).Tier) + 1 ∧ y.From = ((l[i]'(by omega)).From) ∧ y.To = ((l[i]'(by omega)).To))))) (congrArg Value.bool b13) rfl ?_)
    refine s_nil ?_
    refine then_n ?_
    rcases Bool.eq_false_or_eq_true (l.any (fun (y : Info) => decide (y.Tier = ((l[i]'(by omega)).Tier) + 1 ∧ y.From = ((l[i]'(by omega)).From) ∧ y.To = ((l[i]'(by omega)).To)))) with b17 | b17
    · refine cE_cond true (congrArg Value.bool b17) (fun _ => ?_) (fun h => by cases h)
      refine cE_exit ?_
      refine then_x (block_hit (then_n ?_))
      refine cE_region rfl ?_
      refine s_cons (op_add (k := .i64) (a := (i : Int)) (b := 1) ((i : Int) + 1) q1_10 rfl (xi64 (by omega) (by omega)) ?_)
      refine s_cons (op_move (.int .i64 ((i : Int) + 1)) rfl ?_)
      refine s_nil ?_
      refine then_n ?_
      exact ⟨_, ⟨(i + 1), rfl, q1_0, q1_2, q1_3, q1_8, q1_9, (q1_4.trans (congrArg (Value.int .i64) (show (bst l i) = _ from by first | rfl | exact Eq.symm (bst_skip (by omega) (can_no3 (by omega))) | exact Eq.symm (bst_skip (by omega) (can_noup (by first | assumption | (show upI _ _ = _; assumption)))) | exact Eq.symm (bst_new (by omega) (can_yes (by omega) (by first | assumption | (show upI _ _ = _; assumption))) (Or.inl (by omega))) | exact Eq.symm (bst_new (by omega) (can_yes (by omega) (by first | assumption | (show upI _ _ = _; assumption))) (Or.inr (Eq.trans (lowAt_at (by omega) (by omega)) (orI3.1 (by assumption))))) | exact Eq.symm (bst_old (by omega) (can_yes (by omega) (by first | assumption | (show upI _ _ = _; assumption))) (by omega) (Eq.trans (lowAt_at (by omega) (by omega)) (orI3_not (by assumption))))))), (congrArg (Value.int .i64) (show ((i : Int) + 1) = _ from by omega)), (hst.sub (.cons _ .slnil)), (by omega)⟩, (by simp only [id]; omega)⟩
    refine cE_cond false (congrArg Value.bool b17) (fun h => by cases h) (fun _ => ?_)
    refine cE_skip ?_
    refine then_n ?_
    refine cE_seq ?_
    rcases Bool.eq_false_or_eq_true (decide ((bst l i) < 0)) with b18 | b18
    · have c19 : (bst l i) < 0 := of_decide_eq_true b18
      have hM20 : stabML [] [(kEq (.int .i64 (bst l i))), (kEq (.bool (decide ((bst l i) < 0)))), (kEq (.bool (decide ((bst l i) < 0)))), kEq undef, kEq undef, kEq undef, kEq undef, kEq undef, kEq undef, kEq undef, kEq undef, kEq undef, kEq undef, kEq undef, kEq undef, kEq undef, kEq undef, kEq undef, kEq undef, kEq undef, kEq undef, kEq undef, kEq undef, kEq undef, kEq undef, kEq undef, kEq undef, kEq undef, kEq undef, kEq undef, (kEq (.bool true))] := ⟨mEq, mEq, mEq, mEq, mEq, mEq, mEq, mEq, mEq, mEq, mEq, mEq, mEq, mEq, mEq, mEq, mEq, mEq, mEq, mEq, mEq, mEq, mEq, mEq, mEq, mEq, mEq, mEq, mEq, mEq, mEq, trivial⟩
      refine cE_regionK (fun (D : Nat → Bool) (w : World) => St w0 w [.blk g10 34 #[(.int .i64 ((l[i]'(by omega)).Id)), (.int .i64 ((l[i]'(by omega)).Tier)), (.int .i64 ((l[i]'(by omega)).From)), (.int .i64 ((l[i]'(by omega)).To)), (.int .u32 ((l[i]'(by omega)).Sum))]] ∧ (St w0 w [.blk g10 34 #[(.int .i64 ((l[i]'(by omega)).Id)), (.int .i64 ((l[i]'(by omega)).Tier)), (.int .i64 ((l[i]'(by omega)).From)), (.int .i64 ((l[i]'(by omega)).To)), (.int .u32 ((l[i]'(by omega)).Sum))]])) [[(4, none)], [(24, some 0)], [(25, some 1)], [(6, none), (26, some 2)], [(27, some 3), (26, some 2)], [(0, none), (26, some 2)], [(4, none), (26, some 2)], [(29, some 5), (30, some 6), (26, some 2)], [(31, some 7), (26, some 2)], [(32, some 8), (26, some 2)], [(28, some 4), (33, some 9), (26, some 2)], [(6, none), (26, some 2)], [(35, some 11), (26, some 2)], [(0, none), (26, some 2)], [(4, none), (26, some 2)], [(37, some 13), (38, some 14), (26, some 2)], [(39, some 15), (26, some 2)], [(40, some 16), (26, some 2)], [(36, some 12), (41, some 17), (26, some 2)], [(6, none), (26, some 2)], [(43, some 19), (26, some 2)], [(0, none), (26, some 2)], [(4, none), (26, some 2)], [(45, some 21), (46, some 22), (26, some 2)], [(47, some 23), (26, some 2)], [(48, some 24), (26, some 2)], [(44, some 20), (49, some 25), (26, some 2)], [(34, some 10), (42, some 18), (50, some 26), (26, some 2)], [(51, some 27), (26, some 2)], [(52, some 28), (26, some 2)], [(26, some 2), (53, some 29)]] (RofK [(kEq (.int .i64 (bst l i))), (kEq (.bool (decide ((bst l i) < 0)))), (kEq (.bool (decide ((bst l i) < 0)))), kEq undef, kEq undef, kEq undef, kEq undef, kEq undef, kEq undef, kEq undef, kEq undef, kEq undef, kEq undef, kEq undef, kEq undef, kEq undef, kEq undef, kEq undef, kEq undef, kEq undef, kEq undef, kEq undef, kEq undef, kEq undef, kEq undef, kEq undef, kEq undef, kEq undef, kEq undef, kEq undef, (kEq (.bool true))]) (by kernel_rfl) rfl (by kernel_rfl) ⟨hst.drewW.sub (.cons_cons _ .slnil), hst.drewW⟩ ⟨?_, ?_, ?_, ?_, ?_, ?_, ?_, ?_, ?_, ?_, ?_, ?_, ?_, ?_, ?_, ?_, ?_, ?_, ?_, ?_, ?_, ?_, ?_, ?_, ?_, ?_, ?_, ?_, ?_, ?_, ?_, trivial⟩ ?_
      · rintro D22 ρ23 w24 hD25 hE26 hC27 hJ28 hA29 ⟨f4, _⟩
        have hst := hJ28.2 
        replace hst : St w0 w24 [.blk g10 34 #[(.int .i64 ((l[i]'(by omega)).Id)), (.int .i64 ((l[i]'(by omega)).Tier)), (.int .i64 ((l[i]'(by omega)).From)), (.int .i64 ((l[i]'(by omega)).To)), (.int .u32 ((l[i]'(by omega)).Sum))]] := hst
        exact go_plain (op_move (.int .i64 (bst l i)) (f4.trans q1_4) (kN0 (i := 0) hM20 (by decide) (by exact hJ28) (by exact rfl)))
      · rintro D30 ρ31 w32 hD33 hE34 hC35 hJ36 hA37 ⟨f24, _⟩
        have hst := hJ36.2 
        replace hst : St w0 w32 [.blk g10 34 #[(.int .i64 ((l[i]'(by omega)).Id)), (.int .i64 ((l[i]'(by omega)).Tier)), (.int .i64 ((l[i]'(by omega)).From)), (.int .i64 ((l[i]'(by omega)).To)), (.int .u32 ((l[i]'(by omega)).Sum))]] := hst
        exact go_plain (op_lss (k := .i64) (a := (bst l i)) (b := 0) f24 rfl (kN0 (i := 1) hM20 (by decide) (by exact hJ36) (by exact rfl)))
      · rintro D38 ρ39 w40 hD41 hE42 hC43 hJ44 hA45 ⟨f25, _⟩
        have hst := hJ44.2 
        replace hst : St w0 w40 [.blk g10 34 #[(.int .i64 ((l[i]'(by omega)).Id)), (.int .i64 ((l[i]'(by omega)).Tier)), (.int .i64 ((l[i]'(by omega)).From)), (.int .i64 ((l[i]'(by omega)).To)), (.int .u32 ((l[i]'(by omega)).Sum))]] := hst
        exact go_plain (op_move (.bool (decide ((bst l i) < 0))) f25 (kN0 (i := 2) hM20 (by decide) (by exact hJ44) (by exact rfl)))
      · rintro D46 ρ47 w48 hD49 hE50 hC51 hJ52 hA53 ⟨f6, f26, _⟩
        exact go_no 26 rfl (f26.trans (congrArg Value.bool b18)) (kN0 (i := 3) hM20 (by decide) (by exact hJ52) (by exact rfl))
      · rintro D54 ρ55 w56 hD57 hE58 hC59 hJ60 hA61 ⟨f27, f26, _⟩
        exact go_no 26 rfl (f26.trans (congrArg Value.bool b18)) (kN0 (i := 4) hM20 (by decide) (by exact hJ60) (by exact rfl))
      · rintro D62 ρ63 w64 hD65 hE66 hC67 hJ68 hA69 ⟨f0, f26, _⟩
        exact go_no 26 rfl (f26.trans (congrArg Value.bool b18)) (kN0 (i := 5) hM20 (by decide) (by exact hJ68) (by exact rfl))
      · rintro D70 ρ71 w72 hD73 hE74 hC75 hJ76 hA77 ⟨f4, f26, _⟩
        exact go_no 26 rfl (f26.trans (congrArg Value.bool b18)) (kN0 (i := 6) hM20 (by decide) (by exact hJ76) (by exact rfl))
      · rintro D78 ρ79 w80 hD81 hE82 hC83 hJ84 hA85 ⟨f29, f30, f26, _⟩
        exact go_no 26 rfl (f26.trans (congrArg Value.bool b18)) (kN0 (i := 7) hM20 (by decide) (by exact hJ84) (by exact rfl))
      · rintro D86 ρ87 w88 hD89 hE90 hC91 hJ92 hA93 ⟨f31, f26, _⟩
        exact go_no 26 rfl (f26.trans (congrArg Value.bool b18)) (kN0 (i := 8) hM20 (by decide) (by exact hJ92) (by exact rfl))
      · rintro D94 ρ95 w96 hD97 hE98 hC99 hJ100 hA101 ⟨f32, f26, _⟩
        exact go_no 26 rfl (f26.trans (congrArg Value.bool b18)) (kN0 (i := 9) hM20 (by decide) (by exact hJ100) (by exact rfl))
      · rintro D102 ρ103 w104 hD105 hE106 hC107 hJ108 hA109 ⟨f28, f33, f26, _⟩
        exact go_no 26 rfl (f26.trans (congrArg Value.bool b18)) (kN0 (i := 10) hM20 (by decide) (by exact hJ108) (by exact rfl))
      · rintro D110 ρ111 w112 hD113 hE114 hC115 hJ116 hA117 ⟨f6, f26, _⟩
        exact go_no 26 rfl (f26.trans (congrArg Value.bool b18)) (kN0 (i := 11) hM20 (by decide) (by exact hJ116) (by exact rfl))
      · rintro D118 ρ119 w120 hD121 hE122 hC123 hJ124 hA125 ⟨f35, f26, _⟩
        exact go_no 26 rfl (f26.trans (congrArg Value.bool b18)) (kN0 (i := 12) hM20 (by decide) (by exact hJ124) (by exact rfl))
      · rintro D126 ρ127 w128 hD129 hE130 hC131 hJ132 hA133 ⟨f0, f26, _⟩
        exact go_no 26 rfl (f26.trans (congrArg Value.bool b18)) (kN0 (i := 13) hM20 (by decide) (by exact hJ132) (by exact rfl))
      · rintro D134 ρ135 w136 hD137 hE138 hC139 hJ140 hA141 ⟨f4, f26, _⟩
        exact go_no 26 rfl (f26.trans (congrArg Value.bool b18)) (kN0 (i := 14) hM20 (by decide) (by exact hJ140) (by exact rfl))
      · rintro D142 ρ143 w144 hD145 hE146 hC147 hJ148 hA149 ⟨f37, f38, f26, _⟩
        exact go_no 26 rfl (f26.trans (congrArg Value.bool b18)) (kN0 (i := 15) hM20 (by decide) (by exact hJ148) (by exact rfl))
      · rintro D150 ρ151 w152 hD153 hE154 hC155 hJ156 hA157 ⟨f39, f26, _⟩
        exact go_no 26 rfl (f26.trans (congrArg Value.bool b18)) (kN0 (i := 16) hM20 (by decide) (by exact hJ156) (by exact rfl))
      · rintro D158 ρ159 w160 hD161 hE162 hC163 hJ164 hA165 ⟨f40, f26, _⟩
        exact go_no 26 rfl (f26.trans (congrArg Value.bool b18)) (kN0 (i := 17) hM20 (by decide) (by exact hJ164) (by exact rfl))
      · rintro D166 ρ167 w168 hD169 hE170 hC171 hJ172 hA173 ⟨f36, f41, f26, _⟩
        exact go_no 26 rfl (f26.trans (congrArg Value.bool b18)) (kN0 (i := 18) hM20 (by decide) (by exact hJ172) (by exact rfl))
      · rintro D174 ρ175 w176 hD177 hE178 hC179 hJ180 hA181 ⟨f6, f26, _⟩
        exact go_no 26 rfl (f26.trans (congrArg Value.bool b18)) (kN0 (i := 19) hM20 (by decide) (by exact hJ180) (by exact rfl))
      · rintro D182 ρ183 w184 hD185 hE186 hC187 hJ188 hA189 ⟨f43, f26, _⟩
        exact go_no 26 rfl (f26.trans (congrArg Value.bool b18)) (kN0 (i := 20) hM20 (by decide) (by exact hJ188) (by exact rfl))
      · rintro D190 ρ191 w192 hD193 hE194 hC195 hJ196 hA197 ⟨f0, f26, _⟩
        exact go_no 26 rfl (f26.trans (congrArg Value.bool b18)) (kN0 (i := 21) hM20 (by decide) (by exact hJ196) (by exact rfl))
      · rintro D198 ρ199 w200 hD201 hE202 hC203 hJ204 hA205 ⟨f4, f26, _⟩
        exact go_no 26 rfl (f26.trans (congrArg Value.bool b18)) (kN0 (i := 22) hM20 (by decide) (by exact hJ204) (by exact rfl))
      · rintro D206 ρ207 w208 hD209 hE210 hC211 hJ212 hA213 ⟨f45, f46, f26, _⟩
        exact go_no 26 rfl (f26.trans (congrArg Value.bool b18)) (kN0 (i := 23) hM20 (by decide) (by exact hJ212) (by exact rfl))
      · rintro D214 ρ215 w216 hD217 hE218 hC219 hJ220 hA221 ⟨f47, f26, _⟩
        exact go_no 26 rfl (f26.trans (congrArg Value.bool b18)) (kN0 (i := 24) hM20 (by decide) (by exact hJ220) (by exact rfl))
      · rintro D222 ρ223 w224 hD225 hE226 hC227 hJ228 hA229 ⟨f48, f26, _⟩
        exact go_no 26 rfl (f26.trans (congrArg Value.bool b18)) (kN0 (i := 25) hM20 (by decide) (by exact hJ228) (by exact rfl))
      · rintro D230 ρ231 w232 hD233 hE234 hC235 hJ236 hA237 ⟨f44, f49, f26, _⟩
        exact go_no 26 rfl (f26.trans (congrArg Value.bool b18)) (kN0 (i := 26) hM20 (by decide) (by exact hJ236) (by exact rfl))
      · rintro D238 ρ239 w240 hD241 hE242 hC243 hJ244 hA245 ⟨f34, f42, f50, f26, _⟩
        exact go_no 26 rfl (f26.trans (congrArg Value.bool b18)) (kN0 (i := 27) hM20 (by decide) (by exact hJ244) (by exact rfl))
      · rintro D246 ρ247 w248 hD249 hE250 hC251 hJ252 hA253 ⟨f51, f26, _⟩
        exact go_no 26 rfl (f26.trans (congrArg Value.bool b18)) (kN0 (i := 28) hM20 (by decide) (by exact hJ252) (by exact rfl))
      · rintro D254 ρ255 w256 hD257 hE258 hC259 hJ260 hA261 ⟨f52, f26, _⟩
        exact go_no 26 rfl (f26.trans (congrArg Value.bool b18)) (kN0 (i := 29) hM20 (by decide) (by exact hJ260) (by exact rfl))
      · rintro D262 ρ263 w264 hD265 hE266 hC267 hJ268 hA269 ⟨f26, f53, _⟩
        have hst := hJ268.2 
        replace hst : St w0 w264 [.blk g10 34 #[(.int .i64 ((l[i]'(by omega)).Id)), (.int .i64 ((l[i]'(by omega)).Tier)), (.int .i64 ((l[i]'(by omega)).From)), (.int .i64 ((l[i]'(by omega)).To)), (.int .u32 ((l[i]'(by omega)).Sum))]] := hst
        exact go_plain (op_pick_t (.bool true) (f26.trans (congrArg Value.bool b18)) rfl (kN0 (i := 30) hM20 (by decide) (by exact hJ268) (by exact rfl)))
      intro ρ270 w271 Dw271 hallw271 hJw271 hRw271 hkw271
      have hst : St w0 w271 [.blk g10 34 #[(.int .i64 ((l[i]'(by omega)).Id)), (.int .i64 ((l[i]'(by omega)).Tier)), (.int .i64 ((l[i]'(by omega)).From)), (.int .i64 ((l[i]'(by omega)).To)), (.int .u32 ((l[i]'(by omega)).Sum))]] := hJw271.2 
      have uw271_0 : ρ270 0 = v_l := (hkw271 0 rfl).trans q1_0
      have uw271_2 : ρ270 2 = (.int .i64 0) := (hkw271 2 rfl).trans q1_2
      have uw271_3 : ρ270 3 = (.int .i64 0) := (hkw271 3 rfl).trans q1_3
      have uw271_8 : ρ270 8 = v_l := (hkw271 8 rfl).trans q1_8
      have uw271_9 : ρ270 9 = (.int .i64 (l.length : Int)) := (hkw271 9 rfl).trans q1_9
      have uw271_4 : ρ270 4 = (.int .i64 (bst l i)) := (hkw271 4 rfl).trans q1_4
      have uw271_10 : ρ270 10 = (.int .i64 (i : Int)) := (hkw271 10 rfl).trans q1_10
      have uw271_11 : ρ270 11 = (.bool (decide ((i : Int) < (l.length : Int)))) := (hkw271 11 rfl).trans rfl
      have uw271_12 : ρ270 12 = (.int .i64 (i : Int)) := (hkw271 12 rfl).trans rfl
      have uw271_13 : ρ270 13 = (.pointer (some ⟨a7, o8, none⟩)) := (hkw271 13 rfl).trans rfl
      have uw271_14 : ρ270 14 = (.agg #[(.int .i64 ((l[i]'(by omega)).Id)), (.int .i64 ((l[i]'(by omega)).Tier)), (.int .i64 ((l[i]'(by omega)).From)), (.int .i64 ((l[i]'(by omega)).To)), (.int .u32 ((l[i]'(by omega)).Sum))]) := (hkw271 14 rfl).trans rfl
      have uw271_6 : ρ270 6 = (.pointer (some ⟨g10, 0, none⟩)) := (hkw271 6 rfl).trans rfl
      have uw271_5 : ρ270 5 = (.int .i64 (i : Int)) := (hkw271 5 rfl).trans rfl
      have uw271_15 : ρ270 15 = (.func (.func 16) #[] #[(.pointer (some ⟨g10, 0, none⟩))]) := (hkw271 15 rfl).trans rfl
      have uw271_7 : ρ270 7 = (.func (.func 16) #[] #[(.pointer (some ⟨g10, 0, none⟩))]) := (hkw271 7 rfl).trans rfl
      have uw271_16 : ρ270 16 = (.pointer (some ⟨g10, (0 + 1), none⟩)) := (hkw271 16 rfl).trans rfl
      have uw271_17 : ρ270 17 = (.int .i64 ((l[i]'(by omega)).Tier)) := (hkw271 17 rfl).trans rfl
      have uw271_18 : ρ270 18 = (.bool (decide (3 ≤ ((l[i]'(by omega)).Tier)))) := (hkw271 18 rfl).trans rfl
      have uw271_19 : ρ270 19 = (.bool (decide (3 ≤ ((l[i]'(by omega)).Tier)))) := (hkw271 19 rfl).trans rfl
      have uw271_20 : ρ270 20 = v_l := (hkw271 20 rfl).trans rfl
      have uw271_21 : ρ270 21 = (.func (.func 16) #[] #[(.pointer (some ⟨g10, 0, none⟩))]) := (hkw271 21 rfl).trans rfl
      have uw271_22 : ρ270 22 = (.bool (l.any (fun (y : Info) => decide (y.Tier = ((l[i]'(by omega)).Tier) + 1 ∧ y.From = ((l[i]'(by omega)).From) ∧ y.To = ((l[i]'(by omega)).To))))) := (hkw271 22 rfl).trans rfl
      have uw271_23 : ρ270 23 = (.bool (l.any (fun (y : Info) => decide (y.Tier = ((l[i]'(by omega)).Tier) + 1 ∧ y.From = ((l[i]'(by omega)).From) ∧ y.To = ((l[i]'(by omega)).To))))) := (hkw271 23 rfl).trans rfl
      have uw271_54 : ρ270 54 = (.bool true) := hRw271 30 54 rfl
      refine then_n ?_
      refine cE_cond true uw271_54 (fun _ => ?_) (fun h => by cases h)
      refine cE_region rfl ?_
      refine s_cons (op_move (.int .i64 (i : Int)) uw271_5 ?_)
      refine s_cons (op_assign (.int .i64 (i : Int)) rfl ?_)
      refine s_nil ?_
      refine block_n (then_n ?_)
      refine cE_region rfl ?_
      refine s_cons (op_add (k := .i64) (a := (i : Int)) (b := 1) ((i : Int) + 1) uw271_10 rfl (xi64 (by omega) (by omega)) ?_)
      refine s_cons (op_move (.int .i64 ((i : Int) + 1)) rfl ?_)
      refine s_nil ?_
      refine then_n ?_
      exact ⟨_, ⟨(i + 1), rfl, uw271_0, uw271_2, uw271_3, uw271_8, uw271_9, (congrArg (Value.int .i64) (show (i : Int) = _ from by first | rfl | exact Eq.symm (bst_skip (by omega) (can_no3 (by omega))) | exact Eq.symm (bst_skip (by omega) (can_noup (by first | assumption | (show upI _ _ = _; assumption)))) | exact Eq.symm (bst_new (by omega) (can_yes (by omega) (by first | assumption | (show upI _ _ = _; assumption))) (Or.inl (by omega))) | exact Eq.symm (bst_new (by omega) (can_yes (by omega) (by first | assumption | (show upI _ _ = _; assumption))) (Or.inr (Eq.trans (lowAt_at (by omega) (by omega)) (orI3.1 (by assumption))))) | exact Eq.symm (bst_old (by omega) (can_yes (by omega) (by first | assumption | (show upI _ _ = _; assumption))) (by omega) (Eq.trans (lowAt_at (by omega) (by omega)) (orI3_not (by assumption)))))), (congrArg (Value.int .i64) (show ((i : Int) + 1) = _ from by omega)), (hst.sub (.cons _ .slnil)), (by omega)⟩, (by simp only [id]; omega)⟩
    have c272 : ¬ ((bst l i) < 0) := of_decide_eq_false b18
    have hM288 : stabML [] [(kEq (.int .i64 (bst l i))), (kEq (.bool (decide ((bst l i) < 0)))), (kEq (.bool (decide ((bst l i) < 0)))), (kEq (.pointer (some ⟨g10, (0 + 1), none⟩))), (kEq (.int .i64 ((l[i]'(by omega)).Tier))), (kEq v_l), (kEq (.int .i64 (bst l i))), (kPt0 w0 [(.int .i64 ((l[(Int.toNat (bst l i))]'(by omega)).Id)), (.int .i64 ((l[(Int.toNat (bst l i))]'(by omega)).Tier)), (.int .i64 ((l[(Int.toNat (bst l i))]'(by omega)).From)), (.int .i64 ((l[(Int.toNat (bst l i))]'(by omega)).To)), (.int .u32 ((l[(Int.toNat (bst l i))]'(by omega)).Sum))]), (kPt0 w0 [(.int .i64 ((l[(Int.toNat (bst l i))]'(by omega)).Tier)), (.int .i64 ((l[(Int.toNat (bst l i))]'(by omega)).From)), (.int .i64 ((l[(Int.toNat (bst l i))]'(by omega)).To)), (.int .u32 ((l[(Int.toNat (bst l i))]'(by omega)).Sum))]), (kEq (.int .i64 ((l[(Int.toNat (bst l i))]'(by omega)).Tier))), (kEq (.int .i64 (cmpI ((l[i]'(by omega)).Tier) ((l[(Int.toNat (bst l i))]'(by omega)).Tier)))), (kEq (.pointer (some ⟨g10, (0 + 2), none⟩))), (kEq (.int .i64 ((l[i]'(by omega)).From))), (kEq v_l), (kEq (.int .i64 (bst l i))), (kPt0 w0 [(.int .i64 ((l[(Int.toNat (bst l i))]'(by omega)).Id)), (.int .i64 ((l[(Int.toNat (bst l i))]'(by omega)).Tier)), (.int .i64 ((l[(Int.toNat (bst l i))]'(by omega)).From)), (.int .i64 ((l[(Int.toNat (bst l i))]'(by omega)).To)), (.int .u32 ((l[(Int.toNat (bst l i))]'(by omega)).Sum))]), (kPt0 w0 [(.int .i64 ((l[(Int.toNat (bst l i))]'(by omega)).From)), (.int .i64 ((l[(Int.toNat (bst l i))]'(by omega)).To)), (.int .u32 ((l[(Int.toNat (bst l i))]'(by omega)).Sum))]), (kEq (.int .i64 ((l[(Int.toNat (bst l i))]'(by omega)).From))), (kEq (.int .i64 (cmpI ((l[i]'(by omega)).From) ((l[(Int.toNat (bst l i))]'(by omega)).From)))), (kEq (.pointer (some ⟨g10, (0 + 0), none⟩))), (kEq (.int .i64 ((l[i]'(by omega)).Id))), (kEq v_l), (kEq (.int .i64 (bst l i))), (kPt0 w0 [(.int .i64 ((l[(Int.toNat (bst l i))]'(by omega)).Id)), (.int .i64 ((l[(Int.toNat (bst l i))]'(by omega)).Tier)), (.int .i64 ((l[(Int.toNat (bst l i))]'(by omega)).From)), (.int .i64 ((l[(Int.toNat (bst l i))]'(by omega)).To)), (.int .u32 ((l[(Int.toNat (bst l i))]'(by omega)).Sum))]), (kPt0 w0 [(.int .i64 ((l[(Int.toNat (bst l i))]'(by omega)).Id)), (.int .i64 ((l[(Int.toNat (bst l i))]'(by omega)).Tier)), (.int .i64 ((l[(Int.toNat (bst l i))]'(by omega)).From)), (.int .i64 ((l[(Int.toNat (bst l i))]'(by omega)).To)), (.int .u32 ((l[(Int.toNat (bst l i))]'(by omega)).Sum))]), (kEq (.int .i64 ((l[(Int.toNat (bst l i))]'(by omega)).Id))), (kEq (.int .i64 (cmpI ((l[i]'(by omega)).Id) ((l[(Int.toNat (bst l i))]'(by omega)).Id)))), (kSlU [] (intE .i64) ([(cmpI ((l[i]'(by omega)).Tier) ((l[(Int.toNat (bst l i))]'(by omega)).Tier)), (cmpI ((l[i]'(by omega)).From) ((l[(Int.toNat (bst l i))]'(by omega)).From)), (cmpI ((l[i]'(by omega)).Id) ((l[(Int.toNat (bst l i))]'(by omega)).Id))])), (kEq (.int .i64 (orI ([(cmpI ((l[i]'(by omega)).Tier) ((l[(Int.toNat (bst l i))]'(by omega)).Tier)), (cmpI ((l[i]'(by omega)).From) ((l[(Int.toNat (bst l i))]'(by omega)).From)), (cmpI ((l[i]'(by omega)).Id) ((l[(Int.toNat (bst l i))]'(by omega)).Id))])))), (kEq (.bool (decide ((orI ([(cmpI ((l[i]'(by omega)).Tier) ((l[(Int.toNat (bst l i))]'(by omega)).Tier)), (cmpI ((l[i]'(by omega)).From) ((l[(Int.toNat (bst l i))]'(by omega)).From)), (cmpI ((l[i]'(by omega)).Id) ((l[(Int.toNat (bst l i))]'(by omega)).Id))])) < 0)))), (kEq (.bool (decide ((orI ([(cmpI ((l[i]'(by omega)).Tier) ((l[(Int.toNat (bst l i))]'(by omega)).Tier)), (cmpI ((l[i]'(by omega)).From) ((l[(Int.toNat (bst l i))]'(by omega)).From)), (cmpI ((l[i]'(by omega)).Id) ((l[(Int.toNat (bst l i))]'(by omega)).Id))])) < 0))))] := ⟨mEq, mEq, mEq, mEq, mEq, mEq, mEq, mPt0, mPt0, mEq, mEq, mEq, mEq, mEq, mEq, mPt0, mPt0, mEq, mEq, mEq, mEq, mEq, mEq, mPt0, mPt0, mEq, mEq, (mSlUs (by decide)), mEq, mEq, mEq, trivial⟩
    refine cE_regionK (fun (D : Nat → Bool) (w : World) => St w0 w [.blk g10 34 #[(.int .i64 ((l[i]'(by omega)).Id)), (.int .i64 ((l[i]'(by omega)).Tier)), (.int .i64 ((l[i]'(by omega)).From)), (.int .i64 ((l[i]'(by omega)).To)), (.int .u32 ((l[i]'(by omega)).Sum))]] ∧ (St w0 w [.blk g10 34 #[(.int .i64 ((l[i]'(by omega)).Id)), (.int .i64 ((l[i]'(by omega)).Tier)), (.int .i64 ((l[i]'(by omega)).From)), (.int .i64 ((l[i]'(by omega)).To)), (.int .u32 ((l[i]'(by omega)).Sum))]])) [[(4, none)], [(24, some 0)], [(25, some 1)], [(6, none), (26, some 2)], [(27, some 3), (26, some 2)], [(0, none), (26, some 2)], [(4, none), (26, some 2)], [(29, some 5), (30, some 6), (26, some 2)], [(31, some 7), (26, some 2)], [(32, some 8), (26, some 2)], [(28, some 4), (33, some 9), (26, some 2)], [(6, none), (26, some 2)], [(35, some 11), (26, some 2)], [(0, none), (26, some 2)], [(4, none), (26, some 2)], [(37, some 13), (38, some 14), (26, some 2)], [(39, some 15), (26, some 2)], [(40, some 16), (26, some 2)], [(36, some 12), (41, some 17), (26, some 2)], [(6, none), (26, some 2)], [(43, some 19), (26, some 2)], [(0, none), (26, some 2)], [(4, none), (26, some 2)], [(45, some 21), (46, some 22), (26, some 2)], [(47, some 23), (26, some 2)], [(48, some 24), (26, some 2)], [(44, some 20), (49, some 25), (26, some 2)], [(34, some 10), (42, some 18), (50, some 26), (26, some 2)], [(51, some 27), (26, some 2)], [(52, some 28), (26, some 2)], [(26, some 2), (53, some 29)]] (RofK [(kEq (.int .i64 (bst l i))), (kEq (.bool (decide ((bst l i) < 0)))), (kEq (.bool (decide ((bst l i) < 0)))), (kEq (.pointer (some ⟨g10, (0 + 1), none⟩))), (kEq (.int .i64 ((l[i]'(by omega)).Tier))), (kEq v_l), (kEq (.int .i64 (bst l i))), (kPt0 w0 [(.int .i64 ((l[(Int.toNat (bst l i))]'(by omega)).Id)), (.int .i64 ((l[(Int.toNat (bst l i))]'(by omega)).Tier)), (.int .i64 ((l[(Int.toNat (bst l i))]'(by omega)).From)), (.int .i64 ((l[(Int.toNat (bst l i))]'(by omega)).To)), (.int .u32 ((l[(Int.toNat (bst l i))]'(by omega)).Sum))]), (kPt0 w0 [(.int .i64 ((l[(Int.toNat (bst l i))]'(by omega)).Tier)), (.int .i64 ((l[(Int.toNat (bst l i))]'(by omega)).From)), (.int .i64 ((l[(Int.toNat (bst l i))]'(by omega)).To)), (.int .u32 ((l[(Int.toNat (bst l i))]'(by omega)).Sum))]), (kEq (.int .i64 ((l[(Int.toNat (bst l i))]'(by omega)).Tier))), (kEq (.int .i64 (cmpI ((l[i]'(by omega)).Tier) ((l[(Int.toNat (bst l i))]'(by omega)).Tier)))), (kEq (.pointer (some ⟨g10, (0 + 2), none⟩))), (kEq (.int .i64 ((l[i]'(by omega)).From))), (kEq v_l), (kEq (.int .i64 (bst l i))), (kPt0 w0 [(.int .i64 ((l[(Int.toNat (bst l i))]'(by omega)).Id)), (.int .i64 ((l[(Int.toNat (bst l i))]'(by omega)).Tier)), (.int .i64 ((l[(Int.toNat (bst l i))]'(by omega)).From)), (.int .i64 ((l[(Int.toNat (bst l i))]'(by omega)).To)), (.int .u32 ((l[(Int.toNat (bst l i))]'(by omega)).Sum))]), (kPt0 w0 [(.int .i64 ((l[(Int.toNat (bst l i))]'(by omega)).From)), (.int .i64 ((l[(Int.toNat (bst l i))]'(by omega)).To)), (.int .u32 ((l[(Int.toNat (bst l i))]'(by omega)).Sum))]), (kEq (.int .i64 ((l[(Int.toNat (bst l i))]'(by omega)).From))), (kEq (.int .i64 (cmpI ((l[i]'(by omega)).From) ((l[(Int.toNat (bst l i))]'(by omega)).From)))), (kEq (.pointer (some ⟨g10, (0 + 0), none⟩))), (kEq (.int .i64 ((l[i]'(by omega)).Id))), (kEq v_l), (kEq (.int .i64 (bst l i))), (kPt0 w0 [(.int .i64 ((l[(Int.toNat (bst l i))]'(by omega)).Id)), (.int .i64 ((l[(Int.toNat (bst l i))]'(by omega)).Tier)), (.int .i64 ((l[(Int.toNat (bst l i))]'(by omega)).From)), (.int .i64 ((l[(Int.toNat (bst l i))]'(by omega)).To)), (.int .u32 ((l[(Int.toNat (bst l i))]'(by omega)).Sum))]), (kPt0 w0 [(.int .i64 ((l[(Int.toNat (bst l i))]'(by omega)).Id)), (.int .i64 ((l[(Int.toNat (bst l i))]'(by omega)).Tier)), (.int .i64 ((l[(Int.toNat (bst l i))]'(by omega)).From)), (.int .i64 ((l[(Int.toNat (bst l i))]'(by omega)).To)), (.int .u32 ((l[(Int.toNat (bst l i))]'(by omega)).Sum))]), (kEq (.int .i64 ((l[(Int.toNat (bst l i))]'(by omega)).Id))), (kEq (.int .i64 (cmpI ((l[i]'(by omega)).Id) ((l[(Int.toNat (bst l i))]'(by omega)).Id)))), (kSlU [] (intE .i64) ([(cmpI ((l[i]'(by omega)).Tier) ((l[(Int.toNat (bst l i))]'(by omega)).Tier)), (cmpI ((l[i]'(by omega)).From) ((l[(Int.toNat (bst l i))]'(by omega)).From)), (cmpI ((l[i]'(by omega)).Id) ((l[(Int.toNat (bst l i))]'(by omega)).Id))])), (kEq (.int .i64 (orI ([(cmpI ((l[i]'(by omega)).Tier) ((l[(Int.toNat (bst l i))]'(by omega)).Tier)), (cmpI ((l[i]'(by omega)).From) ((l[(Int.toNat (bst l i))]'(by omega)).From)), (cmpI ((l[i]'(by omega)).Id) ((l[(Int.toNat (bst l i))]'(by omega)).Id))])))), (kEq (.bool (decide ((orI ([(cmpI ((l[i]'(by omega)).Tier) ((l[(Int.toNat (bst l i))]'(by omega)).Tier)), (cmpI ((l[i]'(by omega)).From) ((l[(Int.toNat (bst l i))]'(by omega)).From)), (cmpI ((l[i]'(by omega)).Id) ((l[(Int.toNat (bst l i))]'(by omega)).Id))])) < 0)))), (kEq (.bool (decide ((orI ([(cmpI ((l[i]'(by omega)).Tier) ((l[(Int.toNat (bst l i))]'(by omega)).Tier)), (cmpI ((l[i]'(by omega)).From) ((l[(Int.toNat (bst l i))]'(by omega)).From)), (cmpI ((l[i]'(by omega)).Id) ((l[(Int.toNat (bst l i))]'(by omega)).Id))])) < 0))))]) (by kernel_rfl) rfl (by kernel_rfl) ⟨hst.drewW.sub (.cons_cons _ .slnil), hst.drewW⟩ ⟨?_, ?_, ?_, ?_, ?_, ?_, ?_, ?_, ?_, ?_, ?_, ?_, ?_, ?_, ?_, ?_, ?_, ?_, ?_, ?_, ?_, ?_, ?_, ?_, ?_, ?_, ?_, ?_, ?_, ?_, ?_, trivial⟩ ?_
    · rintro D290 ρ291 w292 hD293 hE294 hC295 hJ296 hA297 ⟨f4, _⟩
      have hst := hJ296.2 
      replace hst : St w0 w292 [.blk g10 34 #[(.int .i64 ((l[i]'(by omega)).Id)), (.int .i64 ((l[i]'(by omega)).Tier)), (.int .i64 ((l[i]'(by omega)).From)), (.int .i64 ((l[i]'(by omega)).To)), (.int .u32 ((l[i]'(by omega)).Sum))]] := hst
      exact go_plain (op_move (.int .i64 (bst l i)) (f4.trans q1_4) (kN0 (i := 0) hM288 (by decide) (by exact hJ296) (by exact rfl)))
    · rintro D298 ρ299 w300 hD301 hE302 hC303 hJ304 hA305 ⟨f24, _⟩
      have hst := hJ304.2 
      replace hst : St w0 w300 [.blk g10 34 #[(.int .i64 ((l[i]'(by omega)).Id)), (.int .i64 ((l[i]'(by omega)).Tier)), (.int .i64 ((l[i]'(by omega)).From)), (.int .i64 ((l[i]'(by omega)).To)), (.int .u32 ((l[i]'(by omega)).Sum))]] := hst
      exact go_plain (op_lss (k := .i64) (a := (bst l i)) (b := 0) f24 rfl (kN0 (i := 1) hM288 (by decide) (by exact hJ304) (by exact rfl)))
    · rintro D306 ρ307 w308 hD309 hE310 hC311 hJ312 hA313 ⟨f25, _⟩
      have hst := hJ312.2 
      replace hst : St w0 w308 [.blk g10 34 #[(.int .i64 ((l[i]'(by omega)).Id)), (.int .i64 ((l[i]'(by omega)).Tier)), (.int .i64 ((l[i]'(by omega)).From)), (.int .i64 ((l[i]'(by omega)).To)), (.int .u32 ((l[i]'(by omega)).Sum))]] := hst
      exact go_plain (op_move (.bool (decide ((bst l i) < 0))) f25 (kN0 (i := 2) hM288 (by decide) (by exact hJ312) (by exact rfl)))
    · rintro D314 ρ315 w316 hD317 hE318 hC319 hJ320 hA321 ⟨f6, f26, _⟩
      have hst := hJ320.2 
      replace hst : St w0 w316 [.blk g10 34 #[(.int .i64 ((l[i]'(by omega)).Id)), (.int .i64 ((l[i]'(by omega)).Tier)), (.int .i64 ((l[i]'(by omega)).From)), (.int .i64 ((l[i]'(by omega)).To)), (.int .u32 ((l[i]'(by omega)).Sum))]] := hst
      exact go_yes 26 rfl (f26.trans (congrArg Value.bool b18)) (op_fieldAddr (s := 0) Try.underlying34 rfl rfl Try.sizeOf3 (f6.trans rfl) (kN0 (i := 3) hM288 (by decide) (by exact hJ320) (by exact rfl)))
    · rintro D322 ρ323 w324 hD325 hE326 hC327 hJ328 hA329 ⟨f27, f26, _⟩
      have hst := hJ328.2 
      replace hst : St w0 w324 [.blk g10 34 #[(.int .i64 ((l[i]'(by omega)).Id)), (.int .i64 ((l[i]'(by omega)).Tier)), (.int .i64 ((l[i]'(by omega)).From)), (.int .i64 ((l[i]'(by omega)).To)), (.int .u32 ((l[i]'(by omega)).Sum))]] := hst
      exact go_yes 26 rfl (f26.trans (congrArg Value.bool b18)) (op_load1 (u := (.int .i64 ((l[i]'(by omega)).Tier))) Try.isAgg3 f27 ((hst.cell 0 rfl).drop 1) (kN0 (i := 4) hM288 (by decide) (by exact hJ328) (by exact rfl)))
    · rintro D330 ρ331 w332 hD333 hE334 hC335 hJ336 hA337 ⟨f0, f26, _⟩
      have hst := hJ336.2 
      replace hst : St w0 w332 [.blk g10 34 #[(.int .i64 ((l[i]'(by omega)).Id)), (.int .i64 ((l[i]'(by omega)).Tier)), (.int .i64 ((l[i]'(by omega)).From)), (.int .i64 ((l[i]'(by omega)).To)), (.int .u32 ((l[i]'(by omega)).Sum))]] := hst
      exact go_yes 26 rfl (f26.trans (congrArg Value.bool b18)) (op_move v_l (f0.trans q1_0) (kN0 (i := 5) hM288 (by decide) (by exact hJ336) (by exact rfl)))
    · rintro D338 ρ339 w340 hD341 hE342 hC343 hJ344 hA345 ⟨f4, f26, _⟩
      have hst := hJ344.2 
      replace hst : St w0 w340 [.blk g10 34 #[(.int .i64 ((l[i]'(by omega)).Id)), (.int .i64 ((l[i]'(by omega)).Tier)), (.int .i64 ((l[i]'(by omega)).From)), (.int .i64 ((l[i]'(by omega)).To)), (.int .u32 ((l[i]'(by omega)).Sum))]] := hst
      exact go_yes 26 rfl (f26.trans (congrArg Value.bool b18)) (op_move (.int .i64 (bst l i)) (f4.trans q1_4) (kN0 (i := 6) hM288 (by decide) (by exact hJ344) (by exact rfl)))
    · rintro D346 ρ347 w348 hD349 hE350 hC351 hJ352 hA353 ⟨f29, f30, f26, _⟩
      have hst := hJ352.2 
      replace hst : St w0 w348 [.blk g10 34 #[(.int .i64 ((l[i]'(by omega)).Id)), (.int .i64 ((l[i]'(by omega)).Tier)), (.int .i64 ((l[i]'(by omega)).From)), (.int .i64 ((l[i]'(by omega)).To)), (.int .u32 ((l[i]'(by omega)).Sum))]] := hst
      refine go_yes 26 rfl (f26.trans (congrArg Value.bool b18)) (op_indexAddrN (E := infoE) (xs := l) (Int.toNat (bst l i)) Try.underlying22 Try.sizeOf34 f29 h_l f30 (by omega) (by omega) (fun a354 o355 p356 => ?_))
      exact (kN0 (i := 7) hM288 (by decide) (by exact hJ352) (by exact ⟨_, _, rfl, p356⟩))
    · rintro D357 ρ358 w359 hD360 hE361 hC362 hJ363 hA364 ⟨f31, f26, _⟩
      have hst := hJ363.2 
      replace hst : St w0 w359 [.blk g10 34 #[(.int .i64 ((l[i]'(by omega)).Id)), (.int .i64 ((l[i]'(by omega)).Tier)), (.int .i64 ((l[i]'(by omega)).From)), (.int .i64 ((l[i]'(by omega)).To)), (.int .u32 ((l[i]'(by omega)).Sum))]] := hst
      obtain ⟨a365, o366, e367, p368⟩ := f31
      exact go_yes 26 rfl (f26.trans (congrArg Value.bool b18)) (op_fieldAddr (s := 0) Try.underlying34 rfl rfl Try.sizeOf3 e367 (kN0 (i := 8) hM288 (by decide) (by exact hJ363) (by exact ⟨_, _, rfl, (p368.drop 1)⟩)))
    · rintro D369 ρ370 w371 hD372 hE373 hC374 hJ375 hA376 ⟨f32, f26, _⟩
      have hst := hJ375.2 
      replace hst : St w0 w371 [.blk g10 34 #[(.int .i64 ((l[i]'(by omega)).Id)), (.int .i64 ((l[i]'(by omega)).Tier)), (.int .i64 ((l[i]'(by omega)).From)), (.int .i64 ((l[i]'(by omega)).To)), (.int .u32 ((l[i]'(by omega)).Sum))]] := hst
      obtain ⟨a377, o378, e379, p380⟩ := f32
      exact go_yes 26 rfl (f26.trans (congrArg Value.bool b18)) (op_load1 (u := (.int .i64 ((l[(Int.toNat (bst l i))]'(by omega)).Tier))) Try.isAgg3 e379 (p380.below hst.below) (kN0 (i := 9) hM288 (by decide) (by exact hJ375) (by exact rfl)))
    · rintro D381 ρ382 w383 hD384 hE385 hC386 hJ387 hA388 ⟨f28, f33, f26, _⟩
      have hst := hJ387.2 
      replace hst : St w0 w383 [.blk g10 34 #[(.int .i64 ((l[i]'(by omega)).Id)), (.int .i64 ((l[i]'(by omega)).Tier)), (.int .i64 ((l[i]'(by omega)).From)), (.int .i64 ((l[i]'(by omega)).To)), (.int .u32 ((l[i]'(by omega)).Sum))]] := hst
      refine go_yes 26 rfl (f26.trans (congrArg Value.bool b18)) (op_call Try.call19 (evs_cons (v := (.int .i64 ((l[i]'(by omega)).Tier))) f28 (evs_cons (v := (.int .i64 ((l[(Int.toNat (bst l i))]'(by omega)).Tier))) f33 evs_nil)) (c_Compare_int (w0 := w383) (x := (l[i]'(by omega)).Tier) (y := (l[(Int.toNat (bst l i))]'(by omega)).Tier)) ?_)
      rintro _ w389 ⟨rfl, hcall⟩
      refine ⟨_, rfl, ?_⟩
      exact kN (i := 10) hM288 (by decide) hcall.below (by exact ⟨(hJ387.1).ext hcall.below, (hJ387.2).ext hcall.below⟩) (by exact rfl)
    · rintro D390 ρ391 w392 hD393 hE394 hC395 hJ396 hA397 ⟨f6, f26, _⟩
      have hst := hJ396.2 
      replace hst : St w0 w392 [.blk g10 34 #[(.int .i64 ((l[i]'(by omega)).Id)), (.int .i64 ((l[i]'(by omega)).Tier)), (.int .i64 ((l[i]'(by omega)).From)), (.int .i64 ((l[i]'(by omega)).To)), (.int .u32 ((l[i]'(by omega)).Sum))]] := hst
      exact go_yes 26 rfl (f26.trans (congrArg Value.bool b18)) (op_fieldAddr (s := 0) Try.underlying34 rfl rfl Try.sizeOf2 (f6.trans rfl) (kN0 (i := 11) hM288 (by decide) (by exact hJ396) (by exact rfl)))
    · rintro D398 ρ399 w400 hD401 hE402 hC403 hJ404 hA405 ⟨f35, f26, _⟩
      have hst := hJ404.2 
      replace hst : St w0 w400 [.blk g10 34 #[(.int .i64 ((l[i]'(by omega)).Id)), (.int .i64 ((l[i]'(by omega)).Tier)), (.int .i64 ((l[i]'(by omega)).From)), (.int .i64 ((l[i]'(by omega)).To)), (.int .u32 ((l[i]'(by omega)).Sum))]] := hst
      exact go_yes 26 rfl (f26.trans (congrArg Value.bool b18)) (op_load1 (u := (.int .i64 ((l[i]'(by omega)).From))) Try.isAgg2 f35 ((hst.cell 0 rfl).drop 2) (kN0 (i := 12) hM288 (by decide) (by exact hJ404) (by exact rfl)))
    · rintro D406 ρ407 w408 hD409 hE410 hC411 hJ412 hA413 ⟨f0, f26, _⟩
      have hst := hJ412.2 
      replace hst : St w0 w408 [.blk g10 34 #[(.int .i64 ((l[i]'(by omega)).Id)), (.int .i64 ((l[i]'(by omega)).Tier)), (.int .i64 ((l[i]'(by omega)).From)), (.int .i64 ((l[i]'(by omega)).To)), (.int .u32 ((l[i]'(by omega)).Sum))]] := hst
      exact go_yes 26 rfl (f26.trans (congrArg Value.bool b18)) (op_move v_l (f0.trans q1_0) (kN0 (i := 13) hM288 (by decide) (by exact hJ412) (by exact rfl)))
    · rintro D414 ρ415 w416 hD417 hE418 hC419 hJ420 hA421 ⟨f4, f26, _⟩
      have hst := hJ420.2 
      replace hst : St w0 w416 [.blk g10 34 #[(.int .i64 ((l[i]'(by omega)).Id)), (.int .i64 ((l[i]'(by omega)).Tier)), (.int .i64 ((l[i]'(by omega)).From)), (.int .i64 ((l[i]'(by omega)).To)), (.int .u32 ((l[i]'(by omega)).Sum))]] := hst
      exact go_yes 26 rfl (f26.trans (congrArg Value.bool b18)) (op_move (.int .i64 (bst l i)) (f4.trans q1_4) (kN0 (i := 14) hM288 (by decide) (by exact hJ420) (by exact rfl)))
    · rintro D422 ρ423 w424 hD425 hE426 hC427 hJ428 hA429 ⟨f37, f38, f26, _⟩
      have hst := hJ428.2 
      replace hst : St w0 w424 [.blk g10 34 #[(.int .i64 ((l[i]'(by omega)).Id)), (.int .i64 ((l[i]'(by omega)).Tier)), (.int .i64 ((l[i]'(by omega)).From)), (.int .i64 ((l[i]'(by omega)).To)), (.int .u32 ((l[i]'(by omega)).Sum))]] := hst
      refine go_yes 26 rfl (f26.trans (congrArg Value.bool b18)) (op_indexAddrN (E := infoE) (xs := l) (Int.toNat (bst l i)) Try.underlying22 Try.sizeOf34 f37 h_l f38 (by omega) (by omega) (fun a430 o431 p432 => ?_))
      exact (kN0 (i := 15) hM288 (by decide) (by exact hJ428) (by exact ⟨_, _, rfl, p432⟩))
    · rintro D433 ρ434 w435 hD436 hE437 hC438 hJ439 hA440 ⟨f39, f26, _⟩
      have hst := hJ439.2 
      replace hst : St w0 w435 [.blk g10 34 #[(.int .i64 ((l[i]'(by omega)).Id)), (.int .i64 ((l[i]'(by omega)).Tier)), (.int .i64 ((l[i]'(by omega)).From)), (.int .i64 ((l[i]'(by omega)).To)), (.int .u32 ((l[i]'(by omega)).Sum))]] := hst
      obtain ⟨a441, o442, e443, p444⟩ := f39
      exact go_yes 26 rfl (f26.trans (congrArg Value.bool b18)) (op_fieldAddr (s := 0) Try.underlying34 rfl rfl Try.sizeOf2 e443 (kN0 (i := 16) hM288 (by decide) (by exact hJ439) (by exact ⟨_, _, rfl, (p444.drop 2)⟩)))
    · rintro D445 ρ446 w447 hD448 hE449 hC450 hJ451 hA452 ⟨f40, f26, _⟩
      have hst := hJ451.2 
      replace hst : St w0 w447 [.blk g10 34 #[(.int .i64 ((l[i]'(by omega)).Id)), (.int .i64 ((l[i]'(by omega)).Tier)), (.int .i64 ((l[i]'(by omega)).From)), (.int .i64 ((l[i]'(by omega)).To)), (.int .u32 ((l[i]'(by omega)).Sum))]] := hst
      obtain ⟨a453, o454, e455, p456⟩ := f40
      exact go_yes 26 rfl (f26.trans (congrArg Value.bool b18)) (op_load1 (u := (.int .i64 ((l[(Int.toNat (bst l i))]'(by omega)).From))) Try.isAgg2 e455 (p456.below hst.below) (kN0 (i := 17) hM288 (by decide) (by exact hJ451) (by exact rfl)))
    · rintro D457 ρ458 w459 hD460 hE461 hC462 hJ463 hA464 ⟨f36, f41, f26, _⟩
      have hst := hJ463.2 
      replace hst : St w0 w459 [.blk g10 34 #[(.int .i64 ((l[i]'(by omega)).Id)), (.int .i64 ((l[i]'(by omega)).Tier)), (.int .i64 ((l[i]'(by omega)).From)), (.int .i64 ((l[i]'(by omega)).To)), (.int .u32 ((l[i]'(by omega)).Sum))]] := hst
      refine go_yes 26 rfl (f26.trans (congrArg Value.bool b18)) (op_call Try.call20 (evs_cons (v := (.int .i64 ((l[i]'(by omega)).From))) f36 (evs_cons (v := (.int .i64 ((l[(Int.toNat (bst l i))]'(by omega)).From))) f41 evs_nil)) (c_Compare_int64 (w0 := w459) (x := (l[i]'(by omega)).From) (y := (l[(Int.toNat (bst l i))]'(by omega)).From)) ?_)
      rintro _ w465 ⟨rfl, hcall⟩
      refine ⟨_, rfl, ?_⟩
      exact kN (i := 18) hM288 (by decide) hcall.below (by exact ⟨(hJ463.1).ext hcall.below, (hJ463.2).ext hcall.below⟩) (by exact rfl)
    · rintro D466 ρ467 w468 hD469 hE470 hC471 hJ472 hA473 ⟨f6, f26, _⟩
      have hst := hJ472.2 
      replace hst : St w0 w468 [.blk g10 34 #[(.int .i64 ((l[i]'(by omega)).Id)), (.int .i64 ((l[i]'(by omega)).Tier)), (.int .i64 ((l[i]'(by omega)).From)), (.int .i64 ((l[i]'(by omega)).To)), (.int .u32 ((l[i]'(by omega)).Sum))]] := hst
      exact go_yes 26 rfl (f26.trans (congrArg Value.bool b18)) (op_fieldAddr (s := 0) Try.underlying34 rfl rfl Try.sizeOf3 (f6.trans rfl) (kN0 (i := 19) hM288 (by decide) (by exact hJ472) (by exact rfl)))
    · rintro D474 ρ475 w476 hD477 hE478 hC479 hJ480 hA481 ⟨f43, f26, _⟩
      have hst := hJ480.2 
      replace hst : St w0 w476 [.blk g10 34 #[(.int .i64 ((l[i]'(by omega)).Id)), (.int .i64 ((l[i]'(by omega)).Tier)), (.int .i64 ((l[i]'(by omega)).From)), (.int .i64 ((l[i]'(by omega)).To)), (.int .u32 ((l[i]'(by omega)).Sum))]] := hst
      exact go_yes 26 rfl (f26.trans (congrArg Value.bool b18)) (op_load1 (u := (.int .i64 ((l[i]'(by omega)).Id))) Try.isAgg3 f43 (hst.cell 0 rfl) (kN0 (i := 20) hM288 (by decide) (by exact hJ480) (by exact rfl)))
    · rintro D482 ρ483 w484 hD485 hE486 hC487 hJ488 hA489 ⟨f0, f26, _⟩
      have hst := hJ488.2 
      replace hst : St w0 w484 [.blk g10 34 #[(.int .i64 ((l[i]'(by omega)).Id)), (.int .i64 ((l[i]'(by omega)).Tier)), (.int .i64 ((l[i]'(by omega)).From)), (.int .i64 ((l[i]'(by omega)).To)), (.int .u32 ((l[i]'(by omega)).Sum))]] := hst
      exact go_yes 26 rfl (f26.trans (congrArg Value.bool b18)) (op_move v_l (f0.trans q1_0) (kN0 (i := 21) hM288 (by decide) (by exact hJ488) (by exact rfl)))
    · rintro D490 ρ491 w492 hD493 hE494 hC495 hJ496 hA497 ⟨f4, f26, _⟩
      have hst := hJ496.2 
      replace hst : St w0 w492 [.blk g10 34 #[(.int .i64 ((l[i]'(by omega)).Id)), (.int .i64 ((l[i]'(by omega)).Tier)), (.int .i64 ((l[i]'(by omega)).From)), (.int .i64 ((l[i]'(by omega)).To)), (.int .u32 ((l[i]'(by omega)).Sum))]] := hst
      exact go_yes 26 rfl (f26.trans (congrArg Value.bool b18)) (op_move (.int .i64 (bst l i)) (f4.trans q1_4) (kN0 (i := 22) hM288 (by decide) (by exact hJ496) (by exact rfl)))
    · rintro D498 ρ499 w500 hD501 hE502 hC503 hJ504 hA505 ⟨f45, f46, f26, _⟩
      have hst := hJ504.2 
      replace hst : St w0 w500 [.blk g10 34 #[(.int .i64 ((l[i]'(by omega)).Id)), (.int .i64 ((l[i]'(by omega)).Tier)), (.int .i64 ((l[i]'(by omega)).From)), (.int .i64 ((l[i]'(by omega)).To)), (.int .u32 ((l[i]'(by omega)).Sum))]] := hst
      refine go_yes 26 rfl (f26.trans (congrArg Value.bool b18)) (op_indexAddrN (E := infoE) (xs := l) (Int.toNat (bst l i)) Try.underlying22 Try.sizeOf34 f45 h_l f46 (by omega) (by omega) (fun a506 o507 p508 => ?_))
      exact (kN0 (i := 23) hM288 (by decide) (by exact hJ504) (by exact ⟨_, _, rfl, p508⟩))
    · rintro D509 ρ510 w511 hD512 hE513 hC514 hJ515 hA516 ⟨f47, f26, _⟩
      have hst := hJ515.2 
      replace hst : St w0 w511 [.blk g10 34 #[(.int .i64 ((l[i]'(by omega)).Id)), (.int .i64 ((l[i]'(by omega)).Tier)), (.int .i64 ((l[i]'(by omega)).From)), (.int .i64 ((l[i]'(by omega)).To)), (.int .u32 ((l[i]'(by omega)).Sum))]] := hst
      obtain ⟨a517, o518, e519, p520⟩ := f47
      exact go_yes 26 rfl (f26.trans (congrArg Value.bool b18)) (op_fieldAddr (s := 0) Try.underlying34 rfl rfl Try.sizeOf3 e519 (kN0 (i := 24) hM288 (by decide) (by exact hJ515) (by exact ⟨_, _, rfl, p520⟩)))
    · rintro D521 ρ522 w523 hD524 hE525 hC526 hJ527 hA528 ⟨f48, f26, _⟩
      have hst := hJ527.2 
      replace hst : St w0 w523 [.blk g10 34 #[(.int .i64 ((l[i]'(by omega)).Id)), (.int .i64 ((l[i]'(by omega)).Tier)), (.int .i64 ((l[i]'(by omega)).From)), (.int .i64 ((l[i]'(by omega)).To)), (.int .u32 ((l[i]'(by omega)).Sum))]] := hst
      obtain ⟨a529, o530, e531, p532⟩ := f48
      exact go_yes 26 rfl (f26.trans (congrArg Value.bool b18)) (op_load1 (u := (.int .i64 ((l[(Int.toNat (bst l i))]'(by omega)).Id))) Try.isAgg3 e531 (p532.below hst.below) (kN0 (i := 25) hM288 (by decide) (by exact hJ527) (by exact rfl)))
    · rintro D533 ρ534 w535 hD536 hE537 hC538 hJ539 hA540 ⟨f44, f49, f26, _⟩
      have hst := hJ539.2 
      replace hst : St w0 w535 [.blk g10 34 #[(.int .i64 ((l[i]'(by omega)).Id)), (.int .i64 ((l[i]'(by omega)).Tier)), (.int .i64 ((l[i]'(by omega)).From)), (.int .i64 ((l[i]'(by omega)).To)), (.int .u32 ((l[i]'(by omega)).Sum))]] := hst
      refine go_yes 26 rfl (f26.trans (congrArg Value.bool b18)) (op_call Try.call19 (evs_cons (v := (.int .i64 ((l[i]'(by omega)).Id))) f44 (evs_cons (v := (.int .i64 ((l[(Int.toNat (bst l i))]'(by omega)).Id))) f49 evs_nil)) (c_Compare_int (w0 := w535) (x := (l[i]'(by omega)).Id) (y := (l[(Int.toNat (bst l i))]'(by omega)).Id)) ?_)
      rintro _ w541 ⟨rfl, hcall⟩
      refine ⟨_, rfl, ?_⟩
      exact kN (i := 26) hM288 (by decide) hcall.below (by exact ⟨(hJ539.1).ext hcall.below, (hJ539.2).ext hcall.below⟩) (by exact rfl)
    · rintro D542 ρ543 w544 hD545 hE546 hC547 hJ548 hA549 ⟨f34, f42, f50, f26, _⟩
      have hst := hJ548.2 
      replace hst : St w0 w544 [.blk g10 34 #[(.int .i64 ((l[i]'(by omega)).Id)), (.int .i64 ((l[i]'(by omega)).Tier)), (.int .i64 ((l[i]'(by omega)).From)), (.int .i64 ((l[i]'(by omega)).To)), (.int .u32 ((l[i]'(by omega)).Sum))]] := hst
      have hst := St.start w544
      refine go_yes 26 rfl (f26.trans (congrArg Value.bool b18)) (op_buildSlice (E := (intE .i64)) [(cmpI ((l[i]'(by omega)).Tier) ((l[(Int.toNat (bst l i))]'(by omega)).Tier)), (cmpI ((l[i]'(by omega)).From) ((l[(Int.toNat (bst l i))]'(by omega)).From)), (cmpI ((l[i]'(by omega)).Id) ((l[(Int.toNat (bst l i))]'(by omega)).Id))] hst Try.underlying24 Try.sizeOf3 Try.zeroValue3 (evp_cons (v := (.int .i64 (cmpI ((l[i]'(by omega)).Tier) ((l[(Int.toNat (bst l i))]'(by omega)).Tier)))) f34 (evp_cons (v := (.int .i64 (cmpI ((l[i]'(by omega)).From) ((l[(Int.toNat (bst l i))]'(by omega)).From)))) f42 (evp_cons (v := (.int .i64 (cmpI ((l[i]'(by omega)).Id) ((l[(Int.toNat (bst l i))]'(by omega)).Id)))) f50 evp_nil))) (parts_cons rfl (parts_cons rfl (parts_cons rfl parts_nil))) rfl (by decide) (fun v550 w551 hst => ?_))
      exact kN (i := 27) hM288 (by decide) hst.below (by exact ⟨(hJ548.1).ext hst.below, (hJ548.2).ext hst.below⟩) (by exact fun _ => hst.sl 0 rfl)
    · rintro D552 ρ553 w554 hD555 hE556 hC557 hJ558 hA559 ⟨f51, f26, _⟩
      have hst := hJ558.2 
      replace hst : St w0 w554 [.blk g10 34 #[(.int .i64 ((l[i]'(by omega)).Id)), (.int .i64 ((l[i]'(by omega)).Tier)), (.int .i64 ((l[i]'(by omega)).From)), (.int .i64 ((l[i]'(by omega)).To)), (.int .u32 ((l[i]'(by omega)).Sum))]] := hst
      obtain ⟨v561, e562⟩ : ∃ x, ρ553 51 = x := ⟨_, rfl⟩
      have hs560 := f51 (by intro m hm; cases hm)
      replace hs560 : Sl w554 (intE .i64) v561 ([(cmpI ((l[i]'(by omega)).Tier) ((l[(Int.toNat (bst l i))]'(by omega)).Tier)), (cmpI ((l[i]'(by omega)).From) ((l[(Int.toNat (bst l i))]'(by omega)).From)), (cmpI ((l[i]'(by omega)).Id) ((l[(Int.toNat (bst l i))]'(by omega)).Id))]) := e562 ▸ hs560
      refine go_yes 26 rfl (f26.trans (congrArg Value.bool b18)) (op_call Try.call18 (evs_cons (v := v561) e562 evs_nil) (c_Or (w0 := w554) (v_l := v561) (l := [(cmpI ((l[i]'(by omega)).Tier) ((l[(Int.toNat (bst l i))]'(by omega)).Tier)), (cmpI ((l[i]'(by omega)).From) ((l[(Int.toNat (bst l i))]'(by omega)).From)), (cmpI ((l[i]'(by omega)).Id) ((l[(Int.toNat (bst l i))]'(by omega)).Id))]) (h_l := hs560)) ?_)
      rintro _ w563 ⟨rfl, hcall⟩
      refine ⟨_, rfl, ?_⟩
      exact kN (i := 28) hM288 (by decide) hcall.below (by exact ⟨(hJ558.1).ext hcall.below, (hJ558.2).ext hcall.below⟩) (by exact rfl)
    · rintro D564 ρ565 w566 hD567 hE568 hC569 hJ570 hA571 ⟨f52, f26, _⟩
      have hst := hJ570.2 
      replace hst : St w0 w566 [.blk g10 34 #[(.int .i64 ((l[i]'(by omega)).Id)), (.int .i64 ((l[i]'(by omega)).Tier)), (.int .i64 ((l[i]'(by omega)).From)), (.int .i64 ((l[i]'(by omega)).To)), (.int .u32 ((l[i]'(by omega)).Sum))]] := hst
      exact go_yes 26 rfl (f26.trans (congrArg Value.bool b18)) (op_lss (k := .i64) (a := (orI ([(cmpI ((l[i]'(by omega)).Tier) ((l[(Int.toNat (bst l i))]'(by omega)).Tier)), (cmpI ((l[i]'(by omega)).From) ((l[(Int.toNat (bst l i))]'(by omega)).From)), (cmpI ((l[i]'(by omega)).Id) ((l[(Int.toNat (bst l i))]'(by omega)).Id))]))) (b := 0) f52 rfl (kN0 (i := 29) hM288 (by decide) (by exact hJ570) (by exact rfl)))
    · rintro D572 ρ573 w574 hD575 hE576 hC577 hJ578 hA579 ⟨f26, f53, _⟩
      have hst := hJ578.2 
      replace hst : St w0 w574 [.blk g10 34 #[(.int .i64 ((l[i]'(by omega)).Id)), (.int .i64 ((l[i]'(by omega)).Tier)), (.int .i64 ((l[i]'(by omega)).From)), (.int .i64 ((l[i]'(by omega)).To)), (.int .u32 ((l[i]'(by omega)).Sum))]] := hst
      exact go_plain (op_pick_f (.bool (decide ((orI ([(cmpI ((l[i]'(by omega)).Tier) ((l[(Int.toNat (bst l i))]'(by omega)).Tier)), (cmpI ((l[i]'(by omega)).From) ((l[(Int.toNat (bst l i))]'(by omega)).From)), (cmpI ((l[i]'(by omega)).Id) ((l[(Int.toNat (bst l i))]'(by omega)).Id))])) < 0))) (f26.trans (congrArg Value.bool b18)) f53 (kN0 (i := 30) hM288 (by decide) (by exact hJ578) (by exact rfl)))
    intro ρ580 w581 Dw581 hallw581 hJw581 hRw581 hkw581
    have hst : St w0 w581 [.blk g10 34 #[(.int .i64 ((l[i]'(by omega)).Id)), (.int .i64 ((l[i]'(by omega)).Tier)), (.int .i64 ((l[i]'(by omega)).From)), (.int .i64 ((l[i]'(by omega)).To)), (.int .u32 ((l[i]'(by omega)).Sum))]] := hJw581.2 
    have uw581_0 : ρ580 0 = v_l := (hkw581 0 rfl).trans q1_0
    have uw581_2 : ρ580 2 = (.int .i64 0) := (hkw581 2 rfl).trans q1_2
    have uw581_3 : ρ580 3 = (.int .i64 0) := (hkw581 3 rfl).trans q1_3
    have uw581_8 : ρ580 8 = v_l := (hkw581 8 rfl).trans q1_8
    have uw581_9 : ρ580 9 = (.int .i64 (l.length : Int)) := (hkw581 9 rfl).trans q1_9
    have uw581_4 : ρ580 4 = (.int .i64 (bst l i)) := (hkw581 4 rfl).trans q1_4
    have uw581_10 : ρ580 10 = (.int .i64 (i : Int)) := (hkw581 10 rfl).trans q1_10
    have uw581_11 : ρ580 11 = (.bool (decide ((i : Int) < (l.length : Int)))) := (hkw581 11 rfl).trans rfl
    have uw581_12 : ρ580 12 = (.int .i64 (i : Int)) := (hkw581 12 rfl).trans rfl
    have uw581_13 : ρ580 13 = (.pointer (some ⟨a7, o8, none⟩)) := (hkw581 13 rfl).trans rfl
    have uw581_14 : ρ580 14 = (.agg #[(.int .i64 ((l[i]'(by omega)).Id)), (.int .i64 ((l[i]'(by omega)).Tier)), (.int .i64 ((l[i]'(by omega)).From)), (.int .i64 ((l[i]'(by omega)).To)), (.int .u32 ((l[i]'(by omega)).Sum))]) := (hkw581 14 rfl).trans rfl
    have uw581_6 : ρ580 6 = (.pointer (some ⟨g10, 0, none⟩)) := (hkw581 6 rfl).trans rfl
    have uw581_5 : ρ580 5 = (.int .i64 (i : Int)) := (hkw581 5 rfl).trans rfl
    have uw581_15 : ρ580 15 = (.func (.func 16) #[] #[(.pointer (some ⟨g10, 0, none⟩))]) := (hkw581 15 rfl).trans rfl
    have uw581_7 : ρ580 7 = (.func (.func 16) #[] #[(.pointer (some ⟨g10, 0, none⟩))]) := (hkw581 7 rfl).trans rfl
    have uw581_16 : ρ580 16 = (.pointer (some ⟨g10, (0 + 1), none⟩)) := (hkw581 16 rfl).trans rfl
    have uw581_17 : ρ580 17 = (.int .i64 ((l[i]'(by omega)).Tier)) := (hkw581 17 rfl).trans rfl
    have uw581_18 : ρ580 18 = (.bool (decide (3 ≤ ((l[i]'(by omega)).Tier)))) := (hkw581 18 rfl).trans rfl
    have uw581_19 : ρ580 19 = (.bool (decide (3 ≤ ((l[i]'(by omega)).Tier)))) := (hkw581 19 rfl).trans rfl
    have uw581_20 : ρ580 20 = v_l := (hkw581 20 rfl).trans rfl
    have uw581_21 : ρ580 21 = (.func (.func 16) #[] #[(.pointer (some ⟨g10, 0, none⟩))]) := (hkw581 21 rfl).trans rfl
    have uw581_22 : ρ580 22 = (.bool (l.any (fun (y : Info) => decide (y.Tier = ((l[i]'(by omega)).Tier) + 1 ∧ y.From = ((l[i]'(by omega)).From) ∧ y.To = ((l[i]'(by omega)).To))))) := (hkw581 22 rfl).trans rfl
    have uw581_23 : ρ580 23 = (.bool (l.any (fun (y : Info) => decide (y.Tier = ((l[i]'(by omega)).Tier) + 1 ∧ y.From = ((l[i]'(by omega)).From) ∧ y.To = ((l[i]'(by omega)).To))))) := (hkw581 23 rfl).trans rfl
    have uw581_54 : ρ580 54 = (.bool (decide ((orI ([(cmpI ((l[i]'(by omega)).Tier) ((l[(Int.toNat (bst l i))]'(by omega)).Tier)), (cmpI ((l[i]'(by omega)).From) ((l[(Int.toNat (bst l i))]'(by omega)).From)), (cmpI ((l[i]'(by omega)).Id) ((l[(Int.toNat (bst l i))]'(by omega)).Id))])) < 0))) := hRw581 30 54 rfl
    refine then_n ?_
    rcases Bool.eq_false_or_eq_true (decide ((orI ([(cmpI ((l[i]'(by omega)).Tier) ((l[(Int.toNat (bst l i))]'(by omega)).Tier)), (cmpI ((l[i]'(by omega)).From) ((l[(Int.toNat (bst l i))]'(by omega)).From)), (cmpI ((l[i]'(by omega)).Id) ((l[(Int.toNat (bst l i))]'(by omega)).Id))])) < 0)) with b582 | b582
    · have c583 : (orI ([(cmpI ((l[i]'(by omega)).Tier) ((l[(Int.toNat (bst l i))]'(by omega)).Tier)), (cmpI ((l[i]'(by omega)).From) ((l[(Int.toNat (bst l i))]'(by omega)).From)), (cmpI ((l[i]'(by omega)).Id) ((l[(Int.toNat (bst l i))]'(by omega)).Id))])) < 0 := of_decide_eq_true b582
      refine cE_cond true (uw581_54.trans (congrArg Value.bool b582)) (fun _ => ?_) (fun h => by cases h)
      refine cE_region rfl ?_
      refine s_cons (op_move (.int .i64 (i : Int)) uw581_5 ?_)
      refine s_cons (op_assign (.int .i64 (i : Int)) rfl ?_)
      refine s_nil ?_
      refine block_n (then_n ?_)
      refine cE_region rfl ?_
      refine s_cons (op_add (k := .i64) (a := (i : Int)) (b := 1) ((i : Int) + 1) uw581_10 rfl (xi64 (by omega) (by omega)) ?_)
      refine s_cons (op_move (.int .i64 ((i : Int) + 1)) rfl ?_)
      refine s_nil ?_
      refine then_n ?_
      exact ⟨_, ⟨(i + 1), rfl, uw581_0, uw581_2, uw581_3, uw581_8, uw581_9, (congrArg (Value.int .i64) (show (i : Int) = _ from by first | rfl | exact Eq.symm (bst_skip (by omega) (can_no3 (by omega))) | exact Eq.symm (bst_skip (by omega) (can_noup (by first | assumption | (show upI _ _ = _; assumption)))) | exact Eq.symm (bst_new (by omega) (can_yes (by omega) (by first | assumption | (show upI _ _ = _; assumption))) (Or.inl (by omega))) | exact Eq.symm (bst_new (by omega) (can_yes (by omega) (by first | assumption | (show upI _ _ = _; assumption))) (Or.inr (Eq.trans (lowAt_at (by omega) (by omega)) (orI3.1 (by assumption))))) | exact Eq.symm (bst_old (by omega) (can_yes (by omega) (by first | assumption | (show upI _ _ = _; assumption))) (by omega) (Eq.trans (lowAt_at (by omega) (by omega)) (orI3_not (by assumption)))))), (congrArg (Value.int .i64) (show ((i : Int) + 1) = _ from by omega)), (hst.sub (.cons _ .slnil)), (by omega)⟩, (by simp only [id]; omega)⟩
    have c584 : ¬ ((orI ([(cmpI ((l[i]'(by omega)).Tier) ((l[(Int.toNat (bst l i))]'(by omega)).Tier)), (cmpI ((l[i]'(by omega)).From) ((l[(Int.toNat (bst l i))]'(by omega)).From)), (cmpI ((l[i]'(by omega)).Id) ((l[(Int.toNat (bst l i))]'(by omega)).Id))])) < 0) := of_decide_eq_false b582
    refine cE_cond false (uw581_54.trans (congrArg Value.bool b582)) (fun h => by cases h) (fun _ => ?_)
    refine cE_skip ?_
    refine block_n (then_n ?_)
    refine cE_region rfl ?_
    refine s_cons (op_add (k := .i64) (a := (i : Int)) (b := 1) ((i : Int) + 1) uw581_10 rfl (xi64 (by omega) (by omega)) ?_)
    refine s_cons (op_move (.int .i64 ((i : Int) + 1)) rfl ?_)
    refine s_nil ?_
    refine then_n ?_
    exact ⟨_, ⟨(i + 1), rfl, uw581_0, uw581_2, uw581_3, uw581_8, uw581_9, (uw581_4.trans (congrArg (Value.int .i64) (show (bst l i) = _ from by first | rfl | exact Eq.symm (bst_skip (by omega) (can_no3 (by omega))) | exact Eq.symm (bst_skip (by omega) (can_noup (by first | assumption | (show upI _ _ = _; assumption)))) | exact Eq.symm (bst_new (by omega) (can_yes (by omega) (by first | assumption | (show upI _ _ = _; assumption))) (Or.inl (by omega))) | exact Eq.symm (bst_new (by omega) (can_yes (by omega) (by first | assumption | (show upI _ _ = _; assumption))) (Or.inr (Eq.trans (lowAt_at (by omega) (by omega)) (orI3.1 (by assumption))))) | exact Eq.symm (bst_old (by omega) (can_yes (by omega) (by first | assumption | (show upI _ _ = _; assumption))) (by omega) (Eq.trans (lowAt_at (by omega) (by omega)) (orI3_not (by assumption))))))), (congrArg (Value.int .i64) (show ((i : Int) + 1) = _ from by omega)), (hst.sub (.cons _ .slnil)), (by omega)⟩, (by simp only [id]; omega)⟩
  have c585 : ¬ ((i : Int) < (l.length : Int)) := of_decide_eq_false b5
  refine cE_cond false (congrArg Value.bool b5) (fun h => by cases h) (fun _ => ?_)
  refine cE_exit ?_
  refine then_x (then_x (block_hit (then_n ?_)))
  refine cE_seq ?_
  refine cE_seq ?_
  refine cE_region rfl ?_
  refine s_cons (op_move (.int .i64 (bst l i)) q1_4 ?_)
  refine s_cons (op_lss (k := .i64) (a := (bst l i)) (b := 0) rfl rfl ?_)
  refine s_nil ?_
  refine then_n ?_
  rcases Bool.eq_false_or_eq_true (decide ((bst l i) < 0)) with b586 | b586
  · have c587 : (bst l i) < 0 := of_decide_eq_true b586
    refine cE_cond true (congrArg Value.bool b586) (fun _ => ?_) (fun h => by cases h)
    refine cE_seq ?_
    refine cE_region rfl ?_
    refine s_cons (op_assign (.int .i64 (-1)) rfl ?_)
    refine s_cons (op_assign (.int .i64 0) rfl ?_)
    refine s_nil ?_
    refine then_n ?_
    refine cE_ret ?_
    refine then_r (scope_r ?_)
    refine post_r _ (res2 (v := (.int .i64 (-1))) rfl (x := (.int .i64 0)) rfl) ?_
    exact ⟨(retv2 (congrArg (Value.int .i64) (show (-1) = (rollI l).1 from by first | exact Eq.symm (congrArg Prod.fst (roll_none (n := i) (by omega) (by omega))) | exact Eq.symm (congrArg Prod.snd (roll_none (n := i) (by omega) (by omega))) | exact Eq.symm (congrArg Prod.fst (roll_some (n := i) (by omega) (by omega) (by omega))) | exact Eq.symm (congrArg Prod.snd (roll_some (n := i) (by omega) (by omega) (by omega))))) (congrArg (Value.int .i64) (show 0 = (rollI l).2 from by first | exact Eq.symm (congrArg Prod.fst (roll_none (n := i) (by omega) (by omega))) | exact Eq.symm (congrArg Prod.snd (roll_none (n := i) (by omega) (by omega))) | exact Eq.symm (congrArg Prod.fst (roll_some (n := i) (by omega) (by omega) (by omega))) | exact Eq.symm (congrArg Prod.snd (roll_some (n := i) (by omega) (by omega) (by omega)))))), hst.bare⟩
  have c588 : ¬ ((bst l i) < 0) := of_decide_eq_false b586
  refine cE_cond false (congrArg Value.bool b586) (fun h => by cases h) (fun _ => ?_)
  refine cE_skip ?_
  refine then_n ?_
  refine cE_seq ?_
  obtain ⟨hbl, hbt⟩ := bst_tier hi (by omega)
  have hbo := hl _ (List.getElem_mem hbl)
  refine cE_regionL hst [[(0, none)], [(4, none)], [(59, some 0), (60, some 1)], [(61, some 2)], [(62, some 3)], [(0, none)], [(4, none)], [(64, some 5), (65, some 6)], [(66, some 7)], [(67, some 8)], [(68, some 9)], [(63, some 4)], [(69, some 10)]] [(rEq v_l), (rEq (.int .i64 (bst l i))), (rPt [(.int .i64 ((l[(Int.toNat (bst l i))]'(by omega)).Id)), (.int .i64 ((l[(Int.toNat (bst l i))]'(by omega)).Tier)), (.int .i64 ((l[(Int.toNat (bst l i))]'(by omega)).From)), (.int .i64 ((l[(Int.toNat (bst l i))]'(by omega)).To)), (.int .u32 ((l[(Int.toNat (bst l i))]'(by omega)).Sum))]), (rPt [(.int .i64 ((l[(Int.toNat (bst l i))]'(by omega)).Id)), (.int .i64 ((l[(Int.toNat (bst l i))]'(by omega)).Tier)), (.int .i64 ((l[(Int.toNat (bst l i))]'(by omega)).From)), (.int .i64 ((l[(Int.toNat (bst l i))]'(by omega)).To)), (.int .u32 ((l[(Int.toNat (bst l i))]'(by omega)).Sum))]), (rEq (.int .i64 ((l[(Int.toNat (bst l i))]'(by omega)).Id))), (rEq v_l), (rEq (.int .i64 (bst l i))), (rPt [(.int .i64 ((l[(Int.toNat (bst l i))]'(by omega)).Id)), (.int .i64 ((l[(Int.toNat (bst l i))]'(by omega)).Tier)), (.int .i64 ((l[(Int.toNat (bst l i))]'(by omega)).From)), (.int .i64 ((l[(Int.toNat (bst l i))]'(by omega)).To)), (.int .u32 ((l[(Int.toNat (bst l i))]'(by omega)).Sum))]), (rPt [(.int .i64 ((l[(Int.toNat (bst l i))]'(by omega)).Tier)), (.int .i64 ((l[(Int.toNat (bst l i))]'(by omega)).From)), (.int .i64 ((l[(Int.toNat (bst l i))]'(by omega)).To)), (.int .u32 ((l[(Int.toNat (bst l i))]'(by omega)).Sum))]), (rEq (.int .i64 ((l[(Int.toNat (bst l i))]'(by omega)).Tier))), (rEq (.int .i64 (((l[(Int.toNat (bst l i))]'(by omega)).Tier) + 1))), (rEq (.int .i64 ((l[(Int.toNat (bst l i))]'(by omega)).Id))), (rEq (.int .i64 (((l[(Int.toNat (bst l i))]'(by omega)).Tier) + 1)))] (by kernel_rfl) rfl (by kernel_rfl) ⟨sEq, sEq, sPt, sPt, sEq, sEq, sEq, sPt, sPt, sEq, sEq, sEq, sEq, trivial⟩ ⟨?_, ?_, ?_, ?_, ?_, ?_, ?_, ?_, ?_, ?_, ?_, ?_, ?_, trivial⟩ ?_
  · rintro ρ595 w596 hj597 ⟨f0, _⟩
    have hst := hj597.2
    exact go_plain (op_move v_l (f0.trans q1_0) (kS hj597 rfl))
  · rintro ρ598 w599 hj600 ⟨f4, _⟩
    have hst := hj600.2
    exact go_plain (op_move (.int .i64 (bst l i)) (f4.trans q1_4) (kS hj600 rfl))
  · rintro ρ601 w602 hj603 ⟨f59, f60, _⟩
    have hst := hj603.2
    refine go_plain (op_indexAddrN (E := infoE) (xs := l) (Int.toNat (bst l i)) Try.underlying22 Try.sizeOf34 f59 h_l f60 (by omega) (by omega) (fun a604 o605 p606 => ?_))
    exact kS hj603 ⟨_, _, rfl, (p606.below hst.below)⟩
  · rintro ρ607 w608 hj609 ⟨f61, _⟩
    have hst := hj609.2
    obtain ⟨a610, o611, e612, p613⟩ := f61
    exact go_plain (op_fieldAddr (s := 0) Try.underlying34 rfl rfl Try.sizeOf3 e612 (kS hj609 ⟨_, _, rfl, p613⟩))
  · rintro ρ614 w615 hj616 ⟨f62, _⟩
    have hst := hj616.2
    obtain ⟨a617, o618, e619, p620⟩ := f62
    exact go_plain (op_load1 (u := (.int .i64 ((l[(Int.toNat (bst l i))]'(by omega)).Id))) Try.isAgg3 e619 p620 (kS hj616 rfl))
  · rintro ρ621 w622 hj623 ⟨f0, _⟩
    have hst := hj623.2
    exact go_plain (op_move v_l (f0.trans q1_0) (kS hj623 rfl))
  · rintro ρ624 w625 hj626 ⟨f4, _⟩
    have hst := hj626.2
    exact go_plain (op_move (.int .i64 (bst l i)) (f4.trans q1_4) (kS hj626 rfl))
  · rintro ρ627 w628 hj629 ⟨f64, f65, _⟩
    have hst := hj629.2
    refine go_plain (op_indexAddrN (E := infoE) (xs := l) (Int.toNat (bst l i)) Try.underlying22 Try.sizeOf34 f64 h_l f65 (by omega) (by omega) (fun a630 o631 p632 => ?_))
    exact kS hj629 ⟨_, _, rfl, (p632.below hst.below)⟩
  · rintro ρ633 w634 hj635 ⟨f66, _⟩
    have hst := hj635.2
    obtain ⟨a636, o637, e638, p639⟩ := f66
    exact go_plain (op_fieldAddr (s := 0) Try.underlying34 rfl rfl Try.sizeOf3 e638 (kS hj635 ⟨_, _, rfl, (p639.drop 1)⟩))
  · rintro ρ640 w641 hj642 ⟨f67, _⟩
    have hst := hj642.2
    obtain ⟨a643, o644, e645, p646⟩ := f67
    exact go_plain (op_load1 (u := (.int .i64 ((l[(Int.toNat (bst l i))]'(by omega)).Tier))) Try.isAgg3 e645 p646 (kS hj642 rfl))
  · rintro ρ647 w648 hj649 ⟨f68, _⟩
    have hst := hj649.2
    exact go_plain (op_add (k := .i64) (a := (l[(Int.toNat (bst l i))]'(by omega)).Tier) (b := 1) (((l[(Int.toNat (bst l i))]'(by omega)).Tier) + 1) f68 rfl (xi64 (by omega) (by omega)) (kS hj649 rfl))
  · rintro ρ650 w651 hj652 ⟨f63, _⟩
    have hst := hj652.2
    exact go_plain (op_assign (.int .i64 ((l[(Int.toNat (bst l i))]'(by omega)).Id)) f63 (kS hj652 rfl))
  · rintro ρ653 w654 hj655 ⟨f69, _⟩
    have hst := hj655.2
    exact go_plain (op_assign (.int .i64 (((l[(Int.toNat (bst l i))]'(by omega)).Tier) + 1)) f69 (kS hj655 rfl))
  intro ρ656 w657 hbw657 hst hRw657 hkw657
  have uw657_0 : ρ656 0 = v_l := (hkw657 0 rfl).trans q1_0
  have uw657_8 : ρ656 8 = v_l := (hkw657 8 rfl).trans q1_8
  have uw657_9 : ρ656 9 = (.int .i64 (l.length : Int)) := (hkw657 9 rfl).trans q1_9
  have uw657_4 : ρ656 4 = (.int .i64 (bst l i)) := (hkw657 4 rfl).trans q1_4
  have uw657_10 : ρ656 10 = (.int .i64 (i : Int)) := (hkw657 10 rfl).trans q1_10
  have uw657_11 : ρ656 11 = (.bool (decide ((i : Int) < (l.length : Int)))) := (hkw657 11 rfl).trans rfl
  have uw657_57 : ρ656 57 = (.int .i64 (bst l i)) := (hkw657 57 rfl).trans rfl
  have uw657_58 : ρ656 58 = (.bool (decide ((bst l i) < 0))) := (hkw657 58 rfl).trans rfl
  have uw657_2 : ρ656 2 = (.int .i64 ((l[(Int.toNat (bst l i))]'(by omega)).Id)) := hRw657 11 2 rfl
  have uw657_3 : ρ656 3 = (.int .i64 (((l[(Int.toNat (bst l i))]'(by omega)).Tier) + 1)) := hRw657 12 3 rfl
  refine then_n ?_
  refine cE_ret ?_
  refine scope_r ?_
  refine post_r _ (res2 (v := (.int .i64 ((l[(Int.toNat (bst l i))]'(by omega)).Id))) uw657_2 (x := (.int .i64 (((l[(Int.toNat (bst l i))]'(by omega)).Tier) + 1))) uw657_3) ?_
  exact ⟨(retv2 (congrArg (Value.int .i64) (show (l[(Int.toNat (bst l i))]'(by omega)).Id = (rollI l).1 from by first | exact Eq.symm (congrArg Prod.fst (roll_none (n := i) (by omega) (by omega))) | exact Eq.symm (congrArg Prod.snd (roll_none (n := i) (by omega) (by omega))) | exact Eq.symm (congrArg Prod.fst (roll_some (n := i) (by omega) (by omega) (by omega))) | exact Eq.symm (congrArg Prod.snd (roll_some (n := i) (by omega) (by omega) (by omega))))) (congrArg (Value.int .i64) (show (((l[(Int.toNat (bst l i))]'(by omega)).Tier) + 1) = (rollI l).2 from by first | exact Eq.symm (congrArg Prod.fst (roll_none (n := i) (by omega) (by omega))) | exact Eq.symm (congrArg Prod.snd (roll_none (n := i) (by omega) (by omega))) | exact Eq.symm (congrArg Prod.fst (roll_some (n := i) (by omega) (by omega) (by omega))) | exact Eq.symm (congrArg Prod.snd (roll_some (n := i) (by omega) (by omega) (by omega)))))), hst.bare⟩

end Go.Proofs.Ytadnedoecbfojaa
