/- twinkeepref17.Roll -/
import Derived.Test.YtadnedoecbfojaaW34
namespace Go.Proofs.Ytadnedoecbfojaa
open Go.RowKit

set_option maxHeartbeats 4000000 in
theorem c_rRoll (w0 : World) (v_l : Value) (l : List Info) (h_l : Sl w0 infoE v_l l) (hl : ∀ s ∈ l, s.ok) :
    Calls Try.prog 10 #[v_l] w0 fun e w' => e = .returned (.tuple #[(.int .i64 ((rollI l).1)), (.int .i64 ((rollI l).2))]) ∧ St w0 w' [] := by
  refine calls_E (n := 80) (ts := [2, 3]) Try.func10 rfl rfl rfl (by simp) ?_
  have hst := St.start w0
  refine cE_seq ?_
  refine cE_region rfl ?_
  refine s_cons (op_assign (.int .i64 0) rfl ?_)
  refine s_cons (op_assign (.int .i64 0) rfl ?_)
  refine s_nil ?_
  refine then_n ?_
  refine cE_seq ?_
  refine cE_region rfl ?_
  refine s_cons (op_assign (.int .i64 (-1)) rfl ?_)
  refine s_nil ?_
  refine then_n ?_
  refine cE_seq ?_
  refine cE_seq ?_
  refine cE_region rfl ?_
  refine s_cons (op_assign (.int .i64 0) rfl ?_)
  refine s_nil ?_
  refine then_n ?_
  refine cE_block ?_
  refine cE_loop (fun (m : Nat) (ρ : Env) (w : World) => ∃ (i : Nat), m = l.length - i ∧ ρ 0 = v_l ∧ ρ 2 = (.int .i64 0) ∧ ρ 3 = (.int .i64 0) ∧ ρ 4 = (.int .i64 (bst l i)) ∧ ρ 5 = (.int .i64 (i : Int)) ∧ St w0 w [] ∧ (i ≤ l.length)) id _ ⟨0, rfl, rfl, rfl, rfl, (congrArg (Value.int .i64) (show (-1) = _ from by first | rfl | exact Eq.symm (bst_skip (by omega) (can_no3 (by omega))) | exact Eq.symm (bst_skip (by omega) (can_noup (by first | assumption | (show upI _ _ = _; assumption)))) | exact Eq.symm (bst_new (by omega) (can_yes (by omega) (by first | assumption | (show upI _ _ = _; assumption))) (Or.inl (by omega))) | exact Eq.symm (bst_new (by omega) (can_yes (by omega) (by first | assumption | (show upI _ _ = _; assumption))) (Or.inr (Eq.trans (lowAt_at (by omega) (by omega)) (lowI_iff.2 (by omega))))) | exact Eq.symm (bst_old (by omega) (can_yes (by omega) (by first | assumption | (show upI _ _ = _; assumption))) (by omega) (Eq.trans (lowAt_at (by omega) (by omega)) (lowI_not.2 (by omega)))))), (congrArg (Value.int .i64) (show 0 = _ from by omega)), hst, (by omega)⟩ ?_
  rintro m2 ρ3 w4 ⟨i, hm2, q1_0, q1_2, q1_3, q1_4, q1_5, hst, hi⟩
  have hlen := h_l.len
  have hbr := bst_r l i
  refine cE_seq ?_
  refine cE_seq ?_
  refine cE_region rfl ?_
  refine s_cons (op_move (.int .i64 (i : Int)) q1_5 ?_)
  refine s_cons (op_move v_l q1_0 ?_)
  refine s_cons (op_len (E := infoE) (xs := l) Try.underlying22 rfl h_l ?_)
  refine s_cons (op_lss (k := .i64) (a := (i : Int)) (b := (l.length : Int)) rfl rfl ?_)
  refine s_nil ?_
  refine then_n ?_
  rcases Bool.eq_false_or_eq_true (decide ((i : Int) < (l.length : Int))) with b5 | b5
  · have c6 : (i : Int) < (l.length : Int) := of_decide_eq_true b5
    refine cE_cond true (congrArg Value.bool b5) (fun _ => ?_) (fun h => by cases h)
    refine cE_skip ?_
    refine then_n ?_
    refine cE_seq ?_
    refine cE_block ?_
    refine cE_seq ?_
    refine cE_region rfl ?_
    refine s_cons (op_move v_l q1_0 ?_)
    refine s_cons (op_move (.int .i64 (i : Int)) q1_5 ?_)
    refine s_cons (op_indexAddrN (E := infoE) (xs := l) i Try.underlying22 Try.sizeOf34 rfl h_l rfl (by omega) (by omega) (fun a7 o8 p9 => ?_))
    have hr := hl (l[i]'(by omega)) (List.getElem_mem _)
    refine s_cons (op_loadN (cs := [(.int .i64 ((l[i]'(by omega)).Id)), (.int .i64 ((l[i]'(by omega)).Tier)), (.int .i64 ((l[i]'(by omega)).From)), (.int .i64 ((l[i]'(by omega)).To)), (.int .u32 ((l[i]'(by omega)).Sum))]) Try.isAgg34 Try.sizeOf34 rfl (Pt.of (p9.below hst.below) rfl) rfl ?_)
    refine s_cons (op_alloc (cs := #[(.int .i64 0), (.int .i64 0), (.int .i64 0), (.int .i64 0), (.int .u32 0)]) hst Try.zeroValue34 rfl (fun g10 w11 hst _ => ?_))
    replace hst : St w0 w11 [.blk g10 34 #[(.int .i64 0), (.int .i64 0), (.int .i64 0), (.int .i64 0), (.int .u32 0)]] := hst
    refine s_cons0 (op_storeAll hst 0 rfl Try.sizeOf34 rfl rfl rfl rfl (by simp [Value.oneCell']) (fun w12 hst => ?_))
    replace hst : St w0 w12 [.blk g10 34 #[(.int .i64 ((l[i]'(by omega)).Id)), (.int .i64 ((l[i]'(by omega)).Tier)), (.int .i64 ((l[i]'(by omega)).From)), (.int .i64 ((l[i]'(by omega)).To)), (.int .u32 ((l[i]'(by omega)).Sum))]] := hst
    refine s_nil ?_
    refine then_n ?_
    refine cE_seq ?_
    refine cE_seq ?_
    refine cE_region rfl ?_
    refine s_cons (op_fieldAddr (s := 0) Try.underlying34 rfl rfl Try.sizeOf3 rfl ?_)
    refine s_cons (op_load1 (u := (.int .i64 ((l[i]'(by omega)).Tier))) Try.isAgg3 rfl ((hst.cell 0 rfl).drop 1) ?_)
    refine s_cons (op_geq (k := .i64) (a := (l[i]'(by omega)).Tier) (b := 3) rfl rfl ?_)
    refine s_cons (op_move (.bool (decide (3 ≤ ((l[i]'(by omega)).Tier)))) rfl ?_)
    rcases Bool.eq_false_or_eq_true (decide (3 ≤ ((l[i]'(by omega)).Tier))) with b13 | b13
    · have c14 : 3 ≤ ((l[i]'(by omega)).Tier) := of_decide_eq_true b13
      refine s_no 21 rfl (congrArg Value.bool b13) ?_
      refine s_no 21 rfl (congrArg Value.bool b13) ?_
      refine s_no 21 rfl (congrArg Value.bool b13) ?_
      refine s_cons (op_pick_t (.bool true) (congrArg Value.bool b13) rfl ?_)
      refine s_nil ?_
      refine then_n ?_
      refine cE_cond true rfl (fun _ => ?_) (fun h => by cases h)
      refine cE_exit ?_
      refine then_x (block_hit (then_n ?_))
      refine cE_region rfl ?_
      refine s_cons (op_move (.int .i64 (i : Int)) q1_5 ?_)
      refine s_cons (op_add (k := .i64) (a := (i : Int)) (b := 1) ((i : Int) + 1) rfl rfl (xi64 (by omega) (by omega)) ?_)
      refine s_cons (op_assign (.int .i64 ((i : Int) + 1)) rfl ?_)
      refine s_nil ?_
      refine then_n ?_
      exact ⟨_, ⟨(i + 1), rfl, q1_0, q1_2, q1_3, (q1_4.trans (congrArg (Value.int .i64) (show (bst l i) = _ from by first | rfl | exact Eq.symm (bst_skip (by omega) (can_no3 (by omega))) | exact Eq.symm (bst_skip (by omega) (can_noup (by first | assumption | (show upI _ _ = _; assumption)))) | exact Eq.symm (bst_new (by omega) (can_yes (by omega) (by first | assumption | (show upI _ _ = _; assumption))) (Or.inl (by omega))) | exact Eq.symm (bst_new (by omega) (can_yes (by omega) (by first | assumption | (show upI _ _ = _; assumption))) (Or.inr (Eq.trans (lowAt_at (by omega) (by omega)) (lowI_iff.2 (by omega))))) | exact Eq.symm (bst_old (by omega) (can_yes (by omega) (by first | assumption | (show upI _ _ = _; assumption))) (by omega) (Eq.trans (lowAt_at (by omega) (by omega)) (lowI_not.2 (by omega))))))), (congrArg (Value.int .i64) (show ((i : Int) + 1) = _ from by omega)), (hst.sub (.cons _ .slnil)), (by omega)⟩, (by simp only [id]; omega)⟩
    have c15 : ¬ (3 ≤ ((l[i]'(by omega)).Tier)) := of_decide_eq_false b13
    refine s_yes 21 rfl (congrArg Value.bool b13) (op_move v_l q1_0 ?_)
    refine s_yes 21 rfl (congrArg Value.bool b13) (op_loadN (cs := [(.int .i64 ((l[i]'(by omega)).Id)), (.int .i64 ((l[i]'(by omega)).Tier)), (.int .i64 ((l[i]'(by omega)).From)), (.int .i64 ((l[i]'(by omega)).To)), (.int .u32 ((l[i]'(by omega)).Sum))]) Try.isAgg34 Try.sizeOf34 rfl (Pt.of (hst.cell 0 rfl) rfl) rfl ?_)
    refine s_yes 21 rfl (congrArg Value.bool b13) (op_call Try.call21 (evs_cons (v := v_l) rfl (evs_cons (v := (.agg #[(.int .i64 ((l[i]'(by omega)).Id)), (.int .i64 ((l[i]'(by omega)).Tier)), (.int .i64 ((l[i]'(by omega)).From)), (.int .i64 ((l[i]'(by omega)).To)), (.int .u32 ((l[i]'(by omega)).Sum))])) rfl evs_nil)) (c_rcovered (w0 := w12) (v_l := v_l) (l := l) (h_l := (h_l.below hst.below)) (x := (l[i]'(by omega))) (hx := (hl _ (List.getElem_mem _))) (hl := hl)) ?_)
    rintro _ w16 ⟨rfl, hcall⟩
    refine ⟨_, rfl, ?_⟩
    have hst : St w0 w16 [.blk g10 34 #[(.int .i64 ((l[i]'(by omega)).Id)), (.int .i64 ((l[i]'(by omega)).Tier)), (.int .i64 ((l[i]'(by omega)).From)), (.int .i64 ((l[i]'(by omega)).To)), (.int .u32 ((l[i]'(by omega)).Sum))]] := hst.call hcall
    refine s_cons (op_pick_f (.bool (upI l (l[i]'(by omega)))) (congrArg Value.bool b13) rfl ?_)
    refine s_nil ?_
    refine then_n ?_
    rcases Bool.eq_false_or_eq_true (upI l (l[i]'(by omega))) with b17 | b17
    · refine cE_cond true (congrArg Value.bool b17) (fun _ => ?_) (fun h => by cases h)
      refine cE_exit ?_
      refine then_x (block_hit (then_n ?_))
      refine cE_region rfl ?_
      refine s_cons (op_move (.int .i64 (i : Int)) q1_5 ?_)
      refine s_cons (op_add (k := .i64) (a := (i : Int)) (b := 1) ((i : Int) + 1) rfl rfl (xi64 (by omega) (by omega)) ?_)
      refine s_cons (op_assign (.int .i64 ((i : Int) + 1)) rfl ?_)
      refine s_nil ?_
      refine then_n ?_
      exact ⟨_, ⟨(i + 1), rfl, q1_0, q1_2, q1_3, (q1_4.trans (congrArg (Value.int .i64) (show (bst l i) = _ from by first | rfl | exact Eq.symm (bst_skip (by omega) (can_no3 (by omega))) | exact Eq.symm (bst_skip (by omega) (can_noup (by first | assumption | (show upI _ _ = _; assumption)))) | exact Eq.symm (bst_new (by omega) (can_yes (by omega) (by first | assumption | (show upI _ _ = _; assumption))) (Or.inl (by omega))) | exact Eq.symm (bst_new (by omega) (can_yes (by omega) (by first | assumption | (show upI _ _ = _; assumption))) (Or.inr (Eq.trans (lowAt_at (by omega) (by omega)) (lowI_iff.2 (by omega))))) | exact Eq.symm (bst_old (by omega) (can_yes (by omega) (by first | assumption | (show upI _ _ = _; assumption))) (by omega) (Eq.trans (lowAt_at (by omega) (by omega)) (lowI_not.2 (by omega))))))), (congrArg (Value.int .i64) (show ((i : Int) + 1) = _ from by omega)), (hst.sub (.cons _ .slnil)), (by omega)⟩, (by simp only [id]; omega)⟩
    refine cE_cond false (congrArg Value.bool b17) (fun h => by cases h) (fun _ => ?_)
    refine cE_skip ?_
    refine then_n ?_
    refine cE_seq ?_
    refine cE_seq ?_
    refine cE_region rfl ?_
    refine s_cons (op_move (.int .i64 (bst l i)) q1_4 ?_)
    refine s_cons (op_lss (k := .i64) (a := (bst l i)) (b := 0) rfl rfl ?_)
    refine s_nil ?_
    refine then_n ?_
    rcases Bool.eq_false_or_eq_true (decide ((bst l i) < 0)) with b18 | b18
    · have c19 : (bst l i) < 0 := of_decide_eq_true b18
      refine cE_cond true (congrArg Value.bool b18) (fun _ => ?_) (fun h => by cases h)
      refine cE_seq ?_
      refine cE_region rfl ?_
      refine s_cons (op_move (.int .i64 (i : Int)) q1_5 ?_)
      refine s_cons (op_assign (.int .i64 (i : Int)) rfl ?_)
      refine s_nil ?_
      refine then_n ?_
      refine cE_exit ?_
      refine then_x (block_hit (then_n ?_))
      refine cE_region rfl ?_
      refine s_cons (op_move (.int .i64 (i : Int)) q1_5 ?_)
      refine s_cons (op_add (k := .i64) (a := (i : Int)) (b := 1) ((i : Int) + 1) rfl rfl (xi64 (by omega) (by omega)) ?_)
      refine s_cons (op_assign (.int .i64 ((i : Int) + 1)) rfl ?_)
      refine s_nil ?_
      refine then_n ?_
      exact ⟨_, ⟨(i + 1), rfl, q1_0, q1_2, q1_3, (congrArg (Value.int .i64) (show (i : Int) = _ from by first | rfl | exact Eq.symm (bst_skip (by omega) (can_no3 (by omega))) | exact Eq.symm (bst_skip (by omega) (can_noup (by first | assumption | (show upI _ _ = _; assumption)))) | exact Eq.symm (bst_new (by omega) (can_yes (by omega) (by first | assumption | (show upI _ _ = _; assumption))) (Or.inl (by omega))) | exact Eq.symm (bst_new (by omega) (can_yes (by omega) (by first | assumption | (show upI _ _ = _; assumption))) (Or.inr (Eq.trans (lowAt_at (by omega) (by omega)) (lowI_iff.2 (by omega))))) | exact Eq.symm (bst_old (by omega) (can_yes (by omega) (by first | assumption | (show upI _ _ = _; assumption))) (by omega) (Eq.trans (lowAt_at (by omega) (by omega)) (lowI_not.2 (by omega)))))), (congrArg (Value.int .i64) (show ((i : Int) + 1) = _ from by omega)), (hst.sub (.cons _ .slnil)), (by omega)⟩, (by simp only [id]; omega)⟩
    have c20 : ¬ ((bst l i) < 0) := of_decide_eq_false b18
    refine cE_cond false (congrArg Value.bool b18) (fun h => by cases h) (fun _ => ?_)
    refine cE_skip ?_
    refine then_n ?_
    refine cE_seq ?_
    refine cE_region rfl ?_
    refine s_cons (op_move v_l q1_0 ?_)
    refine s_cons (op_move (.int .i64 (bst l i)) q1_4 ?_)
    refine s_cons (op_indexAddrN (E := infoE) (xs := l) (Int.toNat (bst l i)) Try.underlying22 Try.sizeOf34 rfl h_l rfl (by omega) (by omega) (fun a21 o22 p23 => ?_))
    have hr := hl (l[(Int.toNat (bst l i))]'(by omega)) (List.getElem_mem _)
    refine s_cons (op_loadN (cs := [(.int .i64 ((l[(Int.toNat (bst l i))]'(by omega)).Id)), (.int .i64 ((l[(Int.toNat (bst l i))]'(by omega)).Tier)), (.int .i64 ((l[(Int.toNat (bst l i))]'(by omega)).From)), (.int .i64 ((l[(Int.toNat (bst l i))]'(by omega)).To)), (.int .u32 ((l[(Int.toNat (bst l i))]'(by omega)).Sum))]) Try.isAgg34 Try.sizeOf34 rfl (Pt.of (p23.below hst.below) rfl) rfl ?_)
    refine s_cons (op_alloc (cs := #[(.int .i64 0), (.int .i64 0), (.int .i64 0), (.int .i64 0), (.int .u32 0)]) hst Try.zeroValue34 rfl (fun g24 w25 hst _ => ?_))
    replace hst : St w0 w25 [.blk g24 34 #[(.int .i64 0), (.int .i64 0), (.int .i64 0), (.int .i64 0), (.int .u32 0)], .blk g10 34 #[(.int .i64 ((l[i]'(by omega)).Id)), (.int .i64 ((l[i]'(by omega)).Tier)), (.int .i64 ((l[i]'(by omega)).From)), (.int .i64 ((l[i]'(by omega)).To)), (.int .u32 ((l[i]'(by omega)).Sum))]] := hst
    refine s_cons0 (op_storeAll hst 0 rfl Try.sizeOf34 rfl rfl rfl rfl (by simp [Value.oneCell']) (fun w26 hst => ?_))
    replace hst : St w0 w26 [.blk g24 34 #[(.int .i64 ((l[(Int.toNat (bst l i))]'(by omega)).Id)), (.int .i64 ((l[(Int.toNat (bst l i))]'(by omega)).Tier)), (.int .i64 ((l[(Int.toNat (bst l i))]'(by omega)).From)), (.int .i64 ((l[(Int.toNat (bst l i))]'(by omega)).To)), (.int .u32 ((l[(Int.toNat (bst l i))]'(by omega)).Sum))], .blk g10 34 #[(.int .i64 ((l[i]'(by omega)).Id)), (.int .i64 ((l[i]'(by omega)).Tier)), (.int .i64 ((l[i]'(by omega)).From)), (.int .i64 ((l[i]'(by omega)).To)), (.int .u32 ((l[i]'(by omega)).Sum))]] := hst
    refine s_nil ?_
    refine then_n ?_
    refine cE_seq ?_
    refine cE_region rfl ?_
    refine s_cons (op_fieldAddr (s := 0) Try.underlying34 rfl rfl Try.sizeOf3 rfl ?_)
    refine s_cons (op_load1 (u := (.int .i64 ((l[i]'(by omega)).Tier))) Try.isAgg3 rfl ((hst.cell 1 rfl).drop 1) ?_)
    refine s_cons (op_fieldAddr (s := 0) Try.underlying34 rfl rfl Try.sizeOf3 rfl ?_)
    refine s_cons (op_load1 (u := (.int .i64 ((l[(Int.toNat (bst l i))]'(by omega)).Tier))) Try.isAgg3 rfl ((hst.cell 0 rfl).drop 1) ?_)
    refine s_cons (op_lss (k := .i64) (a := (l[i]'(by omega)).Tier) (b := (l[(Int.toNat (bst l i))]'(by omega)).Tier) rfl rfl ?_)
    refine s_cons (op_move (.bool (decide (((l[i]'(by omega)).Tier) < ((l[(Int.toNat (bst l i))]'(by omega)).Tier)))) rfl ?_)
    rcases Bool.eq_false_or_eq_true (decide (((l[i]'(by omega)).Tier) < ((l[(Int.toNat (bst l i))]'(by omega)).Tier))) with b27 | b27
    · have c28 : ((l[i]'(by omega)).Tier) < ((l[(Int.toNat (bst l i))]'(by omega)).Tier) := of_decide_eq_true b27
      refine s_no 38 rfl (congrArg Value.bool b27) ?_
      refine s_no 38 rfl (congrArg Value.bool b27) ?_
      refine s_no 38 rfl (congrArg Value.bool b27) ?_
      refine s_no 38 rfl (congrArg Value.bool b27) ?_
      refine s_no 38 rfl (congrArg Value.bool b27) ?_
      refine s_no 38 rfl (congrArg Value.bool b27) ?_
      refine s_un 44 rfl rfl ?_
      refine s_un 44 rfl rfl ?_
      refine s_un 44 rfl rfl ?_
      refine s_un 44 rfl rfl ?_
      refine s_un 44 rfl rfl ?_
      refine s_un 44 rfl rfl ?_
      refine s_un 50 rfl rfl ?_
      refine s_un 50 rfl rfl ?_
      refine s_un 50 rfl rfl ?_
      refine s_un 50 rfl rfl ?_
      refine s_un 50 rfl rfl ?_
      refine s_un 50 rfl rfl ?_
      refine s_un 56 rfl rfl ?_
      refine s_un 56 rfl rfl ?_
      refine s_un 56 rfl rfl ?_
      refine s_un 56 rfl rfl ?_
      refine s_un 56 rfl rfl ?_
      refine s_un 50 rfl rfl ?_
      refine s_un 44 rfl rfl ?_
      refine s_no 38 rfl (congrArg Value.bool b27) ?_
      refine s_cons (op_pick_t (.bool true) (congrArg Value.bool b27) rfl ?_)
      refine s_nil ?_
      refine then_n ?_
      refine cE_cond true rfl (fun _ => ?_) (fun h => by cases h)
      refine cE_region rfl ?_
      refine s_cons (op_move (.int .i64 (i : Int)) q1_5 ?_)
      refine s_cons (op_assign (.int .i64 (i : Int)) rfl ?_)
      refine s_nil ?_
      refine block_n (then_n ?_)
      refine cE_region rfl ?_
      refine s_cons (op_move (.int .i64 (i : Int)) q1_5 ?_)
      refine s_cons (op_add (k := .i64) (a := (i : Int)) (b := 1) ((i : Int) + 1) rfl rfl (xi64 (by omega) (by omega)) ?_)
      refine s_cons (op_assign (.int .i64 ((i : Int) + 1)) rfl ?_)
      refine s_nil ?_
      refine then_n ?_
      exact ⟨_, ⟨(i + 1), rfl, q1_0, q1_2, q1_3, (congrArg (Value.int .i64) (show (i : Int) = _ from by first | rfl | exact Eq.symm (bst_skip (by omega) (can_no3 (by omega))) | exact Eq.symm (bst_skip (by omega) (can_noup (by first | assumption | (show upI _ _ = _; assumption)))) | exact Eq.symm (bst_new (by omega) (can_yes (by omega) (by first | assumption | (show upI _ _ = _; assumption))) (Or.inl (by omega))) | exact Eq.symm (bst_new (by omega) (can_yes (by omega) (by first | assumption | (show upI _ _ = _; assumption))) (Or.inr (Eq.trans (lowAt_at (by omega) (by omega)) (lowI_iff.2 (by omega))))) | exact Eq.symm (bst_old (by omega) (can_yes (by omega) (by first | assumption | (show upI _ _ = _; assumption))) (by omega) (Eq.trans (lowAt_at (by omega) (by omega)) (lowI_not.2 (by omega)))))), (congrArg (Value.int .i64) (show ((i : Int) + 1) = _ from by omega)), (hst.sub (.cons _ (.cons _ .slnil))), (by omega)⟩, (by simp only [id]; omega)⟩
    have c29 : ¬ (((l[i]'(by omega)).Tier) < ((l[(Int.toNat (bst l i))]'(by omega)).Tier)) := of_decide_eq_false b27
    refine s_yes 38 rfl (congrArg Value.bool b27) (op_fieldAddr (s := 0) Try.underlying34 rfl rfl Try.sizeOf3 rfl ?_)
    refine s_yes 38 rfl (congrArg Value.bool b27) (op_load1 (u := (.int .i64 ((l[i]'(by omega)).Tier))) Try.isAgg3 rfl ((hst.cell 1 rfl).drop 1) ?_)
    refine s_yes 38 rfl (congrArg Value.bool b27) (op_fieldAddr (s := 0) Try.underlying34 rfl rfl Try.sizeOf3 rfl ?_)
    refine s_yes 38 rfl (congrArg Value.bool b27) (op_load1 (u := (.int .i64 ((l[(Int.toNat (bst l i))]'(by omega)).Tier))) Try.isAgg3 rfl ((hst.cell 0 rfl).drop 1) ?_)
    refine s_yes 38 rfl (congrArg Value.bool b27) (op_eql (k := .i64) (a := (l[i]'(by omega)).Tier) (b := (l[(Int.toNat (bst l i))]'(by omega)).Tier) rfl rfl ?_)
    refine s_yes 38 rfl (congrArg Value.bool b27) (op_move (.bool (decide (((l[i]'(by omega)).Tier) = ((l[(Int.toNat (bst l i))]'(by omega)).Tier)))) rfl ?_)
    rcases Bool.eq_false_or_eq_true (decide (((l[i]'(by omega)).Tier) = ((l[(Int.toNat (bst l i))]'(by omega)).Tier))) with b30 | b30
    · have c31 : ((l[i]'(by omega)).Tier) = ((l[(Int.toNat (bst l i))]'(by omega)).Tier) := of_decide_eq_true b30
      refine s_yes 44 rfl (congrArg Value.bool b30) (op_fieldAddr (s := 0) Try.underlying34 rfl rfl Try.sizeOf2 rfl ?_)
      refine s_yes 44 rfl (congrArg Value.bool b30) (op_load1 (u := (.int .i64 ((l[i]'(by omega)).From))) Try.isAgg2 rfl ((hst.cell 1 rfl).drop 2) ?_)
      refine s_yes 44 rfl (congrArg Value.bool b30) (op_fieldAddr (s := 0) Try.underlying34 rfl rfl Try.sizeOf2 rfl ?_)
      refine s_yes 44 rfl (congrArg Value.bool b30) (op_load1 (u := (.int .i64 ((l[(Int.toNat (bst l i))]'(by omega)).From))) Try.isAgg2 rfl ((hst.cell 0 rfl).drop 2) ?_)
      refine s_yes 44 rfl (congrArg Value.bool b30) (op_lss (k := .i64) (a := (l[i]'(by omega)).From) (b := (l[(Int.toNat (bst l i))]'(by omega)).From) rfl rfl ?_)
      refine s_yes 44 rfl (congrArg Value.bool b30) (op_move (.bool (decide (((l[i]'(by omega)).From) < ((l[(Int.toNat (bst l i))]'(by omega)).From)))) rfl ?_)
      rcases Bool.eq_false_or_eq_true (decide (((l[i]'(by omega)).From) < ((l[(Int.toNat (bst l i))]'(by omega)).From))) with b32 | b32
      · have c33 : ((l[i]'(by omega)).From) < ((l[(Int.toNat (bst l i))]'(by omega)).From) := of_decide_eq_true b32
        refine s_no 50 rfl (congrArg Value.bool b32) ?_
        refine s_no 50 rfl (congrArg Value.bool b32) ?_
        refine s_no 50 rfl (congrArg Value.bool b32) ?_
        refine s_no 50 rfl (congrArg Value.bool b32) ?_
        refine s_no 50 rfl (congrArg Value.bool b32) ?_
        refine s_no 50 rfl (congrArg Value.bool b32) ?_
        refine s_un 56 rfl rfl ?_
        refine s_un 56 rfl rfl ?_
        refine s_un 56 rfl rfl ?_
        refine s_un 56 rfl rfl ?_
        refine s_un 56 rfl rfl ?_
        refine s_no 50 rfl (congrArg Value.bool b32) ?_
        refine s_yes 44 rfl (congrArg Value.bool b30) (op_pick_t (.bool true) (congrArg Value.bool b32) rfl ?_)
        refine s_yes 38 rfl (congrArg Value.bool b27) (op_pick_t (.bool true) (congrArg Value.bool b30) rfl ?_)
        refine s_cons (op_pick_f (.bool true) (congrArg Value.bool b27) rfl ?_)
        refine s_nil ?_
        refine then_n ?_
        refine cE_cond true rfl (fun _ => ?_) (fun h => by cases h)
        refine cE_region rfl ?_
        refine s_cons (op_move (.int .i64 (i : Int)) q1_5 ?_)
        refine s_cons (op_assign (.int .i64 (i : Int)) rfl ?_)
        refine s_nil ?_
        refine block_n (then_n ?_)
        refine cE_region rfl ?_
        refine s_cons (op_move (.int .i64 (i : Int)) q1_5 ?_)
        refine s_cons (op_add (k := .i64) (a := (i : Int)) (b := 1) ((i : Int) + 1) rfl rfl (xi64 (by omega) (by omega)) ?_)
        refine s_cons (op_assign (.int .i64 ((i : Int) + 1)) rfl ?_)
        refine s_nil ?_
        refine then_n ?_
        exact ⟨_, ⟨(i + 1), rfl, q1_0, q1_2, q1_3, (congrArg (Value.int .i64) (show (i : Int) = _ from by first | rfl | exact Eq.symm (bst_skip (by omega) (can_no3 (by omega))) | exact Eq.symm (bst_skip (by omega) (can_noup (by first | assumption | (show upI _ _ = _; assumption)))) | exact Eq.symm (bst_new (by omega) (can_yes (by omega) (by first | assumption | (show upI _ _ = _; assumption))) (Or.inl (by omega))) | exact Eq.symm (bst_new (by omega) (can_yes (by omega) (by first | assumption | (show upI _ _ = _; assumption))) (Or.inr (Eq.trans (lowAt_at (by omega) (by omega)) (lowI_iff.2 (by omega))))) | exact Eq.symm (bst_old (by omega) (can_yes (by omega) (by first | assumption | (show upI _ _ = _; assumption))) (by omega) (Eq.trans (lowAt_at (by omega) (by omega)) (lowI_not.2 (by omega)))))), (congrArg (Value.int .i64) (show ((i : Int) + 1) = _ from by omega)), (hst.sub (.cons _ (.cons _ .slnil))), (by omega)⟩, (by simp only [id]; omega)⟩
      have c34 : ¬ (((l[i]'(by omega)).From) < ((l[(Int.toNat (bst l i))]'(by omega)).From)) := of_decide_eq_false b32
      refine s_yes 50 rfl (congrArg Value.bool b32) (op_fieldAddr (s := 0) Try.underlying34 rfl rfl Try.sizeOf2 rfl ?_)
      refine s_yes 50 rfl (congrArg Value.bool b32) (op_load1 (u := (.int .i64 ((l[i]'(by omega)).From))) Try.isAgg2 rfl ((hst.cell 1 rfl).drop 2) ?_)
      refine s_yes 50 rfl (congrArg Value.bool b32) (op_fieldAddr (s := 0) Try.underlying34 rfl rfl Try.sizeOf2 rfl ?_)
      refine s_yes 50 rfl (congrArg Value.bool b32) (op_load1 (u := (.int .i64 ((l[(Int.toNat (bst l i))]'(by omega)).From))) Try.isAgg2 rfl ((hst.cell 0 rfl).drop 2) ?_)
      refine s_yes 50 rfl (congrArg Value.bool b32) (op_eql (k := .i64) (a := (l[i]'(by omega)).From) (b := (l[(Int.toNat (bst l i))]'(by omega)).From) rfl rfl ?_)
      refine s_yes 50 rfl (congrArg Value.bool b32) (op_move (.bool (decide (((l[i]'(by omega)).From) = ((l[(Int.toNat (bst l i))]'(by omega)).From)))) rfl ?_)
      rcases Bool.eq_false_or_eq_true (decide (((l[i]'(by omega)).From) = ((l[(Int.toNat (bst l i))]'(by omega)).From))) with b35 | b35
      · have c36 : ((l[i]'(by omega)).From) = ((l[(Int.toNat (bst l i))]'(by omega)).From) := of_decide_eq_true b35
        refine s_yes 56 rfl (congrArg Value.bool b35) (op_fieldAddr (s := 0) Try.underlying34 rfl rfl Try.sizeOf3 rfl ?_)
        refine s_yes 56 rfl (congrArg Value.bool b35) (op_load1 (u := (.int .i64 ((l[i]'(by omega)).Id))) Try.isAgg3 rfl (hst.cell 1 rfl) ?_)
        refine s_yes 56 rfl (congrArg Value.bool b35) (op_fieldAddr (s := 0) Try.underlying34 rfl rfl Try.sizeOf3 rfl ?_)
        refine s_yes 56 rfl (congrArg Value.bool b35) (op_load1 (u := (.int .i64 ((l[(Int.toNat (bst l i))]'(by omega)).Id))) Try.isAgg3 rfl (hst.cell 0 rfl) ?_)
        refine s_yes 56 rfl (congrArg Value.bool b35) (op_lss (k := .i64) (a := (l[i]'(by omega)).Id) (b := (l[(Int.toNat (bst l i))]'(by omega)).Id) rfl rfl ?_)
        refine s_yes 50 rfl (congrArg Value.bool b32) (op_pick_t (.bool (decide (((l[i]'(by omega)).Id) < ((l[(Int.toNat (bst l i))]'(by omega)).Id)))) (congrArg Value.bool b35) rfl ?_)
        refine s_yes 44 rfl (congrArg Value.bool b30) (op_pick_f (.bool (decide (((l[i]'(by omega)).Id) < ((l[(Int.toNat (bst l i))]'(by omega)).Id)))) (congrArg Value.bool b32) rfl ?_)
        refine s_yes 38 rfl (congrArg Value.bool b27) (op_pick_t (.bool (decide (((l[i]'(by omega)).Id) < ((l[(Int.toNat (bst l i))]'(by omega)).Id)))) (congrArg Value.bool b30) rfl ?_)
        refine s_cons (op_pick_f (.bool (decide (((l[i]'(by omega)).Id) < ((l[(Int.toNat (bst l i))]'(by omega)).Id)))) (congrArg Value.bool b27) rfl ?_)
        refine s_nil ?_
        refine then_n ?_
        rcases Bool.eq_false_or_eq_true (decide (((l[i]'(by omega)).Id) < ((l[(Int.toNat (bst l i))]'(by omega)).Id))) with b37 | b37
        · have c38 : ((l[i]'(by omega)).Id) < ((l[(Int.toNat (bst l i))]'(by omega)).Id) := of_decide_eq_true b37
          refine cE_cond true (congrArg Value.bool b37) (fun _ => ?_) (fun h => by cases h)
          refine cE_region rfl ?_
          refine s_cons (op_move (.int .i64 (i : Int)) q1_5 ?_)
          refine s_cons (op_assign (.int .i64 (i : Int)) rfl ?_)
          refine s_nil ?_
          refine block_n (then_n ?_)
          refine cE_region rfl ?_
          refine s_cons (op_move (.int .i64 (i : Int)) q1_5 ?_)
          refine s_cons (op_add (k := .i64) (a := (i : Int)) (b := 1) ((i : Int) + 1) rfl rfl (xi64 (by omega) (by omega)) ?_)
          refine s_cons (op_assign (.int .i64 ((i : Int) + 1)) rfl ?_)
          refine s_nil ?_
          refine then_n ?_
          exact ⟨_, ⟨(i + 1), rfl, q1_0, q1_2, q1_3, (congrArg (Value.int .i64) (show (i : Int) = _ from by first | rfl | exact Eq.symm (bst_skip (by omega) (can_no3 (by omega))) | exact Eq.symm (bst_skip (by omega) (can_noup (by first | assumption | (show upI _ _ = _; assumption)))) | exact Eq.symm (bst_new (by omega) (can_yes (by omega) (by first | assumption | (show upI _ _ = _; assumption))) (Or.inl (by omega))) | exact Eq.symm (bst_new (by omega) (can_yes (by omega) (by first | assumption | (show upI _ _ = _; assumption))) (Or.inr (Eq.trans (lowAt_at (by omega) (by omega)) (lowI_iff.2 (by omega))))) | exact Eq.symm (bst_old (by omega) (can_yes (by omega) (by first | assumption | (show upI _ _ = _; assumption))) (by omega) (Eq.trans (lowAt_at (by omega) (by omega)) (lowI_not.2 (by omega)))))), (congrArg (Value.int .i64) (show ((i : Int) + 1) = _ from by omega)), (hst.sub (.cons _ (.cons _ .slnil))), (by omega)⟩, (by simp only [id]; omega)⟩
        have c39 : ¬ (((l[i]'(by omega)).Id) < ((l[(Int.toNat (bst l i))]'(by omega)).Id)) := of_decide_eq_false b37
        refine cE_cond false (congrArg Value.bool b37) (fun h => by cases h) (fun _ => ?_)
        refine cE_skip ?_
        refine block_n (then_n ?_)
        refine cE_region rfl ?_
        refine s_cons (op_move (.int .i64 (i : Int)) q1_5 ?_)
        refine s_cons (op_add (k := .i64) (a := (i : Int)) (b := 1) ((i : Int) + 1) rfl rfl (xi64 (by omega) (by omega)) ?_)
        refine s_cons (op_assign (.int .i64 ((i : Int) + 1)) rfl ?_)
        refine s_nil ?_
        refine then_n ?_
        exact ⟨_, ⟨(i + 1), rfl, q1_0, q1_2, q1_3, (q1_4.trans (congrArg (Value.int .i64) (show (bst l i) = _ from by first | rfl | exact Eq.symm (bst_skip (by omega) (can_no3 (by omega))) | exact Eq.symm (bst_skip (by omega) (can_noup (by first | assumption | (show upI _ _ = _; assumption)))) | exact Eq.symm (bst_new (by omega) (can_yes (by omega) (by first | assumption | (show upI _ _ = _; assumption))) (Or.inl (by omega))) | exact Eq.symm (bst_new (by omega) (can_yes (by omega) (by first | assumption | (show upI _ _ = _; assumption))) (Or.inr (Eq.trans (lowAt_at (by omega) (by omega)) (lowI_iff.2 (by omega))))) | exact Eq.symm (bst_old (by omega) (can_yes (by omega) (by first | assumption | (show upI _ _ = _; assumption))) (by omega) (Eq.trans (lowAt_at (by omega) (by omega)) (lowI_not.2 (by omega))))))), (congrArg (Value.int .i64) (show ((i : Int) + 1) = _ from by omega)), (hst.sub (.cons _ (.cons _ .slnil))), (by omega)⟩, (by simp only [id]; omega)⟩
      have c40 : ¬ (((l[i]'(by omega)).From) = ((l[(Int.toNat (bst l i))]'(by omega)).From)) := of_decide_eq_false b35
      refine s_no 56 rfl (congrArg Value.bool b35) ?_
      refine s_no 56 rfl (congrArg Value.bool b35) ?_
      refine s_no 56 rfl (congrArg Value.bool b35) ?_
      refine s_no 56 rfl (congrArg Value.bool b35) ?_
      refine s_no 56 rfl (congrArg Value.bool b35) ?_
      refine s_yes 50 rfl (congrArg Value.bool b32) (op_pick_f (.bool false) (congrArg Value.bool b35) rfl ?_)
      refine s_yes 44 rfl (congrArg Value.bool b30) (op_pick_f (.bool false) (congrArg Value.bool b32) rfl ?_)
      refine s_yes 38 rfl (congrArg Value.bool b27) (op_pick_t (.bool false) (congrArg Value.bool b30) rfl ?_)
      refine s_cons (op_pick_f (.bool false) (congrArg Value.bool b27) rfl ?_)
      refine s_nil ?_
      refine then_n ?_
      refine cE_cond false rfl (fun h => by cases h) (fun _ => ?_)
      refine cE_skip ?_
      refine block_n (then_n ?_)
      refine cE_region rfl ?_
      refine s_cons (op_move (.int .i64 (i : Int)) q1_5 ?_)
      refine s_cons (op_add (k := .i64) (a := (i : Int)) (b := 1) ((i : Int) + 1) rfl rfl (xi64 (by omega) (by omega)) ?_)
      refine s_cons (op_assign (.int .i64 ((i : Int) + 1)) rfl ?_)
      refine s_nil ?_
      refine then_n ?_
      exact ⟨_, ⟨(i + 1), rfl, q1_0, q1_2, q1_3, (q1_4.trans (congrArg (Value.int .i64) (show (bst l i) = _ from by first | rfl | exact Eq.symm (bst_skip (by omega) (can_no3 (by omega))) | exact Eq.symm (bst_skip (by omega) (can_noup (by first | assumption | (show upI _ _ = _; assumption)))) | exact Eq.symm (bst_new (by omega) (can_yes (by omega) (by first | assumption | (show upI _ _ = _; assumption))) (Or.inl (by omega))) | exact Eq.symm (bst_new (by omega) (can_yes (by omega) (by first | assumption | (show upI _ _ = _; assumption))) (Or.inr (Eq.trans (lowAt_at (by omega) (by omega)) (lowI_iff.2 (by omega))))) | exact Eq.symm (bst_old (by omega) (can_yes (by omega) (by first | assumption | (show upI _ _ = _; assumption))) (by omega) (Eq.trans (lowAt_at (by omega) (by omega)) (lowI_not.2 (by omega))))))), (congrArg (Value.int .i64) (show ((i : Int) + 1) = _ from by omega)), (hst.sub (.cons _ (.cons _ .slnil))), (by omega)⟩, (by simp only [id]; omega)⟩
    have c41 : ¬ (((l[i]'(by omega)).Tier) = ((l[(Int.toNat (bst l i))]'(by omega)).Tier)) := of_decide_eq_false b30
    refine s_no 44 rfl (congrArg Value.bool b30) ?_
    refine s_no 44 rfl (congrArg Value.bool b30) ?_
    refine s_no 44 rfl (congrArg Value.bool b30) ?_
    refine s_no 44 rfl (congrArg Value.bool b30) ?_
    refine s_no 44 rfl (congrArg Value.bool b30) ?_
    refine s_no 44 rfl (congrArg Value.bool b30) ?_
    refine s_un 50 rfl rfl ?_
    refine s_un 50 rfl rfl ?_
    refine s_un 50 rfl rfl ?_
    refine s_un 50 rfl rfl ?_
    refine s_un 50 rfl rfl ?_
    refine s_un 50 rfl rfl ?_
    refine s_un 56 rfl rfl ?_
    refine s_un 56 rfl rfl ?_
    refine s_un 56 rfl rfl ?_
    refine s_un 56 rfl rfl ?_
    refine s_un 56 rfl rfl ?_
    refine s_un 50 rfl rfl ?_
    refine s_no 44 rfl (congrArg Value.bool b30) ?_
    refine s_yes 38 rfl (congrArg Value.bool b27) (op_pick_f (.bool false) (congrArg Value.bool b30) rfl ?_)
    refine s_cons (op_pick_f (.bool false) (congrArg Value.bool b27) rfl ?_)
    refine s_nil ?_
    refine then_n ?_
    refine cE_cond false rfl (fun h => by cases h) (fun _ => ?_)
    refine cE_skip ?_
    refine block_n (then_n ?_)
    refine cE_region rfl ?_
    refine s_cons (op_move (.int .i64 (i : Int)) q1_5 ?_)
    refine s_cons (op_add (k := .i64) (a := (i : Int)) (b := 1) ((i : Int) + 1) rfl rfl (xi64 (by omega) (by omega)) ?_)
    refine s_cons (op_assign (.int .i64 ((i : Int) + 1)) rfl ?_)
    refine s_nil ?_
    refine then_n ?_
    exact ⟨_, ⟨(i + 1), rfl, q1_0, q1_2, q1_3, (q1_4.trans (congrArg (Value.int .i64) (show (bst l i) = _ from by first | rfl | exact Eq.symm (bst_skip (by omega) (can_no3 (by omega))) | exact Eq.symm (bst_skip (by omega) (can_noup (by first | assumption | (show upI _ _ = _; assumption)))) | exact Eq.symm (bst_new (by omega) (can_yes (by omega) (by first | assumption | (show upI _ _ = _; assumption))) (Or.inl (by omega))) | exact Eq.symm (bst_new (by omega) (can_yes (by omega) (by first | assumption | (show upI _ _ = _; assumption))) (Or.inr (Eq.trans (lowAt_at (by omega) (by omega)) (lowI_iff.2 (by omega))))) | exact Eq.symm (bst_old (by omega) (can_yes (by omega) (by first | assumption | (show upI _ _ = _; assumption))) (by omega) (Eq.trans (lowAt_at (by omega) (by omega)) (lowI_not.2 (by omega))))))), (congrArg (Value.int .i64) (show ((i : Int) + 1) = _ from by omega)), (hst.sub (.cons _ (.cons _ .slnil))), (by omega)⟩, (by simp only [id]; omega)⟩
  have c42 : ¬ ((i : Int) < (l.length : Int)) := of_decide_eq_false b5
  refine cE_cond false (congrArg Value.bool b5) (fun h => by cases h) (fun _ => ?_)
  refine cE_exit ?_
  refine then_x (then_x (block_hit (then_n ?_)))
  refine cE_seq ?_
  refine cE_seq ?_
  refine cE_region rfl ?_
  refine s_cons (op_move (.int .i64 (bst l i)) q1_4 ?_)
  refine s_cons (op_lss (k := .i64) (a := (bst l i)) (b := 0) rfl rfl ?_)
  refine s_nil ?_
  refine then_n ?_
  rcases Bool.eq_false_or_eq_true (decide ((bst l i) < 0)) with b43 | b43
  · have c44 : (bst l i) < 0 := of_decide_eq_true b43
    refine cE_cond true (congrArg Value.bool b43) (fun _ => ?_) (fun h => by cases h)
    refine cE_seq ?_
    refine cE_region rfl ?_
    refine s_cons (op_assign (.int .i64 (-1)) rfl ?_)
    refine s_cons (op_assign (.int .i64 0) rfl ?_)
    refine s_nil ?_
    refine then_n ?_
    refine cE_ret ?_
    refine then_r ?_
    refine post_r _ (res2 (v := (.int .i64 (-1))) rfl (x := (.int .i64 0)) rfl) ?_
    exact ⟨(retv2 (congrArg (Value.int .i64) (show (-1) = (rollI l).1 from by first | exact Eq.symm (congrArg Prod.fst (roll_none (n := i) (by omega) (by omega))) | exact Eq.symm (congrArg Prod.snd (roll_none (n := i) (by omega) (by omega))) | exact Eq.symm (congrArg Prod.fst (roll_some (n := i) (by omega) (by omega) (by omega))) | exact Eq.symm (congrArg Prod.snd (roll_some (n := i) (by omega) (by omega) (by omega))))) (congrArg (Value.int .i64) (show 0 = (rollI l).2 from by first | exact Eq.symm (congrArg Prod.fst (roll_none (n := i) (by omega) (by omega))) | exact Eq.symm (congrArg Prod.snd (roll_none (n := i) (by omega) (by omega))) | exact Eq.symm (congrArg Prod.fst (roll_some (n := i) (by omega) (by omega) (by omega))) | exact Eq.symm (congrArg Prod.snd (roll_some (n := i) (by omega) (by omega) (by omega)))))), hst.bare⟩
  have c45 : ¬ ((bst l i) < 0) := of_decide_eq_false b43
  refine cE_cond false (congrArg Value.bool b43) (fun h => by cases h) (fun _ => ?_)
  refine cE_skip ?_
  refine then_n ?_
  refine cE_seq ?_
  obtain ⟨hbl, hbt⟩ := bst_tier hi (by omega)
  have hbo := hl _ (List.getElem_mem hbl)
  refine cE_regionL hst [[(0, none)], [(4, none)], [(69, some 0), (70, some 1)], [(71, some 2)], [(72, some 3)], [(0, none)], [(4, none)], [(74, some 5), (75, some 6)], [(76, some 7)], [(77, some 8)], [(78, some 9)], [(73, some 4)], [(79, some 10)]] [(rEq v_l), (rEq (.int .i64 (bst l i))), (rPt [(.int .i64 ((l[(Int.toNat (bst l i))]'(by omega)).Id)), (.int .i64 ((l[(Int.toNat (bst l i))]'(by omega)).Tier)), (.int .i64 ((l[(Int.toNat (bst l i))]'(by omega)).From)), (.int .i64 ((l[(Int.toNat (bst l i))]'(by omega)).To)), (.int .u32 ((l[(Int.toNat (bst l i))]'(by omega)).Sum))]), (rPt [(.int .i64 ((l[(Int.toNat (bst l i))]'(by omega)).Id)), (.int .i64 ((l[(Int.toNat (bst l i))]'(by omega)).Tier)), (.int .i64 ((l[(Int.toNat (bst l i))]'(by omega)).From)), (.int .i64 ((l[(Int.toNat (bst l i))]'(by omega)).To)), (.int .u32 ((l[(Int.toNat (bst l i))]'(by omega)).Sum))]), (rEq (.int .i64 ((l[(Int.toNat (bst l i))]'(by omega)).Id))), (rEq v_l), (rEq (.int .i64 (bst l i))), (rPt [(.int .i64 ((l[(Int.toNat (bst l i))]'(by omega)).Id)), (.int .i64 ((l[(Int.toNat (bst l i))]'(by omega)).Tier)), (.int .i64 ((l[(Int.toNat (bst l i))]'(by omega)).From)), (.int .i64 ((l[(Int.toNat (bst l i))]'(by omega)).To)), (.int .u32 ((l[(Int.toNat (bst l i))]'(by omega)).Sum))]), (rPt [(.int .i64 ((l[(Int.toNat (bst l i))]'(by omega)).Tier)), (.int .i64 ((l[(Int.toNat (bst l i))]'(by omega)).From)), (.int .i64 ((l[(Int.toNat (bst l i))]'(by omega)).To)), (.int .u32 ((l[(Int.toNat (bst l i))]'(by omega)).Sum))]), (rEq (.int .i64 ((l[(Int.toNat (bst l i))]'(by omega)).Tier))), (rEq (.int .i64 (((l[(Int.toNat (bst l i))]'(by omega)).Tier) + 1))), (rEq (.int .i64 ((l[(Int.toNat (bst l i))]'(by omega)).Id))), (rEq (.int .i64 (((l[(Int.toNat (bst l i))]'(by omega)).Tier) + 1)))] (by kernel_rfl) rfl (by kernel_rfl) ⟨sEq, sEq, sPt, sPt, sEq, sEq, sEq, sPt, sPt, sEq, sEq, sEq, sEq, trivial⟩ ⟨?_, ?_, ?_, ?_, ?_, ?_, ?_, ?_, ?_, ?_, ?_, ?_, ?_, trivial⟩ ?_
  · rintro ρ52 w53 hj54 ⟨f0, _⟩
    have hst := hj54.2
    exact go_plain (op_move v_l (f0.trans q1_0) (kS hj54 rfl))
  · rintro ρ55 w56 hj57 ⟨f4, _⟩
    have hst := hj57.2
    exact go_plain (op_move (.int .i64 (bst l i)) (f4.trans q1_4) (kS hj57 rfl))
  · rintro ρ58 w59 hj60 ⟨f69, f70, _⟩
    have hst := hj60.2
    refine go_plain (op_indexAddrN (E := infoE) (xs := l) (Int.toNat (bst l i)) Try.underlying22 Try.sizeOf34 f69 h_l f70 (by omega) (by omega) (fun a61 o62 p63 => ?_))
    exact kS hj60 ⟨_, _, rfl, (p63.below hst.below)⟩
  · rintro ρ64 w65 hj66 ⟨f71, _⟩
    have hst := hj66.2
    obtain ⟨a67, o68, e69, p70⟩ := f71
    exact go_plain (op_fieldAddr (s := 0) Try.underlying34 rfl rfl Try.sizeOf3 e69 (kS hj66 ⟨_, _, rfl, p70⟩))
  · rintro ρ71 w72 hj73 ⟨f72, _⟩
    have hst := hj73.2
    obtain ⟨a74, o75, e76, p77⟩ := f72
    exact go_plain (op_load1 (u := (.int .i64 ((l[(Int.toNat (bst l i))]'(by omega)).Id))) Try.isAgg3 e76 p77 (kS hj73 rfl))
  · rintro ρ78 w79 hj80 ⟨f0, _⟩
    have hst := hj80.2
    exact go_plain (op_move v_l (f0.trans q1_0) (kS hj80 rfl))
  · rintro ρ81 w82 hj83 ⟨f4, _⟩
    have hst := hj83.2
    exact go_plain (op_move (.int .i64 (bst l i)) (f4.trans q1_4) (kS hj83 rfl))
  · rintro ρ84 w85 hj86 ⟨f74, f75, _⟩
    have hst := hj86.2
    refine go_plain (op_indexAddrN (E := infoE) (xs := l) (Int.toNat (bst l i)) Try.underlying22 Try.sizeOf34 f74 h_l f75 (by omega) (by omega) (fun a87 o88 p89 => ?_))
    exact kS hj86 ⟨_, _, rfl, (p89.below hst.below)⟩
  · rintro ρ90 w91 hj92 ⟨f76, _⟩
    have hst := hj92.2
    obtain ⟨a93, o94, e95, p96⟩ := f76
    exact go_plain (op_fieldAddr (s := 0) Try.underlying34 rfl rfl Try.sizeOf3 e95 (kS hj92 ⟨_, _, rfl, (p96.drop 1)⟩))
  · rintro ρ97 w98 hj99 ⟨f77, _⟩
    have hst := hj99.2
    obtain ⟨a100, o101, e102, p103⟩ := f77
    exact go_plain (op_load1 (u := (.int .i64 ((l[(Int.toNat (bst l i))]'(by omega)).Tier))) Try.isAgg3 e102 p103 (kS hj99 rfl))
  · rintro ρ104 w105 hj106 ⟨f78, _⟩
    have hst := hj106.2
    exact go_plain (op_add (k := .i64) (a := (l[(Int.toNat (bst l i))]'(by omega)).Tier) (b := 1) (((l[(Int.toNat (bst l i))]'(by omega)).Tier) + 1) f78 rfl (xi64 (by omega) (by omega)) (kS hj106 rfl))
  · rintro ρ107 w108 hj109 ⟨f73, _⟩
    have hst := hj109.2
    exact go_plain (op_assign (.int .i64 ((l[(Int.toNat (bst l i))]'(by omega)).Id)) f73 (kS hj109 rfl))
  · rintro ρ110 w111 hj112 ⟨f79, _⟩
    have hst := hj112.2
    exact go_plain (op_assign (.int .i64 (((l[(Int.toNat (bst l i))]'(by omega)).Tier) + 1)) f79 (kS hj112 rfl))
  intro ρ113 w114 hbw114 hst hRw114 hkw114
  have uw114_0 : ρ113 0 = v_l := (hkw114 0 rfl).trans q1_0
  have uw114_4 : ρ113 4 = (.int .i64 (bst l i)) := (hkw114 4 rfl).trans q1_4
  have uw114_5 : ρ113 5 = (.int .i64 (i : Int)) := (hkw114 5 rfl).trans q1_5
  have uw114_8 : ρ113 8 = (.int .i64 (i : Int)) := (hkw114 8 rfl).trans rfl
  have uw114_9 : ρ113 9 = v_l := (hkw114 9 rfl).trans rfl
  have uw114_10 : ρ113 10 = (.int .i64 (l.length : Int)) := (hkw114 10 rfl).trans rfl
  have uw114_11 : ρ113 11 = (.bool (decide ((i : Int) < (l.length : Int)))) := (hkw114 11 rfl).trans rfl
  have uw114_67 : ρ113 67 = (.int .i64 (bst l i)) := (hkw114 67 rfl).trans rfl
  have uw114_68 : ρ113 68 = (.bool (decide ((bst l i) < 0))) := (hkw114 68 rfl).trans rfl
  have uw114_2 : ρ113 2 = (.int .i64 ((l[(Int.toNat (bst l i))]'(by omega)).Id)) := hRw114 11 2 rfl
  have uw114_3 : ρ113 3 = (.int .i64 (((l[(Int.toNat (bst l i))]'(by omega)).Tier) + 1)) := hRw114 12 3 rfl
  refine then_n ?_
  refine cE_ret ?_
  refine post_r _ (res2 (v := (.int .i64 ((l[(Int.toNat (bst l i))]'(by omega)).Id))) uw114_2 (x := (.int .i64 (((l[(Int.toNat (bst l i))]'(by omega)).Tier) + 1))) uw114_3) ?_
  exact ⟨(retv2 (congrArg (Value.int .i64) (show (l[(Int.toNat (bst l i))]'(by omega)).Id = (rollI l).1 from by first | exact Eq.symm (congrArg Prod.fst (roll_none (n := i) (by omega) (by omega))) | exact Eq.symm (congrArg Prod.snd (roll_none (n := i) (by omega) (by omega))) | exact Eq.symm (congrArg Prod.fst (roll_some (n := i) (by omega) (by omega) (by omega))) | exact Eq.symm (congrArg Prod.snd (roll_some (n := i) (by omega) (by omega) (by omega))))) (congrArg (Value.int .i64) (show (((l[(Int.toNat (bst l i))]'(by omega)).Tier) + 1) = (rollI l).2 from by first | exact Eq.symm (congrArg Prod.fst (roll_none (n := i) (by omega) (by omega))) | exact Eq.symm (congrArg Prod.snd (roll_none (n := i) (by omega) (by omega))) | exact Eq.symm (congrArg Prod.fst (roll_some (n := i) (by omega) (by omega) (by omega))) | exact Eq.symm (congrArg Prod.snd (roll_some (n := i) (by omega) (by omega) (by omega)))))), hst.bare⟩

end Go.Proofs.Ytadnedoecbfojaa
