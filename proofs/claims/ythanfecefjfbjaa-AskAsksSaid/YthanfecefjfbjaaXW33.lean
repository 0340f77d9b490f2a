/- ask.Total -/
import Derived.Test.YthanfecefjfbjaaXLA
import Derived.Test.YthanfecefjfbjaaXW4
namespace Go.Proofs.Ythanfecefjfbjaa
open Go.RowKit

set_option maxRecDepth 8000 in
set_option maxHeartbeats 4000000 in
theorem c_Total (w0 : World) (v_l : Value) (l : List Win) (h_l : Sl w0 winE v_l l) (hl : ∀ w ∈ l, w.Agg.ok) :
  Calls Try.prog 14 #[v_l] w0 fun e w' => e = .returned (.tuple #[(.agg (aggA ((totW l).1))), (iV ((totW l).2))]) ∧ St w0 w' [] := by
 refine calls_G (n := 38) (rs := [.cell 2 37, .tmp 3]) Try.func14 rfl rfl rfl (by simp) ?_
 have hst := St.start w0
 refine cE_seq (cE_region rfl (s_cons (op_alloc (cs := #[(iV 0), (iV 0), (iV 0), (iV 0), (iV 0), (iV 0), (iV 0)]) hst Try.zeroValue37 rfl (fun g1 w2 hst _ => ?_))))
 refine s_cons (op_assign (iV 0) rfl (s_nil (then_n (cE_seq (cE_seq (cE_region rfl (s_cons (op_move v_l rfl (s_cons (op_len (E := winE) (xs := l) Try.underlying29 rfl h_l (s_cons (op_eql (k := .i64) (a := (l.length : Int)) (b := 0) rfl rfl (s_nil (then_n ?_))))))))))))))
 rcases Bool.eq_false_or_eq_true (decide ((l.length : Int) = 0)) with b3 | b3
 ·have c4 := of_decide_eq_true b3
  refine cE_cond true (congrArg Value.bool b3) (fun _ => ?_) (fun h => by cases h)
  refine cE_seq (cE_region rfl (s_cons (op_build (r := (.agg #[(iV 0), (iV 0), (iV 0), (iV 0), (iV 0), (iV 0), (iV 0)])) evp_nil (by simp [Instr.build, Instr.fill, Value.cells, Try.runUnderlying37, Try.zeroValue37]) (s_cons0 (op_storeAll hst 0 rfl Try.sizeOf37 rfl rfl rfl rfl (by simp [Value.oneCell']) (fun w5 hst => ?_))))))
  refine s_cons (op_assign (iV 9) rfl (s_nil (then_n (cE_ret (then_r (postG_r _ (rvN (cs := [(iV 0), (iV 0), (iV 0), (iV 0), (iV 0), (iV 0), (iV 0)]) Try.isAgg37 Try.sizeOf37 rfl (Pt.of (hst.cell 0 rfl) rfl) rfl (rvt (v := (iV 9)) rfl rvnil)) ?_))))))
  exact ⟨(retv2 (congrArg aggV (show (⟨0, 0, 0, 0, 0, 0, 0⟩ : Agg) = (totW l).1 from by exact fst_of (tot_none (by omega)))) (congrArg iV (show 9 = (totW l).2 from by exact snd_of (tot_none (by omega))))), hst.bare⟩
 have c6 := of_decide_eq_false b3
 refine cE_cond false (congrArg Value.bool b3) (fun h => by cases h) (fun _ => ?_)
 refine cE_skip (then_n (cE_seq (cE_region rfl (s_cons (op_move v_l rfl (s_cons (op_indexAddrN (E := winE) (xs := l) 0 Try.underlying29 Try.sizeOf56 rfl h_l rfl (by omega) (by omega) (fun a7 o8 p9 => ?_))))))))
 refine s_cons (op_fieldAddr (s := 6) Try.underlying56 rfl rfl Try.sizeOf37 rfl (s_cons (op_loadN (cs := (aggC ((l[0]'(by omega)).Agg))) Try.isAgg37 Try.sizeOf37 rfl (Pt.of ((p9.below hst.below).drop 3) rfl) rfl (s_cons (op_alloc (cs := #[(iV 0), (iV 0), (iV 0), (iV 0), (iV 0), (iV 0), (iV 0)]) hst Try.zeroValue37 rfl (fun g10 w11 hst _ => ?_))))))
 refine s_cons0 (op_storeAll hst 0 rfl Try.sizeOf37 rfl rfl rfl rfl (by simp [Value.oneCell']) (fun w12 hst => ?_))
 refine s_nil (then_n (cE_seq (cE_seq (cE_region rfl (s_cons (op_move v_l rfl (s_cons (op_slice_fromN 1 (E := winE) (xs := l) Try.underlying29 Try.sizeOf56 rfl h_l rfl (by omega) (by omega) (fun v13 hs14 => ?_)))))))))
 refine s_cons (op_len (E := winE) (xs := (l.drop 1)) Try.underlying29 rfl hs14 (s_cons (op_move (iV 0) rfl (s_nil (then_n (cE_block (cE_loop (fun (m : Nat) (ρ : Env) (w : World) => ∃ (acc : Agg) (i : Nat), m = l.length - i ∧ ρ 0 = v_l ∧ ρ 2 = (.pointer (some ⟨g1, 0, none⟩)) ∧ ρ 4 = (.pointer (some ⟨g10, 0, none⟩)) ∧ ρ 18 = v13 ∧ ρ 19 = (iV ((l.drop 1).length : Int)) ∧ ρ 20 = (iV (i : Int)) ∧ St w0 w [.blk g10 37 (aggA acc), .blk g1 37 #[(iV 0), (iV 0), (iV 0), (iV 0), (iV 0), (iV 0), (iV 0)]] ∧ (i + 1 ≤ l.length) ∧ acc.ok ∧ (totW l = totG acc (l.drop (i + 1)))) id _ ⟨((l[0]'(by omega)).Agg), 0, rfl, rfl, rfl, rfl, rfl, rfl, (congrArg iV (show 0 = _ from by omega)), (hst.sub (.cons_cons _ (.cons_cons _ .slnil))), (by omega), (by exact (hl _ (List.getElem_mem _))), (by exact tot_first (by omega))⟩ ?_)))))))
 rintro m16 ρ17 w18 ⟨acc, i, hm16, q15_0, q15_2, q15_4, q15_18, q15_19, q15_20, hst, hi, hok, hI⟩
 have hlen := h_l.len
 have hdl : (List.drop 1 l).length = l.length - 1 := List.length_drop
 refine cE_seq (cE_region rfl (s_cons (op_lss (k := .i64) (a := (i : Int)) (b := ((l.drop 1).length : Int)) q15_20 q15_19 (s_nil (then_n (cE_seq ?_))))))
 rcases Bool.eq_false_or_eq_true (decide ((i : Int) < ((l.drop 1).length : Int))) with b19 | b19
 ·have c20 := of_decide_eq_true b19
  refine cE_cond true (congrArg Value.bool b19) (fun _ => ?_) (fun h => by cases h)
  refine cE_skip (then_n (cE_seq (cE_block (cE_seq (cE_region rfl (s_cons (op_indexAddrN (E := winE) (xs := (l.drop 1)) i Try.underlying29 Try.sizeOf56 q15_18 hs14 q15_20 (by omega) (by omega) (fun a21 o22 p23 => ?_))))))))
  refine s_cons (op_loadN (cs := [(iV (((l.drop 1)[i]'(by omega)).Tier)), (iV (((l.drop 1)[i]'(by omega)).Lo)), (iV (((l.drop 1)[i]'(by omega)).Hi)), (iV ((((l.drop 1)[i]'(by omega)).Agg).From)), (iV ((((l.drop 1)[i]'(by omega)).Agg).Count)), (iV ((((l.drop 1)[i]'(by omega)).Agg).Sum)), (iV ((((l.drop 1)[i]'(by omega)).Agg).Min)), (iV ((((l.drop 1)[i]'(by omega)).Agg).Max)), (iV ((((l.drop 1)[i]'(by omega)).Agg).First)), (iV ((((l.drop 1)[i]'(by omega)).Agg).Last))]) Try.isAgg56 Try.sizeOf56 rfl (Pt.of (p23.below hst.below) rfl) rfl ?_)
  refine s_cons (op_alloc (cs := #[(iV 0), (iV 0), (iV 0), (iV 0), (iV 0), (iV 0), (iV 0), (iV 0), (iV 0), (iV 0)]) hst Try.zeroValue56 rfl (fun g24 w25 hst _ => ?_))
  refine s_cons0 (op_storeAll hst 0 rfl Try.sizeOf56 rfl rfl rfl rfl (by simp [Value.oneCell']) (fun w26 hst => ?_))
  refine s_nil (then_n (cE_seq (cE_region rfl (s_cons (op_loadN (cs := (aggC acc)) Try.isAgg37 Try.sizeOf37 q15_4 (Pt.of (hst.cell 1 rfl) rfl) rfl (s_cons (op_fieldAddr (s := 6) Try.underlying56 rfl rfl Try.sizeOf37 rfl (s_cons (op_loadN (cs := (aggC (((l.drop 1)[i]'(by omega)).Agg))) Try.isAgg37 Try.sizeOf37 rfl (Pt.of ((hst.cell 0 rfl).drop 3) rfl) rfl (s_cons (op_call Try.call34 (evs_cons (v := (.agg (aggA acc))) rfl (evs_cons (v := (.agg (aggA (((l.drop 1)[i]'(by omega)).Agg)))) rfl evs_nil)) (c_Join (w0 := w26) (a := acc) (b := (((l.drop 1)[i]'(by omega)).Agg)) (ha := hok) (hb := (hl _ (by exact List.mem_of_mem_drop (List.getElem_mem _))))) ?_)))))))))))
  rintro _ w27 ⟨rfl, hcall⟩
  refine ⟨_, rfl, ?_⟩
  have hst := hst.call hcall
  refine s_cons (op_move (.tuple #[(.agg (aggA ((joinA acc (((l.drop 1)[i]'(by omega)).Agg)).1))), (iV ((joinA acc (((l.drop 1)[i]'(by omega)).Agg)).2))]) rfl (s_cons (op_extract (.agg (aggA ((joinA acc (((l.drop 1)[i]'(by omega)).Agg)).1))) rfl rfl (s_cons (op_extract (iV ((joinA acc (((l.drop 1)[i]'(by omega)).Agg)).2)) rfl rfl (s_cons (op_alloc (cs := #[(iV 0), (iV 0), (iV 0), (iV 0), (iV 0), (iV 0), (iV 0)]) hst Try.zeroValue37 rfl (fun g28 w29 hst _ => ?_))))))))
  refine s_cons0 (op_storeAll hst 0 rfl Try.sizeOf37 rfl rfl rfl rfl (by simp [Value.oneCell']) (fun w30 hst => ?_))
  refine s_cons (op_assign (iV ((joinA acc (((l.drop 1)[i]'(by omega)).Agg)).2)) rfl (s_nil (then_n (cE_seq (cE_seq (cE_region rfl (s_cons (op_move (iV ((joinA acc (((l.drop 1)[i]'(by omega)).Agg)).2)) rfl (s_cons (op_neq (k := .i64) (a := (joinA acc (((l.drop 1)[i]'(by omega)).Agg)).2) (b := 0) rfl rfl (s_nil (then_n ?_))))))))))))
  rcases Bool.eq_false_or_eq_true (decide (((joinA acc (((l.drop 1)[i]'(by omega)).Agg)).2) = 0)) with b31 | b31
  ·have c32 := of_decide_eq_true b31
   refine cE_cond false (congrArg Value.bool (congrArg (! ·) b31)) (fun h => by cases h) (fun _ => ?_)
   refine cE_skip (then_n (cE_region rfl (s_cons (op_loadN (cs := (aggC ((joinA acc (((l.drop 1)[i]'(by omega)).Agg)).1))) Try.isAgg37 Try.sizeOf37 rfl (Pt.of (hst.cell 0 rfl) rfl) rfl (s_cons0 (op_storeAll hst 2 rfl Try.sizeOf37 q15_4 rfl rfl rfl (by simp [Value.oneCell']) (fun w33 hst => ?_)))))))
   refine s_nil (block_n (then_n (cE_region rfl (s_cons (op_add (k := .i64) (a := (i : Int)) (b := 1) ((i : Int) + 1) q15_20 rfl (xi64 (by omega) (by omega)) (s_cons (op_move (iV ((i : Int) + 1)) rfl (s_nil (then_n ?_)))))))))
   exact ⟨_, ⟨((joinA acc (((l.drop 1)[i]'(by omega)).Agg)).1), (i + 1), rfl, q15_0, q15_2, q15_4, q15_18, q15_19, (congrArg iV (show ((i : Int) + 1) = _ from by omega)), (hst.sub (.cons _ (.cons _ (.cons_cons _ (.cons_cons _ .slnil))))), (by omega), (by exact joinA_ok hok (hl _ (by exact List.mem_of_mem_drop (List.getElem_mem _)))), (by exact hI.trans (tot_goD (by omega) (by assumption)))⟩, (by simp only [id]; omega)⟩
  have c34 := of_decide_eq_false b31
  refine cE_cond true (congrArg Value.bool (congrArg (! ·) b31)) (fun _ => ?_) (fun h => by cases h)
  refine cE_seq (cE_region rfl (s_cons (op_build (r := (.agg #[(iV 0), (iV 0), (iV 0), (iV 0), (iV 0), (iV 0), (iV 0)])) evp_nil (by simp [Instr.build, Instr.fill, Value.cells, Try.runUnderlying37, Try.zeroValue37]) (s_cons (op_move (iV ((joinA acc (((l.drop 1)[i]'(by omega)).Agg)).2)) rfl (s_cons0 (op_storeAll hst 3 rfl Try.sizeOf37 q15_2 rfl rfl rfl (by simp [Value.oneCell']) (fun w35 hst => ?_))))))))
  refine s_cons (op_assign (iV ((joinA acc (((l.drop 1)[i]'(by omega)).Agg)).2)) rfl (s_nil (then_n (cE_ret (then_r (block_r (then_r (then_r (block_r (then_r (postG_r _ (rvN (cs := [(iV 0), (iV 0), (iV 0), (iV 0), (iV 0), (iV 0), (iV 0)]) Try.isAgg37 Try.sizeOf37 q15_2 (Pt.of (hst.cell 3 rfl) rfl) rfl (rvt (v := (iV ((joinA acc (((l.drop 1)[i]'(by omega)).Agg)).2))) rfl rvnil)) ?_)))))))))))
  exact ⟨(retv2 (congrArg aggV (show (⟨0, 0, 0, 0, 0, 0, 0⟩ : Agg) = (totW l).1 from by exact fst_of (hI.trans (tot_stopD (by omega) (by assumption))))) (congrArg iV (show (joinA acc (((l.drop 1)[i]'(by omega)).Agg)).2 = (totW l).2 from by exact snd_of (hI.trans (tot_stopD (by omega) (by assumption)))))), hst.bare⟩
 have c36 := of_decide_eq_false b19
 refine cE_cond false (congrArg Value.bool b19) (fun h => by cases h) (fun _ => ?_)
 refine cE_exit (then_x (then_x (block_hit (then_n (cE_seq (cE_region rfl (s_cons (op_loadN (cs := (aggC acc)) Try.isAgg37 Try.sizeOf37 q15_4 (Pt.of (hst.cell 0 rfl) rfl) rfl (s_cons0 (op_storeAll hst 1 rfl Try.sizeOf37 q15_2 rfl rfl rfl (by simp [Value.oneCell']) (fun w37 hst => ?_)))))))))))
 refine s_cons (op_assign (iV 0) rfl (s_nil (then_n (cE_ret (postG_r _ (rvN (cs := (aggC acc)) Try.isAgg37 Try.sizeOf37 q15_2 (Pt.of (hst.cell 1 rfl) rfl) rfl (rvt (v := (iV 0)) rfl rvnil)) ?_)))))
 exact ⟨(retv2 (congrArg aggV (show acc = (totW l).1 from by exact fst_of (hI.trans (tot_end (by omega))))) (congrArg iV (show 0 = (totW l).2 from by exact snd_of (hI.trans (tot_end (by omega)))))), hst.bare⟩

end Go.Proofs.Ythanfecefjfbjaa
