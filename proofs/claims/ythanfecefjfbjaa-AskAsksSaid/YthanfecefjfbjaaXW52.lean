/- twinkeepref17.Pick -/
import Derived.Test.YthanfecefjfbjaaXLA
import Derived.Test.YthanfecefjfbjaaXW25
namespace Go.Proofs.Ythanfecefjfbjaa
open Go.RowKit

set_option maxRecDepth 8000 in
set_option maxHeartbeats 4000000 in
theorem c_rPick (w0 : World) (v_l : Value) (l : List Info) (h_l : Sl w0 infoE v_l l) (hll : l.length ≤ 1000000) :
  Calls Try.prog 19 #[v_l] w0 fun e w' => ∃ (v : Value), e = .returned v ∧ St w0 w' [rowT 3 (intE .i64) v (pickI l)] := by
 refine calls_E (n := 26) (ts := [2]) Try.func19 rfl rfl rfl (by simp) ?_
 have hst := St.start w0
 refine cE_seq (cE_region rfl (s_cons (op_assign nS rfl (s_nil (then_n (cE_seq (cE_region rfl (s_cons (op_move v_l rfl (s_cons (op_call Try.call30 (evs_cons (v := v_l) rfl evs_nil) (c_rpicks (w0 := w0) (v_l := v_l) (l := l) (h_l := (h_l.below hst.below)) (hll := (by omega))) ?_)))))))))))
 rintro _ w3 ⟨r1, r2, rfl, hcall, rpicks_hP⟩
 refine ⟨_, rfl, ?_⟩
 have hst := hst.call hcall
 refine s_cons (op_assign r1 rfl (s_nil (then_n (cE_seq ?_))))
 obtain ⟨hpl, hpp⟩ := place2 rpicks_hP
 have hpi := pickI_len l
 refine cE_region rfl (s_cons (op_assign nS rfl (s_nil (then_n (cE_seq (cE_seq (cE_region rfl (s_cons (op_assign (iV 0) rfl (s_nil (then_n (cE_block ?_))))))))))))
 replace hst := hst.nilRow 3 (intE .i64)
 refine cE_loop (fun (m : Nat) (ρ : Env) (w : World) => ∃ (vo : Value) (i : Nat), m = (pickI l).length - i ∧ ρ 0 = v_l ∧ ρ 2 = nS ∧ ρ 3 = r1 ∧ ρ 4 = vo ∧ ρ 5 = (iV (i : Int)) ∧ St w0 w [rowT 3 (intE .i64) vo ((pickI l).take i), rowT 3 (intE .i64) r1 r2] ∧ (i ≤ (pickI l).length)) id _ ⟨nS, 0, rfl, rfl, rfl, rfl, rfl, (congrArg iV (show 0 = _ from by omega)), (by have h := hst; exact h), (by omega)⟩ ?_
 rintro m5 ρ6 w7 ⟨vo, i, hm5, q4_0, q4_2, q4_3, q4_4, q4_5, hst, hi⟩
 refine cE_seq (cE_seq (cE_region rfl (s_cons (op_move (iV (i : Int)) q4_5 (s_cons (op_move r1 q4_3 (s_cons (op_len (E := (intE .i64)) (xs := r2) Try.underlying43 rfl (hst.sl 1 rfl) (s_cons (op_lss (k := .i64) (a := (i : Int)) (b := (r2.length : Int)) rfl rfl (s_nil (then_n ?_))))))))))))
 rcases Bool.eq_false_or_eq_true (decide ((i : Int) < (r2.length : Int))) with b8 | b8
 ·have c9 := of_decide_eq_true b8
  refine cE_cond true (congrArg Value.bool b8) (fun _ => ?_) (fun h => by cases h)
  refine cE_skip (then_n (cE_seq (cE_block ?_)))
  obtain ⟨n, hn, hln, hen⟩ := hpp i (by omega) (by omega)
  refine cE_region rfl (s_cons (op_move vo q4_4 (s_cons (op_move v_l q4_0 (s_cons (op_move r1 q4_3 (s_cons (op_move (iV (i : Int)) q4_5 (s_cons (op_indexAddrN (E := (intE .i64)) (xs := r2) i Try.underlying43 Try.sizeOf3 rfl (hst.sl 1 rfl) rfl (by omega) (by omega) (fun a10 o11 p12 => ?_)))))))))))
  refine s_cons (op_load1 (u := (iV (n : Int))) Try.isAgg3 rfl (by rw [← hn]; exact p12) (s_cons (op_indexAddrN (E := infoE) (xs := l) n Try.underlying26 Try.sizeOf65 rfl h_l rfl (by omega) (by omega) (fun a13 o14 p15 => ?_))))
  refine s_cons (op_fieldAddr (s := 0) Try.underlying65 rfl rfl Try.sizeOf3 rfl (s_cons (op_load1 (u := (iV ((l[n]'(by omega)).Id))) Try.isAgg3 rfl (p15.below hst.below) (s_cons (op_buildSlice (E := (intE .i64)) [(l[n]'(by omega)).Id] hst Try.underlying43 Try.sizeOf3 Try.zeroValue3 (evp_cons (v := (iV ((l[n]'(by omega)).Id))) rfl evp_nil) (parts_cons rfl parts_nil) rfl (by decide) (fun v16 w17 hst => ?_))))))
  refine s_cons (op_append (E := (intE .i64)) (xs := ((pickI l).take i)) (ys := [(l[n]'(by omega)).Id]) (z := (iV 0)) (bytes := 8) hst 1 rfl Try.underlying43 (by kernel_rfl) rfl rfl rfl (hst.sl 0 rfl) (by (simp only [List.length_cons, List.length_nil, List.length_take]; omega)) (by (simp only [List.length_cons, List.length_nil, List.length_take]; omega)) (fun v18 w19 hst => ?_))
  replace hst : St w0 w19 [rowT 3 (intE .i64) v16 ([(l[n]'(by omega)).Id]), rowT 3 (intE .i64) v18 ((pickI l).take (i + 1)), rowT 3 (intE .i64) r1 r2] := by rw [show (((pickI l).take i) ++ ([(l[n]'(by omega)).Id])) = ((pickI l).take (i + 1)) from (pick_snoc (by omega) (by omega) hen)] at hst; exact hst
  refine s_cons (op_assign v18 rfl (s_nil (block_n (then_n (cE_region rfl (s_cons (op_move (iV (i : Int)) q4_5 (s_cons (op_add (k := .i64) (a := (i : Int)) (b := 1) ((i : Int) + 1) rfl rfl (xi64 (by omega) (by omega)) (s_cons (op_assign (iV ((i : Int) + 1)) rfl (s_nil (then_n ?_)))))))))))))
  exact ⟨_, ⟨v18, (i + 1), rfl, q4_0, q4_2, q4_3, rfl, (congrArg iV (show ((i : Int) + 1) = _ from by omega)), (hst.sub (.cons _ (.cons_cons _ (.cons_cons _ .slnil)))), (by omega)⟩, (by simp only [id]; omega)⟩
 have c20 := of_decide_eq_false b8
 refine cE_cond false (congrArg Value.bool b8) (fun h => by cases h) (fun _ => ?_)
 refine cE_exit (then_x (then_x (block_hit (then_n (cE_seq ?_)))))
 have hT : (pickI l).take i = pickI l := take_all (by omega)
 replace hst : St w0 w7 [rowT 3 (intE .i64) vo (pickI l), rowT 3 (intE .i64) r1 r2] := by rw [hT] at hst; exact hst
 refine cE_region rfl (s_cons (op_move vo q4_4 (s_cons (op_assign vo rfl (s_nil (then_n (cE_ret (post_r _ (res1 (v := vo) rfl) ?_))))))))
 exact ⟨vo, rfl, hst.sub (.cons_cons _ (.cons _ .slnil))⟩

end Go.Proofs.Ythanfecefjfbjaa
