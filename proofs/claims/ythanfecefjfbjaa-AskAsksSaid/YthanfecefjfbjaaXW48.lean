/- twinkeepref17.has -/
import Derived.Test.YthanfecefjfbjaaXT
import Derived.Test.YthanfecefjfbjaaXLA
namespace Go.Proofs.Ythanfecefjfbjaa
open Go.RowKit

set_option maxRecDepth 8000 in
theorem c_has (w0 : World) (v_l : Value) (l : List Info) (h_l : Sl w0 infoE v_l l) (key : Int) :
  Calls Try.prog 29 #[v_l, (iV key)] w0 fun e w' => e = .returned (.bool (hasI l key)) ∧ St w0 w' [] := by
 refine calls_E (n := 19) (ts := [4]) Try.func29 rfl rfl rfl (by simp) ?_
 have hst := St.start w0
 refine cE_seq (cE_region rfl (s_cons (op_assign (.bool false) rfl (s_nil (then_n (cE_seq (cE_seq (cE_region rfl (s_cons (op_assign (iV 0) rfl (s_nil (then_n (cE_block (cE_loop (fun (m : Nat) (ρ : Env) (w : World) => ∃ (i : Nat), m = l.length - i ∧ ρ 0 = v_l ∧ ρ 1 = (iV key) ∧ ρ 5 = (iV (i : Int)) ∧ St w0 w [] ∧ (i ≤ l.length) ∧ (hasI l key = hasI (l.drop i) key)) id _ ⟨0, rfl, rfl, rfl, (congrArg iV (show 0 = _ from by omega)), hst, (by omega), (by rfl)⟩ ?_))))))))))))))
 rintro m2 ρ3 w4 ⟨i, hm2, q1_0, q1_1, q1_5, hst, hi, hI⟩
 have hlen := h_l.len
 refine cE_seq (cE_seq (cE_region rfl (s_cons (op_move (iV (i : Int)) q1_5 (s_cons (op_move v_l q1_0 (s_cons (op_len (E := infoE) (xs := l) Try.underlying26 rfl h_l (s_cons (op_lss (k := .i64) (a := (i : Int)) (b := (l.length : Int)) rfl rfl (s_nil (then_n ?_))))))))))))
 rcases Bool.eq_false_or_eq_true (decide ((i : Int) < (l.length : Int))) with b5 | b5
 ·have c6 := of_decide_eq_true b5
  refine cE_cond true (congrArg Value.bool b5) (fun _ => ?_) (fun h => by cases h)
  refine cE_skip (then_n (cE_seq (cE_block (cE_seq (cE_region rfl (s_cons (op_move v_l q1_0 (s_cons (op_move (iV (i : Int)) q1_5 (s_cons (op_indexAddrN (E := infoE) (xs := l) i Try.underlying26 Try.sizeOf65 rfl h_l rfl (by omega) (by omega) (fun a7 o8 p9 => ?_))))))))))))
  refine s_cons (op_fieldAddr (s := 0) Try.underlying65 rfl rfl Try.sizeOf3 rfl (s_cons (op_load1 (u := (iV ((l[i]'(by omega)).Id))) Try.isAgg3 rfl (p9.below hst.below) (s_cons (op_move (iV key) q1_1 (s_cons (op_eql (k := .i64) (a := (l[i]'(by omega)).Id) (b := key) rfl rfl (s_nil (then_n ?_)))))))))
  rcases Bool.eq_false_or_eq_true (decide (((l[i]'(by omega)).Id) = key)) with b10 | b10
  ·have c11 := of_decide_eq_true b10
   refine cE_cond true (congrArg Value.bool b10) (fun _ => ?_) (fun h => by cases h)
   refine cE_seq (cE_region rfl (s_cons (op_assign (.bool true) rfl (s_nil (then_n (cE_ret (block_r (then_r (then_r (block_r (then_r (post_r _ (res1 (v := (.bool true)) rfl) ?_))))))))))))
   exact ⟨(retv1 (congrArg Value.bool (show true = (hasI l key) from by exact (hI.trans (has_at (by omega) (by assumption))).symm))), hst.bare⟩
  have c12 := of_decide_eq_false b10
  refine cE_cond false (congrArg Value.bool b10) (fun h => by cases h) (fun _ => ?_)
  refine cE_skip (block_n (then_n (cE_region rfl (s_cons (op_move (iV (i : Int)) q1_5 (s_cons (op_add (k := .i64) (a := (i : Int)) (b := 1) ((i : Int) + 1) rfl rfl (xi64 (by omega) (by omega)) (s_cons (op_assign (iV ((i : Int) + 1)) rfl (s_nil (then_n ?_)))))))))))
  exact ⟨_, ⟨(i + 1), rfl, q1_0, q1_1, (congrArg iV (show ((i : Int) + 1) = _ from by omega)), hst, (by omega), (by exact hI.trans (has_go (by omega) (by assumption)))⟩, (by simp only [id]; omega)⟩
 have c13 := of_decide_eq_false b5
 refine cE_cond false (congrArg Value.bool b5) (fun h => by cases h) (fun _ => ?_)
 refine cE_exit (then_x (then_x (block_hit (then_n (cE_seq (cE_region rfl (s_cons (op_assign (.bool false) rfl (s_nil (then_n (cE_ret (post_r _ (res1 (v := (.bool false)) rfl) ?_))))))))))))
 exact ⟨(retv1 (congrArg Value.bool (show false = (hasI l key) from by exact (hI.trans (has_end (by omega))).symm))), hst.bare⟩

end Go.Proofs.Ythanfecefjfbjaa
