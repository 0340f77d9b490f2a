/- sums -/
import Derived.Test.YtgibfidebdgffaaDoorXLA
import Derived.Test.YtgibfidebdgffaaDoorXLB
import Derived.Test.YtgibfidebdgffaaDoorRows
namespace Go.Proofs.YtgibfidebdgffaaDoor
open Go.RowKit

set_option maxRecDepth 8000 in
theorem c_More (w0 : World) (s : Int) (v_b : Value) (b : List UInt8) (h_b : Sl w0 u8E v_b b) (h0 : 0 ≤ s) (h1 : s ≤ 4294967295) :
  Calls Tryd.prog 40 #[(.int .u32 s), v_b] w0 fun e w' => e = .returned (.int .u32 (more s b)) ∧ St w0 w' [] := by
 refine calls_E (n := 27) (ts := [4]) Tryd.func40 rfl rfl rfl (by simp) ?_
 have hst := St.start w0
 refine cE_seq (cE_region rfl (s_cons (op_assign (.int .u32 0) rfl (s_nil (then_n (cE_scope (cE_seq (cE_region rfl (s_cons (op_move (.int .u32 s) rfl (s_cons (op_conv (k := .u32) (a := s) s Tryd.underlying54 (by rw [Tryd.underlying48]; rfl) rfl (xu64 (by omega) (by omega)) (s_cons (op_rem (k := .u64) (a := s) (b := 4294967291) (s % 4294967291) rfl rfl (by omega) (tmod_nn (by omega)) ?_))))))))))))))
 refine s_cons (op_assign (.int .u64 (s % 4294967291)) rfl (s_nil (then_n (cE_seq (cE_label (then_n (cE_seq (cE_seq (cE_region rfl (s_cons (op_move v_b rfl (s_cons (op_len (E := u8E) (xs := b) Tryd.underlying29 rfl h_b (s_cons (op_move (iV 0) rfl (s_nil (then_n (cE_block (cE_loop (fun (m : Nat) (ρ : Env) (w : World) => ∃ (k : Nat), m = b.length - k ∧ ρ 0 = (.int .u32 s) ∧ ρ 1 = v_b ∧ ρ 4 = (.int .u32 0) ∧ ρ 11 = v_b ∧ ρ 12 = (iV (b.length : Int)) ∧ ρ 5 = (.int .u64 (more s (b.take k))) ∧ ρ 13 = (iV (k : Int)) ∧ St w0 w [] ∧ (k ≤ b.length)) id _ ⟨0, rfl, rfl, rfl, rfl, rfl, rfl, (congrArg (Value.int .u64) (show (s % 4294967291) = _ from by first | exact (more_zero s).symm | exact (more_succ s b k (by omega)).symm)), (congrArg iV (show 0 = _ from by omega)), hst, (by omega)⟩ ?_)))))))))))))))))))
 rintro m2 ρ3 w4 ⟨k, hm2, q1_0, q1_1, q1_4, q1_11, q1_12, q1_5, q1_13, hst, hk⟩
 have hm := more_range s (b.take k)
 have hl := h_b.len
 refine cE_seq (cE_region rfl (s_cons (op_lss (k := .i64) (a := (k : Int)) (b := (b.length : Int)) q1_13 q1_12 (s_nil (then_n (cE_seq ?_))))))
 rcases Bool.eq_false_or_eq_true (decide ((k : Int) < (b.length : Int))) with b5 | b5
 ·have c6 : (k : Int) < (b.length : Int) := of_decide_eq_true b5
  refine cE_cond true (congrArg Value.bool b5) (fun _ => ?_) (fun h => by cases h)
  refine cE_skip (then_n (cE_seq (cE_block (cE_seq (cE_region rfl (s_cons (op_indexAddrN (E := u8E) (xs := b) k Tryd.underlying29 Tryd.sizeOf5 q1_11 h_b q1_13 (by omega) (by omega) (fun a7 o8 p9 => ?_))))))))
  refine s_cons (op_load1 (u := (.int .u8 ((b[k]'(by omega)).toNat : Int))) Tryd.isAgg5 rfl (p9.below hst.below) ?_)
  have hu10 := u8_lt (b[k]'(by omega))
  refine s_cons (op_assign (.int .u8 ((b[k]'(by omega)).toNat : Int)) rfl (s_nil (then_n (cE_seq (cE_region rfl (s_cons (op_move (.int .u64 (more s (b.take k))) q1_5 (s_cons (op_mul (k := .u64) (a := (more s (b.take k))) (b := 257) ((more s (b.take k)) * 257) rfl rfl (xu64 (by omega) (by omega)) (s_cons (op_move (.int .u8 ((b[k]'(by omega)).toNat : Int)) rfl (s_cons (op_conv (k := .u8) (a := ((b[k]'(by omega)).toNat : Int)) ((b[k]'(by omega)).toNat : Int) Tryd.underlying54 (by rw [Tryd.underlying5]; rfl) rfl (xu64 (by omega) (by omega)) ?_)))))))))))))
  refine s_cons (op_add (k := .u64) (a := ((more s (b.take k)) * 257)) (b := ((b[k]'(by omega)).toNat : Int)) (((more s (b.take k)) * 257) + ((b[k]'(by omega)).toNat : Int)) rfl rfl (xu64 (by omega) (by omega)) (s_cons (op_add (k := .u64) (a := (((more s (b.take k)) * 257) + ((b[k]'(by omega)).toNat : Int))) (b := 1) ((((more s (b.take k)) * 257) + ((b[k]'(by omega)).toNat : Int)) + 1) rfl rfl (xu64 (by omega) (by omega)) ?_)))
  refine s_cons (op_rem (k := .u64) (a := ((((more s (b.take k)) * 257) + ((b[k]'(by omega)).toNat : Int)) + 1)) (b := 4294967291) (((((more s (b.take k)) * 257) + ((b[k]'(by omega)).toNat : Int)) + 1) % 4294967291) rfl rfl (by omega) (tmod_nn (by omega)) (s_cons (op_assign (.int .u64 (((((more s (b.take k)) * 257) + ((b[k]'(by omega)).toNat : Int)) + 1) % 4294967291)) rfl (s_nil (then_n ?_)))))
  refine cE_exit (block_hit (then_n (cE_region rfl (s_cons (op_add (k := .i64) (a := (k : Int)) (b := 1) ((k : Int) + 1) q1_13 rfl (xi64 (by omega) (by omega)) (s_cons (op_move (iV ((k : Int) + 1)) rfl (s_nil (then_n ?_)))))))))
  exact ⟨_, ⟨(k + 1), rfl, q1_0, q1_1, q1_4, q1_11, q1_12, (congrArg (Value.int .u64) (show (((((more s (b.take k)) * 257) + ((b[k]'(by omega)).toNat : Int)) + 1) % 4294967291) = _ from by first | exact (more_zero s).symm | exact (more_succ s b k (by omega)).symm)), (congrArg iV (show ((k : Int) + 1) = _ from by omega)), hst, (by omega)⟩, (by simp only [id]; omega)⟩
 have c11 : ¬ ((k : Int) < (b.length : Int)) := of_decide_eq_false b5
 refine cE_cond false (congrArg Value.bool b5) (fun h => by cases h) (fun _ => ?_)
 refine cE_exit (then_x (then_x (block_hit (then_n (cE_seq (cE_region rfl (s_cons (op_move (.int .u64 (more s (b.take k))) q1_5 (s_cons (op_conv (k := .u64) (a := (more s (b.take k))) (more s (b.take k)) Tryd.underlying48 (by rw [Tryd.underlying54]; rfl) rfl (xu32 (by omega) (by omega)) (s_cons (op_assign (.int .u32 (more s (b.take k))) rfl (s_nil (then_n (cE_ret (scope_r (post_r _ (res1 (v := (.int .u32 (more s (b.take k)))) rfl) ?_)))))))))))))))))
 exact ⟨congrArg _ (congrArg (Value.int .u32) (more_end s b _ (by omega))), hst.bare⟩

set_option maxRecDepth 8000 in
theorem c_Of (w0 : World) (v_b : Value) (b : List UInt8) (h_b : Sl w0 u8E v_b b) :
  Calls Tryd.prog 20 #[v_b] w0 fun e w' => e = .returned (.int .u32 (more 1 b)) ∧ St w0 w' [] := by
 refine calls_E (n := 5) (ts := [2]) Tryd.func20 rfl rfl rfl (by simp) ?_
 have hst := St.start w0
 refine cE_seq (cE_region rfl (s_cons (op_assign (.int .u32 0) rfl (s_nil (then_n (cE_seq (cE_region rfl (s_cons (op_move v_b rfl (s_cons (op_call Tryd.call40 (evs_cons (v := (.int .u32 1)) rfl (evs_cons (v := v_b) rfl evs_nil)) (c_More (w0 := w0) (s := 1) (v_b := v_b) (b := b) (h_b := (h_b.below hst.below)) (h0 := (by omega)) (h1 := (by omega))) ?_)))))))))))
 rintro _ w12 ⟨rfl, hcall⟩
 refine ⟨_, rfl, ?_⟩
 have hst : St w0 w12 [] := hst.call hcall
 refine s_cons (op_assign (.int .u32 (more 1 b)) rfl (s_nil (then_n (cE_ret (post_r _ (res1 (v := (.int .u32 (more 1 b))) rfl) ?_)))))
 exact ⟨rfl, hst.bare⟩

end Go.Proofs.YtgibfidebdgffaaDoor
