/- checksums -/
import Derived.Test.YtfljkaigfmedeaaFB
import Derived.Test.YtfljkaigfmedeaaRows
namespace Go.Proofs.Ytfljkaigfmedeaa
open Go.RowKit

theorem c_More (w0 : World) (s : Int) (v_b : Value) (b : List UInt8) (h_b : Sl w0 u8E v_b b) (h0 : 0 ≤ s) (h1 : s ≤ 4294967295) :
    Calls Try.prog 30 #[(.int .u32 s), v_b] w0 fun e w' => e = .returned (.int .u32 (more s b)) ∧ St w0 w' [] := by
  refine calls_E (n := 27) (ts := [4]) Try.func30 rfl rfl rfl (by simp) ?_
  have hst := St.start w0
  refine cE_seq ?_
  refine cE_region rfl ?_
  refine s_cons (op_assign (.int .u32 0) rfl ?_)
  refine s_nil ?_
  refine then_n ?_
  refine cE_scope ?_
  refine cE_seq ?_
  refine cE_region rfl ?_
  refine s_cons (op_move (.int .u32 s) rfl ?_)
  refine s_cons (op_conv (k := .u32) (a := s) s Try.underlying41 (by rw [Try.underlying42]; rfl) rfl (xu64 (by omega) (by omega)) ?_)
  refine s_cons (op_rem (k := .u64) (a := s) (b := 4294967291) (s % 4294967291) rfl rfl (by omega) (tmod_nn (by omega)) ?_)
  refine s_cons (op_assign (.int .u64 (s % 4294967291)) rfl ?_)
  refine s_nil ?_
  refine then_n ?_
  refine cE_seq ?_
  refine cE_label ?_
  refine then_n ?_
  refine cE_seq ?_
  refine cE_seq ?_
  refine cE_region rfl ?_
  refine s_cons (op_move v_b rfl ?_)
  refine s_cons (op_len (E := u8E) (xs := b) Try.underlying23 rfl h_b ?_)
  refine s_cons (op_move (.int .i64 0) rfl ?_)
  refine s_nil ?_
  refine then_n ?_
  refine cE_block ?_
  refine cE_loop (fun (m : Nat) (ρ : Env) (w : World) => ∃ (k : Nat), m = b.length - k ∧ ρ 0 = (.int .u32 s) ∧ ρ 1 = v_b ∧ ρ 4 = (.int .u32 0) ∧ ρ 8 = (.int .u32 s) ∧ ρ 9 = (.int .u64 s) ∧ ρ 10 = (.int .u64 (s % 4294967291)) ∧ ρ 11 = v_b ∧ ρ 12 = (.int .i64 (b.length : Int)) ∧ ρ 5 = (.int .u64 (more s (b.take k))) ∧ ρ 13 = (.int .i64 (k : Int)) ∧ St w0 w [] ∧ k ≤ b.length) id _ ⟨0, rfl, rfl, rfl, rfl, rfl, rfl, rfl, rfl, rfl, (congrArg (Value.int .u64) (show (s % 4294967291) = _ from by first | exact (more_zero s).symm | exact (more_succ s b k (by omega)).symm)), (congrArg (Value.int .i64) (show 0 = _ from by omega)), hst, (by omega)⟩ ?_
  rintro m2 ρ3 w4 ⟨k, hm2, q1_0, q1_1, q1_4, q1_8, q1_9, q1_10, q1_11, q1_12, q1_5, q1_13, hst, hk⟩
  have hm := more_range s (b.take k)
  have hl := h_b.len
  refine cE_seq ?_
  refine cE_region rfl ?_
  refine s_cons (op_lss (k := .i64) (a := (k : Int)) (b := (b.length : Int)) q1_13 q1_12 ?_)
  refine s_nil ?_
  refine then_n ?_
  refine cE_seq ?_
  rcases Bool.eq_false_or_eq_true (decide ((k : Int) < (b.length : Int))) with b5 | b5
  · have c6 : (k : Int) < (b.length : Int) := of_decide_eq_true b5
    refine cE_cond true (congrArg Value.bool b5) (fun _ => ?_) (fun h => by cases h)
    refine cE_skip ?_
    refine then_n ?_
    refine cE_seq ?_
    refine cE_block ?_
    refine cE_seq ?_
    refine cE_region rfl ?_
    refine s_cons (op_indexAddrN (E := u8E) (xs := b) k Try.underlying23 Try.sizeOf5 q1_11 h_b q1_13 (by omega) (by omega) (fun a7 o8 p9 => ?_))
    refine s_cons (op_load1 (u := (.int .u8 ((b[k]'(by omega)).toNat : Int))) Try.isAgg5 rfl (p9.below hst.below) ?_)
    have hu10 := u8_lt (b[k]'(by omega))
    refine s_cons (op_assign (.int .u8 ((b[k]'(by omega)).toNat : Int)) rfl ?_)
    refine s_nil ?_
    refine then_n ?_
    refine cE_seq ?_
    refine cE_region rfl ?_
    refine s_cons (op_move (.int .u64 (more s (b.take k))) q1_5 ?_)
    refine s_cons (op_mul (k := .u64) (a := (more s (b.take k))) (b := 257) ((more s (b.take k)) * 257) rfl rfl (xu64 (by omega) (by omega)) ?_)
    refine s_cons (op_move (.int .u8 ((b[k]'(by omega)).toNat : Int)) rfl ?_)
    refine s_cons (op_conv (k := .u8) (a := ((b[k]'(by omega)).toNat : Int)) ((b[k]'(by omega)).toNat : Int) Try.underlying41 (by rw [Try.underlying5]; rfl) rfl (xu64 (by omega) (by omega)) ?_)
    refine s_cons (op_add (k := .u64) (a := ((more s (b.take k)) * 257)) (b := ((b[k]'(by omega)).toNat : Int)) (((more s (b.take k)) * 257) + ((b[k]'(by omega)).toNat : Int)) rfl rfl (xu64 (by omega) (by omega)) ?_)
    refine s_cons (op_add (k := .u64) (a := (((more s (b.take k)) * 257) + ((b[k]'(by omega)).toNat : Int))) (b := 1) ((((more s (b.take k)) * 257) + ((b[k]'(by omega)).toNat : Int)) + 1) rfl rfl (xu64 (by omega) (by omega)) ?_)
    refine s_cons (op_rem (k := .u64) (a := ((((more s (b.take k)) * 257) + ((b[k]'(by omega)).toNat : Int)) + 1)) (b := 4294967291) (((((more s (b.take k)) * 257) + ((b[k]'(by omega)).toNat : Int)) + 1) % 4294967291) rfl rfl (by omega) (tmod_nn (by omega)) ?_)
    refine s_cons (op_assign (.int .u64 (((((more s (b.take k)) * 257) + ((b[k]'(by omega)).toNat : Int)) + 1) % 4294967291)) rfl ?_)
    refine s_nil ?_
    refine then_n ?_
    refine cE_exit ?_
    refine block_hit (then_n ?_)
    refine cE_region rfl ?_
    refine s_cons (op_add (k := .i64) (a := (k : Int)) (b := 1) ((k : Int) + 1) q1_13 rfl (xi64 (by omega) (by omega)) ?_)
    refine s_cons (op_move (.int .i64 ((k : Int) + 1)) rfl ?_)
    refine s_nil ?_
    refine then_n ?_
    exact ⟨_, ⟨(k + 1), rfl, q1_0, q1_1, q1_4, q1_8, q1_9, q1_10, q1_11, q1_12, (congrArg (Value.int .u64) (show (((((more s (b.take k)) * 257) + ((b[k]'(by omega)).toNat : Int)) + 1) % 4294967291) = _ from by first | exact (more_zero s).symm | exact (more_succ s b k (by omega)).symm)), (congrArg (Value.int .i64) (show ((k : Int) + 1) = _ from by omega)), hst, (by omega)⟩, (by simp only [id]; omega)⟩
  · have c11 : ¬ ((k : Int) < (b.length : Int)) := of_decide_eq_false b5
    refine cE_cond false (congrArg Value.bool b5) (fun h => by cases h) (fun _ => ?_)
    refine cE_exit ?_
    refine then_x (then_x (block_hit (then_n ?_)))
    refine cE_seq ?_
    refine cE_region rfl ?_
    refine s_cons (op_move (.int .u64 (more s (b.take k))) q1_5 ?_)
    refine s_cons (op_conv (k := .u64) (a := (more s (b.take k))) (more s (b.take k)) Try.underlying42 (by rw [Try.underlying41]; rfl) rfl (xu32 (by omega) (by omega)) ?_)
    refine s_cons (op_assign (.int .u32 (more s (b.take k))) rfl ?_)
    refine s_nil ?_
    refine then_n ?_
    refine cE_ret ?_
    refine scope_r ?_
    refine post_r _ (res1 (v := (.int .u32 (more s (b.take k)))) rfl) ?_
    exact ⟨congrArg _ (congrArg (Value.int .u32) (more_end s b _ (by omega))), hst.bare⟩

theorem c_rMore (w0 : World) (s : Int) (b : List UInt8) (h0 : 0 ≤ s) (h1 : s ≤ 4294967295) (hl : b.length ≤ 9223372036854775807) :
    Calls Try.prog 31 #[(.int .u32 s), (.string (str b))] w0 fun e w' => e = .returned (.int .u32 (more s b)) ∧ St w0 w' [] := by
  refine calls_E (n := 27) (ts := [4]) Try.func31 rfl rfl rfl (by simp) ?_
  have hst := St.start w0
  refine cE_seq ?_
  refine cE_region rfl ?_
  refine s_cons (op_assign (.int .u32 0) rfl ?_)
  refine s_nil ?_
  refine then_n ?_
  refine cE_seq ?_
  refine cE_region rfl ?_
  refine s_cons (op_move (.int .u32 s) rfl ?_)
  refine s_cons (op_conv (k := .u32) (a := s) s Try.underlying41 (by rw [Try.underlying42]; rfl) rfl (xu64 (by omega) (by omega)) ?_)
  refine s_cons (op_rem (k := .u64) (a := s) (b := 4294967291) (s % 4294967291) rfl rfl (by omega) (tmod_nn (by omega)) ?_)
  refine s_cons (op_assign (.int .u64 (s % 4294967291)) rfl ?_)
  refine s_nil ?_
  refine then_n ?_
  refine cE_seq ?_
  refine cE_seq ?_
  refine cE_region rfl ?_
  refine s_cons (op_assign (.int .i64 0) rfl ?_)
  refine s_nil ?_
  refine then_n ?_
  refine cE_block ?_
  refine cE_loop (fun (m : Nat) (ρ : Env) (w : World) => ∃ (k : Nat), m = b.length - k ∧ ρ 0 = (.int .u32 s) ∧ ρ 1 = (.string (str b)) ∧ ρ 4 = (.int .u32 0) ∧ ρ 7 = (.int .u32 s) ∧ ρ 8 = (.int .u64 s) ∧ ρ 9 = (.int .u64 (s % 4294967291)) ∧ ρ 5 = (.int .u64 (more s (b.take k))) ∧ ρ 6 = (.int .i64 (k : Int)) ∧ St w0 w [] ∧ k ≤ b.length) id _ ⟨0, rfl, rfl, rfl, rfl, rfl, rfl, rfl, (congrArg (Value.int .u64) (show (s % 4294967291) = _ from by first | exact (more_zero s).symm | exact (more_succ s b k (by omega)).symm)), (congrArg (Value.int .i64) (show 0 = _ from by omega)), hst, (by omega)⟩ ?_
  rintro m13 ρ14 w15 ⟨k, hm13, q12_0, q12_1, q12_4, q12_7, q12_8, q12_9, q12_5, q12_6, hst, hk⟩
  have hm := more_range s (b.take k)
  refine cE_seq ?_
  refine cE_seq ?_
  refine cE_region rfl ?_
  refine s_cons (op_move (.int .i64 (k : Int)) q12_6 ?_)
  refine s_cons (op_move (.string (str b)) q12_1 ?_)
  refine s_cons (op_lenL Try.underlying9 (s := b) rfl ?_)
  refine s_cons (op_lss (k := .i64) (a := (k : Int)) (b := (b.length : Int)) rfl rfl ?_)
  refine s_nil ?_
  refine then_n ?_
  rcases Bool.eq_false_or_eq_true (decide ((k : Int) < (b.length : Int))) with b16 | b16
  · have c17 : (k : Int) < (b.length : Int) := of_decide_eq_true b16
    refine cE_cond true (congrArg Value.bool b16) (fun _ => ?_) (fun h => by cases h)
    refine cE_skip ?_
    refine then_n ?_
    refine cE_seq ?_
    refine cE_block ?_
    refine cE_region rfl ?_
    refine s_cons (op_move (.int .u64 (more s (b.take k))) q12_5 ?_)
    refine s_cons (op_mul (k := .u64) (a := (more s (b.take k))) (b := 257) ((more s (b.take k)) * 257) rfl rfl (xu64 (by omega) (by omega)) ?_)
    refine s_cons (op_move (.string (str b)) q12_1 ?_)
    refine s_cons (op_move (.int .i64 (k : Int)) q12_6 ?_)
    refine s_cons (op_index_strN (s := b) k Try.underlying9 rfl rfl (by omega) (by omega) ?_)
    have hu18 := u8_lt (b[k]'(by omega))
    refine s_cons (op_conv (k := .u8) (a := ((b[k]'(by omega)).toNat : Int)) ((b[k]'(by omega)).toNat : Int) Try.underlying41 (by rw [Try.underlying5]; rfl) rfl (xu64 (by omega) (by omega)) ?_)
    refine s_cons (op_add (k := .u64) (a := ((more s (b.take k)) * 257)) (b := ((b[k]'(by omega)).toNat : Int)) (((more s (b.take k)) * 257) + ((b[k]'(by omega)).toNat : Int)) rfl rfl (xu64 (by omega) (by omega)) ?_)
    refine s_cons (op_add (k := .u64) (a := (((more s (b.take k)) * 257) + ((b[k]'(by omega)).toNat : Int))) (b := 1) ((((more s (b.take k)) * 257) + ((b[k]'(by omega)).toNat : Int)) + 1) rfl rfl (xu64 (by omega) (by omega)) ?_)
    refine s_cons (op_rem (k := .u64) (a := ((((more s (b.take k)) * 257) + ((b[k]'(by omega)).toNat : Int)) + 1)) (b := 4294967291) (((((more s (b.take k)) * 257) + ((b[k]'(by omega)).toNat : Int)) + 1) % 4294967291) rfl rfl (by omega) (tmod_nn (by omega)) ?_)
    refine s_cons (op_assign (.int .u64 (((((more s (b.take k)) * 257) + ((b[k]'(by omega)).toNat : Int)) + 1) % 4294967291)) rfl ?_)
    refine s_nil ?_
    refine block_n (then_n ?_)
    refine cE_region rfl ?_
    refine s_cons (op_move (.int .i64 (k : Int)) q12_6 ?_)
    refine s_cons (op_add (k := .i64) (a := (k : Int)) (b := 1) ((k : Int) + 1) rfl rfl (xi64 (by omega) (by omega)) ?_)
    refine s_cons (op_assign (.int .i64 ((k : Int) + 1)) rfl ?_)
    refine s_nil ?_
    refine then_n ?_
    exact ⟨_, ⟨(k + 1), rfl, q12_0, q12_1, q12_4, q12_7, q12_8, q12_9, (congrArg (Value.int .u64) (show (((((more s (b.take k)) * 257) + ((b[k]'(by omega)).toNat : Int)) + 1) % 4294967291) = _ from by first | exact (more_zero s).symm | exact (more_succ s b k (by omega)).symm)), (congrArg (Value.int .i64) (show ((k : Int) + 1) = _ from by omega)), hst, (by omega)⟩, (by simp only [id]; omega)⟩
  · have c19 : ¬ ((k : Int) < (b.length : Int)) := of_decide_eq_false b16
    refine cE_cond false (congrArg Value.bool b16) (fun h => by cases h) (fun _ => ?_)
    refine cE_exit ?_
    refine then_x (then_x (block_hit (then_n ?_)))
    refine cE_seq ?_
    refine cE_region rfl ?_
    refine s_cons (op_move (.int .u64 (more s (b.take k))) q12_5 ?_)
    refine s_cons (op_conv (k := .u64) (a := (more s (b.take k))) (more s (b.take k)) Try.underlying42 (by rw [Try.underlying41]; rfl) rfl (xu32 (by omega) (by omega)) ?_)
    refine s_cons (op_assign (.int .u32 (more s (b.take k))) rfl ?_)
    refine s_nil ?_
    refine then_n ?_
    refine cE_ret ?_
    refine post_r _ (res1 (v := (.int .u32 (more s (b.take k)))) rfl) ?_
    exact ⟨congrArg _ (congrArg (Value.int .u32) (more_end s b _ (by omega))), hst.bare⟩

theorem c_Of (w0 : World) (v_b : Value) (b : List UInt8) (h_b : Sl w0 u8E v_b b) :
    Calls Try.prog 18 #[v_b] w0 fun e w' => e = .returned (.int .u32 (more 1 b)) ∧ St w0 w' [] := by
  refine calls_E (n := 5) (ts := [2]) Try.func18 rfl rfl rfl (by simp) ?_
  have hst := St.start w0
  refine cE_seq ?_
  refine cE_region rfl ?_
  refine s_cons (op_assign (.int .u32 0) rfl ?_)
  refine s_nil ?_
  refine then_n ?_
  refine cE_seq ?_
  refine cE_region rfl ?_
  refine s_cons (op_move v_b rfl ?_)
  refine s_cons (op_call Try.call30 (evs_cons (v := (.int .u32 1)) rfl (evs_cons (v := v_b) rfl evs_nil)) (c_More (w0 := w0) (s := 1) (v_b := v_b) (b := b) (h_b := (h_b.below hst.below)) (h0 := (by omega)) (h1 := (by omega))) ?_)
  rintro _ w20 ⟨rfl, hcall⟩
  refine ⟨_, rfl, ?_⟩
  have hst : St w0 w20 [] := hst.call hcall
  refine s_cons (op_assign (.int .u32 (more 1 b)) rfl ?_)
  refine s_nil ?_
  refine then_n ?_
  refine cE_ret ?_
  refine post_r _ (res1 (v := (.int .u32 (more 1 b))) rfl) ?_
  exact ⟨rfl, hst.bare⟩

theorem c_rOf (w0 : World) (b : List UInt8) (hl : b.length ≤ 9223372036854775807) :
    Calls Try.prog 25 #[(.string (str b))] w0 fun e w' => e = .returned (.int .u32 (more 1 b)) ∧ St w0 w' [] := by
  refine calls_E (n := 5) (ts := [2]) Try.func25 rfl rfl rfl (by simp) ?_
  have hst := St.start w0
  refine cE_seq ?_
  refine cE_region rfl ?_
  refine s_cons (op_assign (.int .u32 0) rfl ?_)
  refine s_nil ?_
  refine then_n ?_
  refine cE_seq ?_
  refine cE_region rfl ?_
  refine s_cons (op_move (.string (str b)) rfl ?_)
  refine s_cons (op_call Try.call31 (evs_cons (v := (.int .u32 1)) rfl (evs_cons (v := (.string (str b))) rfl evs_nil)) (c_rMore (w0 := w0) (s := 1) (b := b) (h0 := (by omega)) (h1 := (by omega)) (hl := (by omega))) ?_)
  rintro _ w21 ⟨rfl, hcall⟩
  refine ⟨_, rfl, ?_⟩
  have hst : St w0 w21 [] := hst.call hcall
  refine s_cons (op_assign (.int .u32 (more 1 b)) rfl ?_)
  refine s_nil ?_
  refine then_n ?_
  refine cE_ret ?_
  refine post_r _ (res1 (v := (.int .u32 (more 1 b))) rfl) ?_
  exact ⟨rfl, hst.bare⟩

end Go.Proofs.Ytfljkaigfmedeaa
