/- numbers as bytes -/
import Derived.Test.YtpamjfbdgaamoaaFB
import Derived.Test.YtpamjfbdgaamoaaRows
namespace Go.Proofs.Ytpamjfbdgaamoaa
open Go.RowKit

theorem c_Put (w0 : World) (n : Int) (h0 : 0 ≤ n) (h1 : n ≤ 18446744073709551615) :
    Calls Try.prog 22 #[(.int .u64 n)] w0 fun e w' => ∃ (r : Value), e = .returned r ∧ St w0 w' [rowT 5 u8E r (put n)] := by
  obtain ⟨m0, hn0, hp0, hm0⟩ := put_start h0 h1
  refine calls_E (n := 19) (ts := [2]) Try.func22 rfl rfl rfl (by simp) ?_
  have hst := St.start w0
  refine cE_seq ?_
  refine cE_region rfl ?_
  refine s_cons (op_assign (.slice none 0 0) rfl ?_)
  refine s_nil ?_
  refine then_n ?_
  refine cE_seq ?_
  refine cE_region rfl ?_
  refine s_cons (op_assign (.slice none 0 0) rfl ?_)
  refine s_nil ?_
  refine then_n ?_
  refine cE_seq ?_
  refine cE_block ?_
  replace hst : St w0 w0 [rowT 5 u8E (.slice none 0 0) ([])] := hst.nilRow 5 u8E
  refine cE_loop (fun (m : Nat) (ρ : Env) (w : World) => ∃ (v : Value) (done : List UInt8) (f : Nat) (m1 : Nat), m = f ∧ ρ 2 = (.slice none 0 0) ∧ ρ 0 = (.int .u64 (m1 : Int)) ∧ ρ 3 = v ∧ St w0 w [rowT 5 u8E v done] ∧ (put n = done ++ putF f m1) ∧ (m1 < 128 ^ (f + 1)) ∧ (m1 ≤ 18446744073709551615) ∧ (done.length + f ≤ 9)) id _ ⟨(.slice none 0 0), [], 9, m0, rfl, rfl, (congrArg (Value.int .u64) (show n = _ from by omega)), rfl, hst, (by first | exact hp0 | exact hp2), (by first | exact hm0 | exact hm2), (by omega), (by simp; try omega)⟩ ?_
  rintro m2 ρ3 w4 ⟨v, done, f, m1, hm2, q1_2, q1_0, q1_3, hst, hput, hm1, hm64, hdl⟩
  refine cE_seq ?_
  refine cE_seq ?_
  refine cE_region rfl ?_
  refine s_cons (op_move (.int .u64 (m1 : Int)) q1_0 ?_)
  refine s_cons (op_geq (k := .u64) (a := (m1 : Int)) (b := 128) rfl rfl ?_)
  refine s_nil ?_
  refine then_n ?_
  rcases Bool.eq_false_or_eq_true (decide (128 ≤ (m1 : Int))) with b5 | b5
  · have c6 : 128 ≤ (m1 : Int) := of_decide_eq_true b5
    refine cE_cond true (congrArg Value.bool b5) (fun _ => ?_) (fun h => by cases h)
    refine cE_skip ?_
    refine then_n ?_
    refine cE_block ?_
    refine cE_seq ?_
    refine cE_region rfl ?_
    refine s_cons (op_move v q1_3 ?_)
    refine s_cons (op_move (.int .u64 (m1 : Int)) q1_0 ?_)
    refine s_cons (op_conv (k := .u64) (a := (m1 : Int)) ((m1 : Int) % 256) Try.underlying5 (by rw [Try.underlying54]; rfl) rfl (IntKind.wrap_u8 _) ?_)
    refine s_cons (op_or (k := .u8) (a := ((m1 : Int) % 256)) (b := 128) (((m1 : Int) % 256) % 128 + 128) rfl rfl (or128 (by omega) (by omega)) ?_)
    refine s_cons (op_buildSlice (E := u8E) [(byt (((m1 : Int) % 256) % 128 + 128))] hst Try.underlying24 Try.sizeOf5 Try.zeroValue5 (evp_cons (v := (.int .u8 (((m1 : Int) % 256) % 128 + 128))) rfl evp_nil) (parts_cons (by rw [u8cell]; exact byt_cell (by omega) (by omega)) parts_nil) rfl (by decide) (fun v7 w8 hst => ?_))
    replace hst : St w0 w8 [rowT 5 u8E v7 ([(byt (((m1 : Int) % 256) % 128 + 128))]), rowT 5 u8E v done] := hst
    refine s_cons (op_append (E := u8E) (xs := done) (ys := [(byt (((m1 : Int) % 256) % 128 + 128))]) (z := (.int .u8 0)) (bytes := 1) hst 1 rfl Try.underlying24 (by kernel_rfl) rfl rfl rfl (hst.sl 0 rfl) (by first | omega | (simp; omega) | (simp; done)) (by first | omega | (simp; omega) | (simp; done)) (fun v9 w10 hst => ?_))
    replace hst : St w0 w10 [rowT 5 u8E v7 ([(byt (((m1 : Int) % 256) % 128 + 128))]), rowT 5 u8E v9 (done ++ ([(byt (((m1 : Int) % 256) % 128 + 128))]))] := hst
    refine s_cons (op_assign v9 rfl ?_)
    refine s_nil ?_
    refine then_n ?_
    refine cE_region rfl ?_
    refine s_cons (op_move (.int .u64 (m1 : Int)) q1_0 ?_)
    refine s_cons (op_shr (k := .u64) (k' := .u64) (a := (m1 : Int)) (b := 7) ((m1 : Int) / 128) rfl rfl (by omega) (by simp [IntKind.bits]; try omega) shr7 ?_)
    refine s_cons (op_assign (.int .u64 ((m1 : Int) / 128)) rfl ?_)
    refine s_nil ?_
    refine block_n (then_n ?_)
    obtain ⟨f2, rfl, hp2, hm2⟩ := putF_next (by omega) hm1 hput
    exact ⟨_, ⟨v9, (done ++ ([(byt (((m1 : Int) % 256) % 128 + 128))])), f2, (m1 / 128), rfl, q1_2, (congrArg (Value.int .u64) (show ((m1 : Int) / 128) = _ from by omega)), rfl, (hst.sub (.cons _ (.cons_cons _ .slnil))), (by first | exact hp0 | exact hp2), (by first | exact hm0 | exact hm2), (by omega), (by simp; try omega)⟩, (by simp only [id]; omega)⟩
  have c11 : ¬ (128 ≤ (m1 : Int)) := of_decide_eq_false b5
  refine cE_cond false (congrArg Value.bool b5) (fun h => by cases h) (fun _ => ?_)
  refine cE_exit ?_
  refine then_x (then_x (block_hit (then_n ?_)))
  refine cE_seq ?_
  refine cE_region rfl ?_
  refine s_cons (op_move v q1_3 ?_)
  refine s_cons (op_move (.int .u64 (m1 : Int)) q1_0 ?_)
  refine s_cons (op_conv (k := .u64) (a := (m1 : Int)) ((m1 : Int) % 256) Try.underlying5 (by rw [Try.underlying54]; rfl) rfl (IntKind.wrap_u8 _) ?_)
  refine s_cons (op_buildSlice (E := u8E) [(byt ((m1 : Int) % 256))] hst Try.underlying24 Try.sizeOf5 Try.zeroValue5 (evp_cons (v := (.int .u8 ((m1 : Int) % 256))) rfl evp_nil) (parts_cons (by rw [u8cell]; exact byt_cell (by omega) (by omega)) parts_nil) rfl (by decide) (fun v12 w13 hst => ?_))
  replace hst : St w0 w13 [rowT 5 u8E v12 ([(byt ((m1 : Int) % 256))]), rowT 5 u8E v done] := hst
  refine s_cons (op_append (E := u8E) (xs := done) (ys := [(byt ((m1 : Int) % 256))]) (z := (.int .u8 0)) (bytes := 1) hst 1 rfl Try.underlying24 (by kernel_rfl) rfl rfl rfl (hst.sl 0 rfl) (by first | omega | (simp; omega) | (simp; done)) (by first | omega | (simp; omega) | (simp; done)) (fun v14 w15 hst => ?_))
  replace hst : St w0 w15 [rowT 5 u8E v12 ([(byt ((m1 : Int) % 256))]), rowT 5 u8E v14 (done ++ ([(byt ((m1 : Int) % 256))]))] := hst
  refine s_cons (op_assign v14 rfl ?_)
  refine s_nil ?_
  refine then_n ?_
  refine cE_ret ?_
  refine post_r _ (res1 (v := v14) rfl) ?_
  have e16 : (done ++ ([(byt ((m1 : Int) % 256))])) = (put n) := by exact putF_last (by omega) hput
  replace hst : St w0 w15 [rowT 5 u8E v12 ([(byt ((m1 : Int) % 256))]), rowT 5 u8E v14 (put n)] := by rw [congrArg (fun l => rowT 5 u8E v14 l) e16] at hst; exact hst
  exact ⟨v14, rfl, hst.sub (.cons _ (.cons_cons _ .slnil))⟩

theorem c_rPut (w0 : World) (n : Int) (h0 : 0 ≤ n) (h1 : n ≤ 18446744073709551615) :
    Calls Try.prog 25 #[(.int .u64 n)] w0 fun e w' => e = .returned (.string (str (put n))) ∧ St w0 w' [] := by
  obtain ⟨m0, hn0, hp0, hm0⟩ := put_start h0 h1
  refine calls_E (n := 20) (ts := [2]) Try.func25 rfl rfl rfl (by simp) ?_
  have hst := St.start w0
  refine cE_seq ?_
  refine cE_region rfl ?_
  refine s_cons (op_assign (.string (str ([] : List UInt8))) rfl ?_)
  refine s_nil ?_
  refine then_n ?_
  refine cE_seq ?_
  refine cE_region rfl ?_
  refine s_cons (op_assign (.slice none 0 0) rfl ?_)
  refine s_nil ?_
  refine then_n ?_
  refine cE_seq ?_
  refine cE_block ?_
  replace hst : St w0 w0 [rowT 5 u8E (.slice none 0 0) ([])] := hst.nilRow 5 u8E
  refine cE_loop (fun (m : Nat) (ρ : Env) (w : World) => ∃ (v : Value) (done : List UInt8) (f : Nat) (m1 : Nat), m = f ∧ ρ 2 = (.string (str ([] : List UInt8))) ∧ ρ 0 = (.int .u64 (m1 : Int)) ∧ ρ 3 = v ∧ St w0 w [rowT 5 u8E v done] ∧ (put n = done ++ putF f m1) ∧ (m1 < 128 ^ (f + 1)) ∧ (m1 ≤ 18446744073709551615) ∧ (done.length + f ≤ 9)) id _ ⟨(.slice none 0 0), [], 9, m0, rfl, rfl, (congrArg (Value.int .u64) (show n = _ from by omega)), rfl, hst, (by first | exact hp0 | exact hp2), (by first | exact hm0 | exact hm2), (by omega), (by simp; try omega)⟩ ?_
  rintro m18 ρ19 w20 ⟨v, done, f, m1, hm18, q17_2, q17_0, q17_3, hst, hput, hm1, hm64, hdl⟩
  refine cE_seq ?_
  refine cE_seq ?_
  refine cE_region rfl ?_
  refine s_cons (op_move (.int .u64 (m1 : Int)) q17_0 ?_)
  refine s_cons (op_geq (k := .u64) (a := (m1 : Int)) (b := 128) rfl rfl ?_)
  refine s_nil ?_
  refine then_n ?_
  rcases Bool.eq_false_or_eq_true (decide (128 ≤ (m1 : Int))) with b21 | b21
  · have c22 : 128 ≤ (m1 : Int) := of_decide_eq_true b21
    refine cE_cond true (congrArg Value.bool b21) (fun _ => ?_) (fun h => by cases h)
    refine cE_skip ?_
    refine then_n ?_
    refine cE_block ?_
    refine cE_seq ?_
    refine cE_region rfl ?_
    refine s_cons (op_move v q17_3 ?_)
    refine s_cons (op_move (.int .u64 (m1 : Int)) q17_0 ?_)
    refine s_cons (op_conv (k := .u64) (a := (m1 : Int)) ((m1 : Int) % 256) Try.underlying5 (by rw [Try.underlying54]; rfl) rfl (IntKind.wrap_u8 _) ?_)
    refine s_cons (op_or (k := .u8) (a := ((m1 : Int) % 256)) (b := 128) (((m1 : Int) % 256) % 128 + 128) rfl rfl (or128 (by omega) (by omega)) ?_)
    refine s_cons (op_buildSlice (E := u8E) [(byt (((m1 : Int) % 256) % 128 + 128))] hst Try.underlying24 Try.sizeOf5 Try.zeroValue5 (evp_cons (v := (.int .u8 (((m1 : Int) % 256) % 128 + 128))) rfl evp_nil) (parts_cons (by rw [u8cell]; exact byt_cell (by omega) (by omega)) parts_nil) rfl (by decide) (fun v23 w24 hst => ?_))
    replace hst : St w0 w24 [rowT 5 u8E v23 ([(byt (((m1 : Int) % 256) % 128 + 128))]), rowT 5 u8E v done] := hst
    refine s_cons (op_append (E := u8E) (xs := done) (ys := [(byt (((m1 : Int) % 256) % 128 + 128))]) (z := (.int .u8 0)) (bytes := 1) hst 1 rfl Try.underlying24 (by kernel_rfl) rfl rfl rfl (hst.sl 0 rfl) (by first | omega | (simp; omega) | (simp; done)) (by first | omega | (simp; omega) | (simp; done)) (fun v25 w26 hst => ?_))
    replace hst : St w0 w26 [rowT 5 u8E v23 ([(byt (((m1 : Int) % 256) % 128 + 128))]), rowT 5 u8E v25 (done ++ ([(byt (((m1 : Int) % 256) % 128 + 128))]))] := hst
    refine s_cons (op_assign v25 rfl ?_)
    refine s_nil ?_
    refine then_n ?_
    refine cE_region rfl ?_
    refine s_cons (op_move (.int .u64 (m1 : Int)) q17_0 ?_)
    refine s_cons (op_shr (k := .u64) (k' := .u64) (a := (m1 : Int)) (b := 7) ((m1 : Int) / 128) rfl rfl (by omega) (by simp [IntKind.bits]; try omega) shr7 ?_)
    refine s_cons (op_assign (.int .u64 ((m1 : Int) / 128)) rfl ?_)
    refine s_nil ?_
    refine block_n (then_n ?_)
    obtain ⟨f2, rfl, hp2, hm2⟩ := putF_next (by omega) hm1 hput
    exact ⟨_, ⟨v25, (done ++ ([(byt (((m1 : Int) % 256) % 128 + 128))])), f2, (m1 / 128), rfl, q17_2, (congrArg (Value.int .u64) (show ((m1 : Int) / 128) = _ from by omega)), rfl, (hst.sub (.cons _ (.cons_cons _ .slnil))), (by first | exact hp0 | exact hp2), (by first | exact hm0 | exact hm2), (by omega), (by simp; try omega)⟩, (by simp only [id]; omega)⟩
  have c27 : ¬ (128 ≤ (m1 : Int)) := of_decide_eq_false b21
  refine cE_cond false (congrArg Value.bool b21) (fun h => by cases h) (fun _ => ?_)
  refine cE_exit ?_
  refine then_x (then_x (block_hit (then_n ?_)))
  refine cE_seq ?_
  refine cE_region rfl ?_
  refine s_cons (op_move v q17_3 ?_)
  refine s_cons (op_move (.int .u64 (m1 : Int)) q17_0 ?_)
  refine s_cons (op_conv (k := .u64) (a := (m1 : Int)) ((m1 : Int) % 256) Try.underlying5 (by rw [Try.underlying54]; rfl) rfl (IntKind.wrap_u8 _) ?_)
  refine s_cons (op_buildSlice (E := u8E) [(byt ((m1 : Int) % 256))] hst Try.underlying24 Try.sizeOf5 Try.zeroValue5 (evp_cons (v := (.int .u8 ((m1 : Int) % 256))) rfl evp_nil) (parts_cons (by rw [u8cell]; exact byt_cell (by omega) (by omega)) parts_nil) rfl (by decide) (fun v28 w29 hst => ?_))
  replace hst : St w0 w29 [rowT 5 u8E v28 ([(byt ((m1 : Int) % 256))]), rowT 5 u8E v done] := hst
  refine s_cons (op_append (E := u8E) (xs := done) (ys := [(byt ((m1 : Int) % 256))]) (z := (.int .u8 0)) (bytes := 1) hst 1 rfl Try.underlying24 (by kernel_rfl) rfl rfl rfl (hst.sl 0 rfl) (by first | omega | (simp; omega) | (simp; done)) (by first | omega | (simp; omega) | (simp; done)) (fun v30 w31 hst => ?_))
  replace hst : St w0 w31 [rowT 5 u8E v28 ([(byt ((m1 : Int) % 256))]), rowT 5 u8E v30 (done ++ ([(byt ((m1 : Int) % 256))]))] := hst
  refine s_cons (op_str (xs := (done ++ ([(byt ((m1 : Int) % 256))]))) Try.underlying24 Try.underlying5 Try.underlying9 rfl (hst.sl 1 rfl) ?_)
  refine s_cons (op_assign (.string (str (done ++ ([(byt ((m1 : Int) % 256))])))) rfl ?_)
  refine s_nil ?_
  refine then_n ?_
  refine cE_ret ?_
  refine post_r _ (res1 (v := (.string (str (done ++ ([(byt ((m1 : Int) % 256))]))))) rfl) ?_
  exact ⟨(retv1 (congrArg (fun l => Value.string (str l)) (show (done ++ ([(byt ((m1 : Int) % 256))])) = (put n) from by exact putF_last (by omega) hput))), hst.bare⟩

theorem c_Get (w0 : World) (v_b : Value) (b : List UInt8) (h_b : Sl w0 u8E v_b b) (at_ : Int) (hl : b.length ≤ 1000000000) :
    Calls Try.prog 40 #[v_b, (.int .i64 at_)] w0 fun e w' => e = .returned (.tuple #[(.int .u64 ((get b at_).1)), (.int .i64 ((get b at_).2.1)), (.int .i64 ((get b at_).2.2))]) ∧ St w0 w' [] := by
  refine calls_E (n := 66) (ts := [4, 5, 6]) Try.func40 rfl rfl rfl (by simp) ?_
  have hst := St.start w0
  refine cE_seq ?_
  refine cE_region rfl ?_
  refine s_cons (op_assign (.int .u64 0) rfl ?_)
  refine s_cons (op_assign (.int .i64 0) rfl ?_)
  refine s_cons (op_assign (.int .i64 0) rfl ?_)
  refine s_nil ?_
  refine then_n ?_
  refine cE_scope ?_
  refine cE_seq ?_
  refine cE_seq ?_
  refine cE_region rfl ?_
  refine s_cons (op_move (.int .i64 at_) rfl ?_)
  refine s_cons (op_lss (k := .i64) (a := at_) (b := 0) rfl rfl ?_)
  refine s_cons (op_move (.bool (decide (at_ < 0))) rfl ?_)
  rcases Bool.eq_false_or_eq_true (decide (at_ < 0)) with b32 | b32
  · have c33 : at_ < 0 := of_decide_eq_true b32
    refine s_no 12 rfl (congrArg Value.bool b32) ?_
    refine s_no 12 rfl (congrArg Value.bool b32) ?_
    refine s_no 12 rfl (congrArg Value.bool b32) ?_
    refine s_no 12 rfl (congrArg Value.bool b32) ?_
    refine s_cons (op_pick_t (.bool true) (congrArg Value.bool b32) rfl ?_)
    refine s_nil ?_
    refine then_n ?_
    refine cE_cond true rfl (fun _ => ?_) (fun h => by cases h)
    refine cE_seq ?_
    refine cE_region rfl ?_
    refine s_cons (op_move (.int .i64 at_) rfl ?_)
    refine s_cons (op_assign (.int .u64 0) rfl ?_)
    refine s_cons (op_assign (.int .i64 at_) rfl ?_)
    refine s_cons (op_assign (.int .i64 1) rfl ?_)
    refine s_nil ?_
    refine then_n ?_
    refine cE_ret ?_
    refine then_r (scope_r ?_)
    refine post_r _ (res3 (v := (.int .u64 0)) rfl (x := (.int .i64 at_)) rfl (y := (.int .i64 1)) rfl) ?_
    have hget : get b at_ = (0, at_, 1) := by first | exact get_out (by omega) | exact get_none (by omega) (by omega) (hg.trans (getG_stop (by omega))) | exact get_none (by omega) (by omega) (hg.trans (getG_nine (j := (Int.toNat (at_ + (k : Int)))) (by omega) (by omega) (by omega) (by omega) (by omega))) | exact get_none (by omega) (by omega) (hg.trans (getG_zero (j := (Int.toNat (at_ + (k : Int)))) (by omega) (by omega) (by omega) (by omega) (by omega) (by omega))) | exact get_some (by omega) (by omega) (hg.trans (getG_end (j := (Int.toNat (at_ + (k : Int)))) (by omega) (by omega) (by omega) (by omega) (by omega) (by omega))) (by omega)
    exact ⟨(retv3 (congrArg (Value.int .u64) (show 0 = (get b at_).1 from by rw [hget])) (congrArg (Value.int .i64) (show at_ = (get b at_).2.1 from by rw [hget])) (congrArg (Value.int .i64) (show 1 = (get b at_).2.2 from by rw [hget]))), hst.bare⟩
  have c34 : ¬ (at_ < 0) := of_decide_eq_false b32
  refine s_yes 12 rfl (congrArg Value.bool b32) (op_move (.int .i64 at_) rfl ?_)
  refine s_yes 12 rfl (congrArg Value.bool b32) (op_move v_b rfl ?_)
  refine s_yes 12 rfl (congrArg Value.bool b32) (op_len (E := u8E) (xs := b) Try.underlying24 rfl h_b ?_)
  refine s_yes 12 rfl (congrArg Value.bool b32) (op_gtr (k := .i64) (a := at_) (b := (b.length : Int)) rfl rfl ?_)
  refine s_cons (op_pick_f (.bool (decide ((b.length : Int) < at_))) (congrArg Value.bool b32) rfl ?_)
  refine s_nil ?_
  refine then_n ?_
  rcases Bool.eq_false_or_eq_true (decide ((b.length : Int) < at_)) with b35 | b35
  · have c36 : (b.length : Int) < at_ := of_decide_eq_true b35
    refine cE_cond true (congrArg Value.bool b35) (fun _ => ?_) (fun h => by cases h)
    refine cE_seq ?_
    refine cE_region rfl ?_
    refine s_cons (op_move (.int .i64 at_) rfl ?_)
    refine s_cons (op_assign (.int .u64 0) rfl ?_)
    refine s_cons (op_assign (.int .i64 at_) rfl ?_)
    refine s_cons (op_assign (.int .i64 1) rfl ?_)
    refine s_nil ?_
    refine then_n ?_
    refine cE_ret ?_
    refine then_r (scope_r ?_)
    refine post_r _ (res3 (v := (.int .u64 0)) rfl (x := (.int .i64 at_)) rfl (y := (.int .i64 1)) rfl) ?_
    have hget : get b at_ = (0, at_, 1) := by first | exact get_out (by omega) | exact get_none (by omega) (by omega) (hg.trans (getG_stop (by omega))) | exact get_none (by omega) (by omega) (hg.trans (getG_nine (j := (Int.toNat (at_ + (k : Int)))) (by omega) (by omega) (by omega) (by omega) (by omega))) | exact get_none (by omega) (by omega) (hg.trans (getG_zero (j := (Int.toNat (at_ + (k : Int)))) (by omega) (by omega) (by omega) (by omega) (by omega) (by omega))) | exact get_some (by omega) (by omega) (hg.trans (getG_end (j := (Int.toNat (at_ + (k : Int)))) (by omega) (by omega) (by omega) (by omega) (by omega) (by omega))) (by omega)
    exact ⟨(retv3 (congrArg (Value.int .u64) (show 0 = (get b at_).1 from by rw [hget])) (congrArg (Value.int .i64) (show at_ = (get b at_).2.1 from by rw [hget])) (congrArg (Value.int .i64) (show 1 = (get b at_).2.2 from by rw [hget]))), hst.bare⟩
  have c37 : ¬ ((b.length : Int) < at_) := of_decide_eq_false b35
  refine cE_cond false (congrArg Value.bool b35) (fun h => by cases h) (fun _ => ?_)
  refine cE_skip ?_
  refine then_n ?_
  refine cE_seq ?_
  refine cE_region rfl ?_
  refine s_cons (op_assign (.int .u64 0) rfl ?_)
  refine s_nil ?_
  refine then_n ?_
  refine cE_seq ?_
  refine cE_label ?_
  refine then_n ?_
  refine cE_seq ?_
  refine cE_seq ?_
  refine cE_region rfl ?_
  refine s_cons (op_move (.int .i64 0) rfl ?_)
  refine s_nil ?_
  refine then_n ?_
  refine cE_block ?_
  refine cE_loop (fun (m : Nat) (ρ : Env) (w : World) => ∃ (k : Nat) (n : Nat), m = 10 - k ∧ ρ 0 = v_b ∧ ρ 1 = (.int .i64 at_) ∧ ρ 7 = (.int .u64 (n : Int)) ∧ ρ 19 = (.int .i64 (k : Int)) ∧ St w0 w [] ∧ (getG 10 0 0 (b.drop at_.toNat) = getG (10 - k) k n (b.drop (at_.toNat + k))) ∧ (k ≤ 10) ∧ (n < 128 ^ k)) id _ ⟨0, 0, rfl, rfl, rfl, (congrArg (Value.int .u64) (show 0 = _ from by first | rfl | omega)), (congrArg (Value.int .i64) (show 0 = _ from by omega)), hst, (by first | rfl | exact hg.trans (getG_more (j := (Int.toNat (at_ + (k : Int)))) (by omega) (by omega) (by omega) (by omega) (by omega))), (by omega), (by first | exact (by decide : (0 : Nat) < 128 ^ 0) | exact next_lt hn)⟩ ?_
  rintro m39 ρ40 w41 ⟨k, n, hm39, q38_0, q38_1, q38_7, q38_19, hst, hg, hk, hn⟩
  refine cE_seq ?_
  refine cE_region rfl ?_
  refine s_cons (op_lss (k := .i64) (a := (k : Int)) (b := 10) q38_19 rfl ?_)
  refine s_nil ?_
  refine then_n ?_
  refine cE_seq ?_
  rcases Bool.eq_false_or_eq_true (decide ((k : Int) < 10)) with b42 | b42
  · have c43 : (k : Int) < 10 := of_decide_eq_true b42
    refine cE_cond true (congrArg Value.bool b42) (fun _ => ?_) (fun h => by cases h)
    refine cE_skip ?_
    refine then_n ?_
    refine cE_seq ?_
    refine cE_block ?_
    refine cE_seq ?_
    refine cE_region rfl ?_
    refine s_cons (op_move (.int .i64 (k : Int)) q38_19 ?_)
    refine s_cons (op_assign (.int .i64 (k : Int)) rfl ?_)
    refine s_nil ?_
    refine then_n ?_
    refine cE_seq ?_
    refine cE_seq ?_
    refine cE_region rfl ?_
    refine s_cons (op_move (.int .i64 at_) q38_1 ?_)
    refine s_cons (op_move (.int .i64 (k : Int)) rfl ?_)
    refine s_cons (op_add (k := .i64) (a := at_) (b := (k : Int)) (at_ + (k : Int)) rfl rfl (xi64 (by omega) (by omega)) ?_)
    refine s_cons (op_move v_b q38_0 ?_)
    refine s_cons (op_len (E := u8E) (xs := b) Try.underlying24 rfl h_b ?_)
    refine s_cons (op_geq (k := .i64) (a := (at_ + (k : Int))) (b := (b.length : Int)) rfl rfl ?_)
    refine s_nil ?_
    refine then_n ?_
    rcases Bool.eq_false_or_eq_true (decide ((b.length : Int) ≤ (at_ + (k : Int)))) with b44 | b44
    · have c45 : (b.length : Int) ≤ (at_ + (k : Int)) := of_decide_eq_true b44
      refine cE_cond true (congrArg Value.bool b44) (fun _ => ?_) (fun h => by cases h)
      refine cE_exit ?_
      refine then_x (block_miss (by decide) (then_x (then_x (block_hit (then_n ?_)))))
      refine cE_seq ?_
      refine cE_region rfl ?_
      refine s_cons (op_move (.int .i64 at_) q38_1 ?_)
      refine s_cons (op_assign (.int .u64 0) rfl ?_)
      refine s_cons (op_assign (.int .i64 at_) rfl ?_)
      refine s_cons (op_assign (.int .i64 2) rfl ?_)
      refine s_nil ?_
      refine then_n ?_
      refine cE_ret ?_
      refine scope_r ?_
      refine post_r _ (res3 (v := (.int .u64 0)) rfl (x := (.int .i64 at_)) rfl (y := (.int .i64 2)) rfl) ?_
      have hget : get b at_ = (0, at_, 2) := by first | exact get_out (by omega) | exact get_none (by omega) (by omega) (hg.trans (getG_stop (by omega))) | exact get_none (by omega) (by omega) (hg.trans (getG_nine (j := (Int.toNat (at_ + (k : Int)))) (by omega) (by omega) (by omega) (by omega) (by omega))) | exact get_none (by omega) (by omega) (hg.trans (getG_zero (j := (Int.toNat (at_ + (k : Int)))) (by omega) (by omega) (by omega) (by omega) (by omega) (by omega))) | exact get_some (by omega) (by omega) (hg.trans (getG_end (j := (Int.toNat (at_ + (k : Int)))) (by omega) (by omega) (by omega) (by omega) (by omega) (by omega))) (by omega)
      exact ⟨(retv3 (congrArg (Value.int .u64) (show 0 = (get b at_).1 from by rw [hget])) (congrArg (Value.int .i64) (show at_ = (get b at_).2.1 from by rw [hget])) (congrArg (Value.int .i64) (show 2 = (get b at_).2.2 from by rw [hget]))), hst.bare⟩
    have c46 : ¬ ((b.length : Int) ≤ (at_ + (k : Int))) := of_decide_eq_false b44
    refine cE_cond false (congrArg Value.bool b44) (fun h => by cases h) (fun _ => ?_)
    refine cE_skip ?_
    refine then_n ?_
    refine cE_seq ?_
    refine cE_region rfl ?_
    refine s_cons (op_move v_b q38_0 ?_)
    refine s_cons (op_move (.int .i64 at_) q38_1 ?_)
    refine s_cons (op_move (.int .i64 (k : Int)) rfl ?_)
    refine s_cons (op_add (k := .i64) (a := at_) (b := (k : Int)) (at_ + (k : Int)) rfl rfl (xi64 (by omega) (by omega)) ?_)
    refine s_cons (op_indexAddrN (E := u8E) (xs := b) (Int.toNat (at_ + (k : Int))) Try.underlying24 Try.sizeOf5 rfl h_b rfl (by omega) (by omega) (fun a47 o48 p49 => ?_))
    refine s_cons (op_load1 (u := (.int .u8 ((b[(Int.toNat (at_ + (k : Int)))]'(by omega)).toNat : Int))) Try.isAgg5 rfl (p49.below hst.below) ?_)
    have hu50 := u8_lt (b[(Int.toNat (at_ + (k : Int)))]'(by omega))
    refine s_cons (op_assign (.int .u8 ((b[(Int.toNat (at_ + (k : Int)))]'(by omega)).toNat : Int)) rfl ?_)
    refine s_nil ?_
    refine then_n ?_
    refine cE_seq ?_
    refine cE_seq ?_
    refine cE_region rfl ?_
    refine s_cons (op_move (.int .i64 (k : Int)) rfl ?_)
    refine s_cons (op_eql (k := .i64) (a := (k : Int)) (b := 9) rfl rfl ?_)
    refine s_cons (op_move (.bool (decide ((k : Int) = 9))) rfl ?_)
    rcases Bool.eq_false_or_eq_true (decide ((k : Int) = 9)) with b51 | b51
    · have c52 : (k : Int) = 9 := of_decide_eq_true b51
      refine s_yes 36 rfl (congrArg Value.bool b51) (op_move (.int .u8 ((b[(Int.toNat (at_ + (k : Int)))]'(by omega)).toNat : Int)) rfl ?_)
      refine s_yes 36 rfl (congrArg Value.bool b51) (op_gtr (k := .u8) (a := ((b[(Int.toNat (at_ + (k : Int)))]'(by omega)).toNat : Int)) (b := 1) rfl rfl ?_)
      refine s_cons (op_pick_t (.bool (decide (1 < ((b[(Int.toNat (at_ + (k : Int)))]'(by omega)).toNat : Int)))) (congrArg Value.bool b51) rfl ?_)
      refine s_nil ?_
      refine then_n ?_
      rcases Bool.eq_false_or_eq_true (decide (1 < ((b[(Int.toNat (at_ + (k : Int)))]'(by omega)).toNat : Int))) with b53 | b53
      · have c54 : 1 < ((b[(Int.toNat (at_ + (k : Int)))]'(by omega)).toNat : Int) := of_decide_eq_true b53
        refine cE_cond true (congrArg Value.bool b53) (fun _ => ?_) (fun h => by cases h)
        refine cE_exit ?_
        refine then_x (block_miss (by decide) (then_x (then_x (block_hit (then_n ?_)))))
        refine cE_seq ?_
        refine cE_region rfl ?_
        refine s_cons (op_move (.int .i64 at_) q38_1 ?_)
        refine s_cons (op_assign (.int .u64 0) rfl ?_)
        refine s_cons (op_assign (.int .i64 at_) rfl ?_)
        refine s_cons (op_assign (.int .i64 2) rfl ?_)
        refine s_nil ?_
        refine then_n ?_
        refine cE_ret ?_
        refine scope_r ?_
        refine post_r _ (res3 (v := (.int .u64 0)) rfl (x := (.int .i64 at_)) rfl (y := (.int .i64 2)) rfl) ?_
        have hget : get b at_ = (0, at_, 2) := by first | exact get_out (by omega) | exact get_none (by omega) (by omega) (hg.trans (getG_stop (by omega))) | exact get_none (by omega) (by omega) (hg.trans (getG_nine (j := (Int.toNat (at_ + (k : Int)))) (by omega) (by omega) (by omega) (by omega) (by omega))) | exact get_none (by omega) (by omega) (hg.trans (getG_zero (j := (Int.toNat (at_ + (k : Int)))) (by omega) (by omega) (by omega) (by omega) (by omega) (by omega))) | exact get_some (by omega) (by omega) (hg.trans (getG_end (j := (Int.toNat (at_ + (k : Int)))) (by omega) (by omega) (by omega) (by omega) (by omega) (by omega))) (by omega)
        exact ⟨(retv3 (congrArg (Value.int .u64) (show 0 = (get b at_).1 from by rw [hget])) (congrArg (Value.int .i64) (show at_ = (get b at_).2.1 from by rw [hget])) (congrArg (Value.int .i64) (show 2 = (get b at_).2.2 from by rw [hget]))), hst.bare⟩
      have c55 : ¬ (1 < ((b[(Int.toNat (at_ + (k : Int)))]'(by omega)).toNat : Int)) := of_decide_eq_false b53
      refine cE_cond false (congrArg Value.bool b53) (fun h => by cases h) (fun _ => ?_)
      refine cE_skip ?_
      refine then_n ?_
      refine cE_seq ?_
      refine cE_region rfl ?_
      refine s_cons (op_move (.int .u64 (n : Int)) q38_7 ?_)
      refine s_cons (op_move (.int .u8 ((b[(Int.toNat (at_ + (k : Int)))]'(by omega)).toNat : Int)) rfl ?_)
      refine s_cons (op_and (k := .u8) (a := ((b[(Int.toNat (at_ + (k : Int)))]'(by omega)).toNat : Int)) (b := 127) (((b[(Int.toNat (at_ + (k : Int)))]'(by omega)).toNat : Int) % 128) rfl rfl (and127 (by omega) (by omega)) ?_)
      refine s_cons (op_conv (k := .u8) (a := (((b[(Int.toNat (at_ + (k : Int)))]'(by omega)).toNat : Int) % 128)) (((b[(Int.toNat (at_ + (k : Int)))]'(by omega)).toNat : Int) % 128) Try.underlying54 (by rw [Try.underlying5]; rfl) rfl (xu64 (by omega) (by omega)) ?_)
      refine s_cons (op_move (.int .i64 (k : Int)) rfl ?_)
      refine s_cons (op_mul (k := .i64) (a := 7) (b := (k : Int)) (7 * (k : Int)) rfl rfl (xi64 (by omega) (by omega)) ?_)
      refine s_cons (op_conv (k := .i64) (a := (7 * (k : Int))) (7 * (k : Int)) Try.underlying44 (by rw [Try.underlying3]; rfl) rfl (xu64 (by omega) (by omega)) ?_)
      refine s_cons (op_shl (k := .u64) (k' := .u64) (a := (((b[(Int.toNat (at_ + (k : Int)))]'(by omega)).toNat : Int) % 128)) (b := (7 * (k : Int))) ((((b[(Int.toNat (at_ + (k : Int)))]'(by omega)).toNat % 128 : Nat) : Int) * 128 ^ k) rfl rfl (by omega) (by simp [IntKind.bits]; try omega) (shl7 (by omega) (by omega)) ?_)
      refine s_cons (op_or (k := .u64) (a := (n : Int)) (b := ((((b[(Int.toNat (at_ + (k : Int)))]'(by omega)).toNat % 128 : Nat) : Int) * 128 ^ k)) ((n + (b[(Int.toNat (at_ + (k : Int)))]'(by omega)).toNat % 128 * 128 ^ k : Nat) : Int) rfl rfl (or7 (by omega) (by omega) hn) ?_)
      refine s_cons (op_assign (.int .u64 ((n + (b[(Int.toNat (at_ + (k : Int)))]'(by omega)).toNat % 128 * 128 ^ k : Nat) : Int)) rfl ?_)
      refine s_nil ?_
      refine then_n ?_
      refine cE_seq ?_
      refine cE_block ?_
      refine cE_seq ?_
      refine cE_region rfl ?_
      refine s_cons (op_move (.int .u8 ((b[(Int.toNat (at_ + (k : Int)))]'(by omega)).toNat : Int)) rfl ?_)
      refine s_cons (op_geq (k := .u8) (a := ((b[(Int.toNat (at_ + (k : Int)))]'(by omega)).toNat : Int)) (b := 128) rfl rfl ?_)
      refine s_cons (op_assign (.bool (decide (128 ≤ ((b[(Int.toNat (at_ + (k : Int)))]'(by omega)).toNat : Int)))) rfl ?_)
      refine s_nil ?_
      refine then_n ?_
      rcases Bool.eq_false_or_eq_true (decide (128 ≤ ((b[(Int.toNat (at_ + (k : Int)))]'(by omega)).toNat : Int))) with b56 | b56
      · have c57 : 128 ≤ ((b[(Int.toNat (at_ + (k : Int)))]'(by omega)).toNat : Int) := of_decide_eq_true b56
        refine cE_cond true (congrArg Value.bool b56) (fun _ => ?_) (fun h => by cases h)
        refine cE_exit ?_
        refine block_miss (by decide) (then_x (block_hit (then_n ?_)))
        refine cE_region rfl ?_
        refine s_cons (op_add (k := .i64) (a := (k : Int)) (b := 1) ((k : Int) + 1) q38_19 rfl (xi64 (by omega) (by omega)) ?_)
        refine s_cons (op_move (.int .i64 ((k : Int) + 1)) rfl ?_)
        refine s_nil ?_
        refine then_n ?_
        exact ⟨_, ⟨(k + 1), (n + (b[(Int.toNat (at_ + (k : Int)))]'(by omega)).toNat % 128 * 128 ^ k), rfl, q38_0, q38_1, (congrArg (Value.int .u64) (show ((n + (b[(Int.toNat (at_ + (k : Int)))]'(by omega)).toNat % 128 * 128 ^ k : Nat) : Int) = _ from by first | rfl | omega)), (congrArg (Value.int .i64) (show ((k : Int) + 1) = _ from by omega)), hst, (by first | rfl | exact hg.trans (getG_more (j := (Int.toNat (at_ + (k : Int)))) (by omega) (by omega) (by omega) (by omega) (by omega))), (by omega), (by first | exact (by decide : (0 : Nat) < 128 ^ 0) | exact next_lt hn)⟩, (by simp only [id]; omega)⟩
      have c58 : ¬ (128 ≤ ((b[(Int.toNat (at_ + (k : Int)))]'(by omega)).toNat : Int)) := of_decide_eq_false b56
      refine cE_cond false (congrArg Value.bool b56) (fun h => by cases h) (fun _ => ?_)
      refine cE_seq ?_
      refine cE_region rfl ?_
      refine s_cons (op_move (.int .i64 (k : Int)) rfl ?_)
      refine s_cons (op_gtr (k := .i64) (a := (k : Int)) (b := 0) rfl rfl ?_)
      refine s_cons (op_move (.bool (decide (0 < (k : Int)))) rfl ?_)
      rcases Bool.eq_false_or_eq_true (decide (0 < (k : Int))) with b59 | b59
      · have c60 : 0 < (k : Int) := of_decide_eq_true b59
        refine s_yes 55 rfl (congrArg Value.bool b59) (op_move (.int .u8 ((b[(Int.toNat (at_ + (k : Int)))]'(by omega)).toNat : Int)) rfl ?_)
        refine s_yes 55 rfl (congrArg Value.bool b59) (op_eql (k := .u8) (a := ((b[(Int.toNat (at_ + (k : Int)))]'(by omega)).toNat : Int)) (b := 0) rfl rfl ?_)
        refine s_cons (op_pick_t (.bool (decide (((b[(Int.toNat (at_ + (k : Int)))]'(by omega)).toNat : Int) = 0))) (congrArg Value.bool b59) rfl ?_)
        refine s_cons (op_assign (.bool (decide (((b[(Int.toNat (at_ + (k : Int)))]'(by omega)).toNat : Int) = 0))) rfl ?_)
        refine s_nil ?_
        refine then_n ?_
        rcases Bool.eq_false_or_eq_true (decide (((b[(Int.toNat (at_ + (k : Int)))]'(by omega)).toNat : Int) = 0)) with b61 | b61
        · have c62 : ((b[(Int.toNat (at_ + (k : Int)))]'(by omega)).toNat : Int) = 0 := of_decide_eq_true b61
          refine cE_cond true (congrArg Value.bool b61) (fun _ => ?_) (fun h => by cases h)
          refine cE_exit ?_
          refine block_miss (by decide) (then_x (block_miss (by decide) (then_x (then_x (block_hit (then_n ?_))))))
          refine cE_seq ?_
          refine cE_region rfl ?_
          refine s_cons (op_move (.int .i64 at_) q38_1 ?_)
          refine s_cons (op_assign (.int .u64 0) rfl ?_)
          refine s_cons (op_assign (.int .i64 at_) rfl ?_)
          refine s_cons (op_assign (.int .i64 2) rfl ?_)
          refine s_nil ?_
          refine then_n ?_
          refine cE_ret ?_
          refine scope_r ?_
          refine post_r _ (res3 (v := (.int .u64 0)) rfl (x := (.int .i64 at_)) rfl (y := (.int .i64 2)) rfl) ?_
          have hget : get b at_ = (0, at_, 2) := by first | exact get_out (by omega) | exact get_none (by omega) (by omega) (hg.trans (getG_stop (by omega))) | exact get_none (by omega) (by omega) (hg.trans (getG_nine (j := (Int.toNat (at_ + (k : Int)))) (by omega) (by omega) (by omega) (by omega) (by omega))) | exact get_none (by omega) (by omega) (hg.trans (getG_zero (j := (Int.toNat (at_ + (k : Int)))) (by omega) (by omega) (by omega) (by omega) (by omega) (by omega))) | exact get_some (by omega) (by omega) (hg.trans (getG_end (j := (Int.toNat (at_ + (k : Int)))) (by omega) (by omega) (by omega) (by omega) (by omega) (by omega))) (by omega)
          exact ⟨(retv3 (congrArg (Value.int .u64) (show 0 = (get b at_).1 from by rw [hget])) (congrArg (Value.int .i64) (show at_ = (get b at_).2.1 from by rw [hget])) (congrArg (Value.int .i64) (show 2 = (get b at_).2.2 from by rw [hget]))), hst.bare⟩
        have c63 : ¬ (((b[(Int.toNat (at_ + (k : Int)))]'(by omega)).toNat : Int) = 0) := of_decide_eq_false b61
        refine cE_cond false (congrArg Value.bool b61) (fun h => by cases h) (fun _ => ?_)
        refine cE_skip ?_
        refine block_n (then_n ?_)
        refine cE_seq ?_
        refine cE_region rfl ?_
        refine s_cons (op_move (.int .u64 ((n + (b[(Int.toNat (at_ + (k : Int)))]'(by omega)).toNat % 128 * 128 ^ k : Nat) : Int)) rfl ?_)
        refine s_cons (op_move (.int .i64 at_) q38_1 ?_)
        refine s_cons (op_move (.int .i64 (k : Int)) rfl ?_)
        refine s_cons (op_add (k := .i64) (a := at_) (b := (k : Int)) (at_ + (k : Int)) rfl rfl (xi64 (by omega) (by omega)) ?_)
        refine s_cons (op_add (k := .i64) (a := (at_ + (k : Int))) (b := 1) ((at_ + (k : Int)) + 1) rfl rfl (xi64 (by omega) (by omega)) ?_)
        refine s_cons (op_assign (.int .u64 ((n + (b[(Int.toNat (at_ + (k : Int)))]'(by omega)).toNat % 128 * 128 ^ k : Nat) : Int)) rfl ?_)
        refine s_cons (op_assign (.int .i64 ((at_ + (k : Int)) + 1)) rfl ?_)
        refine s_cons (op_assign (.int .i64 0) rfl ?_)
        refine s_nil ?_
        refine then_n ?_
        refine cE_ret ?_
        refine block_r (then_r (then_r (block_r (then_r (scope_r ?_)))))
        refine post_r _ (res3 (v := (.int .u64 ((n + (b[(Int.toNat (at_ + (k : Int)))]'(by omega)).toNat % 128 * 128 ^ k : Nat) : Int))) rfl (x := (.int .i64 ((at_ + (k : Int)) + 1))) rfl (y := (.int .i64 0)) rfl) ?_
        have hget : get b at_ = (((n + (b[(Int.toNat (at_ + (k : Int)))]'(by omega)).toNat % 128 * 128 ^ k : Nat) : Int), ((at_ + (k : Int)) + 1), 0) := by first | exact get_out (by omega) | exact get_none (by omega) (by omega) (hg.trans (getG_stop (by omega))) | exact get_none (by omega) (by omega) (hg.trans (getG_nine (j := (Int.toNat (at_ + (k : Int)))) (by omega) (by omega) (by omega) (by omega) (by omega))) | exact get_none (by omega) (by omega) (hg.trans (getG_zero (j := (Int.toNat (at_ + (k : Int)))) (by omega) (by omega) (by omega) (by omega) (by omega) (by omega))) | exact get_some (by omega) (by omega) (hg.trans (getG_end (j := (Int.toNat (at_ + (k : Int)))) (by omega) (by omega) (by omega) (by omega) (by omega) (by omega))) (by omega)
        exact ⟨(retv3 (congrArg (Value.int .u64) (show ((n + (b[(Int.toNat (at_ + (k : Int)))]'(by omega)).toNat % 128 * 128 ^ k : Nat) : Int) = (get b at_).1 from by rw [hget])) (congrArg (Value.int .i64) (show ((at_ + (k : Int)) + 1) = (get b at_).2.1 from by rw [hget])) (congrArg (Value.int .i64) (show 0 = (get b at_).2.2 from by rw [hget]))), hst.bare⟩
      have c64 : ¬ (0 < (k : Int)) := of_decide_eq_false b59
      refine s_no 55 rfl (congrArg Value.bool b59) ?_
      refine s_no 55 rfl (congrArg Value.bool b59) ?_
      refine s_cons (op_pick_f (.bool false) (congrArg Value.bool b59) rfl ?_)
      refine s_cons (op_assign (.bool false) rfl ?_)
      refine s_nil ?_
      refine then_n ?_
      refine cE_cond false rfl (fun h => by cases h) (fun _ => ?_)
      refine cE_skip ?_
      refine block_n (then_n ?_)
      refine cE_seq ?_
      refine cE_region rfl ?_
      refine s_cons (op_move (.int .u64 ((n + (b[(Int.toNat (at_ + (k : Int)))]'(by omega)).toNat % 128 * 128 ^ k : Nat) : Int)) rfl ?_)
      refine s_cons (op_move (.int .i64 at_) q38_1 ?_)
      refine s_cons (op_move (.int .i64 (k : Int)) rfl ?_)
      refine s_cons (op_add (k := .i64) (a := at_) (b := (k : Int)) (at_ + (k : Int)) rfl rfl (xi64 (by omega) (by omega)) ?_)
      refine s_cons (op_add (k := .i64) (a := (at_ + (k : Int))) (b := 1) ((at_ + (k : Int)) + 1) rfl rfl (xi64 (by omega) (by omega)) ?_)
      refine s_cons (op_assign (.int .u64 ((n + (b[(Int.toNat (at_ + (k : Int)))]'(by omega)).toNat % 128 * 128 ^ k : Nat) : Int)) rfl ?_)
      refine s_cons (op_assign (.int .i64 ((at_ + (k : Int)) + 1)) rfl ?_)
      refine s_cons (op_assign (.int .i64 0) rfl ?_)
      refine s_nil ?_
      refine then_n ?_
      refine cE_ret ?_
      refine block_r (then_r (then_r (block_r (then_r (scope_r ?_)))))
      refine post_r _ (res3 (v := (.int .u64 ((n + (b[(Int.toNat (at_ + (k : Int)))]'(by omega)).toNat % 128 * 128 ^ k : Nat) : Int))) rfl (x := (.int .i64 ((at_ + (k : Int)) + 1))) rfl (y := (.int .i64 0)) rfl) ?_
      have hget : get b at_ = (((n + (b[(Int.toNat (at_ + (k : Int)))]'(by omega)).toNat % 128 * 128 ^ k : Nat) : Int), ((at_ + (k : Int)) + 1), 0) := by first | exact get_out (by omega) | exact get_none (by omega) (by omega) (hg.trans (getG_stop (by omega))) | exact get_none (by omega) (by omega) (hg.trans (getG_nine (j := (Int.toNat (at_ + (k : Int)))) (by omega) (by omega) (by omega) (by omega) (by omega))) | exact get_none (by omega) (by omega) (hg.trans (getG_zero (j := (Int.toNat (at_ + (k : Int)))) (by omega) (by omega) (by omega) (by omega) (by omega) (by omega))) | exact get_some (by omega) (by omega) (hg.trans (getG_end (j := (Int.toNat (at_ + (k : Int)))) (by omega) (by omega) (by omega) (by omega) (by omega) (by omega))) (by omega)
      exact ⟨(retv3 (congrArg (Value.int .u64) (show ((n + (b[(Int.toNat (at_ + (k : Int)))]'(by omega)).toNat % 128 * 128 ^ k : Nat) : Int) = (get b at_).1 from by rw [hget])) (congrArg (Value.int .i64) (show ((at_ + (k : Int)) + 1) = (get b at_).2.1 from by rw [hget])) (congrArg (Value.int .i64) (show 0 = (get b at_).2.2 from by rw [hget]))), hst.bare⟩
    have c65 : ¬ ((k : Int) = 9) := of_decide_eq_false b51
    refine s_no 36 rfl (congrArg Value.bool b51) ?_
    refine s_no 36 rfl (congrArg Value.bool b51) ?_
    refine s_cons (op_pick_f (.bool false) (congrArg Value.bool b51) rfl ?_)
    refine s_nil ?_
    refine then_n ?_
    refine cE_cond false rfl (fun h => by cases h) (fun _ => ?_)
    refine cE_skip ?_
    refine then_n ?_
    refine cE_seq ?_
    refine cE_region rfl ?_
    refine s_cons (op_move (.int .u64 (n : Int)) q38_7 ?_)
    refine s_cons (op_move (.int .u8 ((b[(Int.toNat (at_ + (k : Int)))]'(by omega)).toNat : Int)) rfl ?_)
    refine s_cons (op_and (k := .u8) (a := ((b[(Int.toNat (at_ + (k : Int)))]'(by omega)).toNat : Int)) (b := 127) (((b[(Int.toNat (at_ + (k : Int)))]'(by omega)).toNat : Int) % 128) rfl rfl (and127 (by omega) (by omega)) ?_)
    refine s_cons (op_conv (k := .u8) (a := (((b[(Int.toNat (at_ + (k : Int)))]'(by omega)).toNat : Int) % 128)) (((b[(Int.toNat (at_ + (k : Int)))]'(by omega)).toNat : Int) % 128) Try.underlying54 (by rw [Try.underlying5]; rfl) rfl (xu64 (by omega) (by omega)) ?_)
    refine s_cons (op_move (.int .i64 (k : Int)) rfl ?_)
    refine s_cons (op_mul (k := .i64) (a := 7) (b := (k : Int)) (7 * (k : Int)) rfl rfl (xi64 (by omega) (by omega)) ?_)
    refine s_cons (op_conv (k := .i64) (a := (7 * (k : Int))) (7 * (k : Int)) Try.underlying44 (by rw [Try.underlying3]; rfl) rfl (xu64 (by omega) (by omega)) ?_)
    refine s_cons (op_shl (k := .u64) (k' := .u64) (a := (((b[(Int.toNat (at_ + (k : Int)))]'(by omega)).toNat : Int) % 128)) (b := (7 * (k : Int))) ((((b[(Int.toNat (at_ + (k : Int)))]'(by omega)).toNat % 128 : Nat) : Int) * 128 ^ k) rfl rfl (by omega) (by simp [IntKind.bits]; try omega) (shl7 (by omega) (by omega)) ?_)
    refine s_cons (op_or (k := .u64) (a := (n : Int)) (b := ((((b[(Int.toNat (at_ + (k : Int)))]'(by omega)).toNat % 128 : Nat) : Int) * 128 ^ k)) ((n + (b[(Int.toNat (at_ + (k : Int)))]'(by omega)).toNat % 128 * 128 ^ k : Nat) : Int) rfl rfl (or7 (by omega) (by omega) hn) ?_)
    refine s_cons (op_assign (.int .u64 ((n + (b[(Int.toNat (at_ + (k : Int)))]'(by omega)).toNat % 128 * 128 ^ k : Nat) : Int)) rfl ?_)
    refine s_nil ?_
    refine then_n ?_
    refine cE_seq ?_
    refine cE_block ?_
    refine cE_seq ?_
    refine cE_region rfl ?_
    refine s_cons (op_move (.int .u8 ((b[(Int.toNat (at_ + (k : Int)))]'(by omega)).toNat : Int)) rfl ?_)
    refine s_cons (op_geq (k := .u8) (a := ((b[(Int.toNat (at_ + (k : Int)))]'(by omega)).toNat : Int)) (b := 128) rfl rfl ?_)
    refine s_cons (op_assign (.bool (decide (128 ≤ ((b[(Int.toNat (at_ + (k : Int)))]'(by omega)).toNat : Int)))) rfl ?_)
    refine s_nil ?_
    refine then_n ?_
    rcases Bool.eq_false_or_eq_true (decide (128 ≤ ((b[(Int.toNat (at_ + (k : Int)))]'(by omega)).toNat : Int))) with b66 | b66
    · have c67 : 128 ≤ ((b[(Int.toNat (at_ + (k : Int)))]'(by omega)).toNat : Int) := of_decide_eq_true b66
      refine cE_cond true (congrArg Value.bool b66) (fun _ => ?_) (fun h => by cases h)
      refine cE_exit ?_
      refine block_miss (by decide) (then_x (block_hit (then_n ?_)))
      refine cE_region rfl ?_
      refine s_cons (op_add (k := .i64) (a := (k : Int)) (b := 1) ((k : Int) + 1) q38_19 rfl (xi64 (by omega) (by omega)) ?_)
      refine s_cons (op_move (.int .i64 ((k : Int) + 1)) rfl ?_)
      refine s_nil ?_
      refine then_n ?_
      exact ⟨_, ⟨(k + 1), (n + (b[(Int.toNat (at_ + (k : Int)))]'(by omega)).toNat % 128 * 128 ^ k), rfl, q38_0, q38_1, (congrArg (Value.int .u64) (show ((n + (b[(Int.toNat (at_ + (k : Int)))]'(by omega)).toNat % 128 * 128 ^ k : Nat) : Int) = _ from by first | rfl | omega)), (congrArg (Value.int .i64) (show ((k : Int) + 1) = _ from by omega)), hst, (by first | rfl | exact hg.trans (getG_more (j := (Int.toNat (at_ + (k : Int)))) (by omega) (by omega) (by omega) (by omega) (by omega))), (by omega), (by first | exact (by decide : (0 : Nat) < 128 ^ 0) | exact next_lt hn)⟩, (by simp only [id]; omega)⟩
    have c68 : ¬ (128 ≤ ((b[(Int.toNat (at_ + (k : Int)))]'(by omega)).toNat : Int)) := of_decide_eq_false b66
    refine cE_cond false (congrArg Value.bool b66) (fun h => by cases h) (fun _ => ?_)
    refine cE_seq ?_
    refine cE_region rfl ?_
    refine s_cons (op_move (.int .i64 (k : Int)) rfl ?_)
    refine s_cons (op_gtr (k := .i64) (a := (k : Int)) (b := 0) rfl rfl ?_)
    refine s_cons (op_move (.bool (decide (0 < (k : Int)))) rfl ?_)
    rcases Bool.eq_false_or_eq_true (decide (0 < (k : Int))) with b69 | b69
    · have c70 : 0 < (k : Int) := of_decide_eq_true b69
      refine s_yes 55 rfl (congrArg Value.bool b69) (op_move (.int .u8 ((b[(Int.toNat (at_ + (k : Int)))]'(by omega)).toNat : Int)) rfl ?_)
      refine s_yes 55 rfl (congrArg Value.bool b69) (op_eql (k := .u8) (a := ((b[(Int.toNat (at_ + (k : Int)))]'(by omega)).toNat : Int)) (b := 0) rfl rfl ?_)
      refine s_cons (op_pick_t (.bool (decide (((b[(Int.toNat (at_ + (k : Int)))]'(by omega)).toNat : Int) = 0))) (congrArg Value.bool b69) rfl ?_)
      refine s_cons (op_assign (.bool (decide (((b[(Int.toNat (at_ + (k : Int)))]'(by omega)).toNat : Int) = 0))) rfl ?_)
      refine s_nil ?_
      refine then_n ?_
      rcases Bool.eq_false_or_eq_true (decide (((b[(Int.toNat (at_ + (k : Int)))]'(by omega)).toNat : Int) = 0)) with b71 | b71
      · have c72 : ((b[(Int.toNat (at_ + (k : Int)))]'(by omega)).toNat : Int) = 0 := of_decide_eq_true b71
        refine cE_cond true (congrArg Value.bool b71) (fun _ => ?_) (fun h => by cases h)
        refine cE_exit ?_
        refine block_miss (by decide) (then_x (block_miss (by decide) (then_x (then_x (block_hit (then_n ?_))))))
        refine cE_seq ?_
        refine cE_region rfl ?_
        refine s_cons (op_move (.int .i64 at_) q38_1 ?_)
        refine s_cons (op_assign (.int .u64 0) rfl ?_)
        refine s_cons (op_assign (.int .i64 at_) rfl ?_)
        refine s_cons (op_assign (.int .i64 2) rfl ?_)
        refine s_nil ?_
        refine then_n ?_
        refine cE_ret ?_
        refine scope_r ?_
        refine post_r _ (res3 (v := (.int .u64 0)) rfl (x := (.int .i64 at_)) rfl (y := (.int .i64 2)) rfl) ?_
        have hget : get b at_ = (0, at_, 2) := by first | exact get_out (by omega) | exact get_none (by omega) (by omega) (hg.trans (getG_stop (by omega))) | exact get_none (by omega) (by omega) (hg.trans (getG_nine (j := (Int.toNat (at_ + (k : Int)))) (by omega) (by omega) (by omega) (by omega) (by omega))) | exact get_none (by omega) (by omega) (hg.trans (getG_zero (j := (Int.toNat (at_ + (k : Int)))) (by omega) (by omega) (by omega) (by omega) (by omega) (by omega))) | exact get_some (by omega) (by omega) (hg.trans (getG_end (j := (Int.toNat (at_ + (k : Int)))) (by omega) (by omega) (by omega) (by omega) (by omega) (by omega))) (by omega)
        exact ⟨(retv3 (congrArg (Value.int .u64) (show 0 = (get b at_).1 from by rw [hget])) (congrArg (Value.int .i64) (show at_ = (get b at_).2.1 from by rw [hget])) (congrArg (Value.int .i64) (show 2 = (get b at_).2.2 from by rw [hget]))), hst.bare⟩
      have c73 : ¬ (((b[(Int.toNat (at_ + (k : Int)))]'(by omega)).toNat : Int) = 0) := of_decide_eq_false b71
      refine cE_cond false (congrArg Value.bool b71) (fun h => by cases h) (fun _ => ?_)
      refine cE_skip ?_
      refine block_n (then_n ?_)
      refine cE_seq ?_
      refine cE_region rfl ?_
      refine s_cons (op_move (.int .u64 ((n + (b[(Int.toNat (at_ + (k : Int)))]'(by omega)).toNat % 128 * 128 ^ k : Nat) : Int)) rfl ?_)
      refine s_cons (op_move (.int .i64 at_) q38_1 ?_)
      refine s_cons (op_move (.int .i64 (k : Int)) rfl ?_)
      refine s_cons (op_add (k := .i64) (a := at_) (b := (k : Int)) (at_ + (k : Int)) rfl rfl (xi64 (by omega) (by omega)) ?_)
      refine s_cons (op_add (k := .i64) (a := (at_ + (k : Int))) (b := 1) ((at_ + (k : Int)) + 1) rfl rfl (xi64 (by omega) (by omega)) ?_)
      refine s_cons (op_assign (.int .u64 ((n + (b[(Int.toNat (at_ + (k : Int)))]'(by omega)).toNat % 128 * 128 ^ k : Nat) : Int)) rfl ?_)
      refine s_cons (op_assign (.int .i64 ((at_ + (k : Int)) + 1)) rfl ?_)
      refine s_cons (op_assign (.int .i64 0) rfl ?_)
      refine s_nil ?_
      refine then_n ?_
      refine cE_ret ?_
      refine block_r (then_r (then_r (block_r (then_r (scope_r ?_)))))
      refine post_r _ (res3 (v := (.int .u64 ((n + (b[(Int.toNat (at_ + (k : Int)))]'(by omega)).toNat % 128 * 128 ^ k : Nat) : Int))) rfl (x := (.int .i64 ((at_ + (k : Int)) + 1))) rfl (y := (.int .i64 0)) rfl) ?_
      have hget : get b at_ = (((n + (b[(Int.toNat (at_ + (k : Int)))]'(by omega)).toNat % 128 * 128 ^ k : Nat) : Int), ((at_ + (k : Int)) + 1), 0) := by first | exact get_out (by omega) | exact get_none (by omega) (by omega) (hg.trans (getG_stop (by omega))) | exact get_none (by omega) (by omega) (hg.trans (getG_nine (j := (Int.toNat (at_ + (k : Int)))) (by omega) (by omega) (by omega) (by omega) (by omega))) | exact get_none (by omega) (by omega) (hg.trans (getG_zero (j := (Int.toNat (at_ + (k : Int)))) (by omega) (by omega) (by omega) (by omega) (by omega) (by omega))) | exact get_some (by omega) (by omega) (hg.trans (getG_end (j := (Int.toNat (at_ + (k : Int)))) (by omega) (by omega) (by omega) (by omega) (by omega) (by omega))) (by omega)
      exact ⟨(retv3 (congrArg (Value.int .u64) (show ((n + (b[(Int.toNat (at_ + (k : Int)))]'(by omega)).toNat % 128 * 128 ^ k : Nat) : Int) = (get b at_).1 from by rw [hget])) (congrArg (Value.int .i64) (show ((at_ + (k : Int)) + 1) = (get b at_).2.1 from by rw [hget])) (congrArg (Value.int .i64) (show 0 = (get b at_).2.2 from by rw [hget]))), hst.bare⟩
    have c74 : ¬ (0 < (k : Int)) := of_decide_eq_false b69
    refine s_no 55 rfl (congrArg Value.bool b69) ?_
    refine s_no 55 rfl (congrArg Value.bool b69) ?_
    refine s_cons (op_pick_f (.bool false) (congrArg Value.bool b69) rfl ?_)
    refine s_cons (op_assign (.bool false) rfl ?_)
    refine s_nil ?_
    refine then_n ?_
    refine cE_cond false rfl (fun h => by cases h) (fun _ => ?_)
    refine cE_skip ?_
    refine block_n (then_n ?_)
    refine cE_seq ?_
    refine cE_region rfl ?_
    refine s_cons (op_move (.int .u64 ((n + (b[(Int.toNat (at_ + (k : Int)))]'(by omega)).toNat % 128 * 128 ^ k : Nat) : Int)) rfl ?_)
    refine s_cons (op_move (.int .i64 at_) q38_1 ?_)
    refine s_cons (op_move (.int .i64 (k : Int)) rfl ?_)
    refine s_cons (op_add (k := .i64) (a := at_) (b := (k : Int)) (at_ + (k : Int)) rfl rfl (xi64 (by omega) (by omega)) ?_)
    refine s_cons (op_add (k := .i64) (a := (at_ + (k : Int))) (b := 1) ((at_ + (k : Int)) + 1) rfl rfl (xi64 (by omega) (by omega)) ?_)
    refine s_cons (op_assign (.int .u64 ((n + (b[(Int.toNat (at_ + (k : Int)))]'(by omega)).toNat % 128 * 128 ^ k : Nat) : Int)) rfl ?_)
    refine s_cons (op_assign (.int .i64 ((at_ + (k : Int)) + 1)) rfl ?_)
    refine s_cons (op_assign (.int .i64 0) rfl ?_)
    refine s_nil ?_
    refine then_n ?_
    refine cE_ret ?_
    refine block_r (then_r (then_r (block_r (then_r (scope_r ?_)))))
    refine post_r _ (res3 (v := (.int .u64 ((n + (b[(Int.toNat (at_ + (k : Int)))]'(by omega)).toNat % 128 * 128 ^ k : Nat) : Int))) rfl (x := (.int .i64 ((at_ + (k : Int)) + 1))) rfl (y := (.int .i64 0)) rfl) ?_
    have hget : get b at_ = (((n + (b[(Int.toNat (at_ + (k : Int)))]'(by omega)).toNat % 128 * 128 ^ k : Nat) : Int), ((at_ + (k : Int)) + 1), 0) := by first | exact get_out (by omega) | exact get_none (by omega) (by omega) (hg.trans (getG_stop (by omega))) | exact get_none (by omega) (by omega) (hg.trans (getG_nine (j := (Int.toNat (at_ + (k : Int)))) (by omega) (by omega) (by omega) (by omega) (by omega))) | exact get_none (by omega) (by omega) (hg.trans (getG_zero (j := (Int.toNat (at_ + (k : Int)))) (by omega) (by omega) (by omega) (by omega) (by omega) (by omega))) | exact get_some (by omega) (by omega) (hg.trans (getG_end (j := (Int.toNat (at_ + (k : Int)))) (by omega) (by omega) (by omega) (by omega) (by omega) (by omega))) (by omega)
    exact ⟨(retv3 (congrArg (Value.int .u64) (show ((n + (b[(Int.toNat (at_ + (k : Int)))]'(by omega)).toNat % 128 * 128 ^ k : Nat) : Int) = (get b at_).1 from by rw [hget])) (congrArg (Value.int .i64) (show ((at_ + (k : Int)) + 1) = (get b at_).2.1 from by rw [hget])) (congrArg (Value.int .i64) (show 0 = (get b at_).2.2 from by rw [hget]))), hst.bare⟩
  have c75 : ¬ ((k : Int) < 10) := of_decide_eq_false b42
  refine cE_cond false (congrArg Value.bool b42) (fun h => by cases h) (fun _ => ?_)
  refine cE_exit ?_
  refine then_x (then_x (block_hit (then_n ?_)))
  refine cE_seq ?_
  refine cE_region rfl ?_
  refine s_cons (op_move (.int .i64 at_) q38_1 ?_)
  refine s_cons (op_assign (.int .u64 0) rfl ?_)
  refine s_cons (op_assign (.int .i64 at_) rfl ?_)
  refine s_cons (op_assign (.int .i64 2) rfl ?_)
  refine s_nil ?_
  refine then_n ?_
  refine cE_ret ?_
  refine scope_r ?_
  refine post_r _ (res3 (v := (.int .u64 0)) rfl (x := (.int .i64 at_)) rfl (y := (.int .i64 2)) rfl) ?_
  have hget : get b at_ = (0, at_, 2) := by first | exact get_out (by omega) | exact get_none (by omega) (by omega) (hg.trans (getG_stop (by omega))) | exact get_none (by omega) (by omega) (hg.trans (getG_nine (j := (Int.toNat (at_ + (k : Int)))) (by omega) (by omega) (by omega) (by omega) (by omega))) | exact get_none (by omega) (by omega) (hg.trans (getG_zero (j := (Int.toNat (at_ + (k : Int)))) (by omega) (by omega) (by omega) (by omega) (by omega) (by omega))) | exact get_some (by omega) (by omega) (hg.trans (getG_end (j := (Int.toNat (at_ + (k : Int)))) (by omega) (by omega) (by omega) (by omega) (by omega) (by omega))) (by omega)
  exact ⟨(retv3 (congrArg (Value.int .u64) (show 0 = (get b at_).1 from by rw [hget])) (congrArg (Value.int .i64) (show at_ = (get b at_).2.1 from by rw [hget])) (congrArg (Value.int .i64) (show 2 = (get b at_).2.2 from by rw [hget]))), hst.bare⟩

theorem c_rGet (w0 : World) (b : List UInt8) (at_ : Int) (hl : b.length ≤ 1000000000) :
    Calls Try.prog 49 #[(.string (str b)), (.int .i64 at_)] w0 fun e w' => e = .returned (.tuple #[(.int .u64 ((get b at_).1)), (.int .i64 ((get b at_).2.1)), (.int .i64 ((get b at_).2.2))]) ∧ St w0 w' [] := by
  refine calls_E (n := 65) (ts := [4, 5, 6]) Try.func49 rfl rfl rfl (by simp) ?_
  have hst := St.start w0
  refine cE_seq ?_
  refine cE_region rfl ?_
  refine s_cons (op_assign (.int .u64 0) rfl ?_)
  refine s_cons (op_assign (.int .i64 0) rfl ?_)
  refine s_cons (op_assign (.int .i64 0) rfl ?_)
  refine s_nil ?_
  refine then_n ?_
  refine cE_seq ?_
  refine cE_seq ?_
  refine cE_region rfl ?_
  refine s_cons (op_move (.int .i64 at_) rfl ?_)
  refine s_cons (op_lss (k := .i64) (a := at_) (b := 0) rfl rfl ?_)
  refine s_cons (op_move (.bool (decide (at_ < 0))) rfl ?_)
  rcases Bool.eq_false_or_eq_true (decide (at_ < 0)) with b76 | b76
  · have c77 : at_ < 0 := of_decide_eq_true b76
    refine s_no 12 rfl (congrArg Value.bool b76) ?_
    refine s_no 12 rfl (congrArg Value.bool b76) ?_
    refine s_no 12 rfl (congrArg Value.bool b76) ?_
    refine s_no 12 rfl (congrArg Value.bool b76) ?_
    refine s_cons (op_pick_t (.bool true) (congrArg Value.bool b76) rfl ?_)
    refine s_nil ?_
    refine then_n ?_
    refine cE_cond true rfl (fun _ => ?_) (fun h => by cases h)
    refine cE_seq ?_
    refine cE_region rfl ?_
    refine s_cons (op_move (.int .i64 at_) rfl ?_)
    refine s_cons (op_assign (.int .u64 0) rfl ?_)
    refine s_cons (op_assign (.int .i64 at_) rfl ?_)
    refine s_cons (op_assign (.int .i64 1) rfl ?_)
    refine s_nil ?_
    refine then_n ?_
    refine cE_ret ?_
    refine then_r ?_
    refine post_r _ (res3 (v := (.int .u64 0)) rfl (x := (.int .i64 at_)) rfl (y := (.int .i64 1)) rfl) ?_
    have hget : get b at_ = (0, at_, 1) := by first | exact get_out (by omega) | exact get_none (by omega) (by omega) (hg.trans (getG_stop (by omega))) | exact get_none (by omega) (by omega) (hg.trans (getG_nine (j := (Int.toNat (at_ + (k : Int)))) (by omega) (by omega) (by omega) (by omega) (by omega))) | exact get_none (by omega) (by omega) (hg.trans (getG_zero (j := (Int.toNat (at_ + (k : Int)))) (by omega) (by omega) (by omega) (by omega) (by omega) (by omega))) | exact get_some (by omega) (by omega) (hg.trans (getG_end (j := (Int.toNat (at_ + (k : Int)))) (by omega) (by omega) (by omega) (by omega) (by omega) (by omega))) (by omega)
    exact ⟨(retv3 (congrArg (Value.int .u64) (show 0 = (get b at_).1 from by rw [hget])) (congrArg (Value.int .i64) (show at_ = (get b at_).2.1 from by rw [hget])) (congrArg (Value.int .i64) (show 1 = (get b at_).2.2 from by rw [hget]))), hst.bare⟩
  have c78 : ¬ (at_ < 0) := of_decide_eq_false b76
  refine s_yes 12 rfl (congrArg Value.bool b76) (op_move (.int .i64 at_) rfl ?_)
  refine s_yes 12 rfl (congrArg Value.bool b76) (op_move (.string (str b)) rfl ?_)
  refine s_yes 12 rfl (congrArg Value.bool b76) (op_lenL Try.underlying9 (s := b) rfl ?_)
  refine s_yes 12 rfl (congrArg Value.bool b76) (op_gtr (k := .i64) (a := at_) (b := (b.length : Int)) rfl rfl ?_)
  refine s_cons (op_pick_f (.bool (decide ((b.length : Int) < at_))) (congrArg Value.bool b76) rfl ?_)
  refine s_nil ?_
  refine then_n ?_
  rcases Bool.eq_false_or_eq_true (decide ((b.length : Int) < at_)) with b79 | b79
  · have c80 : (b.length : Int) < at_ := of_decide_eq_true b79
    refine cE_cond true (congrArg Value.bool b79) (fun _ => ?_) (fun h => by cases h)
    refine cE_seq ?_
    refine cE_region rfl ?_
    refine s_cons (op_move (.int .i64 at_) rfl ?_)
    refine s_cons (op_assign (.int .u64 0) rfl ?_)
    refine s_cons (op_assign (.int .i64 at_) rfl ?_)
    refine s_cons (op_assign (.int .i64 1) rfl ?_)
    refine s_nil ?_
    refine then_n ?_
    refine cE_ret ?_
    refine then_r ?_
    refine post_r _ (res3 (v := (.int .u64 0)) rfl (x := (.int .i64 at_)) rfl (y := (.int .i64 1)) rfl) ?_
    have hget : get b at_ = (0, at_, 1) := by first | exact get_out (by omega) | exact get_none (by omega) (by omega) (hg.trans (getG_stop (by omega))) | exact get_none (by omega) (by omega) (hg.trans (getG_nine (j := (Int.toNat (at_ + (k : Int)))) (by omega) (by omega) (by omega) (by omega) (by omega))) | exact get_none (by omega) (by omega) (hg.trans (getG_zero (j := (Int.toNat (at_ + (k : Int)))) (by omega) (by omega) (by omega) (by omega) (by omega) (by omega))) | exact get_some (by omega) (by omega) (hg.trans (getG_end (j := (Int.toNat (at_ + (k : Int)))) (by omega) (by omega) (by omega) (by omega) (by omega) (by omega))) (by omega)
    exact ⟨(retv3 (congrArg (Value.int .u64) (show 0 = (get b at_).1 from by rw [hget])) (congrArg (Value.int .i64) (show at_ = (get b at_).2.1 from by rw [hget])) (congrArg (Value.int .i64) (show 1 = (get b at_).2.2 from by rw [hget]))), hst.bare⟩
  have c81 : ¬ ((b.length : Int) < at_) := of_decide_eq_false b79
  refine cE_cond false (congrArg Value.bool b79) (fun h => by cases h) (fun _ => ?_)
  refine cE_skip ?_
  refine then_n ?_
  refine cE_seq ?_
  refine cE_region rfl ?_
  refine s_cons (op_assign (.int .u64 0) rfl ?_)
  refine s_nil ?_
  refine then_n ?_
  refine cE_seq ?_
  refine cE_seq ?_
  refine cE_region rfl ?_
  refine s_cons (op_assign (.int .i64 0) rfl ?_)
  refine s_nil ?_
  refine then_n ?_
  refine cE_block ?_
  refine cE_loop (fun (m : Nat) (ρ : Env) (w : World) => ∃ (k : Nat) (n : Nat), m = 10 - k ∧ ρ 0 = (.string (str b)) ∧ ρ 1 = (.int .i64 at_) ∧ ρ 7 = (.int .u64 (n : Int)) ∧ ρ 8 = (.int .i64 (k : Int)) ∧ St w0 w [] ∧ (getG 10 0 0 (b.drop at_.toNat) = getG (10 - k) k n (b.drop (at_.toNat + k))) ∧ (k ≤ 10) ∧ (n < 128 ^ k)) id _ ⟨0, 0, rfl, rfl, rfl, (congrArg (Value.int .u64) (show 0 = _ from by first | rfl | omega)), (congrArg (Value.int .i64) (show 0 = _ from by omega)), hst, (by first | rfl | exact hg.trans (getG_more (j := (Int.toNat (at_ + (k : Int)))) (by omega) (by omega) (by omega) (by omega) (by omega))), (by omega), (by first | exact (by decide : (0 : Nat) < 128 ^ 0) | exact next_lt hn)⟩ ?_
  rintro m83 ρ84 w85 ⟨k, n, hm83, q82_0, q82_1, q82_7, q82_8, hst, hg, hk, hn⟩
  refine cE_seq ?_
  refine cE_seq ?_
  refine cE_region rfl ?_
  refine s_cons (op_move (.int .i64 (k : Int)) q82_8 ?_)
  refine s_cons (op_lss (k := .i64) (a := (k : Int)) (b := 10) rfl rfl ?_)
  refine s_cons (op_move (.bool (decide ((k : Int) < 10))) rfl ?_)
  rcases Bool.eq_false_or_eq_true (decide ((k : Int) < 10)) with b86 | b86
  · have c87 : (k : Int) < 10 := of_decide_eq_true b86
    refine s_yes 21 rfl (congrArg Value.bool b86) (op_move (.int .i64 at_) q82_1 ?_)
    refine s_yes 21 rfl (congrArg Value.bool b86) (op_move (.int .i64 (k : Int)) q82_8 ?_)
    refine s_yes 21 rfl (congrArg Value.bool b86) (op_add (k := .i64) (a := at_) (b := (k : Int)) (at_ + (k : Int)) rfl rfl (xi64 (by omega) (by omega)) ?_)
    refine s_yes 21 rfl (congrArg Value.bool b86) (op_move (.string (str b)) q82_0 ?_)
    refine s_yes 21 rfl (congrArg Value.bool b86) (op_lenL Try.underlying9 (s := b) rfl ?_)
    refine s_yes 21 rfl (congrArg Value.bool b86) (op_lss (k := .i64) (a := (at_ + (k : Int))) (b := (b.length : Int)) rfl rfl ?_)
    refine s_cons (op_pick_t (.bool (decide ((at_ + (k : Int)) < (b.length : Int)))) (congrArg Value.bool b86) rfl ?_)
    refine s_nil ?_
    refine then_n ?_
    rcases Bool.eq_false_or_eq_true (decide ((at_ + (k : Int)) < (b.length : Int))) with b88 | b88
    · have c89 : (at_ + (k : Int)) < (b.length : Int) := of_decide_eq_true b88
      refine cE_cond true (congrArg Value.bool b88) (fun _ => ?_) (fun h => by cases h)
      refine cE_skip ?_
      refine then_n ?_
      refine cE_seq ?_
      refine cE_block ?_
      refine cE_seq ?_
      refine cE_region rfl ?_
      refine s_cons (op_move (.string (str b)) q82_0 ?_)
      refine s_cons (op_move (.int .i64 at_) q82_1 ?_)
      refine s_cons (op_move (.int .i64 (k : Int)) q82_8 ?_)
      refine s_cons (op_add (k := .i64) (a := at_) (b := (k : Int)) (at_ + (k : Int)) rfl rfl (xi64 (by omega) (by omega)) ?_)
      refine s_cons (op_index_strN (s := b) (Int.toNat (at_ + (k : Int))) Try.underlying9 rfl rfl (by omega) (by omega) ?_)
      have hu90 := u8_lt (b[(Int.toNat (at_ + (k : Int)))]'(by omega))
      refine s_cons (op_conv (k := .u8) (a := ((b[(Int.toNat (at_ + (k : Int)))]'(by omega)).toNat : Int)) ((b[(Int.toNat (at_ + (k : Int)))]'(by omega)).toNat : Int) Try.underlying54 (by rw [Try.underlying5]; rfl) rfl (xu64 (by omega) (by omega)) ?_)
      refine s_cons (op_assign (.int .u64 ((b[(Int.toNat (at_ + (k : Int)))]'(by omega)).toNat : Int)) rfl ?_)
      refine s_nil ?_
      refine then_n ?_
      refine cE_seq ?_
      refine cE_seq ?_
      refine cE_region rfl ?_
      refine s_cons (op_move (.int .i64 (k : Int)) q82_8 ?_)
      refine s_cons (op_eql (k := .i64) (a := (k : Int)) (b := 9) rfl rfl ?_)
      refine s_cons (op_move (.bool (decide ((k : Int) = 9))) rfl ?_)
      rcases Bool.eq_false_or_eq_true (decide ((k : Int) = 9)) with b91 | b91
      · have c92 : (k : Int) = 9 := of_decide_eq_true b91
        refine s_yes 39 rfl (congrArg Value.bool b91) (op_move (.int .u64 ((b[(Int.toNat (at_ + (k : Int)))]'(by omega)).toNat : Int)) rfl ?_)
        refine s_yes 39 rfl (congrArg Value.bool b91) (op_gtr (k := .u64) (a := ((b[(Int.toNat (at_ + (k : Int)))]'(by omega)).toNat : Int)) (b := 1) rfl rfl ?_)
        refine s_cons (op_pick_t (.bool (decide (1 < ((b[(Int.toNat (at_ + (k : Int)))]'(by omega)).toNat : Int)))) (congrArg Value.bool b91) rfl ?_)
        refine s_nil ?_
        refine then_n ?_
        rcases Bool.eq_false_or_eq_true (decide (1 < ((b[(Int.toNat (at_ + (k : Int)))]'(by omega)).toNat : Int))) with b93 | b93
        · have c94 : 1 < ((b[(Int.toNat (at_ + (k : Int)))]'(by omega)).toNat : Int) := of_decide_eq_true b93
          refine cE_cond true (congrArg Value.bool b93) (fun _ => ?_) (fun h => by cases h)
          refine cE_exit ?_
          refine then_x (block_miss (by decide) (then_x (then_x (block_hit (then_n ?_)))))
          refine cE_seq ?_
          refine cE_region rfl ?_
          refine s_cons (op_move (.int .i64 at_) q82_1 ?_)
          refine s_cons (op_assign (.int .u64 0) rfl ?_)
          refine s_cons (op_assign (.int .i64 at_) rfl ?_)
          refine s_cons (op_assign (.int .i64 2) rfl ?_)
          refine s_nil ?_
          refine then_n ?_
          refine cE_ret ?_
          refine post_r _ (res3 (v := (.int .u64 0)) rfl (x := (.int .i64 at_)) rfl (y := (.int .i64 2)) rfl) ?_
          have hget : get b at_ = (0, at_, 2) := by first | exact get_out (by omega) | exact get_none (by omega) (by omega) (hg.trans (getG_stop (by omega))) | exact get_none (by omega) (by omega) (hg.trans (getG_nine (j := (Int.toNat (at_ + (k : Int)))) (by omega) (by omega) (by omega) (by omega) (by omega))) | exact get_none (by omega) (by omega) (hg.trans (getG_zero (j := (Int.toNat (at_ + (k : Int)))) (by omega) (by omega) (by omega) (by omega) (by omega) (by omega))) | exact get_some (by omega) (by omega) (hg.trans (getG_end (j := (Int.toNat (at_ + (k : Int)))) (by omega) (by omega) (by omega) (by omega) (by omega) (by omega))) (by omega)
          exact ⟨(retv3 (congrArg (Value.int .u64) (show 0 = (get b at_).1 from by rw [hget])) (congrArg (Value.int .i64) (show at_ = (get b at_).2.1 from by rw [hget])) (congrArg (Value.int .i64) (show 2 = (get b at_).2.2 from by rw [hget]))), hst.bare⟩
        have c95 : ¬ (1 < ((b[(Int.toNat (at_ + (k : Int)))]'(by omega)).toNat : Int)) := of_decide_eq_false b93
        refine cE_cond false (congrArg Value.bool b93) (fun h => by cases h) (fun _ => ?_)
        refine cE_skip ?_
        refine then_n ?_
        refine cE_seq ?_
        refine cE_region rfl ?_
        refine s_cons (op_move (.int .u64 (n : Int)) q82_7 ?_)
        refine s_cons (op_move (.int .u64 ((b[(Int.toNat (at_ + (k : Int)))]'(by omega)).toNat : Int)) rfl ?_)
        refine s_cons (op_and (k := .u64) (a := ((b[(Int.toNat (at_ + (k : Int)))]'(by omega)).toNat : Int)) (b := 127) (((b[(Int.toNat (at_ + (k : Int)))]'(by omega)).toNat : Int) % 128) rfl rfl (and127w (by omega) (by omega)) ?_)
        refine s_cons (op_move (.int .i64 (k : Int)) q82_8 ?_)
        refine s_cons (op_mul (k := .i64) (a := 7) (b := (k : Int)) (7 * (k : Int)) rfl rfl (xi64 (by omega) (by omega)) ?_)
        refine s_cons (op_conv (k := .i64) (a := (7 * (k : Int))) (7 * (k : Int)) Try.underlying44 (by rw [Try.underlying3]; rfl) rfl (xu64 (by omega) (by omega)) ?_)
        refine s_cons (op_shl (k := .u64) (k' := .u64) (a := (((b[(Int.toNat (at_ + (k : Int)))]'(by omega)).toNat : Int) % 128)) (b := (7 * (k : Int))) ((((b[(Int.toNat (at_ + (k : Int)))]'(by omega)).toNat % 128 : Nat) : Int) * 128 ^ k) rfl rfl (by omega) (by simp [IntKind.bits]; try omega) (shl7 (by omega) (by omega)) ?_)
        refine s_cons (op_or (k := .u64) (a := (n : Int)) (b := ((((b[(Int.toNat (at_ + (k : Int)))]'(by omega)).toNat % 128 : Nat) : Int) * 128 ^ k)) ((n + (b[(Int.toNat (at_ + (k : Int)))]'(by omega)).toNat % 128 * 128 ^ k : Nat) : Int) rfl rfl (or7 (by omega) (by omega) hn) ?_)
        refine s_cons (op_assign (.int .u64 ((n + (b[(Int.toNat (at_ + (k : Int)))]'(by omega)).toNat % 128 * 128 ^ k : Nat) : Int)) rfl ?_)
        refine s_nil ?_
        refine then_n ?_
        refine cE_seq ?_
        refine cE_region rfl ?_
        refine s_cons (op_move (.int .u64 ((b[(Int.toNat (at_ + (k : Int)))]'(by omega)).toNat : Int)) rfl ?_)
        refine s_cons (op_lss (k := .u64) (a := ((b[(Int.toNat (at_ + (k : Int)))]'(by omega)).toNat : Int)) (b := 128) rfl rfl ?_)
        refine s_nil ?_
        refine then_n ?_
        rcases Bool.eq_false_or_eq_true (decide (((b[(Int.toNat (at_ + (k : Int)))]'(by omega)).toNat : Int) < 128)) with b96 | b96
        · have c97 : ((b[(Int.toNat (at_ + (k : Int)))]'(by omega)).toNat : Int) < 128 := of_decide_eq_true b96
          refine cE_cond true (congrArg Value.bool b96) (fun _ => ?_) (fun h => by cases h)
          refine cE_seq ?_
          refine cE_seq ?_
          refine cE_region rfl ?_
          refine s_cons (op_move (.int .u64 ((b[(Int.toNat (at_ + (k : Int)))]'(by omega)).toNat : Int)) rfl ?_)
          refine s_cons (op_eql (k := .u64) (a := ((b[(Int.toNat (at_ + (k : Int)))]'(by omega)).toNat : Int)) (b := 0) rfl rfl ?_)
          refine s_cons (op_move (.bool (decide (((b[(Int.toNat (at_ + (k : Int)))]'(by omega)).toNat : Int) = 0))) rfl ?_)
          rcases Bool.eq_false_or_eq_true (decide (((b[(Int.toNat (at_ + (k : Int)))]'(by omega)).toNat : Int) = 0)) with b98 | b98
          · have c99 : ((b[(Int.toNat (at_ + (k : Int)))]'(by omega)).toNat : Int) = 0 := of_decide_eq_true b98
            refine s_yes 55 rfl (congrArg Value.bool b98) (op_move (.int .i64 (k : Int)) q82_8 ?_)
            refine s_yes 55 rfl (congrArg Value.bool b98) (op_gtr (k := .i64) (a := (k : Int)) (b := 0) rfl rfl ?_)
            refine s_cons (op_pick_t (.bool (decide (0 < (k : Int)))) (congrArg Value.bool b98) rfl ?_)
            refine s_nil ?_
            refine then_n ?_
            rcases Bool.eq_false_or_eq_true (decide (0 < (k : Int))) with b100 | b100
            · have c101 : 0 < (k : Int) := of_decide_eq_true b100
              refine cE_cond true (congrArg Value.bool b100) (fun _ => ?_) (fun h => by cases h)
              refine cE_exit ?_
              refine then_x (block_miss (by decide) (then_x (then_x (block_hit (then_n ?_)))))
              refine cE_seq ?_
              refine cE_region rfl ?_
              refine s_cons (op_move (.int .i64 at_) q82_1 ?_)
              refine s_cons (op_assign (.int .u64 0) rfl ?_)
              refine s_cons (op_assign (.int .i64 at_) rfl ?_)
              refine s_cons (op_assign (.int .i64 2) rfl ?_)
              refine s_nil ?_
              refine then_n ?_
              refine cE_ret ?_
              refine post_r _ (res3 (v := (.int .u64 0)) rfl (x := (.int .i64 at_)) rfl (y := (.int .i64 2)) rfl) ?_
              have hget : get b at_ = (0, at_, 2) := by first | exact get_out (by omega) | exact get_none (by omega) (by omega) (hg.trans (getG_stop (by omega))) | exact get_none (by omega) (by omega) (hg.trans (getG_nine (j := (Int.toNat (at_ + (k : Int)))) (by omega) (by omega) (by omega) (by omega) (by omega))) | exact get_none (by omega) (by omega) (hg.trans (getG_zero (j := (Int.toNat (at_ + (k : Int)))) (by omega) (by omega) (by omega) (by omega) (by omega) (by omega))) | exact get_some (by omega) (by omega) (hg.trans (getG_end (j := (Int.toNat (at_ + (k : Int)))) (by omega) (by omega) (by omega) (by omega) (by omega) (by omega))) (by omega)
              exact ⟨(retv3 (congrArg (Value.int .u64) (show 0 = (get b at_).1 from by rw [hget])) (congrArg (Value.int .i64) (show at_ = (get b at_).2.1 from by rw [hget])) (congrArg (Value.int .i64) (show 2 = (get b at_).2.2 from by rw [hget]))), hst.bare⟩
            have c102 : ¬ (0 < (k : Int)) := of_decide_eq_false b100
            refine cE_cond false (congrArg Value.bool b100) (fun h => by cases h) (fun _ => ?_)
            refine cE_skip ?_
            refine then_n ?_
            refine cE_seq ?_
            refine cE_region rfl ?_
            refine s_cons (op_move (.int .u64 ((n + (b[(Int.toNat (at_ + (k : Int)))]'(by omega)).toNat % 128 * 128 ^ k : Nat) : Int)) rfl ?_)
            refine s_cons (op_move (.int .i64 at_) q82_1 ?_)
            refine s_cons (op_move (.int .i64 (k : Int)) q82_8 ?_)
            refine s_cons (op_add (k := .i64) (a := at_) (b := (k : Int)) (at_ + (k : Int)) rfl rfl (xi64 (by omega) (by omega)) ?_)
            refine s_cons (op_add (k := .i64) (a := (at_ + (k : Int))) (b := 1) ((at_ + (k : Int)) + 1) rfl rfl (xi64 (by omega) (by omega)) ?_)
            refine s_cons (op_assign (.int .u64 ((n + (b[(Int.toNat (at_ + (k : Int)))]'(by omega)).toNat % 128 * 128 ^ k : Nat) : Int)) rfl ?_)
            refine s_cons (op_assign (.int .i64 ((at_ + (k : Int)) + 1)) rfl ?_)
            refine s_cons (op_assign (.int .i64 0) rfl ?_)
            refine s_nil ?_
            refine then_n ?_
            refine cE_ret ?_
            refine block_r (then_r (then_r (block_r (then_r ?_))))
            refine post_r _ (res3 (v := (.int .u64 ((n + (b[(Int.toNat (at_ + (k : Int)))]'(by omega)).toNat % 128 * 128 ^ k : Nat) : Int))) rfl (x := (.int .i64 ((at_ + (k : Int)) + 1))) rfl (y := (.int .i64 0)) rfl) ?_
            have hget : get b at_ = (((n + (b[(Int.toNat (at_ + (k : Int)))]'(by omega)).toNat % 128 * 128 ^ k : Nat) : Int), ((at_ + (k : Int)) + 1), 0) := by first | exact get_out (by omega) | exact get_none (by omega) (by omega) (hg.trans (getG_stop (by omega))) | exact get_none (by omega) (by omega) (hg.trans (getG_nine (j := (Int.toNat (at_ + (k : Int)))) (by omega) (by omega) (by omega) (by omega) (by omega))) | exact get_none (by omega) (by omega) (hg.trans (getG_zero (j := (Int.toNat (at_ + (k : Int)))) (by omega) (by omega) (by omega) (by omega) (by omega) (by omega))) | exact get_some (by omega) (by omega) (hg.trans (getG_end (j := (Int.toNat (at_ + (k : Int)))) (by omega) (by omega) (by omega) (by omega) (by omega) (by omega))) (by omega)
            exact ⟨(retv3 (congrArg (Value.int .u64) (show ((n + (b[(Int.toNat (at_ + (k : Int)))]'(by omega)).toNat % 128 * 128 ^ k : Nat) : Int) = (get b at_).1 from by rw [hget])) (congrArg (Value.int .i64) (show ((at_ + (k : Int)) + 1) = (get b at_).2.1 from by rw [hget])) (congrArg (Value.int .i64) (show 0 = (get b at_).2.2 from by rw [hget]))), hst.bare⟩
          have c103 : ¬ (((b[(Int.toNat (at_ + (k : Int)))]'(by omega)).toNat : Int) = 0) := of_decide_eq_false b98
          refine s_no 55 rfl (congrArg Value.bool b98) ?_
          refine s_no 55 rfl (congrArg Value.bool b98) ?_
          refine s_cons (op_pick_f (.bool false) (congrArg Value.bool b98) rfl ?_)
          refine s_nil ?_
          refine then_n ?_
          refine cE_cond false rfl (fun h => by cases h) (fun _ => ?_)
          refine cE_skip ?_
          refine then_n ?_
          refine cE_seq ?_
          refine cE_region rfl ?_
          refine s_cons (op_move (.int .u64 ((n + (b[(Int.toNat (at_ + (k : Int)))]'(by omega)).toNat % 128 * 128 ^ k : Nat) : Int)) rfl ?_)
          refine s_cons (op_move (.int .i64 at_) q82_1 ?_)
          refine s_cons (op_move (.int .i64 (k : Int)) q82_8 ?_)
          refine s_cons (op_add (k := .i64) (a := at_) (b := (k : Int)) (at_ + (k : Int)) rfl rfl (xi64 (by omega) (by omega)) ?_)
          refine s_cons (op_add (k := .i64) (a := (at_ + (k : Int))) (b := 1) ((at_ + (k : Int)) + 1) rfl rfl (xi64 (by omega) (by omega)) ?_)
          refine s_cons (op_assign (.int .u64 ((n + (b[(Int.toNat (at_ + (k : Int)))]'(by omega)).toNat % 128 * 128 ^ k : Nat) : Int)) rfl ?_)
          refine s_cons (op_assign (.int .i64 ((at_ + (k : Int)) + 1)) rfl ?_)
          refine s_cons (op_assign (.int .i64 0) rfl ?_)
          refine s_nil ?_
          refine then_n ?_
          refine cE_ret ?_
          refine block_r (then_r (then_r (block_r (then_r ?_))))
          refine post_r _ (res3 (v := (.int .u64 ((n + (b[(Int.toNat (at_ + (k : Int)))]'(by omega)).toNat % 128 * 128 ^ k : Nat) : Int))) rfl (x := (.int .i64 ((at_ + (k : Int)) + 1))) rfl (y := (.int .i64 0)) rfl) ?_
          have hget : get b at_ = (((n + (b[(Int.toNat (at_ + (k : Int)))]'(by omega)).toNat % 128 * 128 ^ k : Nat) : Int), ((at_ + (k : Int)) + 1), 0) := by first | exact get_out (by omega) | exact get_none (by omega) (by omega) (hg.trans (getG_stop (by omega))) | exact get_none (by omega) (by omega) (hg.trans (getG_nine (j := (Int.toNat (at_ + (k : Int)))) (by omega) (by omega) (by omega) (by omega) (by omega))) | exact get_none (by omega) (by omega) (hg.trans (getG_zero (j := (Int.toNat (at_ + (k : Int)))) (by omega) (by omega) (by omega) (by omega) (by omega) (by omega))) | exact get_some (by omega) (by omega) (hg.trans (getG_end (j := (Int.toNat (at_ + (k : Int)))) (by omega) (by omega) (by omega) (by omega) (by omega) (by omega))) (by omega)
          exact ⟨(retv3 (congrArg (Value.int .u64) (show ((n + (b[(Int.toNat (at_ + (k : Int)))]'(by omega)).toNat % 128 * 128 ^ k : Nat) : Int) = (get b at_).1 from by rw [hget])) (congrArg (Value.int .i64) (show ((at_ + (k : Int)) + 1) = (get b at_).2.1 from by rw [hget])) (congrArg (Value.int .i64) (show 0 = (get b at_).2.2 from by rw [hget]))), hst.bare⟩
        have c104 : ¬ (((b[(Int.toNat (at_ + (k : Int)))]'(by omega)).toNat : Int) < 128) := of_decide_eq_false b96
        refine cE_cond false (congrArg Value.bool b96) (fun h => by cases h) (fun _ => ?_)
        refine cE_skip ?_
        refine block_n (then_n ?_)
        refine cE_region rfl ?_
        refine s_cons (op_move (.int .i64 (k : Int)) q82_8 ?_)
        refine s_cons (op_add (k := .i64) (a := (k : Int)) (b := 1) ((k : Int) + 1) rfl rfl (xi64 (by omega) (by omega)) ?_)
        refine s_cons (op_assign (.int .i64 ((k : Int) + 1)) rfl ?_)
        refine s_nil ?_
        refine then_n ?_
        exact ⟨_, ⟨(k + 1), (n + (b[(Int.toNat (at_ + (k : Int)))]'(by omega)).toNat % 128 * 128 ^ k), rfl, q82_0, q82_1, (congrArg (Value.int .u64) (show ((n + (b[(Int.toNat (at_ + (k : Int)))]'(by omega)).toNat % 128 * 128 ^ k : Nat) : Int) = _ from by first | rfl | omega)), (congrArg (Value.int .i64) (show ((k : Int) + 1) = _ from by omega)), hst, (by first | rfl | exact hg.trans (getG_more (j := (Int.toNat (at_ + (k : Int)))) (by omega) (by omega) (by omega) (by omega) (by omega))), (by omega), (by first | exact (by decide : (0 : Nat) < 128 ^ 0) | exact next_lt hn)⟩, (by simp only [id]; omega)⟩
      have c105 : ¬ ((k : Int) = 9) := of_decide_eq_false b91
      refine s_no 39 rfl (congrArg Value.bool b91) ?_
      refine s_no 39 rfl (congrArg Value.bool b91) ?_
      refine s_cons (op_pick_f (.bool false) (congrArg Value.bool b91) rfl ?_)
      refine s_nil ?_
      refine then_n ?_
      refine cE_cond false rfl (fun h => by cases h) (fun _ => ?_)
      refine cE_skip ?_
      refine then_n ?_
      refine cE_seq ?_
      refine cE_region rfl ?_
      refine s_cons (op_move (.int .u64 (n : Int)) q82_7 ?_)
      refine s_cons (op_move (.int .u64 ((b[(Int.toNat (at_ + (k : Int)))]'(by omega)).toNat : Int)) rfl ?_)
      refine s_cons (op_and (k := .u64) (a := ((b[(Int.toNat (at_ + (k : Int)))]'(by omega)).toNat : Int)) (b := 127) (((b[(Int.toNat (at_ + (k : Int)))]'(by omega)).toNat : Int) % 128) rfl rfl (and127w (by omega) (by omega)) ?_)
      refine s_cons (op_move (.int .i64 (k : Int)) q82_8 ?_)
      refine s_cons (op_mul (k := .i64) (a := 7) (b := (k : Int)) (7 * (k : Int)) rfl rfl (xi64 (by omega) (by omega)) ?_)
      refine s_cons (op_conv (k := .i64) (a := (7 * (k : Int))) (7 * (k : Int)) Try.underlying44 (by rw [Try.underlying3]; rfl) rfl (xu64 (by omega) (by omega)) ?_)
      refine s_cons (op_shl (k := .u64) (k' := .u64) (a := (((b[(Int.toNat (at_ + (k : Int)))]'(by omega)).toNat : Int) % 128)) (b := (7 * (k : Int))) ((((b[(Int.toNat (at_ + (k : Int)))]'(by omega)).toNat % 128 : Nat) : Int) * 128 ^ k) rfl rfl (by omega) (by simp [IntKind.bits]; try omega) (shl7 (by omega) (by omega)) ?_)
      refine s_cons (op_or (k := .u64) (a := (n : Int)) (b := ((((b[(Int.toNat (at_ + (k : Int)))]'(by omega)).toNat % 128 : Nat) : Int) * 128 ^ k)) ((n + (b[(Int.toNat (at_ + (k : Int)))]'(by omega)).toNat % 128 * 128 ^ k : Nat) : Int) rfl rfl (or7 (by omega) (by omega) hn) ?_)
      refine s_cons (op_assign (.int .u64 ((n + (b[(Int.toNat (at_ + (k : Int)))]'(by omega)).toNat % 128 * 128 ^ k : Nat) : Int)) rfl ?_)
      refine s_nil ?_
      refine then_n ?_
      refine cE_seq ?_
      refine cE_region rfl ?_
      refine s_cons (op_move (.int .u64 ((b[(Int.toNat (at_ + (k : Int)))]'(by omega)).toNat : Int)) rfl ?_)
      refine s_cons (op_lss (k := .u64) (a := ((b[(Int.toNat (at_ + (k : Int)))]'(by omega)).toNat : Int)) (b := 128) rfl rfl ?_)
      refine s_nil ?_
      refine then_n ?_
      rcases Bool.eq_false_or_eq_true (decide (((b[(Int.toNat (at_ + (k : Int)))]'(by omega)).toNat : Int) < 128)) with b106 | b106
      · have c107 : ((b[(Int.toNat (at_ + (k : Int)))]'(by omega)).toNat : Int) < 128 := of_decide_eq_true b106
        refine cE_cond true (congrArg Value.bool b106) (fun _ => ?_) (fun h => by cases h)
        refine cE_seq ?_
        refine cE_seq ?_
        refine cE_region rfl ?_
        refine s_cons (op_move (.int .u64 ((b[(Int.toNat (at_ + (k : Int)))]'(by omega)).toNat : Int)) rfl ?_)
        refine s_cons (op_eql (k := .u64) (a := ((b[(Int.toNat (at_ + (k : Int)))]'(by omega)).toNat : Int)) (b := 0) rfl rfl ?_)
        refine s_cons (op_move (.bool (decide (((b[(Int.toNat (at_ + (k : Int)))]'(by omega)).toNat : Int) = 0))) rfl ?_)
        rcases Bool.eq_false_or_eq_true (decide (((b[(Int.toNat (at_ + (k : Int)))]'(by omega)).toNat : Int) = 0)) with b108 | b108
        · have c109 : ((b[(Int.toNat (at_ + (k : Int)))]'(by omega)).toNat : Int) = 0 := of_decide_eq_true b108
          refine s_yes 55 rfl (congrArg Value.bool b108) (op_move (.int .i64 (k : Int)) q82_8 ?_)
          refine s_yes 55 rfl (congrArg Value.bool b108) (op_gtr (k := .i64) (a := (k : Int)) (b := 0) rfl rfl ?_)
          refine s_cons (op_pick_t (.bool (decide (0 < (k : Int)))) (congrArg Value.bool b108) rfl ?_)
          refine s_nil ?_
          refine then_n ?_
          rcases Bool.eq_false_or_eq_true (decide (0 < (k : Int))) with b110 | b110
          · have c111 : 0 < (k : Int) := of_decide_eq_true b110
            refine cE_cond true (congrArg Value.bool b110) (fun _ => ?_) (fun h => by cases h)
            refine cE_exit ?_
            refine then_x (block_miss (by decide) (then_x (then_x (block_hit (then_n ?_)))))
            refine cE_seq ?_
            refine cE_region rfl ?_
            refine s_cons (op_move (.int .i64 at_) q82_1 ?_)
            refine s_cons (op_assign (.int .u64 0) rfl ?_)
            refine s_cons (op_assign (.int .i64 at_) rfl ?_)
            refine s_cons (op_assign (.int .i64 2) rfl ?_)
            refine s_nil ?_
            refine then_n ?_
            refine cE_ret ?_
            refine post_r _ (res3 (v := (.int .u64 0)) rfl (x := (.int .i64 at_)) rfl (y := (.int .i64 2)) rfl) ?_
            have hget : get b at_ = (0, at_, 2) := by first | exact get_out (by omega) | exact get_none (by omega) (by omega) (hg.trans (getG_stop (by omega))) | exact get_none (by omega) (by omega) (hg.trans (getG_nine (j := (Int.toNat (at_ + (k : Int)))) (by omega) (by omega) (by omega) (by omega) (by omega))) | exact get_none (by omega) (by omega) (hg.trans (getG_zero (j := (Int.toNat (at_ + (k : Int)))) (by omega) (by omega) (by omega) (by omega) (by omega) (by omega))) | exact get_some (by omega) (by omega) (hg.trans (getG_end (j := (Int.toNat (at_ + (k : Int)))) (by omega) (by omega) (by omega) (by omega) (by omega) (by omega))) (by omega)
            exact ⟨(retv3 (congrArg (Value.int .u64) (show 0 = (get b at_).1 from by rw [hget])) (congrArg (Value.int .i64) (show at_ = (get b at_).2.1 from by rw [hget])) (congrArg (Value.int .i64) (show 2 = (get b at_).2.2 from by rw [hget]))), hst.bare⟩
          have c112 : ¬ (0 < (k : Int)) := of_decide_eq_false b110
          refine cE_cond false (congrArg Value.bool b110) (fun h => by cases h) (fun _ => ?_)
          refine cE_skip ?_
          refine then_n ?_
          refine cE_seq ?_
          refine cE_region rfl ?_
          refine s_cons (op_move (.int .u64 ((n + (b[(Int.toNat (at_ + (k : Int)))]'(by omega)).toNat % 128 * 128 ^ k : Nat) : Int)) rfl ?_)
          refine s_cons (op_move (.int .i64 at_) q82_1 ?_)
          refine s_cons (op_move (.int .i64 (k : Int)) q82_8 ?_)
          refine s_cons (op_add (k := .i64) (a := at_) (b := (k : Int)) (at_ + (k : Int)) rfl rfl (xi64 (by omega) (by omega)) ?_)
          refine s_cons (op_add (k := .i64) (a := (at_ + (k : Int))) (b := 1) ((at_ + (k : Int)) + 1) rfl rfl (xi64 (by omega) (by omega)) ?_)
          refine s_cons (op_assign (.int .u64 ((n + (b[(Int.toNat (at_ + (k : Int)))]'(by omega)).toNat % 128 * 128 ^ k : Nat) : Int)) rfl ?_)
          refine s_cons (op_assign (.int .i64 ((at_ + (k : Int)) + 1)) rfl ?_)
          refine s_cons (op_assign (.int .i64 0) rfl ?_)
          refine s_nil ?_
          refine then_n ?_
          refine cE_ret ?_
          refine block_r (then_r (then_r (block_r (then_r ?_))))
          refine post_r _ (res3 (v := (.int .u64 ((n + (b[(Int.toNat (at_ + (k : Int)))]'(by omega)).toNat % 128 * 128 ^ k : Nat) : Int))) rfl (x := (.int .i64 ((at_ + (k : Int)) + 1))) rfl (y := (.int .i64 0)) rfl) ?_
          have hget : get b at_ = (((n + (b[(Int.toNat (at_ + (k : Int)))]'(by omega)).toNat % 128 * 128 ^ k : Nat) : Int), ((at_ + (k : Int)) + 1), 0) := by first | exact get_out (by omega) | exact get_none (by omega) (by omega) (hg.trans (getG_stop (by omega))) | exact get_none (by omega) (by omega) (hg.trans (getG_nine (j := (Int.toNat (at_ + (k : Int)))) (by omega) (by omega) (by omega) (by omega) (by omega))) | exact get_none (by omega) (by omega) (hg.trans (getG_zero (j := (Int.toNat (at_ + (k : Int)))) (by omega) (by omega) (by omega) (by omega) (by omega) (by omega))) | exact get_some (by omega) (by omega) (hg.trans (getG_end (j := (Int.toNat (at_ + (k : Int)))) (by omega) (by omega) (by omega) (by omega) (by omega) (by omega))) (by omega)
          exact ⟨(retv3 (congrArg (Value.int .u64) (show ((n + (b[(Int.toNat (at_ + (k : Int)))]'(by omega)).toNat % 128 * 128 ^ k : Nat) : Int) = (get b at_).1 from by rw [hget])) (congrArg (Value.int .i64) (show ((at_ + (k : Int)) + 1) = (get b at_).2.1 from by rw [hget])) (congrArg (Value.int .i64) (show 0 = (get b at_).2.2 from by rw [hget]))), hst.bare⟩
        have c113 : ¬ (((b[(Int.toNat (at_ + (k : Int)))]'(by omega)).toNat : Int) = 0) := of_decide_eq_false b108
        refine s_no 55 rfl (congrArg Value.bool b108) ?_
        refine s_no 55 rfl (congrArg Value.bool b108) ?_
        refine s_cons (op_pick_f (.bool false) (congrArg Value.bool b108) rfl ?_)
        refine s_nil ?_
        refine then_n ?_
        refine cE_cond false rfl (fun h => by cases h) (fun _ => ?_)
        refine cE_skip ?_
        refine then_n ?_
        refine cE_seq ?_
        refine cE_region rfl ?_
        refine s_cons (op_move (.int .u64 ((n + (b[(Int.toNat (at_ + (k : Int)))]'(by omega)).toNat % 128 * 128 ^ k : Nat) : Int)) rfl ?_)
        refine s_cons (op_move (.int .i64 at_) q82_1 ?_)
        refine s_cons (op_move (.int .i64 (k : Int)) q82_8 ?_)
        refine s_cons (op_add (k := .i64) (a := at_) (b := (k : Int)) (at_ + (k : Int)) rfl rfl (xi64 (by omega) (by omega)) ?_)
        refine s_cons (op_add (k := .i64) (a := (at_ + (k : Int))) (b := 1) ((at_ + (k : Int)) + 1) rfl rfl (xi64 (by omega) (by omega)) ?_)
        refine s_cons (op_assign (.int .u64 ((n + (b[(Int.toNat (at_ + (k : Int)))]'(by omega)).toNat % 128 * 128 ^ k : Nat) : Int)) rfl ?_)
        refine s_cons (op_assign (.int .i64 ((at_ + (k : Int)) + 1)) rfl ?_)
        refine s_cons (op_assign (.int .i64 0) rfl ?_)
        refine s_nil ?_
        refine then_n ?_
        refine cE_ret ?_
        refine block_r (then_r (then_r (block_r (then_r ?_))))
        refine post_r _ (res3 (v := (.int .u64 ((n + (b[(Int.toNat (at_ + (k : Int)))]'(by omega)).toNat % 128 * 128 ^ k : Nat) : Int))) rfl (x := (.int .i64 ((at_ + (k : Int)) + 1))) rfl (y := (.int .i64 0)) rfl) ?_
        have hget : get b at_ = (((n + (b[(Int.toNat (at_ + (k : Int)))]'(by omega)).toNat % 128 * 128 ^ k : Nat) : Int), ((at_ + (k : Int)) + 1), 0) := by first | exact get_out (by omega) | exact get_none (by omega) (by omega) (hg.trans (getG_stop (by omega))) | exact get_none (by omega) (by omega) (hg.trans (getG_nine (j := (Int.toNat (at_ + (k : Int)))) (by omega) (by omega) (by omega) (by omega) (by omega))) | exact get_none (by omega) (by omega) (hg.trans (getG_zero (j := (Int.toNat (at_ + (k : Int)))) (by omega) (by omega) (by omega) (by omega) (by omega) (by omega))) | exact get_some (by omega) (by omega) (hg.trans (getG_end (j := (Int.toNat (at_ + (k : Int)))) (by omega) (by omega) (by omega) (by omega) (by omega) (by omega))) (by omega)
        exact ⟨(retv3 (congrArg (Value.int .u64) (show ((n + (b[(Int.toNat (at_ + (k : Int)))]'(by omega)).toNat % 128 * 128 ^ k : Nat) : Int) = (get b at_).1 from by rw [hget])) (congrArg (Value.int .i64) (show ((at_ + (k : Int)) + 1) = (get b at_).2.1 from by rw [hget])) (congrArg (Value.int .i64) (show 0 = (get b at_).2.2 from by rw [hget]))), hst.bare⟩
      have c114 : ¬ (((b[(Int.toNat (at_ + (k : Int)))]'(by omega)).toNat : Int) < 128) := of_decide_eq_false b106
      refine cE_cond false (congrArg Value.bool b106) (fun h => by cases h) (fun _ => ?_)
      refine cE_skip ?_
      refine block_n (then_n ?_)
      refine cE_region rfl ?_
      refine s_cons (op_move (.int .i64 (k : Int)) q82_8 ?_)
      refine s_cons (op_add (k := .i64) (a := (k : Int)) (b := 1) ((k : Int) + 1) rfl rfl (xi64 (by omega) (by omega)) ?_)
      refine s_cons (op_assign (.int .i64 ((k : Int) + 1)) rfl ?_)
      refine s_nil ?_
      refine then_n ?_
      exact ⟨_, ⟨(k + 1), (n + (b[(Int.toNat (at_ + (k : Int)))]'(by omega)).toNat % 128 * 128 ^ k), rfl, q82_0, q82_1, (congrArg (Value.int .u64) (show ((n + (b[(Int.toNat (at_ + (k : Int)))]'(by omega)).toNat % 128 * 128 ^ k : Nat) : Int) = _ from by first | rfl | omega)), (congrArg (Value.int .i64) (show ((k : Int) + 1) = _ from by omega)), hst, (by first | rfl | exact hg.trans (getG_more (j := (Int.toNat (at_ + (k : Int)))) (by omega) (by omega) (by omega) (by omega) (by omega))), (by omega), (by first | exact (by decide : (0 : Nat) < 128 ^ 0) | exact next_lt hn)⟩, (by simp only [id]; omega)⟩
    have c115 : ¬ ((at_ + (k : Int)) < (b.length : Int)) := of_decide_eq_false b88
    refine cE_cond false (congrArg Value.bool b88) (fun h => by cases h) (fun _ => ?_)
    refine cE_exit ?_
    refine then_x (then_x (block_hit (then_n ?_)))
    refine cE_seq ?_
    refine cE_region rfl ?_
    refine s_cons (op_move (.int .i64 at_) q82_1 ?_)
    refine s_cons (op_assign (.int .u64 0) rfl ?_)
    refine s_cons (op_assign (.int .i64 at_) rfl ?_)
    refine s_cons (op_assign (.int .i64 2) rfl ?_)
    refine s_nil ?_
    refine then_n ?_
    refine cE_ret ?_
    refine post_r _ (res3 (v := (.int .u64 0)) rfl (x := (.int .i64 at_)) rfl (y := (.int .i64 2)) rfl) ?_
    have hget : get b at_ = (0, at_, 2) := by first | exact get_out (by omega) | exact get_none (by omega) (by omega) (hg.trans (getG_stop (by omega))) | exact get_none (by omega) (by omega) (hg.trans (getG_nine (j := (Int.toNat (at_ + (k : Int)))) (by omega) (by omega) (by omega) (by omega) (by omega))) | exact get_none (by omega) (by omega) (hg.trans (getG_zero (j := (Int.toNat (at_ + (k : Int)))) (by omega) (by omega) (by omega) (by omega) (by omega) (by omega))) | exact get_some (by omega) (by omega) (hg.trans (getG_end (j := (Int.toNat (at_ + (k : Int)))) (by omega) (by omega) (by omega) (by omega) (by omega) (by omega))) (by omega)
    exact ⟨(retv3 (congrArg (Value.int .u64) (show 0 = (get b at_).1 from by rw [hget])) (congrArg (Value.int .i64) (show at_ = (get b at_).2.1 from by rw [hget])) (congrArg (Value.int .i64) (show 2 = (get b at_).2.2 from by rw [hget]))), hst.bare⟩
  have c116 : ¬ ((k : Int) < 10) := of_decide_eq_false b86
  refine s_no 21 rfl (congrArg Value.bool b86) ?_
  refine s_no 21 rfl (congrArg Value.bool b86) ?_
  refine s_no 21 rfl (congrArg Value.bool b86) ?_
  refine s_no 21 rfl (congrArg Value.bool b86) ?_
  refine s_no 21 rfl (congrArg Value.bool b86) ?_
  refine s_no 21 rfl (congrArg Value.bool b86) ?_
  refine s_cons (op_pick_f (.bool false) (congrArg Value.bool b86) rfl ?_)
  refine s_nil ?_
  refine then_n ?_
  refine cE_cond false rfl (fun h => by cases h) (fun _ => ?_)
  refine cE_exit ?_
  refine then_x (then_x (block_hit (then_n ?_)))
  refine cE_seq ?_
  refine cE_region rfl ?_
  refine s_cons (op_move (.int .i64 at_) q82_1 ?_)
  refine s_cons (op_assign (.int .u64 0) rfl ?_)
  refine s_cons (op_assign (.int .i64 at_) rfl ?_)
  refine s_cons (op_assign (.int .i64 2) rfl ?_)
  refine s_nil ?_
  refine then_n ?_
  refine cE_ret ?_
  refine post_r _ (res3 (v := (.int .u64 0)) rfl (x := (.int .i64 at_)) rfl (y := (.int .i64 2)) rfl) ?_
  have hget : get b at_ = (0, at_, 2) := by first | exact get_out (by omega) | exact get_none (by omega) (by omega) (hg.trans (getG_stop (by omega))) | exact get_none (by omega) (by omega) (hg.trans (getG_nine (j := (Int.toNat (at_ + (k : Int)))) (by omega) (by omega) (by omega) (by omega) (by omega))) | exact get_none (by omega) (by omega) (hg.trans (getG_zero (j := (Int.toNat (at_ + (k : Int)))) (by omega) (by omega) (by omega) (by omega) (by omega) (by omega))) | exact get_some (by omega) (by omega) (hg.trans (getG_end (j := (Int.toNat (at_ + (k : Int)))) (by omega) (by omega) (by omega) (by omega) (by omega) (by omega))) (by omega)
  exact ⟨(retv3 (congrArg (Value.int .u64) (show 0 = (get b at_).1 from by rw [hget])) (congrArg (Value.int .i64) (show at_ = (get b at_).2.1 from by rw [hget])) (congrArg (Value.int .i64) (show 2 = (get b at_).2.2 from by rw [hget]))), hst.bare⟩

theorem c_Zig (w0 : World) (m : Int) (h0 : -9223372036854775808 ≤ m) (h1 : m ≤ 9223372036854775807) :
    Calls Try.prog 23 #[(.int .i64 m)] w0 fun e w' => e = .returned (.int .u64 (zig m)) ∧ St w0 w' [] := by
  refine calls_E (n := 13) (ts := [2]) Try.func23 rfl rfl rfl (by simp) ?_
  have hst := St.start w0
  refine cE_seq ?_
  refine cE_region rfl ?_
  refine s_cons (op_assign (.int .u64 0) rfl ?_)
  refine s_nil ?_
  refine then_n ?_
  refine cE_seq ?_
  refine cE_seq ?_
  refine cE_region rfl ?_
  refine s_cons (op_move (.int .i64 m) rfl ?_)
  refine s_cons (op_lss (k := .i64) (a := m) (b := 0) rfl rfl ?_)
  refine s_nil ?_
  refine then_n ?_
  rcases Bool.eq_false_or_eq_true (decide (m < 0)) with b117 | b117
  · have c118 : m < 0 := of_decide_eq_true b117
    refine cE_cond true (congrArg Value.bool b117) (fun _ => ?_) (fun h => by cases h)
    refine cE_seq ?_
    refine cE_region rfl ?_
    refine s_cons (op_move (.int .i64 m) rfl ?_)
    refine s_cons (op_compl (k := .i64) (a := m) (-m - 1) rfl (compl64 (by omega) (by omega)) ?_)
    refine s_cons (op_conv (k := .i64) (a := (-m - 1)) (-m - 1) Try.underlying54 (by rw [Try.underlying2]; rfl) rfl (xu64 (by omega) (by omega)) ?_)
    refine s_cons (op_shl (k := .u64) (k' := .u64) (a := (-m - 1)) (b := 1) ((-m - 1) * 2) rfl rfl (by omega) (by simp [IntKind.bits]; try omega) (shl1 (by omega) (by omega)) ?_)
    refine s_cons (op_or (k := .u64) (a := ((-m - 1) * 2)) (b := 1) (((-m - 1) * 2) + 1) rfl rfl (or1w (by omega) (by omega)) ?_)
    refine s_cons (op_assign (.int .u64 (((-m - 1) * 2) + 1)) rfl ?_)
    refine s_nil ?_
    refine then_n ?_
    refine cE_ret ?_
    refine then_r ?_
    refine post_r _ (res1 (v := (.int .u64 (((-m - 1) * 2) + 1))) rfl) ?_
    exact ⟨(retv1 (congrArg (Value.int .u64) (show (((-m - 1) * 2) + 1) = (zig m) from by unfold zig; split <;> omega))), hst.bare⟩
  have c119 : ¬ (m < 0) := of_decide_eq_false b117
  refine cE_cond false (congrArg Value.bool b117) (fun h => by cases h) (fun _ => ?_)
  refine cE_skip ?_
  refine then_n ?_
  refine cE_seq ?_
  refine cE_region rfl ?_
  refine s_cons (op_move (.int .i64 m) rfl ?_)
  refine s_cons (op_conv (k := .i64) (a := m) m Try.underlying54 (by rw [Try.underlying2]; rfl) rfl (xu64 (by omega) (by omega)) ?_)
  refine s_cons (op_shl (k := .u64) (k' := .u64) (a := m) (b := 1) (m * 2) rfl rfl (by omega) (by simp [IntKind.bits]; try omega) (shl1 (by omega) (by omega)) ?_)
  refine s_cons (op_assign (.int .u64 (m * 2)) rfl ?_)
  refine s_nil ?_
  refine then_n ?_
  refine cE_ret ?_
  refine post_r _ (res1 (v := (.int .u64 (m * 2))) rfl) ?_
  exact ⟨(retv1 (congrArg (Value.int .u64) (show (m * 2) = (zig m) from by unfold zig; split <;> omega))), hst.bare⟩

theorem c_rZig (w0 : World) (m : Int) (h0 : -9223372036854775808 ≤ m) (h1 : m ≤ 9223372036854775807) :
    Calls Try.prog 26 #[(.int .i64 m)] w0 fun e w' => e = .returned (.int .u64 (zig m)) ∧ St w0 w' [] := by
  refine calls_E (n := 14) (ts := [2]) Try.func26 rfl rfl rfl (by simp) ?_
  have hst := St.start w0
  refine cE_seq ?_
  refine cE_region rfl ?_
  refine s_cons (op_assign (.int .u64 0) rfl ?_)
  refine s_nil ?_
  refine then_n ?_
  refine cE_seq ?_
  refine cE_seq ?_
  refine cE_region rfl ?_
  refine s_cons (op_move (.int .i64 m) rfl ?_)
  refine s_cons (op_geq (k := .i64) (a := m) (b := 0) rfl rfl ?_)
  refine s_nil ?_
  refine then_n ?_
  rcases Bool.eq_false_or_eq_true (decide (0 ≤ m)) with b120 | b120
  · have c121 : 0 ≤ m := of_decide_eq_true b120
    refine cE_cond true (congrArg Value.bool b120) (fun _ => ?_) (fun h => by cases h)
    refine cE_seq ?_
    refine cE_region rfl ?_
    refine s_cons (op_move (.int .i64 m) rfl ?_)
    refine s_cons (op_conv (k := .i64) (a := m) m Try.underlying54 (by rw [Try.underlying2]; rfl) rfl (xu64 (by omega) (by omega)) ?_)
    refine s_cons (op_mul (k := .u64) (a := m) (b := 2) (m * 2) rfl rfl (xu64 (by omega) (by omega)) ?_)
    refine s_cons (op_assign (.int .u64 (m * 2)) rfl ?_)
    refine s_nil ?_
    refine then_n ?_
    refine cE_ret ?_
    refine then_r ?_
    refine post_r _ (res1 (v := (.int .u64 (m * 2))) rfl) ?_
    exact ⟨(retv1 (congrArg (Value.int .u64) (show (m * 2) = (zig m) from by unfold zig; split <;> omega))), hst.bare⟩
  have c122 : ¬ (0 ≤ m) := of_decide_eq_false b120
  refine cE_cond false (congrArg Value.bool b120) (fun h => by cases h) (fun _ => ?_)
  refine cE_skip ?_
  refine then_n ?_
  refine cE_seq ?_
  refine cE_region rfl ?_
  refine s_cons (op_move (.int .i64 m) rfl ?_)
  refine s_cons (op_add (k := .i64) (a := m) (b := 1) (m + 1) rfl rfl (xi64 (by omega) (by omega)) ?_)
  refine s_cons (op_neg (k := .i64) (a := (m + 1)) (-(m + 1)) rfl (xi64 (by omega) (by omega)) ?_)
  refine s_cons (op_conv (k := .i64) (a := -(m + 1)) (-(m + 1)) Try.underlying54 (by rw [Try.underlying2]; rfl) rfl (xu64 (by omega) (by omega)) ?_)
  refine s_cons (op_mul (k := .u64) (a := -(m + 1)) (b := 2) ((-(m + 1)) * 2) rfl rfl (xu64 (by omega) (by omega)) ?_)
  refine s_cons (op_add (k := .u64) (a := ((-(m + 1)) * 2)) (b := 1) (((-(m + 1)) * 2) + 1) rfl rfl (xu64 (by omega) (by omega)) ?_)
  refine s_cons (op_assign (.int .u64 (((-(m + 1)) * 2) + 1)) rfl ?_)
  refine s_nil ?_
  refine then_n ?_
  refine cE_ret ?_
  refine post_r _ (res1 (v := (.int .u64 (((-(m + 1)) * 2) + 1))) rfl) ?_
  exact ⟨(retv1 (congrArg (Value.int .u64) (show (((-(m + 1)) * 2) + 1) = (zig m) from by unfold zig; split <;> omega))), hst.bare⟩

theorem c_Zag (w0 : World) (n : Int) (h0 : 0 ≤ n) (h1 : n ≤ 18446744073709551615) :
    Calls Try.prog 29 #[(.int .u64 n)] w0 fun e w' => e = .returned (.int .i64 (zag n)) ∧ St w0 w' [] := by
  refine calls_E (n := 13) (ts := [2]) Try.func29 rfl rfl rfl (by simp) ?_
  have hst := St.start w0
  refine cE_seq ?_
  refine cE_region rfl ?_
  refine s_cons (op_assign (.int .i64 0) rfl ?_)
  refine s_nil ?_
  refine then_n ?_
  refine cE_seq ?_
  refine cE_seq ?_
  refine cE_region rfl ?_
  refine s_cons (op_move (.int .u64 n) rfl ?_)
  refine s_cons (op_and (k := .u64) (a := n) (b := 1) (n % 2) rfl rfl (and1w (by omega) (by omega)) ?_)
  refine s_cons (op_eql (k := .u64) (a := (n % 2)) (b := 1) rfl rfl ?_)
  refine s_nil ?_
  refine then_n ?_
  rcases Bool.eq_false_or_eq_true (decide ((n % 2) = 1)) with b123 | b123
  · have c124 : (n % 2) = 1 := of_decide_eq_true b123
    refine cE_cond true (congrArg Value.bool b123) (fun _ => ?_) (fun h => by cases h)
    refine cE_seq ?_
    refine cE_region rfl ?_
    refine s_cons (op_move (.int .u64 n) rfl ?_)
    refine s_cons (op_shr (k := .u64) (k' := .u64) (a := n) (b := 1) (n / 2) rfl rfl (by omega) (by simp [IntKind.bits]; try omega) shr1 ?_)
    refine s_cons (op_conv (k := .u64) (a := (n / 2)) (n / 2) Try.underlying2 (by rw [Try.underlying54]; rfl) rfl (xi64 (by omega) (by omega)) ?_)
    refine s_cons (op_compl (k := .i64) (a := (n / 2)) (-(n / 2) - 1) rfl (compl64 (by omega) (by omega)) ?_)
    refine s_cons (op_assign (.int .i64 (-(n / 2) - 1)) rfl ?_)
    refine s_nil ?_
    refine then_n ?_
    refine cE_ret ?_
    refine then_r ?_
    refine post_r _ (res1 (v := (.int .i64 (-(n / 2) - 1))) rfl) ?_
    exact ⟨(retv1 (congrArg (Value.int .i64) (show (-(n / 2) - 1) = (zag n) from by unfold zag; split <;> omega))), hst.bare⟩
  have c125 : ¬ ((n % 2) = 1) := of_decide_eq_false b123
  refine cE_cond false (congrArg Value.bool b123) (fun h => by cases h) (fun _ => ?_)
  refine cE_skip ?_
  refine then_n ?_
  refine cE_seq ?_
  refine cE_region rfl ?_
  refine s_cons (op_move (.int .u64 n) rfl ?_)
  refine s_cons (op_shr (k := .u64) (k' := .u64) (a := n) (b := 1) (n / 2) rfl rfl (by omega) (by simp [IntKind.bits]; try omega) shr1 ?_)
  refine s_cons (op_conv (k := .u64) (a := (n / 2)) (n / 2) Try.underlying2 (by rw [Try.underlying54]; rfl) rfl (xi64 (by omega) (by omega)) ?_)
  refine s_cons (op_assign (.int .i64 (n / 2)) rfl ?_)
  refine s_nil ?_
  refine then_n ?_
  refine cE_ret ?_
  refine post_r _ (res1 (v := (.int .i64 (n / 2))) rfl) ?_
  exact ⟨(retv1 (congrArg (Value.int .i64) (show (n / 2) = (zag n) from by unfold zag; split <;> omega))), hst.bare⟩

theorem c_rZag (w0 : World) (n : Int) (h0 : 0 ≤ n) (h1 : n ≤ 18446744073709551615) :
    Calls Try.prog 42 #[(.int .u64 n)] w0 fun e w' => e = .returned (.int .i64 (zag n)) ∧ St w0 w' [] := by
  refine calls_E (n := 14) (ts := [2]) Try.func42 rfl rfl rfl (by simp) ?_
  have hst := St.start w0
  refine cE_seq ?_
  refine cE_region rfl ?_
  refine s_cons (op_assign (.int .i64 0) rfl ?_)
  refine s_nil ?_
  refine then_n ?_
  refine cE_seq ?_
  refine cE_seq ?_
  refine cE_region rfl ?_
  refine s_cons (op_move (.int .u64 n) rfl ?_)
  refine s_cons (op_rem (k := .u64) (a := n) (b := 2) (n % 2) rfl rfl (by omega) (tmod_nn (by omega)) ?_)
  refine s_cons (op_eql (k := .u64) (a := (n % 2)) (b := 0) rfl rfl ?_)
  refine s_nil ?_
  refine then_n ?_
  rcases Bool.eq_false_or_eq_true (decide ((n % 2) = 0)) with b126 | b126
  · have c127 : (n % 2) = 0 := of_decide_eq_true b126
    refine cE_cond true (congrArg Value.bool b126) (fun _ => ?_) (fun h => by cases h)
    refine cE_seq ?_
    refine cE_region rfl ?_
    refine s_cons (op_move (.int .u64 n) rfl ?_)
    refine s_cons (op_quo (k := .u64) (a := n) (b := 2) (n / 2) rfl rfl (by omega) (quo_x (by omega) (by omega) (xu64 (by omega) (by omega))) ?_)
    refine s_cons (op_conv (k := .u64) (a := (n / 2)) (n / 2) Try.underlying2 (by rw [Try.underlying54]; rfl) rfl (xi64 (by omega) (by omega)) ?_)
    refine s_cons (op_assign (.int .i64 (n / 2)) rfl ?_)
    refine s_nil ?_
    refine then_n ?_
    refine cE_ret ?_
    refine then_r ?_
    refine post_r _ (res1 (v := (.int .i64 (n / 2))) rfl) ?_
    exact ⟨(retv1 (congrArg (Value.int .i64) (show (n / 2) = (zag n) from by unfold zag; split <;> omega))), hst.bare⟩
  have c128 : ¬ ((n % 2) = 0) := of_decide_eq_false b126
  refine cE_cond false (congrArg Value.bool b126) (fun h => by cases h) (fun _ => ?_)
  refine cE_skip ?_
  refine then_n ?_
  refine cE_seq ?_
  refine cE_region rfl ?_
  refine s_cons (op_move (.int .u64 n) rfl ?_)
  refine s_cons (op_quo (k := .u64) (a := n) (b := 2) (n / 2) rfl rfl (by omega) (quo_x (by omega) (by omega) (xu64 (by omega) (by omega))) ?_)
  refine s_cons (op_conv (k := .u64) (a := (n / 2)) (n / 2) Try.underlying2 (by rw [Try.underlying54]; rfl) rfl (xi64 (by omega) (by omega)) ?_)
  refine s_cons (op_neg (k := .i64) (a := (n / 2)) (-(n / 2)) rfl (xi64 (by omega) (by omega)) ?_)
  refine s_cons (op_sub (k := .i64) (a := -(n / 2)) (b := 1) ((-(n / 2)) - 1) rfl rfl (xi64 (by omega) (by omega)) ?_)
  refine s_cons (op_assign (.int .i64 ((-(n / 2)) - 1)) rfl ?_)
  refine s_nil ?_
  refine then_n ?_
  refine cE_ret ?_
  refine post_r _ (res1 (v := (.int .i64 ((-(n / 2)) - 1))) rfl) ?_
  exact ⟨(retv1 (congrArg (Value.int .i64) (show ((-(n / 2)) - 1) = (zag n) from by unfold zag; split <;> omega))), hst.bare⟩

end Go.Proofs.Ytpamjfbdgaamoaa
