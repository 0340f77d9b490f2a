/- twinkeeplaw6.BlockSteady -/
import Derived.Test.YtpamjfbdgaamoaaW40
namespace Go.Proofs.Ytpamjfbdgaamoaa
open Go.RowKit

set_option maxHeartbeats 4000000 in
theorem c_BlockSteady (w0 : World) (a1 : Int) (a2 : Int) (v : Int) (a10 : -9223372036854775808 ≤ a1) (a11 : a1 ≤ 9223372036854775807) (a20 : -9223372036854775808 ≤ a2) (a21 : a2 ≤ 9223372036854775807) (v0 : -9223372036854775808 ≤ v) (v1 : v ≤ 9223372036854775807) :
    Calls Try.prog 5 #[(.int .i64 a1), (.int .i64 a2), (.int .i64 v)] w0 fun e w' => e = .returned (.bool true) ∧ St w0 w' [] := by
  refine calls_E (n := 69) (ts := [6]) Try.func5 rfl rfl rfl (by simp) ?_
  have hst := St.start w0
  refine cE_seq ?_
  refine cE_region rfl ?_
  refine s_cons (op_assign (.bool false) rfl ?_)
  refine s_nil ?_
  refine then_n ?_
  refine cE_seq ?_
  refine cE_region rfl ?_
  refine s_cons (op_move (.int .i64 a1) rfl ?_)
  refine s_cons (op_conv (k := .i64) (a := a1) (a1 % 18446744073709551616) Try.underlying44 (by rw [Try.underlying3]; rfl) rfl (IntKind.wrap_u64 _) ?_)
  obtain ⟨x, hx, hxl⟩ := rem_nat (a := (a1 % 18446744073709551616)) (b := 62) (by omega) (by omega)
  refine s_cons (op_rem (k := .u64) (a := (a1 % 18446744073709551616)) (b := 62) (x : Int) rfl rfl (by omega) hx ?_)
  refine s_cons (op_conv (k := .u64) (a := (x : Int)) (x : Int) Try.underlying3 (by rw [Try.underlying44]; rfl) rfl (xi64 (by omega) (by omega)) ?_)
  refine s_cons (op_add (k := .i64) (a := 3) (b := (x : Int)) (3 + (x : Int)) rfl rfl (xi64 (by omega) (by omega)) ?_)
  refine s_cons (op_move (.int .i64 a2) rfl ?_)
  refine s_cons (op_conv (k := .i64) (a := a2) (a2 % 18446744073709551616) Try.underlying44 (by rw [Try.underlying3]; rfl) rfl (IntKind.wrap_u64 _) ?_)
  obtain ⟨y, hy, hyl⟩ := rem_nat (a := (a2 % 18446744073709551616)) (b := 60) (by omega) (by omega)
  refine s_cons (op_rem (k := .u64) (a := (a2 % 18446744073709551616)) (b := 60) (y : Int) rfl rfl (by omega) hy ?_)
  refine s_cons (op_conv (k := .u64) (a := (y : Int)) (y : Int) Try.underlying2 (by rw [Try.underlying44]; rfl) rfl (xi64 (by omega) (by omega)) ?_)
  refine s_cons (op_add (k := .i64) (a := 1) (b := (y : Int)) (1 + (y : Int)) rfl rfl (xi64 (by omega) (by omega)) ?_)
  refine s_cons (op_assign (.int .i64 (3 + (x : Int))) rfl ?_)
  refine s_cons (op_assign (.int .i64 (1 + (y : Int))) rfl ?_)
  refine s_nil ?_
  refine then_n ?_
  refine cE_seq ?_
  refine cE_region rfl ?_
  refine s_cons (op_assign (.slice none 0 0) rfl ?_)
  refine s_nil ?_
  refine then_n ?_
  refine cE_seq ?_
  refine cE_seq ?_
  refine cE_region rfl ?_
  refine s_cons (op_assign (.int .i64 0) rfl ?_)
  refine s_nil ?_
  refine then_n ?_
  refine cE_block ?_
  replace hst : St w0 w0 [rowT 48 sampE (.slice none 0 0) ([])] := hst.nilRow 48 sampE
  refine cE_loop (fun (m : Nat) (ρ : Env) (w : World) => ∃ (vo : Value) (i : Nat), m = 65 - i ∧ ρ 0 = (.int .i64 a1) ∧ ρ 1 = (.int .i64 a2) ∧ ρ 2 = (.int .i64 v) ∧ ρ 6 = (.bool false) ∧ ρ 15 = (.int .i64 a1) ∧ ρ 16 = (.int .u64 (a1 % 18446744073709551616)) ∧ ρ 17 = (.int .u64 (x : Int)) ∧ ρ 18 = (.int .i64 (x : Int)) ∧ ρ 19 = (.int .i64 (3 + (x : Int))) ∧ ρ 20 = (.int .i64 a2) ∧ ρ 21 = (.int .u64 (a2 % 18446744073709551616)) ∧ ρ 22 = (.int .u64 (y : Int)) ∧ ρ 23 = (.int .i64 (y : Int)) ∧ ρ 24 = (.int .i64 (1 + (y : Int))) ∧ ρ 7 = (.int .i64 (3 + (x : Int))) ∧ ρ 8 = (.int .i64 (1 + (y : Int))) ∧ ρ 10 = (.int .i64 (i : Int)) ∧ ρ 9 = vo ∧ St w0 w [rowT 48 sampE vo (steadyL (1 + (y : Int)) v i)] ∧ ((i : Int) ≤ (3 + (x : Int)))) id _ ⟨(.slice none 0 0), 0, rfl, rfl, rfl, rfl, rfl, rfl, rfl, rfl, rfl, rfl, rfl, rfl, rfl, rfl, rfl, rfl, rfl, (congrArg (Value.int .i64) (show 0 = _ from by omega)), rfl, (by have h := hst; first | exact h | (refine (?_ : St _ _ _); simpa using h)), (by omega)⟩ ?_
  rintro m2 ρ3 w4 ⟨vo, i, hm2, q1_0, q1_1, q1_2, q1_6, q1_15, q1_16, q1_17, q1_18, q1_19, q1_20, q1_21, q1_22, q1_23, q1_24, q1_7, q1_8, q1_10, q1_9, hst, hi⟩
  refine cE_seq ?_
  refine cE_seq ?_
  refine cE_region rfl ?_
  refine s_cons (op_move (.int .i64 (i : Int)) q1_10 ?_)
  refine s_cons (op_move (.int .i64 (3 + (x : Int))) q1_7 ?_)
  refine s_cons (op_lss (k := .i64) (a := (i : Int)) (b := (3 + (x : Int))) rfl rfl ?_)
  refine s_nil ?_
  refine then_n ?_
  rcases Bool.eq_false_or_eq_true (decide ((i : Int) < (3 + (x : Int)))) with b5 | b5
  · have c6 : (i : Int) < (3 + (x : Int)) := of_decide_eq_true b5
    refine cE_cond true (congrArg Value.bool b5) (fun _ => ?_) (fun h => by cases h)
    refine cE_skip ?_
    refine then_n ?_
    refine cE_seq ?_
    refine cE_block ?_
    have hmu := mul_r (i := i) (m := (1 + (y : Int))) (by omega) (by omega)
    refine cE_region rfl ?_
    refine s_cons (op_move vo q1_9 ?_)
    refine s_cons (op_move (.int .i64 (i : Int)) q1_10 ?_)
    refine s_cons (op_move (.int .i64 (1 + (y : Int))) q1_8 ?_)
    refine s_cons (op_mul (k := .i64) (a := (i : Int)) (b := (1 + (y : Int))) ((i : Int) * (1 + (y : Int))) rfl rfl (xi64 (by omega) (by omega)) ?_)
    refine s_cons (op_move (.int .i64 v) q1_2 ?_)
    refine s_cons (op_build (r := (.agg #[(.int .i64 ((i : Int) * (1 + (y : Int)))), (.int .i64 v)])) (evp_cons (v := (.int .i64 ((i : Int) * (1 + (y : Int))))) rfl (evp_cons (v := (.int .i64 v)) rfl evp_nil)) (by simp [Instr.build, Instr.fill, Value.cells, Try.runUnderlying48, Try.zeroValue48]) ?_)
    refine s_cons (op_buildSlice (E := sampE) [(⟨((i : Int) * (1 + (y : Int))), v⟩ : Sample)] hst Try.underlying22 Try.sizeOf48 Try.zeroValue48 (evp_cons (v := (.agg #[(.int .i64 ((i : Int) * (1 + (y : Int)))), (.int .i64 v)])) rfl evp_nil) (parts_cons rfl parts_nil) rfl (by decide) (fun v7 w8 hst => ?_))
    replace hst : St w0 w8 [rowT 48 sampE v7 ([(⟨((i : Int) * (1 + (y : Int))), v⟩ : Sample)]), rowT 48 sampE vo (steadyL (1 + (y : Int)) v i)] := hst
    refine s_cons (op_append (E := sampE) (xs := (steadyL (1 + (y : Int)) v i)) (ys := [(⟨((i : Int) * (1 + (y : Int))), v⟩ : Sample)]) (z := (.agg #[(.int .i64 0), (.int .i64 0)])) (bytes := 16) hst 1 rfl Try.underlying22 (by kernel_rfl) rfl rfl rfl (hst.sl 0 rfl) (by first | omega | (simp only [steady_length, List.length_cons, List.length_nil]; omega)) (by first | omega | (simp only [steady_length, List.length_cons, List.length_nil]; omega)) (fun v9 w10 hst => ?_))
    replace hst : St w0 w10 [rowT 48 sampE v7 ([(⟨((i : Int) * (1 + (y : Int))), v⟩ : Sample)]), rowT 48 sampE v9 (steadyL (1 + (y : Int)) v (i + 1))] := by rw [show ((steadyL (1 + (y : Int)) v i) ++ ([(⟨((i : Int) * (1 + (y : Int))), v⟩ : Sample)])) = (steadyL (1 + (y : Int)) v (i + 1)) from steady_succ] at hst; exact hst
    refine s_cons (op_assign v9 rfl ?_)
    refine s_nil ?_
    refine block_n (then_n ?_)
    refine cE_region rfl ?_
    refine s_cons (op_move (.int .i64 (i : Int)) q1_10 ?_)
    refine s_cons (op_add (k := .i64) (a := (i : Int)) (b := 1) ((i : Int) + 1) rfl rfl (xi64 (by omega) (by omega)) ?_)
    refine s_cons (op_assign (.int .i64 ((i : Int) + 1)) rfl ?_)
    refine s_nil ?_
    refine then_n ?_
    exact ⟨_, ⟨v9, (i + 1), rfl, q1_0, q1_1, q1_2, q1_6, q1_15, q1_16, q1_17, q1_18, q1_19, q1_20, q1_21, q1_22, q1_23, q1_24, q1_7, q1_8, (congrArg (Value.int .i64) (show ((i : Int) + 1) = _ from by omega)), rfl, (hst.sub (.cons _ (.cons_cons _ .slnil))), (by omega)⟩, (by simp only [id]; omega)⟩
  · have c11 : ¬ ((i : Int) < (3 + (x : Int))) := of_decide_eq_false b5
    refine cE_cond false (congrArg Value.bool b5) (fun h => by cases h) (fun _ => ?_)
    refine cE_exit ?_
    refine then_x (then_x (block_hit (then_n ?_)))
    refine cE_seq ?_
    have hne : (i : Int) = (3 + (x : Int)) := by omega
    have hse := steady_enc (st := (1 + (y : Int))) (v := v) (n := i) (by omega) (by omega) (by omega)
    have hsl := steady_length (1 + (y : Int)) v i
    have hpb : (encS (steadyL (1 + (y : Int)) v i)).1.length ≤ 1300 := by rw [encS_yes (steady_okS (by omega) (by omega))]; exact putS_length64 (by rw [steady_length]; omega)
    refine cE_region rfl ?_
    refine s_cons (op_move vo q1_9 ?_)
    refine s_cons (op_call Try.call9 (evs_cons (v := vo) rfl evs_nil) (c_kPut (w0 := w4) (v_l := vo) (l := (steadyL (1 + (y : Int)) v i)) (h_l := (hst.sl 0 rfl)) (hl := (by first | exact steady_ok (by omega) (by omega) ⟨v0, v1⟩ | exact steady_oktake (by omega) (by omega) ⟨v0, v1⟩))) ?_)
    rintro _ w13 ⟨r12, rfl, hcall⟩
    refine ⟨_, rfl, ?_⟩
    have hst : St w0 w13 [rowT 5 u8E r12 ((encS (steadyL (1 + (y : Int)) v i)).1), rowT 48 sampE vo (steadyL (1 + (y : Int)) v i)] := hst.call hcall
    refine s_cons (op_move (.tuple #[r12, (.int .i64 ((encS (steadyL (1 + (y : Int)) v i)).2))]) rfl ?_)
    refine s_cons (op_extract r12 rfl rfl ?_)
    refine s_cons (op_extract (.int .i64 ((encS (steadyL (1 + (y : Int)) v i)).2)) rfl rfl ?_)
    refine s_cons (op_assign r12 rfl ?_)
    refine s_cons (op_assign (.int .i64 ((encS (steadyL (1 + (y : Int)) v i)).2)) rfl ?_)
    refine s_nil ?_
    refine then_n ?_
    refine cE_seq ?_
    refine cE_region rfl ?_
    refine s_cons (op_move vo q1_9 ?_)
    refine s_cons (op_slice_toN 2 (E := sampE) (xs := (steadyL (1 + (y : Int)) v i)) Try.underlying22 Try.sizeOf48 rfl (hst.sl 1 rfl) rfl (by omega) (by first | omega | (rw [steady_length]; omega) | (simp; omega)) (fun v14 hs15 => ?_))
    refine s_cons (op_call Try.call9 (evs_cons (v := v14) rfl evs_nil) (c_kPut (w0 := w13) (v_l := v14) (l := ((steadyL (1 + (y : Int)) v i).take 2)) (h_l := hs15) (hl := (by first | exact steady_ok (by omega) (by omega) ⟨v0, v1⟩ | exact steady_oktake (by omega) (by omega) ⟨v0, v1⟩))) ?_)
    rintro _ w17 ⟨r16, rfl, hcall⟩
    refine ⟨_, rfl, ?_⟩
    have hst : St w0 w17 [rowT 5 u8E r16 ((encS ((steadyL (1 + (y : Int)) v i).take 2)).1), rowT 5 u8E r12 ((encS (steadyL (1 + (y : Int)) v i)).1), rowT 48 sampE vo (steadyL (1 + (y : Int)) v i)] := hst.call hcall
    refine s_cons (op_move (.tuple #[r16, (.int .i64 ((encS ((steadyL (1 + (y : Int)) v i).take 2)).2))]) rfl ?_)
    refine s_cons (op_extract r16 rfl rfl ?_)
    refine s_cons (op_extract (.int .i64 ((encS ((steadyL (1 + (y : Int)) v i).take 2)).2)) rfl rfl ?_)
    refine s_cons (op_assign r16 rfl ?_)
    refine s_cons (op_assign (.int .i64 ((encS ((steadyL (1 + (y : Int)) v i).take 2)).2)) rfl ?_)
    refine s_nil ?_
    refine then_n ?_
    refine cE_seq ?_
    refine cE_region rfl ?_
    refine s_cons (op_call Try.call8 evs_nil (c_told6 (w0 := w17)) ?_)
    rintro _ w18 ⟨rfl, hcall⟩
    refine ⟨_, rfl, ?_⟩
    have hst : St w0 w18 [rowT 5 u8E r16 ((encS ((steadyL (1 + (y : Int)) v i).take 2)).1), rowT 5 u8E r12 ((encS (steadyL (1 + (y : Int)) v i)).1), rowT 48 sampE vo (steadyL (1 + (y : Int)) v i)] := hst.call hcall
    refine s_cons (op_move (.bool true) rfl ?_)
    refine s_yes 50 rfl rfl (op_move (.int .i64 ((encS (steadyL (1 + (y : Int)) v i)).2)) rfl ?_)
    refine s_yes 50 rfl rfl (op_eql (k := .i64) (a := (encS (steadyL (1 + (y : Int)) v i)).2) (b := 0) rfl rfl ?_)
    refine s_cons (op_pick_t (.bool (decide (((encS (steadyL (1 + (y : Int)) v i)).2) = 0))) rfl rfl ?_)
    refine s_cons (op_move (.bool (decide (((encS (steadyL (1 + (y : Int)) v i)).2) = 0))) rfl ?_)
    refine s_yes 54 rfl (congrArg Value.bool (show (decide (((encS (steadyL (1 + (y : Int)) v i)).2) = 0)) = true from (decide_eq_true (by first | rw [encS_yes (steady_okS (by omega) (by omega))] | rw [steady_take (by omega), encS_yes (steady_okS (by omega) (by omega))])))) (op_move (.int .i64 ((encS ((steadyL (1 + (y : Int)) v i).take 2)).2)) rfl ?_)
    refine s_yes 54 rfl (congrArg Value.bool (show (decide (((encS (steadyL (1 + (y : Int)) v i)).2) = 0)) = true from (decide_eq_true (by first | rw [encS_yes (steady_okS (by omega) (by omega))] | rw [steady_take (by omega), encS_yes (steady_okS (by omega) (by omega))])))) (op_eql (k := .i64) (a := (encS ((steadyL (1 + (y : Int)) v i).take 2)).2) (b := 0) rfl rfl ?_)
    refine s_cons (op_pick_t (.bool (decide (((encS ((steadyL (1 + (y : Int)) v i).take 2)).2) = 0))) (congrArg Value.bool (show (decide (((encS (steadyL (1 + (y : Int)) v i)).2) = 0)) = true from (decide_eq_true (by first | rw [encS_yes (steady_okS (by omega) (by omega))] | rw [steady_take (by omega), encS_yes (steady_okS (by omega) (by omega))])))) rfl ?_)
    refine s_cons (op_move (.bool (decide (((encS ((steadyL (1 + (y : Int)) v i).take 2)).2) = 0))) rfl ?_)
    refine s_yes 58 rfl (congrArg Value.bool (show (decide (((encS ((steadyL (1 + (y : Int)) v i).take 2)).2) = 0)) = true from (decide_eq_true (by first | rw [encS_yes (steady_okS (by omega) (by omega))] | rw [steady_take (by omega), encS_yes (steady_okS (by omega) (by omega))])))) (op_move r12 rfl ?_)
    refine s_yes 58 rfl (congrArg Value.bool (show (decide (((encS ((steadyL (1 + (y : Int)) v i).take 2)).2) = 0)) = true from (decide_eq_true (by first | rw [encS_yes (steady_okS (by omega) (by omega))] | rw [steady_take (by omega), encS_yes (steady_okS (by omega) (by omega))])))) (op_len (E := u8E) (xs := (encS (steadyL (1 + (y : Int)) v i)).1) Try.underlying24 rfl (hst.sl 1 rfl) ?_)
    refine s_yes 58 rfl (congrArg Value.bool (show (decide (((encS ((steadyL (1 + (y : Int)) v i).take 2)).2) = 0)) = true from (decide_eq_true (by first | rw [encS_yes (steady_okS (by omega) (by omega))] | rw [steady_take (by omega), encS_yes (steady_okS (by omega) (by omega))])))) (op_move r16 rfl ?_)
    refine s_yes 58 rfl (congrArg Value.bool (show (decide (((encS ((steadyL (1 + (y : Int)) v i).take 2)).2) = 0)) = true from (decide_eq_true (by first | rw [encS_yes (steady_okS (by omega) (by omega))] | rw [steady_take (by omega), encS_yes (steady_okS (by omega) (by omega))])))) (op_len (E := u8E) (xs := (encS ((steadyL (1 + (y : Int)) v i).take 2)).1) Try.underlying24 rfl (hst.sl 0 rfl) ?_)
    refine s_yes 58 rfl (congrArg Value.bool (show (decide (((encS ((steadyL (1 + (y : Int)) v i).take 2)).2) = 0)) = true from (decide_eq_true (by first | rw [encS_yes (steady_okS (by omega) (by omega))] | rw [steady_take (by omega), encS_yes (steady_okS (by omega) (by omega))])))) (op_move (.int .i64 (3 + (x : Int))) q1_7 ?_)
    refine s_yes 58 rfl (congrArg Value.bool (show (decide (((encS ((steadyL (1 + (y : Int)) v i).take 2)).2) = 0)) = true from (decide_eq_true (by first | rw [encS_yes (steady_okS (by omega) (by omega))] | rw [steady_take (by omega), encS_yes (steady_okS (by omega) (by omega))])))) (op_sub (k := .i64) (a := (3 + (x : Int))) (b := 2) ((3 + (x : Int)) - 2) rfl rfl (xi64 (by omega) (by omega)) ?_)
    refine s_yes 58 rfl (congrArg Value.bool (show (decide (((encS ((steadyL (1 + (y : Int)) v i).take 2)).2) = 0)) = true from (decide_eq_true (by first | rw [encS_yes (steady_okS (by omega) (by omega))] | rw [steady_take (by omega), encS_yes (steady_okS (by omega) (by omega))])))) (op_mul (k := .i64) (a := 2) (b := ((3 + (x : Int)) - 2)) (2 * ((3 + (x : Int)) - 2)) rfl rfl (xi64 (by omega) (by omega)) ?_)
    refine s_yes 58 rfl (congrArg Value.bool (show (decide (((encS ((steadyL (1 + (y : Int)) v i).take 2)).2) = 0)) = true from (decide_eq_true (by first | rw [encS_yes (steady_okS (by omega) (by omega))] | rw [steady_take (by omega), encS_yes (steady_okS (by omega) (by omega))])))) (op_add (k := .i64) (a := (((encS ((steadyL (1 + (y : Int)) v i).take 2)).1).length : Int)) (b := (2 * ((3 + (x : Int)) - 2))) ((((encS ((steadyL (1 + (y : Int)) v i).take 2)).1).length : Int) + (2 * ((3 + (x : Int)) - 2))) rfl rfl (xi64 (by omega) (by omega)) ?_)
    refine s_yes 58 rfl (congrArg Value.bool (show (decide (((encS ((steadyL (1 + (y : Int)) v i).take 2)).2) = 0)) = true from (decide_eq_true (by first | rw [encS_yes (steady_okS (by omega) (by omega))] | rw [steady_take (by omega), encS_yes (steady_okS (by omega) (by omega))])))) (op_eql (k := .i64) (a := (((encS (steadyL (1 + (y : Int)) v i)).1).length : Int)) (b := ((((encS ((steadyL (1 + (y : Int)) v i).take 2)).1).length : Int) + (2 * ((3 + (x : Int)) - 2)))) rfl rfl ?_)
    refine s_cons (op_pick_t (.bool (decide ((((encS (steadyL (1 + (y : Int)) v i)).1).length : Int) = ((((encS ((steadyL (1 + (y : Int)) v i).take 2)).1).length : Int) + (2 * ((3 + (x : Int)) - 2)))))) (congrArg Value.bool (show (decide (((encS ((steadyL (1 + (y : Int)) v i).take 2)).2) = 0)) = true from (decide_eq_true (by first | rw [encS_yes (steady_okS (by omega) (by omega))] | rw [steady_take (by omega), encS_yes (steady_okS (by omega) (by omega))])))) rfl ?_)
    refine s_cons (op_assign (.bool (decide ((((encS (steadyL (1 + (y : Int)) v i)).1).length : Int) = ((((encS ((steadyL (1 + (y : Int)) v i).take 2)).1).length : Int) + (2 * ((3 + (x : Int)) - 2)))))) rfl ?_)
    refine s_nil ?_
    refine then_n ?_
    refine cE_ret ?_
    refine post_r _ (res1 (v := (.bool true)) (congrArg Value.bool (show (decide ((((encS (steadyL (1 + (y : Int)) v i)).1).length : Int) = ((((encS ((steadyL (1 + (y : Int)) v i).take 2)).1).length : Int) + (2 * ((3 + (x : Int)) - 2))))) = true from (decide_eq_true (by omega))))) ?_
    exact ⟨rfl, hst.bare⟩

end Go.Proofs.Ytpamjfbdgaamoaa
