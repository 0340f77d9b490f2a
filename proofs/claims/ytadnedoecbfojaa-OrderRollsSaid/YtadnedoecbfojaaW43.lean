/- twinkeeplaw20.OrderRolls -/
import Derived.Test.YtadnedoecbfojaaW40
import Derived.Test.YtadnedoecbfojaaW33
import Derived.Test.YtadnedoecbfojaaW36
import Derived.Test.YtadnedoecbfojaaW9
namespace Go.Proofs.Ytadnedoecbfojaa
open Go.RowKit

set_option maxHeartbeats 4000000 in
theorem c_OrderRolls (w0 : World) (n : Int) (n0 : -9223372036854775808 ≤ n) (n1 : n ≤ 9223372036854775807) :
    Calls Try.prog 5 #[(.int .i64 n)] w0 fun e w' => e = .returned (.bool true) ∧ St w0 w' [] := by
  refine calls_E (n := 107) (ts := [2]) Try.func5 rfl rfl rfl (by simp) ?_
  have hst := St.start w0
  refine cE_seq ?_
  refine cE_region rfl ?_
  refine s_cons (op_assign (.bool false) rfl ?_)
  refine s_nil ?_
  refine then_n ?_
  refine cE_seq ?_
  refine cE_region rfl ?_
  refine s_cons (op_move (.int .i64 n) rfl ?_)
  refine s_cons (op_conv (k := .i64) (a := n) (n % 18446744073709551616) Try.underlying31 (by rw [Try.underlying3]; rfl) rfl (IntKind.wrap_u64 _) ?_)
  obtain ⟨k, hk, hkl⟩ := rem_nat (a := (n % 18446744073709551616)) (b := 9) (by omega) (by omega)
  refine s_cons (op_rem (k := .u64) (a := (n % 18446744073709551616)) (b := 9) (k : Int) rfl rfl (by omega) hk ?_)
  refine s_cons (op_conv (k := .u64) (a := (k : Int)) (k : Int) Try.underlying3 (by rw [Try.underlying31]; rfl) rfl (xi64 (by omega) (by omega)) ?_)
  refine s_cons (op_assign (.int .i64 (k : Int)) rfl ?_)
  refine s_nil ?_
  refine then_n ?_
  refine cE_seq ?_
  refine cE_region rfl ?_
  refine s_cons (op_assign (.slice none 0 0) rfl ?_)
  refine s_nil ?_
  refine then_n ?_
  refine cE_seq ?_
  refine cE_seq ?_
  refine cE_region rfl ?_
  refine s_cons (op_assign (.int .i64 0) rfl ?_)
  refine s_nil ?_
  refine then_n ?_
  refine cE_block ?_
  replace hst : St w0 w0 [rowT 34 infoE (.slice none 0 0) ([])] := hst.nilRow 34 infoE
  refine cE_loop (fun (m : Nat) (ρ : Env) (w : World) => ∃ (vo : Value) (i : Nat), m = k - i ∧ ρ 0 = (.int .i64 n) ∧ ρ 2 = (.bool false) ∧ ρ 3 = (.int .i64 (k : Int)) ∧ ρ 4 = vo ∧ ρ 5 = (.int .i64 (i : Int)) ∧ St w0 w [rowT 34 infoE vo (rowR k i)] ∧ (i ≤ k)) id _ ⟨(.slice none 0 0), 0, rfl, rfl, rfl, rfl, rfl, (congrArg (Value.int .i64) (show 0 = _ from by omega)), (by have h := hst; first | exact h | (refine (?_ : St _ _ _); simpa using h)), (by omega)⟩ ?_
  rintro m2 ρ3 w4 ⟨vo, i, hm2, q1_0, q1_2, q1_3, q1_4, q1_5, hst, hi⟩
  have hwl := rowR_len k i
  refine cE_seq ?_
  refine cE_seq ?_
  refine cE_region rfl ?_
  refine s_cons (op_move (.int .i64 (i : Int)) q1_5 ?_)
  refine s_cons (op_move (.int .i64 (k : Int)) q1_3 ?_)
  refine s_cons (op_lss (k := .i64) (a := (i : Int)) (b := (k : Int)) rfl rfl ?_)
  refine s_nil ?_
  refine then_n ?_
  rcases Bool.eq_false_or_eq_true (decide ((i : Int) < (k : Int))) with b5 | b5
  · have c6 : (i : Int) < (k : Int) := of_decide_eq_true b5
    refine cE_cond true (congrArg Value.bool b5) (fun _ => ?_) (fun h => by cases h)
    refine cE_skip ?_
    refine then_n ?_
    refine cE_seq ?_
    refine cE_block ?_
    refine cE_region rfl ?_
    refine s_cons (op_move vo q1_4 ?_)
    refine s_cons (op_move (.int .i64 (i : Int)) q1_5 ?_)
    refine s_cons (op_add (k := .i64) (a := (i : Int)) (b := 1) ((i : Int) + 1) rfl rfl (xi64 (by omega) (by omega)) ?_)
    refine s_cons (op_move (.int .i64 (i : Int)) q1_5 ?_)
    refine s_cons (op_mul (k := .i64) (a := 10) (b := (i : Int)) (10 * (i : Int)) rfl rfl (xi64 (by omega) (by omega)) ?_)
    refine s_cons (op_move (.int .i64 (i : Int)) q1_5 ?_)
    refine s_cons (op_mul (k := .i64) (a := 10) (b := (i : Int)) (10 * (i : Int)) rfl rfl (xi64 (by omega) (by omega)) ?_)
    refine s_cons (op_add (k := .i64) (a := (10 * (i : Int))) (b := 10) ((10 * (i : Int)) + 10) rfl rfl (xi64 (by omega) (by omega)) ?_)
    refine s_cons (op_build (r := (.agg #[(.int .i64 ((i : Int) + 1)), (.int .i64 0), (.int .i64 (10 * (i : Int))), (.int .i64 ((10 * (i : Int)) + 10)), (.int .u32 0)])) (evp_cons (v := (.int .i64 ((i : Int) + 1))) rfl (evp_cons (v := (.int .i64 (10 * (i : Int)))) rfl (evp_cons (v := (.int .i64 ((10 * (i : Int)) + 10))) rfl evp_nil))) (by simp [Instr.build, Instr.fill, Value.cells, Try.runUnderlying34, Try.zeroValue34]) ?_)
    refine s_cons (op_buildSlice (E := infoE) [(⟨((i : Int) + 1), 0, (10 * (i : Int)), ((10 * (i : Int)) + 10), 0⟩ : Info)] hst Try.underlying22 Try.sizeOf34 Try.zeroValue34 (evp_cons (v := (.agg #[(.int .i64 ((i : Int) + 1)), (.int .i64 0), (.int .i64 (10 * (i : Int))), (.int .i64 ((10 * (i : Int)) + 10)), (.int .u32 0)])) rfl evp_nil) (parts_cons rfl parts_nil) rfl (by decide) (fun v7 w8 hst => ?_))
    replace hst : St w0 w8 [rowT 34 infoE v7 ([(⟨((i : Int) + 1), 0, (10 * (i : Int)), ((10 * (i : Int)) + 10), 0⟩ : Info)]), rowT 34 infoE vo (rowR k i)] := hst
    refine s_cons (op_append (E := infoE) (xs := (rowR k i)) (ys := [(⟨((i : Int) + 1), 0, (10 * (i : Int)), ((10 * (i : Int)) + 10), 0⟩ : Info)]) (z := (.agg #[(.int .i64 0), (.int .i64 0), (.int .i64 0), (.int .i64 0), (.int .u32 0)])) (bytes := 40) hst 1 rfl Try.underlying22 (by kernel_rfl) rfl rfl rfl (hst.sl 0 rfl) (by first | omega | (simp only [List.length_cons, List.length_nil]; omega)) (by first | omega | (simp only [List.length_cons, List.length_nil]; omega)) (fun v9 w10 hst => ?_))
    replace hst : St w0 w10 [rowT 34 infoE v7 ([(⟨((i : Int) + 1), 0, (10 * (i : Int)), ((10 * (i : Int)) + 10), 0⟩ : Info)]), rowT 34 infoE v9 (rowR k (i + 1))] := by rw [show ((rowR k i) ++ ([(⟨((i : Int) + 1), 0, (10 * (i : Int)), ((10 * (i : Int)) + 10), 0⟩ : Info)])) = (rowR k (i + 1)) from (rowR_raw (by omega))] at hst; exact hst
    refine s_cons (op_assign v9 rfl ?_)
    refine s_nil ?_
    refine block_n (then_n ?_)
    refine cE_region rfl ?_
    refine s_cons (op_move (.int .i64 (i : Int)) q1_5 ?_)
    refine s_cons (op_add (k := .i64) (a := (i : Int)) (b := 1) ((i : Int) + 1) rfl rfl (xi64 (by omega) (by omega)) ?_)
    refine s_cons (op_assign (.int .i64 ((i : Int) + 1)) rfl ?_)
    refine s_nil ?_
    refine then_n ?_
    exact ⟨_, ⟨v9, (i + 1), rfl, q1_0, q1_2, q1_3, rfl, (congrArg (Value.int .i64) (show ((i : Int) + 1) = _ from by omega)), (hst.sub (.cons _ (.cons_cons _ .slnil))), (by omega)⟩, (by simp only [id]; omega)⟩
  have c11 : ¬ ((i : Int) < (k : Int)) := of_decide_eq_false b5
  refine cE_cond false (congrArg Value.bool b5) (fun h => by cases h) (fun _ => ?_)
  refine cE_exit ?_
  refine then_x (then_x (block_hit (then_n ?_)))
  refine cE_seq ?_
  refine cE_region rfl ?_
  refine s_cons (op_assign (.int .i64 0) rfl ?_)
  refine s_nil ?_
  refine then_n ?_
  refine cE_seq ?_
  refine cE_seq ?_
  refine cE_region rfl ?_
  refine s_cons (op_assign (.int .i64 0) rfl ?_)
  refine s_nil ?_
  refine then_n ?_
  refine cE_block ?_
  refine cE_loop (fun (m : Nat) (ρ : Env) (w : World) => ∃ (vo : Value) (u : Nat), m = 3 * k - u ∧ ρ 0 = (.int .i64 n) ∧ ρ 3 = (.int .i64 (k : Int)) ∧ ρ 5 = (.int .i64 (i : Int)) ∧ ρ 4 = vo ∧ ρ 6 = (.int .i64 (tierR k u)) ∧ ρ 7 = (.int .i64 (u : Int)) ∧ St w0 w [rowT 34 infoE vo (rowR k (k + u))] ∧ (u ≤ 3 * k)) id _ ⟨vo, 0, rfl, q1_0, q1_3, q1_5, q1_4, (congrArg (Value.int .i64) (show 0 = _ from by first | rfl | exact hr2.trans (tierR_succ k u).symm)), (congrArg (Value.int .i64) (show 0 = _ from by omega)), (by first | exact hst | (rw [show i = k + 0 by omega] at hst; exact hst)), (by omega)⟩ ?_
  rintro m13 ρ14 w15 ⟨vo, u, hm13, q12_0, q12_3, q12_5, q12_4, q12_6, q12_7, hst, hu⟩
  have hwl := rowR_len k (k + u)
  refine cE_seq ?_
  refine cE_seq ?_
  refine cE_region rfl ?_
  refine s_cons (op_move (.int .i64 (u : Int)) q12_7 ?_)
  refine s_cons (op_move (.int .i64 (k : Int)) q12_3 ?_)
  refine s_cons (op_mul (k := .i64) (a := 3) (b := (k : Int)) (3 * (k : Int)) rfl rfl (xi64 (by omega) (by omega)) ?_)
  refine s_cons (op_lss (k := .i64) (a := (u : Int)) (b := (3 * (k : Int))) rfl rfl ?_)
  refine s_nil ?_
  refine then_n ?_
  rcases Bool.eq_false_or_eq_true (decide ((u : Int) < (3 * (k : Int)))) with b16 | b16
  · have c17 : (u : Int) < (3 * (k : Int)) := of_decide_eq_true b16
    refine cE_cond true (congrArg Value.bool b16) (fun _ => ?_) (fun h => by cases h)
    refine cE_skip ?_
    refine then_n ?_
    refine cE_seq ?_
    refine cE_block ?_
    refine cE_seq ?_
    refine cE_region rfl ?_
    refine s_cons (op_move vo q12_4 ?_)
    refine s_cons (op_call Try.call9 (evs_cons (v := vo) rfl evs_nil) (c_roll (w0 := w15) (v_l := vo) (l := (rowR k (k + u))) (h_l := (hst.sl 0 rfl)) (hl := (rowR_ok (by omega) (by omega)))) ?_)
    rintro _ w18 ⟨rfl, hcall⟩
    refine ⟨_, rfl, ?_⟩
    have hst : St w0 w18 [rowT 34 infoE vo (rowR k (k + u))] := hst.call hcall
    refine s_cons (op_move (.tuple #[(.int .i64 ((rollI (rowR k (k + u))).1)), (.int .i64 ((rollI (rowR k (k + u))).2))]) rfl ?_)
    refine s_cons (op_extract (.int .i64 ((rollI (rowR k (k + u))).1)) rfl rfl ?_)
    refine s_cons (op_extract (.int .i64 ((rollI (rowR k (k + u))).2)) rfl rfl ?_)
    refine s_cons (op_assign (.int .i64 ((rollI (rowR k (k + u))).1)) rfl ?_)
    refine s_cons (op_assign (.int .i64 ((rollI (rowR k (k + u))).2)) rfl ?_)
    refine s_nil ?_
    refine then_n ?_
    refine cE_seq ?_
    refine cE_seq ?_
    have hrr := rollR (k := k) (u := u) (by omega) (by omega)
    have hr1 : (rollI (rowR k (k + u))).1 = (u : Int) + 1 := congrArg Prod.fst hrr
    have hr2 : (rollI (rowR k (k + u))).2 = ((u / k : Nat) : Int) + 1 := congrArg Prod.snd hrr
    have hup := rowR_up (k := k) (u := u) (by omega) (by omega) hr1
    obtain ⟨hlu, htu⟩ := hup
    have hup := hr1
    have htt : (((rowR k (k + u))[((rollI (rowR k (k + u))).1 - 1).toNat]'hlu).Tier : Int) = ((u / k : Nat) : Int) := congrArg Info.Tier htu
    have htl := tierR_le k u
    have hdk := div_r (k := k) (u := u) (by omega) (by omega)
    refine cE_region rfl ?_
    refine s_cons (op_move (.int .i64 ((rollI (rowR k (k + u))).1)) rfl ?_)
    refine s_cons (op_lss (k := .i64) (a := (rollI (rowR k (k + u))).1) (b := 1) rfl rfl ?_)
    refine s_cons (op_move (.bool (decide (((rollI (rowR k (k + u))).1) < 1))) rfl ?_)
    refine s_yes 46 rfl (congrArg Value.bool (show (decide (((rollI (rowR k (k + u))).1) < 1)) = false from (decide_eq_false (by omega)))) (op_move (.int .i64 ((rollI (rowR k (k + u))).1)) rfl ?_)
    refine s_yes 46 rfl (congrArg Value.bool (show (decide (((rollI (rowR k (k + u))).1) < 1)) = false from (decide_eq_false (by omega)))) (op_move vo q12_4 ?_)
    refine s_yes 46 rfl (congrArg Value.bool (show (decide (((rollI (rowR k (k + u))).1) < 1)) = false from (decide_eq_false (by omega)))) (op_len (E := infoE) (xs := (rowR k (k + u))) Try.underlying22 rfl (hst.sl 0 rfl) ?_)
    refine s_yes 46 rfl (congrArg Value.bool (show (decide (((rollI (rowR k (k + u))).1) < 1)) = false from (decide_eq_false (by omega)))) (op_gtr (k := .i64) (a := (rollI (rowR k (k + u))).1) (b := ((rowR k (k + u)).length : Int)) rfl rfl ?_)
    refine s_cons (op_pick_f (.bool (decide (((rowR k (k + u)).length : Int) < ((rollI (rowR k (k + u))).1)))) (congrArg Value.bool (show (decide (((rollI (rowR k (k + u))).1) < 1)) = false from (decide_eq_false (by omega)))) rfl ?_)
    refine s_cons (op_move (.bool (decide (((rowR k (k + u)).length : Int) < ((rollI (rowR k (k + u))).1)))) rfl ?_)
    refine s_yes 52 rfl (congrArg Value.bool (show (decide (((rowR k (k + u)).length : Int) < ((rollI (rowR k (k + u))).1))) = false from (decide_eq_false (by omega)))) (op_move vo q12_4 ?_)
    refine s_yes 52 rfl (congrArg Value.bool (show (decide (((rowR k (k + u)).length : Int) < ((rollI (rowR k (k + u))).1))) = false from (decide_eq_false (by omega)))) (op_move (.int .i64 ((rollI (rowR k (k + u))).1)) rfl ?_)
    refine s_yes 52 rfl (congrArg Value.bool (show (decide (((rowR k (k + u)).length : Int) < ((rollI (rowR k (k + u))).1))) = false from (decide_eq_false (by omega)))) (op_sub (k := .i64) (a := (rollI (rowR k (k + u))).1) (b := 1) (((rollI (rowR k (k + u))).1) - 1) rfl rfl (xi64 (by omega) (by omega)) ?_)
    refine s_yes 52 rfl (congrArg Value.bool (show (decide (((rowR k (k + u)).length : Int) < ((rollI (rowR k (k + u))).1))) = false from (decide_eq_false (by omega)))) (op_indexAddrN (E := infoE) (xs := (rowR k (k + u))) (Int.toNat (((rollI (rowR k (k + u))).1) - 1)) Try.underlying22 Try.sizeOf34 rfl (hst.sl 0 rfl) rfl (by omega) (by omega) (fun a19 o20 p21 => ?_))
    refine s_yes 52 rfl (congrArg Value.bool (show (decide (((rowR k (k + u)).length : Int) < ((rollI (rowR k (k + u))).1))) = false from (decide_eq_false (by omega)))) (op_fieldAddr (s := 0) Try.underlying34 rfl rfl Try.sizeOf3 rfl ?_)
    refine s_yes 52 rfl (congrArg Value.bool (show (decide (((rowR k (k + u)).length : Int) < ((rollI (rowR k (k + u))).1))) = false from (decide_eq_false (by omega)))) (op_load1 (u := (.int .i64 (((rowR k (k + u))[(Int.toNat (((rollI (rowR k (k + u))).1) - 1))]'(by omega)).Tier))) Try.isAgg3 rfl (p21.drop 1) ?_)
    refine s_yes 52 rfl (congrArg Value.bool (show (decide (((rowR k (k + u)).length : Int) < ((rollI (rowR k (k + u))).1))) = false from (decide_eq_false (by omega)))) (op_move (.int .i64 ((rollI (rowR k (k + u))).2)) rfl ?_)
    refine s_yes 52 rfl (congrArg Value.bool (show (decide (((rowR k (k + u)).length : Int) < ((rollI (rowR k (k + u))).1))) = false from (decide_eq_false (by omega)))) (op_sub (k := .i64) (a := (rollI (rowR k (k + u))).2) (b := 1) (((rollI (rowR k (k + u))).2) - 1) rfl rfl (xi64 (by omega) (by omega)) ?_)
    refine s_yes 52 rfl (congrArg Value.bool (show (decide (((rowR k (k + u)).length : Int) < ((rollI (rowR k (k + u))).1))) = false from (decide_eq_false (by omega)))) (op_neq (k := .i64) (a := ((rowR k (k + u))[(Int.toNat (((rollI (rowR k (k + u))).1) - 1))]'(by omega)).Tier) (b := (((rollI (rowR k (k + u))).2) - 1)) rfl rfl ?_)
    refine s_cons (op_pick_f (.bool (!decide ((((rowR k (k + u))[(Int.toNat (((rollI (rowR k (k + u))).1) - 1))]'(by omega)).Tier) = (((rollI (rowR k (k + u))).2) - 1)))) (congrArg Value.bool (show (decide (((rowR k (k + u)).length : Int) < ((rollI (rowR k (k + u))).1))) = false from (decide_eq_false (by omega)))) rfl ?_)
    refine s_cons (op_move (.bool (!decide ((((rowR k (k + u))[(Int.toNat (((rollI (rowR k (k + u))).1) - 1))]'(by omega)).Tier) = (((rollI (rowR k (k + u))).2) - 1)))) rfl ?_)
    refine s_yes 63 rfl (congrArg Value.bool (congrArg (! ·) (show (decide ((((rowR k (k + u))[(Int.toNat (((rollI (rowR k (k + u))).1) - 1))]'(by omega)).Tier) = (((rollI (rowR k (k + u))).2) - 1))) = true from (decide_eq_true (by omega))))) (op_move (.int .i64 ((rollI (rowR k (k + u))).2)) rfl ?_)
    refine s_yes 63 rfl (congrArg Value.bool (congrArg (! ·) (show (decide ((((rowR k (k + u))[(Int.toNat (((rollI (rowR k (k + u))).1) - 1))]'(by omega)).Tier) = (((rollI (rowR k (k + u))).2) - 1))) = true from (decide_eq_true (by omega))))) (op_move (.int .i64 (tierR k u)) q12_6 ?_)
    refine s_yes 63 rfl (congrArg Value.bool (congrArg (! ·) (show (decide ((((rowR k (k + u))[(Int.toNat (((rollI (rowR k (k + u))).1) - 1))]'(by omega)).Tier) = (((rollI (rowR k (k + u))).2) - 1))) = true from (decide_eq_true (by omega))))) (op_lss (k := .i64) (a := (rollI (rowR k (k + u))).2) (b := (tierR k u)) rfl rfl ?_)
    refine s_cons (op_pick_f (.bool (decide (((rollI (rowR k (k + u))).2) < (tierR k u)))) (congrArg Value.bool (congrArg (! ·) (show (decide ((((rowR k (k + u))[(Int.toNat (((rollI (rowR k (k + u))).1) - 1))]'(by omega)).Tier) = (((rollI (rowR k (k + u))).2) - 1))) = true from (decide_eq_true (by omega))))) rfl ?_)
    refine s_nil ?_
    refine then_n ?_
    refine cE_cond false (congrArg Value.bool (show (decide (((rollI (rowR k (k + u))).2) < (tierR k u))) = false from (decide_eq_false (by omega)))) (fun h => by cases h) (fun _ => ?_)
    refine cE_skip ?_
    refine then_n ?_
    refine cE_seq ?_
    refine cE_region rfl ?_
    refine s_cons (op_move (.int .i64 ((rollI (rowR k (k + u))).2)) rfl ?_)
    refine s_cons (op_assign (.int .i64 ((rollI (rowR k (k + u))).2)) rfl ?_)
    refine s_nil ?_
    refine then_n ?_
    refine cE_seq ?_
    refine cE_region rfl ?_
    refine s_cons (op_move vo q12_4 ?_)
    refine s_cons (op_move (.int .i64 ((rollI (rowR k (k + u))).1)) rfl ?_)
    refine s_cons (op_sub (k := .i64) (a := (rollI (rowR k (k + u))).1) (b := 1) (((rollI (rowR k (k + u))).1) - 1) rfl rfl (xi64 (by omega) (by omega)) ?_)
    refine s_cons (op_indexAddrN (E := infoE) (xs := (rowR k (k + u))) (Int.toNat (((rollI (rowR k (k + u))).1) - 1)) Try.underlying22 Try.sizeOf34 rfl (hst.sl 0 rfl) rfl (by omega) (by omega) (fun a22 o23 p24 => ?_))
    refine s_cons (op_loadN (cs := [(.int .i64 (((rowR k (k + u))[(Int.toNat (((rollI (rowR k (k + u))).1) - 1))]'(by omega)).Id)), (.int .i64 (((rowR k (k + u))[(Int.toNat (((rollI (rowR k (k + u))).1) - 1))]'(by omega)).Tier)), (.int .i64 (((rowR k (k + u))[(Int.toNat (((rollI (rowR k (k + u))).1) - 1))]'(by omega)).From)), (.int .i64 (((rowR k (k + u))[(Int.toNat (((rollI (rowR k (k + u))).1) - 1))]'(by omega)).To)), (.int .u32 (((rowR k (k + u))[(Int.toNat (((rollI (rowR k (k + u))).1) - 1))]'(by omega)).Sum))]) Try.isAgg34 Try.sizeOf34 rfl (Pt.of p24 rfl) rfl ?_)
    refine s_cons (op_alloc (cs := #[(.int .i64 0), (.int .i64 0), (.int .i64 0), (.int .i64 0), (.int .u32 0)]) hst Try.zeroValue34 rfl (fun g25 w26 hst _ => ?_))
    replace hst : St w0 w26 [.blk g25 34 #[(.int .i64 0), (.int .i64 0), (.int .i64 0), (.int .i64 0), (.int .u32 0)], rowT 34 infoE vo (rowR k (k + u))] := hst
    refine s_cons0 (op_storeAll hst 0 rfl Try.sizeOf34 rfl rfl rfl rfl (by simp [Value.oneCell']) (fun w27 hst => ?_))
    replace hst : St w0 w27 [.blk g25 34 #[(.int .i64 (((rowR k (k + u))[(Int.toNat (((rollI (rowR k (k + u))).1) - 1))]'(by omega)).Id)), (.int .i64 (((rowR k (k + u))[(Int.toNat (((rollI (rowR k (k + u))).1) - 1))]'(by omega)).Tier)), (.int .i64 (((rowR k (k + u))[(Int.toNat (((rollI (rowR k (k + u))).1) - 1))]'(by omega)).From)), (.int .i64 (((rowR k (k + u))[(Int.toNat (((rollI (rowR k (k + u))).1) - 1))]'(by omega)).To)), (.int .u32 (((rowR k (k + u))[(Int.toNat (((rollI (rowR k (k + u))).1) - 1))]'(by omega)).Sum))], rowT 34 infoE vo (rowR k (k + u))] := hst
    refine s_nil ?_
    refine then_n ?_
    refine cE_region rfl ?_
    refine s_cons (op_move vo q12_4 ?_)
    refine s_cons (op_move vo q12_4 ?_)
    refine s_cons (op_len (E := infoE) (xs := (rowR k (k + u))) Try.underlying22 rfl (hst.sl 1 rfl) ?_)
    refine s_cons (op_add (k := .i64) (a := ((rowR k (k + u)).length : Int)) (b := 1) (((rowR k (k + u)).length : Int) + 1) rfl rfl (xi64 (by omega) (by omega)) ?_)
    refine s_cons (op_move (.int .i64 ((rollI (rowR k (k + u))).2)) rfl ?_)
    refine s_cons (op_fieldAddr (s := 0) Try.underlying34 rfl rfl Try.sizeOf2 rfl ?_)
    refine s_cons (op_load1 (u := (.int .i64 (((rowR k (k + u))[(Int.toNat (((rollI (rowR k (k + u))).1) - 1))]'(by omega)).From))) Try.isAgg2 rfl ((hst.cell 0 rfl).drop 2) ?_)
    refine s_cons (op_fieldAddr (s := 0) Try.underlying34 rfl rfl Try.sizeOf2 rfl ?_)
    refine s_cons (op_load1 (u := (.int .i64 (((rowR k (k + u))[(Int.toNat (((rollI (rowR k (k + u))).1) - 1))]'(by omega)).To))) Try.isAgg2 rfl ((hst.cell 0 rfl).drop 3) ?_)
    refine s_cons (op_build (r := (.agg #[(.int .i64 (((rowR k (k + u)).length : Int) + 1)), (.int .i64 ((rollI (rowR k (k + u))).2)), (.int .i64 (((rowR k (k + u))[(Int.toNat (((rollI (rowR k (k + u))).1) - 1))]'(by omega)).From)), (.int .i64 (((rowR k (k + u))[(Int.toNat (((rollI (rowR k (k + u))).1) - 1))]'(by omega)).To)), (.int .u32 0)])) (evp_cons (v := (.int .i64 (((rowR k (k + u)).length : Int) + 1))) rfl (evp_cons (v := (.int .i64 ((rollI (rowR k (k + u))).2))) rfl (evp_cons (v := (.int .i64 (((rowR k (k + u))[(Int.toNat (((rollI (rowR k (k + u))).1) - 1))]'(by omega)).From))) rfl (evp_cons (v := (.int .i64 (((rowR k (k + u))[(Int.toNat (((rollI (rowR k (k + u))).1) - 1))]'(by omega)).To))) rfl evp_nil)))) (by simp [Instr.build, Instr.fill, Value.cells, Try.runUnderlying34, Try.zeroValue34]) ?_)
    refine s_cons (op_buildSlice (E := infoE) [(⟨(((rowR k (k + u)).length : Int) + 1), (rollI (rowR k (k + u))).2, ((rowR k (k + u))[(Int.toNat (((rollI (rowR k (k + u))).1) - 1))]'(by omega)).From, ((rowR k (k + u))[(Int.toNat (((rollI (rowR k (k + u))).1) - 1))]'(by omega)).To, 0⟩ : Info)] hst Try.underlying22 Try.sizeOf34 Try.zeroValue34 (evp_cons (v := (.agg #[(.int .i64 (((rowR k (k + u)).length : Int) + 1)), (.int .i64 ((rollI (rowR k (k + u))).2)), (.int .i64 (((rowR k (k + u))[(Int.toNat (((rollI (rowR k (k + u))).1) - 1))]'(by omega)).From)), (.int .i64 (((rowR k (k + u))[(Int.toNat (((rollI (rowR k (k + u))).1) - 1))]'(by omega)).To)), (.int .u32 0)])) rfl evp_nil) (parts_cons rfl parts_nil) rfl (by decide) (fun v28 w29 hst => ?_))
    replace hst : St w0 w29 [rowT 34 infoE v28 ([(⟨(((rowR k (k + u)).length : Int) + 1), (rollI (rowR k (k + u))).2, ((rowR k (k + u))[(Int.toNat (((rollI (rowR k (k + u))).1) - 1))]'(by omega)).From, ((rowR k (k + u))[(Int.toNat (((rollI (rowR k (k + u))).1) - 1))]'(by omega)).To, 0⟩ : Info)]), .blk g25 34 #[(.int .i64 (((rowR k (k + u))[(Int.toNat (((rollI (rowR k (k + u))).1) - 1))]'(by omega)).Id)), (.int .i64 (((rowR k (k + u))[(Int.toNat (((rollI (rowR k (k + u))).1) - 1))]'(by omega)).Tier)), (.int .i64 (((rowR k (k + u))[(Int.toNat (((rollI (rowR k (k + u))).1) - 1))]'(by omega)).From)), (.int .i64 (((rowR k (k + u))[(Int.toNat (((rollI (rowR k (k + u))).1) - 1))]'(by omega)).To)), (.int .u32 (((rowR k (k + u))[(Int.toNat (((rollI (rowR k (k + u))).1) - 1))]'(by omega)).Sum))], rowT 34 infoE vo (rowR k (k + u))] := hst
    refine s_cons (op_append (E := infoE) (xs := (rowR k (k + u))) (ys := [(⟨(((rowR k (k + u)).length : Int) + 1), (rollI (rowR k (k + u))).2, ((rowR k (k + u))[(Int.toNat (((rollI (rowR k (k + u))).1) - 1))]'(by omega)).From, ((rowR k (k + u))[(Int.toNat (((rollI (rowR k (k + u))).1) - 1))]'(by omega)).To, 0⟩ : Info)]) (z := (.agg #[(.int .i64 0), (.int .i64 0), (.int .i64 0), (.int .i64 0), (.int .u32 0)])) (bytes := 40) hst 2 rfl Try.underlying22 (by kernel_rfl) rfl rfl rfl (hst.sl 0 rfl) (by first | omega | (simp only [List.length_cons, List.length_nil]; omega)) (by first | omega | (simp only [List.length_cons, List.length_nil]; omega)) (fun v30 w31 hst => ?_))
    replace hst : St w0 w31 [rowT 34 infoE v28 ([(⟨(((rowR k (k + u)).length : Int) + 1), (rollI (rowR k (k + u))).2, ((rowR k (k + u))[(Int.toNat (((rollI (rowR k (k + u))).1) - 1))]'(by omega)).From, ((rowR k (k + u))[(Int.toNat (((rollI (rowR k (k + u))).1) - 1))]'(by omega)).To, 0⟩ : Info)]), .blk g25 34 #[(.int .i64 (((rowR k (k + u))[(Int.toNat (((rollI (rowR k (k + u))).1) - 1))]'(by omega)).Id)), (.int .i64 (((rowR k (k + u))[(Int.toNat (((rollI (rowR k (k + u))).1) - 1))]'(by omega)).Tier)), (.int .i64 (((rowR k (k + u))[(Int.toNat (((rollI (rowR k (k + u))).1) - 1))]'(by omega)).From)), (.int .i64 (((rowR k (k + u))[(Int.toNat (((rollI (rowR k (k + u))).1) - 1))]'(by omega)).To)), (.int .u32 (((rowR k (k + u))[(Int.toNat (((rollI (rowR k (k + u))).1) - 1))]'(by omega)).Sum))], rowT 34 infoE v30 (rowR k (k + (u + 1)))] := by rw [show ((rowR k (k + u)) ++ ([(⟨(((rowR k (k + u)).length : Int) + 1), (rollI (rowR k (k + u))).2, ((rowR k (k + u))[(Int.toNat (((rollI (rowR k (k + u))).1) - 1))]'(by omega)).From, ((rowR k (k + u))[(Int.toNat (((rollI (rowR k (k + u))).1) - 1))]'(by omega)).To, 0⟩ : Info)])) = (rowR k (k + (u + 1))) from (rowR_grow (by omega) htu (by omega) (by omega))] at hst; exact hst
    refine s_cons (op_assign v30 rfl ?_)
    refine s_nil ?_
    refine block_n (then_n ?_)
    refine cE_region rfl ?_
    refine s_cons (op_move (.int .i64 (u : Int)) q12_7 ?_)
    refine s_cons (op_add (k := .i64) (a := (u : Int)) (b := 1) ((u : Int) + 1) rfl rfl (xi64 (by omega) (by omega)) ?_)
    refine s_cons (op_assign (.int .i64 ((u : Int) + 1)) rfl ?_)
    refine s_nil ?_
    refine then_n ?_
    exact ⟨_, ⟨v30, (u + 1), rfl, q12_0, q12_3, q12_5, rfl, (congrArg (Value.int .i64) (show (rollI (rowR k (k + u))).2 = _ from by first | rfl | exact hr2.trans (tierR_succ k u).symm)), (congrArg (Value.int .i64) (show ((u : Int) + 1) = _ from by omega)), (hst.sub (.cons _ (.cons _ (.cons_cons _ .slnil)))), (by omega)⟩, (by simp only [id]; omega)⟩
  have c32 : ¬ ((u : Int) < (3 * (k : Int))) := of_decide_eq_false b16
  refine cE_cond false (congrArg Value.bool b16) (fun h => by cases h) (fun _ => ?_)
  refine cE_exit ?_
  refine then_x (then_x (block_hit (then_n ?_)))
  refine cE_seq ?_
  refine cE_region rfl ?_
  refine s_cons (op_move vo q12_4 ?_)
  refine s_cons (op_call Try.call9 (evs_cons (v := vo) rfl evs_nil) (c_roll (w0 := w15) (v_l := vo) (l := (rowR k (k + u))) (h_l := (hst.sl 0 rfl)) (hl := (rowR_ok (by omega) (by omega)))) ?_)
  rintro _ w33 ⟨rfl, hcall⟩
  refine ⟨_, rfl, ?_⟩
  have hst : St w0 w33 [rowT 34 infoE vo (rowR k (k + u))] := hst.call hcall
  refine s_cons (op_move (.tuple #[(.int .i64 ((rollI (rowR k (k + u))).1)), (.int .i64 ((rollI (rowR k (k + u))).2))]) rfl ?_)
  refine s_cons (op_extract (.int .i64 ((rollI (rowR k (k + u))).1)) rfl rfl ?_)
  refine s_cons (op_extract (.int .i64 ((rollI (rowR k (k + u))).2)) rfl rfl ?_)
  refine s_cons (op_assign (.int .i64 ((rollI (rowR k (k + u))).1)) rfl ?_)
  refine s_cons (op_assign (.int .i64 ((rollI (rowR k (k + u))).2)) rfl ?_)
  refine s_nil ?_
  refine then_n ?_
  refine cE_seq ?_
  have hre := rollR_end (k := k) (n := k + u) (by omega)
  have hre1 : (rollI (rowR k (k + u))).1 = -1 := congrArg Prod.fst hre
  have hre2 : (rollI (rowR k (k + u))).2 = 0 := congrArg Prod.snd hre
  refine cE_region rfl ?_
  refine s_cons (op_call Try.call7 evs_nil (c_told20 (w0 := w33)) ?_)
  rintro _ w34 ⟨rfl, hcall⟩
  refine ⟨_, rfl, ?_⟩
  have hst : St w0 w34 [rowT 34 infoE vo (rowR k (k + u))] := hst.call hcall
  refine s_cons (op_move (.bool true) rfl ?_)
  refine s_yes 92 rfl rfl (op_move (.int .i64 ((rollI (rowR k (k + u))).1)) rfl ?_)
  refine s_yes 92 rfl rfl (op_eql (k := .i64) (a := (rollI (rowR k (k + u))).1) (b := (-1)) rfl rfl ?_)
  refine s_cons (op_pick_t (.bool (decide (((rollI (rowR k (k + u))).1) = (-1)))) rfl rfl ?_)
  refine s_cons (op_move (.bool (decide (((rollI (rowR k (k + u))).1) = (-1)))) rfl ?_)
  refine s_yes 96 rfl (congrArg Value.bool (show (decide (((rollI (rowR k (k + u))).1) = (-1))) = true from (decide_eq_true (by omega)))) (op_move (.int .i64 ((rollI (rowR k (k + u))).2)) rfl ?_)
  refine s_yes 96 rfl (congrArg Value.bool (show (decide (((rollI (rowR k (k + u))).1) = (-1))) = true from (decide_eq_true (by omega)))) (op_eql (k := .i64) (a := (rollI (rowR k (k + u))).2) (b := 0) rfl rfl ?_)
  refine s_cons (op_pick_t (.bool (decide (((rollI (rowR k (k + u))).2) = 0))) (congrArg Value.bool (show (decide (((rollI (rowR k (k + u))).1) = (-1))) = true from (decide_eq_true (by omega)))) rfl ?_)
  refine s_cons (op_move (.bool (decide (((rollI (rowR k (k + u))).2) = 0))) rfl ?_)
  refine s_yes 100 rfl (congrArg Value.bool (show (decide (((rollI (rowR k (k + u))).2) = 0)) = true from (decide_eq_true (by omega)))) (op_move vo q12_4 ?_)
  refine s_yes 100 rfl (congrArg Value.bool (show (decide (((rollI (rowR k (k + u))).2) = 0)) = true from (decide_eq_true (by omega)))) (op_len (E := infoE) (xs := (rowR k (k + u))) Try.underlying22 rfl (hst.sl 0 rfl) ?_)
  refine s_yes 100 rfl (congrArg Value.bool (show (decide (((rollI (rowR k (k + u))).2) = 0)) = true from (decide_eq_true (by omega)))) (op_move (.int .i64 (k : Int)) q12_3 ?_)
  refine s_yes 100 rfl (congrArg Value.bool (show (decide (((rollI (rowR k (k + u))).2) = 0)) = true from (decide_eq_true (by omega)))) (op_mul (k := .i64) (a := 4) (b := (k : Int)) (4 * (k : Int)) rfl rfl (xi64 (by omega) (by omega)) ?_)
  refine s_yes 100 rfl (congrArg Value.bool (show (decide (((rollI (rowR k (k + u))).2) = 0)) = true from (decide_eq_true (by omega)))) (op_eql (k := .i64) (a := ((rowR k (k + u)).length : Int)) (b := (4 * (k : Int))) rfl rfl ?_)
  refine s_cons (op_pick_t (.bool (decide (((rowR k (k + u)).length : Int) = (4 * (k : Int))))) (congrArg Value.bool (show (decide (((rollI (rowR k (k + u))).2) = 0)) = true from (decide_eq_true (by omega)))) rfl ?_)
  refine s_cons (op_assign (.bool (decide (((rowR k (k + u)).length : Int) = (4 * (k : Int))))) rfl ?_)
  refine s_nil ?_
  refine then_n ?_
  refine cE_ret ?_
  refine post_r _ (res1 (v := (.bool true)) (congrArg Value.bool (show (decide (((rowR k (k + u)).length : Int) = (4 * (k : Int)))) = true from (decide_eq_true (by omega))))) ?_
  exact ⟨rfl, hst.bare⟩

end Go.Proofs.Ytadnedoecbfojaa
