/- the law TierFloors -/
import Derived.Test.YtffnhcioponbbaaW13
import Derived.Test.YtffnhcioponbbaaI
namespace Go.Proofs.Ytffnhcioponbbaa
open Go.RowKit

theorem c_TierFloors (w0 : World) (t : Int) (k : Int) (t0 : -9223372036854775808 ≤ t) (k0 : -9223372036854775808 ≤ k) (t1 : t ≤ 9223372036854775807) (k1 : k ≤ 9223372036854775807) :
    Calls Try.prog 13 #[(.int .i64 t), (.int .i64 k)] w0 fun e w' => e = .returned (.bool true) ∧ St w0 w' [] := by
  refine calls_E (n := 94) (ts := [4]) Try.func13 rfl rfl rfl (by simp) ?_
  have hst := St.start w0
  refine cE_seq ?_
  refine cE_region rfl ?_
  refine s_cons (op_assign (.bool false) rfl ?_)
  refine s_nil ?_
  refine then_n ?_
  refine cE_seq ?_
  refine cE_region rfl ?_
  refine s_cons (op_move (.int .i64 t) rfl ?_)
  refine s_cons (op_conv (k := .i64) (a := t) (t % 18446744073709551616) Try.underlying24 (by rw [Try.underlying3]; rfl) rfl (IntKind.wrap_u64 _) ?_)
  obtain ⟨x, hx, hxl⟩ := rem_nat (a := (t % 18446744073709551616)) (b := 1000000) (by omega) (by omega)
  refine s_cons (op_rem (k := .u64) (a := (t % 18446744073709551616)) (b := 1000000) (x : Int) rfl rfl (by omega) hx ?_)
  refine s_cons (op_conv (k := .u64) (a := (x : Int)) (x : Int) Try.underlying2 (by rw [Try.underlying24]; rfl) rfl (xi64 (by omega) (by omega)) ?_)
  refine s_cons (op_move (.int .i64 k) rfl ?_)
  refine s_cons (op_conv (k := .i64) (a := k) (k % 18446744073709551616) Try.underlying24 (by rw [Try.underlying3]; rfl) rfl (IntKind.wrap_u64 _) ?_)
  obtain ⟨n, hn, hnl⟩ := rem_nat (a := (k % 18446744073709551616)) (b := 4) (by omega) (by omega)
  refine s_cons (op_rem (k := .u64) (a := (k % 18446744073709551616)) (b := 4) (n : Int) rfl rfl (by omega) hn ?_)
  refine s_cons (op_conv (k := .u64) (a := (n : Int)) (n : Int) Try.underlying3 (by rw [Try.underlying24]; rfl) rfl (xi64 (by omega) (by omega)) ?_)
  refine s_cons (op_assign (.int .i64 (x : Int)) rfl ?_)
  refine s_cons (op_assign (.int .i64 (n : Int)) rfl ?_)
  refine s_nil ?_
  refine then_n ?_
  refine cE_seq ?_
  refine cE_region rfl ?_
  refine s_cons (op_move (.int .i64 (x : Int)) rfl ?_)
  refine s_cons (op_move (.int .i64 (n : Int)) rfl ?_)
  refine s_cons (op_call Try.call30 (evs_cons (v := (.int .i64 (x : Int))) rfl (evs_cons (v := (.int .i64 (n : Int))) rfl evs_nil)) (c_Floor (w0 := w0) (t := (x : Int)) (k := (n : Int)) (t0 := (by omega)) (k0 := (by omega)) (t1 := (by omega)) (k1 := (by omega))) ?_)
  rintro _ w1 ⟨rfl, hcall⟩
  refine ⟨_, rfl, ?_⟩
  have hst : St w0 w1 [] := hst.call hcall
  refine s_cons (op_move (.int .i64 (n : Int)) rfl ?_)
  refine s_cons (op_call Try.call28 (evs_cons (v := (.int .i64 (n : Int))) rfl evs_nil) (c_Width (w0 := w1) (k := (n : Int)) (k0 := (by omega)) (k1 := (by omega))) ?_)
  rintro _ w2 ⟨rfl, hcall⟩
  refine ⟨_, rfl, ?_⟩
  have hst : St w0 w2 [] := hst.call hcall
  refine s_cons (op_assign (.int .i64 (floorA (x : Int) (n : Int))) rfl ?_)
  refine s_cons (op_assign (.int .i64 (widthA (n : Int))) rfl ?_)
  refine s_nil ?_
  refine then_n ?_
  refine cE_seq ?_
  refine cE_seq ?_
  have hf := floor_facts (x := x) (n := n) (by omega) (by omega)
  have hfr := floorA_r (x : Int) (n : Int)
  refine cE_region rfl ?_
  refine s_cons (op_move (.int .i64 (floorA (x : Int) (n : Int))) rfl ?_)
  refine s_cons (op_move (.int .i64 (x : Int)) rfl ?_)
  refine s_cons (op_gtr (k := .i64) (a := (floorA (x : Int) (n : Int))) (b := (x : Int)) rfl rfl ?_)
  refine s_cons (op_move (.bool (decide ((x : Int) < (floorA (x : Int) (n : Int))))) rfl ?_)
  refine s_yes 25 rfl (congrArg Value.bool (show (decide ((x : Int) < (floorA (x : Int) (n : Int)))) = false from (decide_eq_false (by omega)))) (op_move (.int .i64 (x : Int)) rfl ?_)
  refine s_yes 25 rfl (congrArg Value.bool (show (decide ((x : Int) < (floorA (x : Int) (n : Int)))) = false from (decide_eq_false (by omega)))) (op_move (.int .i64 (floorA (x : Int) (n : Int))) rfl ?_)
  refine s_yes 25 rfl (congrArg Value.bool (show (decide ((x : Int) < (floorA (x : Int) (n : Int)))) = false from (decide_eq_false (by omega)))) (op_move (.int .i64 (widthA (n : Int))) rfl ?_)
  refine s_yes 25 rfl (congrArg Value.bool (show (decide ((x : Int) < (floorA (x : Int) (n : Int)))) = false from (decide_eq_false (by omega)))) (op_add (k := .i64) (a := (floorA (x : Int) (n : Int))) (b := (widthA (n : Int))) ((floorA (x : Int) (n : Int)) + (widthA (n : Int))) rfl rfl (xi64 (by omega) (by omega)) ?_)
  refine s_yes 25 rfl (congrArg Value.bool (show (decide ((x : Int) < (floorA (x : Int) (n : Int)))) = false from (decide_eq_false (by omega)))) (op_geq (k := .i64) (a := (x : Int)) (b := ((floorA (x : Int) (n : Int)) + (widthA (n : Int)))) rfl rfl ?_)
  refine s_cons (op_pick_f (.bool (decide (((floorA (x : Int) (n : Int)) + (widthA (n : Int))) ≤ (x : Int)))) (congrArg Value.bool (show (decide ((x : Int) < (floorA (x : Int) (n : Int)))) = false from (decide_eq_false (by omega)))) rfl ?_)
  refine s_cons (op_move (.bool (decide (((floorA (x : Int) (n : Int)) + (widthA (n : Int))) ≤ (x : Int)))) rfl ?_)
  refine s_yes 32 rfl (congrArg Value.bool (show (decide (((floorA (x : Int) (n : Int)) + (widthA (n : Int))) ≤ (x : Int))) = false from (decide_eq_false (by omega)))) (op_move (.int .i64 (floorA (x : Int) (n : Int))) rfl ?_)
  refine s_yes 32 rfl (congrArg Value.bool (show (decide (((floorA (x : Int) (n : Int)) + (widthA (n : Int))) ≤ (x : Int))) = false from (decide_eq_false (by omega)))) (op_move (.int .i64 (widthA (n : Int))) rfl ?_)
  refine s_yes 32 rfl (congrArg Value.bool (show (decide (((floorA (x : Int) (n : Int)) + (widthA (n : Int))) ≤ (x : Int))) = false from (decide_eq_false (by omega)))) (op_rem (k := .i64) (a := (floorA (x : Int) (n : Int))) (b := (widthA (n : Int))) ((floorA (x : Int) (n : Int)) % (widthA (n : Int))) rfl rfl (by omega) (tmod_nn (by omega)) ?_)
  refine s_yes 32 rfl (congrArg Value.bool (show (decide (((floorA (x : Int) (n : Int)) + (widthA (n : Int))) ≤ (x : Int))) = false from (decide_eq_false (by omega)))) (op_neq (k := .i64) (a := ((floorA (x : Int) (n : Int)) % (widthA (n : Int)))) (b := 0) rfl rfl ?_)
  refine s_cons (op_pick_f (.bool (!decide (((floorA (x : Int) (n : Int)) % (widthA (n : Int))) = 0))) (congrArg Value.bool (show (decide (((floorA (x : Int) (n : Int)) + (widthA (n : Int))) ≤ (x : Int))) = false from (decide_eq_false (by omega)))) rfl ?_)
  refine s_cons (op_move (.bool (!decide (((floorA (x : Int) (n : Int)) % (widthA (n : Int))) = 0))) rfl ?_)
  refine s_yes 38 rfl (congrArg Value.bool (congrArg (! ·) (show (decide (((floorA (x : Int) (n : Int)) % (widthA (n : Int))) = 0)) = true from (decide_eq_true hf.2.2.1)))) (op_move (.int .i64 (floorA (x : Int) (n : Int))) rfl ?_)
  refine s_yes 38 rfl (congrArg Value.bool (congrArg (! ·) (show (decide (((floorA (x : Int) (n : Int)) % (widthA (n : Int))) = 0)) = true from (decide_eq_true hf.2.2.1)))) (op_move (.int .i64 (n : Int)) rfl ?_)
  refine s_yes 38 rfl (congrArg Value.bool (congrArg (! ·) (show (decide (((floorA (x : Int) (n : Int)) % (widthA (n : Int))) = 0)) = true from (decide_eq_true hf.2.2.1)))) (op_call Try.call30 (evs_cons (v := (.int .i64 (floorA (x : Int) (n : Int)))) rfl (evs_cons (v := (.int .i64 (n : Int))) rfl evs_nil)) (c_Floor (w0 := w2) (t := (floorA (x : Int) (n : Int))) (k := (n : Int)) (t0 := (by omega)) (k0 := (by omega)) (t1 := (by omega)) (k1 := (by omega))) ?_)
  rintro _ w3 ⟨rfl, hcall⟩
  refine ⟨_, rfl, ?_⟩
  have hst : St w0 w3 [] := hst.call hcall
  refine s_yes 38 rfl (congrArg Value.bool (congrArg (! ·) (show (decide (((floorA (x : Int) (n : Int)) % (widthA (n : Int))) = 0)) = true from (decide_eq_true hf.2.2.1)))) (op_move (.int .i64 (floorA (x : Int) (n : Int))) rfl ?_)
  refine s_yes 38 rfl (congrArg Value.bool (congrArg (! ·) (show (decide (((floorA (x : Int) (n : Int)) % (widthA (n : Int))) = 0)) = true from (decide_eq_true hf.2.2.1)))) (op_neq (k := .i64) (a := (floorA (floorA (x : Int) (n : Int)) (n : Int))) (b := (floorA (x : Int) (n : Int))) rfl rfl ?_)
  refine s_cons (op_pick_f (.bool (!decide ((floorA (floorA (x : Int) (n : Int)) (n : Int)) = (floorA (x : Int) (n : Int))))) (congrArg Value.bool (congrArg (! ·) (show (decide (((floorA (x : Int) (n : Int)) % (widthA (n : Int))) = 0)) = true from (decide_eq_true hf.2.2.1)))) rfl ?_)
  refine s_cons (op_move (.bool (!decide ((floorA (floorA (x : Int) (n : Int)) (n : Int)) = (floorA (x : Int) (n : Int))))) rfl ?_)
  refine s_yes 45 rfl (congrArg Value.bool (congrArg (! ·) (show (decide ((floorA (floorA (x : Int) (n : Int)) (n : Int)) = (floorA (x : Int) (n : Int)))) = true from (decide_eq_true hf.2.2.2.1)))) (op_move (.int .i64 (floorA (x : Int) (n : Int))) rfl ?_)
  refine s_yes 45 rfl (congrArg Value.bool (congrArg (! ·) (show (decide ((floorA (floorA (x : Int) (n : Int)) (n : Int)) = (floorA (x : Int) (n : Int)))) = true from (decide_eq_true hf.2.2.2.1)))) (op_move (.int .i64 (widthA (n : Int))) rfl ?_)
  refine s_yes 45 rfl (congrArg Value.bool (congrArg (! ·) (show (decide ((floorA (floorA (x : Int) (n : Int)) (n : Int)) = (floorA (x : Int) (n : Int)))) = true from (decide_eq_true hf.2.2.2.1)))) (op_add (k := .i64) (a := (floorA (x : Int) (n : Int))) (b := (widthA (n : Int))) ((floorA (x : Int) (n : Int)) + (widthA (n : Int))) rfl rfl (xi64 (by omega) (by omega)) ?_)
  refine s_yes 45 rfl (congrArg Value.bool (congrArg (! ·) (show (decide ((floorA (floorA (x : Int) (n : Int)) (n : Int)) = (floorA (x : Int) (n : Int)))) = true from (decide_eq_true hf.2.2.2.1)))) (op_move (.int .i64 (n : Int)) rfl ?_)
  refine s_yes 45 rfl (congrArg Value.bool (congrArg (! ·) (show (decide ((floorA (floorA (x : Int) (n : Int)) (n : Int)) = (floorA (x : Int) (n : Int)))) = true from (decide_eq_true hf.2.2.2.1)))) (op_call Try.call30 (evs_cons (v := (.int .i64 ((floorA (x : Int) (n : Int)) + (widthA (n : Int))))) rfl (evs_cons (v := (.int .i64 (n : Int))) rfl evs_nil)) (c_Floor (w0 := w3) (t := ((floorA (x : Int) (n : Int)) + (widthA (n : Int)))) (k := (n : Int)) (t0 := (by omega)) (k0 := (by omega)) (t1 := (by omega)) (k1 := (by omega))) ?_)
  rintro _ w4 ⟨rfl, hcall⟩
  refine ⟨_, rfl, ?_⟩
  have hst : St w0 w4 [] := hst.call hcall
  refine s_yes 45 rfl (congrArg Value.bool (congrArg (! ·) (show (decide ((floorA (floorA (x : Int) (n : Int)) (n : Int)) = (floorA (x : Int) (n : Int)))) = true from (decide_eq_true hf.2.2.2.1)))) (op_move (.int .i64 (floorA (x : Int) (n : Int))) rfl ?_)
  refine s_yes 45 rfl (congrArg Value.bool (congrArg (! ·) (show (decide ((floorA (floorA (x : Int) (n : Int)) (n : Int)) = (floorA (x : Int) (n : Int)))) = true from (decide_eq_true hf.2.2.2.1)))) (op_move (.int .i64 (widthA (n : Int))) rfl ?_)
  refine s_yes 45 rfl (congrArg Value.bool (congrArg (! ·) (show (decide ((floorA (floorA (x : Int) (n : Int)) (n : Int)) = (floorA (x : Int) (n : Int)))) = true from (decide_eq_true hf.2.2.2.1)))) (op_add (k := .i64) (a := (floorA (x : Int) (n : Int))) (b := (widthA (n : Int))) ((floorA (x : Int) (n : Int)) + (widthA (n : Int))) rfl rfl (xi64 (by omega) (by omega)) ?_)
  refine s_yes 45 rfl (congrArg Value.bool (congrArg (! ·) (show (decide ((floorA (floorA (x : Int) (n : Int)) (n : Int)) = (floorA (x : Int) (n : Int)))) = true from (decide_eq_true hf.2.2.2.1)))) (op_neq (k := .i64) (a := (floorA ((floorA (x : Int) (n : Int)) + (widthA (n : Int))) (n : Int))) (b := ((floorA (x : Int) (n : Int)) + (widthA (n : Int)))) rfl rfl ?_)
  refine s_cons (op_pick_f (.bool (!decide ((floorA ((floorA (x : Int) (n : Int)) + (widthA (n : Int))) (n : Int)) = ((floorA (x : Int) (n : Int)) + (widthA (n : Int)))))) (congrArg Value.bool (congrArg (! ·) (show (decide ((floorA (floorA (x : Int) (n : Int)) (n : Int)) = (floorA (x : Int) (n : Int)))) = true from (decide_eq_true hf.2.2.2.1)))) rfl ?_)
  refine s_nil ?_
  refine then_n ?_
  refine cE_cond false (congrArg Value.bool (congrArg (! ·) (show (decide ((floorA ((floorA (x : Int) (n : Int)) + (widthA (n : Int))) (n : Int)) = ((floorA (x : Int) (n : Int)) + (widthA (n : Int))))) = true from (decide_eq_true hf.2.2.2.2.1)))) (fun h => by cases h) (fun _ => ?_)
  refine cE_skip ?_
  refine then_n ?_
  refine cE_seq ?_
  have hw9 := width_r ((n : Int) + 1)
  have hu := fun h3 => floor_up (x := x) (n := n) (by omega) (by omega) h3
  refine cE_region rfl ?_
  refine s_cons (op_call Try.call20 evs_nil (c_told4 (w0 := w4)) ?_)
  rintro _ w5 ⟨rfl, hcall⟩
  refine ⟨_, rfl, ?_⟩
  have hst : St w0 w5 [] := hst.call hcall
  refine s_cons (op_move (.bool true) rfl ?_)
  refine s_yes 57 rfl rfl (op_move (.int .i64 (n : Int)) rfl ?_)
  refine s_yes 57 rfl rfl (op_eql (k := .i64) (a := (n : Int)) (b := 3) rfl rfl ?_)
  refine s_yes 57 rfl rfl (op_move (.bool (decide ((n : Int) = 3))) rfl ?_)
  rcases Bool.eq_false_or_eq_true (decide ((n : Int) = 3)) with b6 | b6
  · have c7 : (n : Int) = 3 := of_decide_eq_true b6
    refine s_no 60 rfl (congrArg Value.bool b6) ?_
    refine s_no 60 rfl (congrArg Value.bool b6) ?_
    refine s_no 60 rfl (congrArg Value.bool b6) ?_
    refine s_no 60 rfl (congrArg Value.bool b6) ?_
    refine s_no 60 rfl (congrArg Value.bool b6) ?_
    refine s_no 60 rfl (congrArg Value.bool b6) ?_
    refine s_no 60 rfl (congrArg Value.bool b6) ?_
    refine s_no 60 rfl (congrArg Value.bool b6) ?_
    refine s_no 60 rfl (congrArg Value.bool b6) ?_
    refine s_yes 57 rfl rfl (op_pick_t (.bool true) (congrArg Value.bool b6) rfl ?_)
    refine s_cons (op_pick_t (.bool true) rfl rfl ?_)
    refine s_cons (op_move (.bool true) rfl ?_)
    refine s_yes 72 rfl rfl (op_move (.int .i64 (n : Int)) rfl ?_)
    refine s_yes 72 rfl rfl (op_eql (k := .i64) (a := (n : Int)) (b := 3) rfl rfl ?_)
    refine s_yes 72 rfl rfl (op_move (.bool (decide ((n : Int) = 3))) rfl ?_)
    refine s_no 75 rfl (congrArg Value.bool b6) ?_
    refine s_no 75 rfl (congrArg Value.bool b6) ?_
    refine s_no 75 rfl (congrArg Value.bool b6) ?_
    refine s_no 75 rfl (congrArg Value.bool b6) ?_
    refine s_no 75 rfl (congrArg Value.bool b6) ?_
    refine s_no 75 rfl (congrArg Value.bool b6) ?_
    refine s_yes 72 rfl rfl (op_pick_t (.bool true) (congrArg Value.bool b6) rfl ?_)
    refine s_cons (op_pick_t (.bool true) rfl rfl ?_)
    refine s_cons (op_move (.bool true) rfl ?_)
    refine s_yes 84 rfl rfl (op_move (.int .i64 (x : Int)) rfl ?_)
    refine s_yes 84 rfl rfl (op_call Try.call30 (evs_cons (v := (.int .i64 (x : Int))) rfl (evs_cons (v := (.int .i64 4)) rfl evs_nil)) (c_Floor (w0 := w5) (t := (x : Int)) (k := 4) (t0 := (by omega)) (k0 := (by omega)) (t1 := (by omega)) (k1 := (by omega))) ?_)
    rintro _ w8 ⟨rfl, hcall⟩
    refine ⟨_, rfl, ?_⟩
    have hst : St w0 w8 [] := hst.call hcall
    refine s_yes 84 rfl rfl (op_eql (k := .i64) (a := (floorA (x : Int) 4)) (b := (-1)) rfl rfl ?_)
    refine s_cons (op_pick_t (.bool (decide ((floorA (x : Int) 4) = (-1)))) rfl rfl ?_)
    refine s_cons (op_move (.bool (decide ((floorA (x : Int) 4) = (-1)))) rfl ?_)
    refine s_yes 89 rfl (congrArg Value.bool (show (decide ((floorA (x : Int) 4) = (-1))) = true from (decide_eq_true (floor_none (by first | exact Or.inl rfl | exact Or.inr (Or.inr (by decide))))))) (op_move (.int .i64 (n : Int)) rfl ?_)
    refine s_yes 89 rfl (congrArg Value.bool (show (decide ((floorA (x : Int) 4) = (-1))) = true from (decide_eq_true (floor_none (by first | exact Or.inl rfl | exact Or.inr (Or.inr (by decide))))))) (op_call Try.call30 (evs_cons (v := (.int .i64 1099511627777)) rfl (evs_cons (v := (.int .i64 (n : Int))) rfl evs_nil)) (c_Floor (w0 := w8) (t := 1099511627777) (k := (n : Int)) (t0 := (by omega)) (k0 := (by omega)) (t1 := (by omega)) (k1 := (by omega))) ?_)
    rintro _ w9 ⟨rfl, hcall⟩
    refine ⟨_, rfl, ?_⟩
    have hst : St w0 w9 [] := hst.call hcall
    refine s_yes 89 rfl (congrArg Value.bool (show (decide ((floorA (x : Int) 4) = (-1))) = true from (decide_eq_true (floor_none (by first | exact Or.inl rfl | exact Or.inr (Or.inr (by decide))))))) (op_eql (k := .i64) (a := (floorA 1099511627777 (n : Int))) (b := (-1)) rfl rfl ?_)
    refine s_cons (op_pick_t (.bool (decide ((floorA 1099511627777 (n : Int)) = (-1)))) (congrArg Value.bool (show (decide ((floorA (x : Int) 4) = (-1))) = true from (decide_eq_true (floor_none (by first | exact Or.inl rfl | exact Or.inr (Or.inr (by decide))))))) rfl ?_)
    refine s_cons (op_assign (.bool (decide ((floorA 1099511627777 (n : Int)) = (-1)))) rfl ?_)
    refine s_nil ?_
    refine then_n ?_
    refine cE_ret ?_
    refine post_r _ (res1 (v := (.bool true)) (congrArg Value.bool (show (decide ((floorA 1099511627777 (n : Int)) = (-1))) = true from (decide_eq_true (floor_none (by first | exact Or.inl rfl | exact Or.inr (Or.inr (by decide)))))))) ?_
    exact ⟨rfl, hst.bare⟩
  · have c10 : ¬ ((n : Int) = 3) := of_decide_eq_false b6
    have hu3 := hu c10
    refine s_yes 60 rfl (congrArg Value.bool b6) (op_move (.int .i64 (floorA (x : Int) (n : Int))) rfl ?_)
    refine s_yes 60 rfl (congrArg Value.bool b6) (op_move (.int .i64 (n : Int)) rfl ?_)
    refine s_yes 60 rfl (congrArg Value.bool b6) (op_add (k := .i64) (a := (n : Int)) (b := 1) ((n : Int) + 1) rfl rfl (xi64 (by omega) (by omega)) ?_)
    refine s_yes 60 rfl (congrArg Value.bool b6) (op_call Try.call30 (evs_cons (v := (.int .i64 (floorA (x : Int) (n : Int)))) rfl (evs_cons (v := (.int .i64 ((n : Int) + 1))) rfl evs_nil)) (c_Floor (w0 := w5) (t := (floorA (x : Int) (n : Int))) (k := ((n : Int) + 1)) (t0 := (by omega)) (k0 := (by omega)) (t1 := (by omega)) (k1 := (by omega))) ?_)
    rintro _ w11 ⟨rfl, hcall⟩
    refine ⟨_, rfl, ?_⟩
    have hst : St w0 w11 [] := hst.call hcall
    refine s_yes 60 rfl (congrArg Value.bool b6) (op_move (.int .i64 (x : Int)) rfl ?_)
    refine s_yes 60 rfl (congrArg Value.bool b6) (op_move (.int .i64 (n : Int)) rfl ?_)
    refine s_yes 60 rfl (congrArg Value.bool b6) (op_add (k := .i64) (a := (n : Int)) (b := 1) ((n : Int) + 1) rfl rfl (xi64 (by omega) (by omega)) ?_)
    refine s_yes 60 rfl (congrArg Value.bool b6) (op_call Try.call30 (evs_cons (v := (.int .i64 (x : Int))) rfl (evs_cons (v := (.int .i64 ((n : Int) + 1))) rfl evs_nil)) (c_Floor (w0 := w11) (t := (x : Int)) (k := ((n : Int) + 1)) (t0 := (by omega)) (k0 := (by omega)) (t1 := (by omega)) (k1 := (by omega))) ?_)
    rintro _ w12 ⟨rfl, hcall⟩
    refine ⟨_, rfl, ?_⟩
    have hst : St w0 w12 [] := hst.call hcall
    refine s_yes 60 rfl (congrArg Value.bool b6) (op_eql (k := .i64) (a := (floorA (floorA (x : Int) (n : Int)) ((n : Int) + 1))) (b := (floorA (x : Int) ((n : Int) + 1))) rfl rfl ?_)
    refine s_yes 57 rfl rfl (op_pick_f (.bool (decide ((floorA (floorA (x : Int) (n : Int)) ((n : Int) + 1)) = (floorA (x : Int) ((n : Int) + 1))))) (congrArg Value.bool b6) rfl ?_)
    refine s_cons (op_pick_t (.bool (decide ((floorA (floorA (x : Int) (n : Int)) ((n : Int) + 1)) = (floorA (x : Int) ((n : Int) + 1))))) rfl rfl ?_)
    refine s_cons (op_move (.bool (decide ((floorA (floorA (x : Int) (n : Int)) ((n : Int) + 1)) = (floorA (x : Int) ((n : Int) + 1))))) rfl ?_)
    refine s_yes 72 rfl (congrArg Value.bool (show (decide ((floorA (floorA (x : Int) (n : Int)) ((n : Int) + 1)) = (floorA (x : Int) ((n : Int) + 1)))) = true from (decide_eq_true hu3.1))) (op_move (.int .i64 (n : Int)) rfl ?_)
    refine s_yes 72 rfl (congrArg Value.bool (show (decide ((floorA (floorA (x : Int) (n : Int)) ((n : Int) + 1)) = (floorA (x : Int) ((n : Int) + 1)))) = true from (decide_eq_true hu3.1))) (op_eql (k := .i64) (a := (n : Int)) (b := 3) rfl rfl ?_)
    refine s_yes 72 rfl (congrArg Value.bool (show (decide ((floorA (floorA (x : Int) (n : Int)) ((n : Int) + 1)) = (floorA (x : Int) ((n : Int) + 1)))) = true from (decide_eq_true hu3.1))) (op_move (.bool (decide ((n : Int) = 3))) rfl ?_)
    refine s_yes 75 rfl (congrArg Value.bool b6) (op_move (.int .i64 (n : Int)) rfl ?_)
    refine s_yes 75 rfl (congrArg Value.bool b6) (op_add (k := .i64) (a := (n : Int)) (b := 1) ((n : Int) + 1) rfl rfl (xi64 (by omega) (by omega)) ?_)
    refine s_yes 75 rfl (congrArg Value.bool b6) (op_call Try.call28 (evs_cons (v := (.int .i64 ((n : Int) + 1))) rfl evs_nil) (c_Width (w0 := w12) (k := ((n : Int) + 1)) (k0 := (by omega)) (k1 := (by omega))) ?_)
    rintro _ w13 ⟨rfl, hcall⟩
    refine ⟨_, rfl, ?_⟩
    have hst : St w0 w13 [] := hst.call hcall
    refine s_yes 75 rfl (congrArg Value.bool b6) (op_move (.int .i64 (widthA (n : Int))) rfl ?_)
    refine s_yes 75 rfl (congrArg Value.bool b6) (op_rem (k := .i64) (a := (widthA ((n : Int) + 1))) (b := (widthA (n : Int))) ((widthA ((n : Int) + 1)) % (widthA (n : Int))) rfl rfl (by omega) (tmod_nn (by omega)) ?_)
    refine s_yes 75 rfl (congrArg Value.bool b6) (op_eql (k := .i64) (a := ((widthA ((n : Int) + 1)) % (widthA (n : Int)))) (b := 0) rfl rfl ?_)
    refine s_yes 72 rfl (congrArg Value.bool (show (decide ((floorA (floorA (x : Int) (n : Int)) ((n : Int) + 1)) = (floorA (x : Int) ((n : Int) + 1)))) = true from (decide_eq_true hu3.1))) (op_pick_f (.bool (decide (((widthA ((n : Int) + 1)) % (widthA (n : Int))) = 0))) (congrArg Value.bool b6) rfl ?_)
    refine s_cons (op_pick_t (.bool (decide (((widthA ((n : Int) + 1)) % (widthA (n : Int))) = 0))) (congrArg Value.bool (show (decide ((floorA (floorA (x : Int) (n : Int)) ((n : Int) + 1)) = (floorA (x : Int) ((n : Int) + 1)))) = true from (decide_eq_true hu3.1))) rfl ?_)
    refine s_cons (op_move (.bool (decide (((widthA ((n : Int) + 1)) % (widthA (n : Int))) = 0))) rfl ?_)
    refine s_yes 84 rfl (congrArg Value.bool (show (decide (((widthA ((n : Int) + 1)) % (widthA (n : Int))) = 0)) = true from (decide_eq_true hu3.2))) (op_move (.int .i64 (x : Int)) rfl ?_)
    refine s_yes 84 rfl (congrArg Value.bool (show (decide (((widthA ((n : Int) + 1)) % (widthA (n : Int))) = 0)) = true from (decide_eq_true hu3.2))) (op_call Try.call30 (evs_cons (v := (.int .i64 (x : Int))) rfl (evs_cons (v := (.int .i64 4)) rfl evs_nil)) (c_Floor (w0 := w13) (t := (x : Int)) (k := 4) (t0 := (by omega)) (k0 := (by omega)) (t1 := (by omega)) (k1 := (by omega))) ?_)
    rintro _ w14 ⟨rfl, hcall⟩
    refine ⟨_, rfl, ?_⟩
    have hst : St w0 w14 [] := hst.call hcall
    refine s_yes 84 rfl (congrArg Value.bool (show (decide (((widthA ((n : Int) + 1)) % (widthA (n : Int))) = 0)) = true from (decide_eq_true hu3.2))) (op_eql (k := .i64) (a := (floorA (x : Int) 4)) (b := (-1)) rfl rfl ?_)
    refine s_cons (op_pick_t (.bool (decide ((floorA (x : Int) 4) = (-1)))) (congrArg Value.bool (show (decide (((widthA ((n : Int) + 1)) % (widthA (n : Int))) = 0)) = true from (decide_eq_true hu3.2))) rfl ?_)
    refine s_cons (op_move (.bool (decide ((floorA (x : Int) 4) = (-1)))) rfl ?_)
    refine s_yes 89 rfl (congrArg Value.bool (show (decide ((floorA (x : Int) 4) = (-1))) = true from (decide_eq_true (floor_none (by first | exact Or.inl rfl | exact Or.inr (Or.inr (by decide))))))) (op_move (.int .i64 (n : Int)) rfl ?_)
    refine s_yes 89 rfl (congrArg Value.bool (show (decide ((floorA (x : Int) 4) = (-1))) = true from (decide_eq_true (floor_none (by first | exact Or.inl rfl | exact Or.inr (Or.inr (by decide))))))) (op_call Try.call30 (evs_cons (v := (.int .i64 1099511627777)) rfl (evs_cons (v := (.int .i64 (n : Int))) rfl evs_nil)) (c_Floor (w0 := w14) (t := 1099511627777) (k := (n : Int)) (t0 := (by omega)) (k0 := (by omega)) (t1 := (by omega)) (k1 := (by omega))) ?_)
    rintro _ w15 ⟨rfl, hcall⟩
    refine ⟨_, rfl, ?_⟩
    have hst : St w0 w15 [] := hst.call hcall
    refine s_yes 89 rfl (congrArg Value.bool (show (decide ((floorA (x : Int) 4) = (-1))) = true from (decide_eq_true (floor_none (by first | exact Or.inl rfl | exact Or.inr (Or.inr (by decide))))))) (op_eql (k := .i64) (a := (floorA 1099511627777 (n : Int))) (b := (-1)) rfl rfl ?_)
    refine s_cons (op_pick_t (.bool (decide ((floorA 1099511627777 (n : Int)) = (-1)))) (congrArg Value.bool (show (decide ((floorA (x : Int) 4) = (-1))) = true from (decide_eq_true (floor_none (by first | exact Or.inl rfl | exact Or.inr (Or.inr (by decide))))))) rfl ?_)
    refine s_cons (op_assign (.bool (decide ((floorA 1099511627777 (n : Int)) = (-1)))) rfl ?_)
    refine s_nil ?_
    refine then_n ?_
    refine cE_ret ?_
    refine post_r _ (res1 (v := (.bool true)) (congrArg Value.bool (show (decide ((floorA 1099511627777 (n : Int)) = (-1))) = true from (decide_eq_true (floor_none (by first | exact Or.inl rfl | exact Or.inr (Or.inr (by decide)))))))) ?_
    exact ⟨rfl, hst.bare⟩

end Go.Proofs.Ytffnhcioponbbaa
