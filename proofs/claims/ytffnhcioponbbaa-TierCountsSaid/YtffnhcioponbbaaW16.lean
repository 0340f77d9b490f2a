/- the law TierCounts -/
import Derived.Test.YtffnhcioponbbaaW13
import Derived.Test.YtffnhcioponbbaaW15
import Derived.Test.YtffnhcioponbbaaA
namespace Go.Proofs.Ytffnhcioponbbaa
open Go.RowKit

set_option maxHeartbeats 4000000 in
theorem c_TierCounts (w0 : World) (v_steps : Value) (steps : List Int) (h_steps : Sl w0 (intE .i64) v_steps steps) (v_values : Value) (values : List Int) (h_values : Sl w0 (intE .i64) v_values values) (k : Int) (hv : ∀ v ∈ values, i64R v) (hs : ∀ v ∈ steps, i64R v) (k0 : -9223372036854775808 ≤ k) (k1 : k ≤ 9223372036854775807) :
    Calls Try.prog 12 #[v_steps, v_values, (.int .i64 k)] w0 fun e w' => e = .returned (.bool true) ∧ St w0 w' [] := by
  have hNN : riseN steps 60 ≤ 60 := Nat.le_trans (riseN_le2 steps 60) (by decide)
  have hLO := rise_ok (steps := steps) (values := values) (n := riseN steps 60) (riseN_le _ _) (by omega) hv
  have hLL := rise_length steps values (riseN steps 60)
  have hLR := rise_rises (steps := steps) (values := values) (n := riseN steps 60) (riseN_le _ _) (by omega)
  refine calls_E (n := 94) (ts := [6]) Try.func12 rfl rfl rfl (by simp) ?_
  have hst := St.start w0
  refine cE_seq ?_
  refine cE_region rfl ?_
  refine s_cons (op_assign (.bool false) rfl ?_)
  refine s_nil ?_
  refine then_n ?_
  refine cE_seq ?_
  refine cE_region rfl ?_
  refine s_cons (op_move v_steps rfl ?_)
  refine s_cons (op_move v_values rfl ?_)
  refine s_cons (op_call Try.call19 (evs_cons (v := v_steps) rfl (evs_cons (v := v_values) rfl (evs_cons (v := (.int .i64 60)) rfl evs_nil))) (c_Rise (w0 := w0) (v_steps := v_steps) (steps := steps) (h_steps := (h_steps.below hst.below)) (v_values := v_values) (values := values) (h_values := (h_values.below hst.below)) (most := 60) (m0 := (by omega)) (m1 := (by omega)) (hv := hv) (hs := hs)) ?_)
  rintro _ w2 ⟨r1, rfl, hcall⟩
  refine ⟨_, rfl, ?_⟩
  have hst : St w0 w2 [rowT 32 sampE r1 (riseL steps values (riseN steps 60))] := hst.call hcall
  refine s_cons (op_assign r1 rfl ?_)
  refine s_nil ?_
  refine then_n ?_
  refine cE_seq ?_
  refine cE_region rfl ?_
  refine s_cons (op_move (.int .i64 k) rfl ?_)
  refine s_cons (op_conv (k := .i64) (a := k) (k % 18446744073709551616) Try.underlying24 (by rw [Try.underlying3]; rfl) rfl (IntKind.wrap_u64 _) ?_)
  obtain ⟨q, hq, hql⟩ := rem_nat (a := (k % 18446744073709551616)) (b := 3) (by omega) (by omega)
  refine s_cons (op_rem (k := .u64) (a := (k % 18446744073709551616)) (b := 3) (q : Int) rfl rfl (by omega) hq ?_)
  refine s_cons (op_conv (k := .u64) (a := (q : Int)) (q : Int) Try.underlying3 (by rw [Try.underlying24]; rfl) rfl (xi64 (by omega) (by omega)) ?_)
  refine s_cons (op_add (k := .i64) (a := 1) (b := (q : Int)) (1 + (q : Int)) rfl rfl (xi64 (by omega) (by omega)) ?_)
  refine s_cons (op_assign (.int .i64 (1 + (q : Int))) rfl ?_)
  refine s_nil ?_
  refine then_n ?_
  refine cE_seq ?_
  refine cE_region rfl ?_
  refine s_cons (op_assign (.int .i64 0) rfl ?_)
  refine s_nil ?_
  refine then_n ?_
  refine cE_seq ?_
  refine cE_seq ?_
  refine cE_region rfl ?_
  refine s_cons (op_assign (.int .i64 0) rfl ?_)
  refine s_nil ?_
  refine then_n ?_
  refine cE_block ?_
  refine cE_loop (fun (m : Nat) (ρ : Env) (w : World) => ∃ (xs : List Sample) (i : Nat), m = xs.length - i ∧ ρ 0 = v_steps ∧ ρ 1 = v_values ∧ ρ 2 = (.int .i64 k) ∧ ρ 6 = (.bool false) ∧ ρ 16 = v_steps ∧ ρ 17 = v_values ∧ ρ 18 = r1 ∧ ρ 19 = (.int .i64 k) ∧ ρ 20 = (.int .u64 (k % 18446744073709551616)) ∧ ρ 21 = (.int .u64 (q : Int)) ∧ ρ 22 = (.int .i64 (q : Int)) ∧ ρ 23 = (.int .i64 (1 + (q : Int))) ∧ ρ 8 = (.int .i64 (1 + (q : Int))) ∧ ρ 10 = (.int .i64 (i : Int)) ∧ ρ 9 = (.int .i64 (sumS (xs.take i))) ∧ ρ 7 = r1 ∧ St w0 w [rowT 32 sampE r1 xs] ∧ xs.length = riseN steps 60 ∧ i ≤ xs.length ∧ SmallTo xs i ∧ (∀ s ∈ xs, s.ok) ∧ xs.map Sample.T = (riseL steps values (riseN steps 60)).map Sample.T) id _ ⟨(riseL steps values (riseN steps 60)), 0, rfl, rfl, rfl, rfl, rfl, rfl, rfl, rfl, rfl, rfl, rfl, rfl, rfl, rfl, (congrArg (Value.int .i64) (show 0 = _ from by omega)), (congrArg (Value.int .i64) (show 0 = _ from by first | rfl | exact (sum_set (by omega) _).symm)), rfl, hst, (by first | exact hLL | (simp only [List.length_set]; omega)), (by first | omega | (simp only [List.length_set]; omega)), (by first | exact fun j h hj => absurd hj (by omega) | exact smallTo_set hsm (by omega) (tmod_small _)), (by first | exact hLO | exact set_ok hok ⟨(hok _ (List.getElem_mem (by omega))).1, modV_r _⟩), (by first | rfl | exact (mapT_set (by omega) _).trans hmT)⟩ ?_
  rintro m4 ρ5 w6 ⟨xs, i, hm4, q3_0, q3_1, q3_2, q3_6, q3_16, q3_17, q3_18, q3_19, q3_20, q3_21, q3_22, q3_23, q3_8, q3_10, q3_9, q3_7, hst, hxl, hi, hsm, hok, hmT⟩
  have hss := sum_small hi hsm
  refine cE_seq ?_
  refine cE_seq ?_
  refine cE_region rfl ?_
  refine s_cons (op_move (.int .i64 (i : Int)) q3_10 ?_)
  refine s_cons (op_move r1 q3_7 ?_)
  refine s_cons (op_len (E := sampE) (xs := xs) Try.underlying22 rfl (hst.sl 0 rfl) ?_)
  refine s_cons (op_lss (k := .i64) (a := (i : Int)) (b := (xs.length : Int)) rfl rfl ?_)
  refine s_nil ?_
  refine then_n ?_
  rcases Bool.eq_false_or_eq_true (decide ((i : Int) < (xs.length : Int))) with b7 | b7
  · have c8 : (i : Int) < (xs.length : Int) := of_decide_eq_true b7
    refine cE_cond true (congrArg Value.bool b7) (fun _ => ?_) (fun h => by cases h)
    refine cE_skip ?_
    refine then_n ?_
    refine cE_seq ?_
    refine cE_block ?_
    refine cE_seq ?_
    refine cE_region rfl ?_
    refine s_cons (op_move r1 q3_7 ?_)
    refine s_cons (op_move (.int .i64 (i : Int)) q3_10 ?_)
    refine s_cons (op_move r1 q3_7 ?_)
    refine s_cons (op_move (.int .i64 (i : Int)) q3_10 ?_)
    refine s_cons (op_indexAddrN (E := sampE) (xs := xs) i Try.underlying22 Try.sizeOf32 rfl (hst.sl 0 rfl) rfl (by omega) (by first | omega | (simp only [List.length_set]; omega)) (fun a9 o10 p11 => ?_))
    refine s_cons (op_fieldAddr (s := 0) Try.underlying32 rfl rfl Try.sizeOf2 rfl ?_)
    refine s_cons (op_load1 (u := (.int .i64 ((xs[i]'(by first | omega | (simp only [List.length_set]; omega))).V))) Try.isAgg2 rfl (p11.drop 1) ?_)
    refine s_cons (op_rem (k := .i64) (a := (xs[i]'(by first | omega | (simp only [List.length_set]; omega))).V) (b := 1000000000) (Int.tmod (xs[i]'(by first | omega | (simp only [List.length_set]; omega))).V 1000000000) rfl rfl (by omega) rfl ?_)
    refine s_cons (op_indexRowN hst 0 rfl i Try.underlying22 Try.sizeOf32 rfl rfl (by omega) (by first | omega | (simp only [List.length_set]; omega)) (fun g16 hb15 p14 => ?_))
    refine s_cons (op_fieldAddr (s := 0) Try.underlying32 rfl rfl Try.sizeOf2 rfl ?_)
    refine s_cons0 (op_storeRow1 (y := (⟨(xs[i]'(by first | omega | (simp only [List.length_set]; omega))).T, (Int.tmod (xs[i]'(by first | omega | (simp only [List.length_set]; omega))).V 1000000000)⟩ : Sample)) hst 0 rfl hb15 Try.sizeOf2 rfl rfl rfl (i) 1 rfl (by first | omega | (simp only [List.length_set]; omega)) (by decide) rfl (fun w17 hst => ?_))
    replace hst : St w0 w17 [rowT 32 sampE r1 (xs.set (i) (⟨(xs[i]'(by first | omega | (simp only [List.length_set]; omega))).T, (Int.tmod (xs[i]'(by first | omega | (simp only [List.length_set]; omega))).V 1000000000)⟩ : Sample))] := hst
    refine s_nil ?_
    refine then_n ?_
    refine cE_region rfl ?_
    refine s_cons (op_move (.int .i64 (sumS (xs.take i))) q3_9 ?_)
    refine s_cons (op_move r1 q3_7 ?_)
    refine s_cons (op_move (.int .i64 (i : Int)) q3_10 ?_)
    refine s_cons (op_indexAddrN (E := sampE) (xs := (xs.set (i) (⟨(xs[i]'(by first | omega | (simp only [List.length_set]; omega))).T, (Int.tmod (xs[i]'(by first | omega | (simp only [List.length_set]; omega))).V 1000000000)⟩ : Sample))) i Try.underlying22 Try.sizeOf32 rfl (hst.sl 0 rfl) rfl (by omega) (by first | omega | (simp only [List.length_set]; omega)) (fun a18 o19 p20 => ?_))
    refine s_cons (op_fieldAddr (s := 0) Try.underlying32 rfl rfl Try.sizeOf2 rfl ?_)
    refine s_cons (op_load1 (u := (.int .i64 (((xs.set (i) (⟨(xs[i]'(by first | omega | (simp only [List.length_set]; omega))).T, (Int.tmod (xs[i]'(by first | omega | (simp only [List.length_set]; omega))).V 1000000000)⟩ : Sample))[i]'(by first | omega | (simp only [List.length_set]; omega))).V))) Try.isAgg2 rfl (p20.drop 1) ?_)
    have hq : -1000000000 < (((xs.set (i) (⟨(xs[i]'(by first | omega | (simp only [List.length_set]; omega))).T, (Int.tmod (xs[i]'(by first | omega | (simp only [List.length_set]; omega))).V 1000000000)⟩ : Sample))[i]'(by first | omega | (simp only [List.length_set]; omega))).V) ∧ (((xs.set (i) (⟨(xs[i]'(by first | omega | (simp only [List.length_set]; omega))).T, (Int.tmod (xs[i]'(by first | omega | (simp only [List.length_set]; omega))).V 1000000000)⟩ : Sample))[i]'(by first | omega | (simp only [List.length_set]; omega))).V) < 1000000000 := by rw [List.getElem_set_self]; exact tmod_small _
    refine s_cons (op_add (k := .i64) (a := (sumS (xs.take i))) (b := ((xs.set (i) (⟨(xs[i]'(by first | omega | (simp only [List.length_set]; omega))).T, (Int.tmod (xs[i]'(by first | omega | (simp only [List.length_set]; omega))).V 1000000000)⟩ : Sample))[i]'(by first | omega | (simp only [List.length_set]; omega))).V) ((sumS (xs.take i)) + ((xs.set (i) (⟨(xs[i]'(by first | omega | (simp only [List.length_set]; omega))).T, (Int.tmod (xs[i]'(by first | omega | (simp only [List.length_set]; omega))).V 1000000000)⟩ : Sample))[i]'(by first | omega | (simp only [List.length_set]; omega))).V) rfl rfl (xi64 (by omega) (by omega)) ?_)
    refine s_cons (op_assign (.int .i64 ((sumS (xs.take i)) + ((xs.set (i) (⟨(xs[i]'(by first | omega | (simp only [List.length_set]; omega))).T, (Int.tmod (xs[i]'(by first | omega | (simp only [List.length_set]; omega))).V 1000000000)⟩ : Sample))[i]'(by first | omega | (simp only [List.length_set]; omega))).V)) rfl ?_)
    refine s_nil ?_
    refine block_n (then_n ?_)
    refine cE_region rfl ?_
    refine s_cons (op_move (.int .i64 (i : Int)) q3_10 ?_)
    refine s_cons (op_add (k := .i64) (a := (i : Int)) (b := 1) ((i : Int) + 1) rfl rfl (xi64 (by omega) (by omega)) ?_)
    refine s_cons (op_assign (.int .i64 ((i : Int) + 1)) rfl ?_)
    refine s_nil ?_
    refine then_n ?_
    exact ⟨_, ⟨(xs.set (i) (⟨(xs[i]'(by first | omega | (simp only [List.length_set]; omega))).T, (Int.tmod (xs[i]'(by first | omega | (simp only [List.length_set]; omega))).V 1000000000)⟩ : Sample)), (i + 1), rfl, q3_0, q3_1, q3_2, q3_6, q3_16, q3_17, q3_18, q3_19, q3_20, q3_21, q3_22, q3_23, q3_8, (congrArg (Value.int .i64) (show ((i : Int) + 1) = _ from by omega)), (congrArg (Value.int .i64) (show ((sumS (xs.take i)) + ((xs.set (i) (⟨(xs[i]'(by first | omega | (simp only [List.length_set]; omega))).T, (Int.tmod (xs[i]'(by first | omega | (simp only [List.length_set]; omega))).V 1000000000)⟩ : Sample))[i]'(by first | omega | (simp only [List.length_set]; omega))).V) = _ from by first | rfl | exact (sum_set (by omega) _).symm)), q3_7, hst, (by first | exact hLL | (simp only [List.length_set]; omega)), (by first | omega | (simp only [List.length_set]; omega)), (by first | exact fun j h hj => absurd hj (by omega) | exact smallTo_set hsm (by omega) (tmod_small _)), (by first | exact hLO | exact set_ok hok ⟨(hok _ (List.getElem_mem (by omega))).1, modV_r _⟩), (by first | rfl | exact (mapT_set (by omega) _).trans hmT)⟩, (by simp only [id, List.length_set]; omega)⟩
  · have c21 : ¬ ((i : Int) < (xs.length : Int)) := of_decide_eq_false b7
    refine cE_cond false (congrArg Value.bool b7) (fun h => by cases h) (fun _ => ?_)
    refine cE_exit ?_
    refine then_x (then_x (block_hit (then_n ?_)))
    refine cE_seq ?_
    have hri : risingA xs = true := (rises_congr xs _ (-1) hmT).trans hLR
    have hrr := raw_rising (l := xs) (k := (1 + (q : Int))) (by omega) (by omega) hri (by omega) (smallTo_all hsm (by omega))
    have hwn := raw_wn (l := xs) (k := (1 + (q : Int))) (by omega) (by omega) hri (by omega) (smallTo_all hsm (by omega))
    have he : sumS (xs.take i) = sumS xs := by rw [List.take_of_length_le (by omega)]
    have hcA : cntA (rawA xs (1 + (q : Int))).1 = (xs.length : Int) := hrr.2.2.1
    refine cE_region rfl ?_
    refine s_cons (op_move r1 q3_7 ?_)
    refine s_cons (op_move (.int .i64 (1 + (q : Int))) q3_8 ?_)
    refine s_cons (op_call Try.call21 (evs_cons (v := r1) rfl (evs_cons (v := (.int .i64 (1 + (q : Int)))) rfl evs_nil)) (c_Raw (w0 := w6) (v_l := r1) (l := xs) (h_l := (hst.sl 0 rfl)) (k := (1 + (q : Int))) (hl := hok) (hn := (by omega)) (k0 := (by omega)) (k1 := (by omega))) ?_)
    rintro _ w23 ⟨r22, rfl, hcall⟩
    refine ⟨_, rfl, ?_⟩
    have hst : St w0 w23 [rowT 26 aggE r22 ((rawA xs (1 + (q : Int))).1), rowT 32 sampE r1 xs] := hst.call hcall
    refine s_cons (op_move (.tuple #[r22, (.int .i64 ((rawA xs (1 + (q : Int))).2))]) rfl ?_)
    refine s_cons (op_extract r22 rfl rfl ?_)
    refine s_cons (op_extract (.int .i64 ((rawA xs (1 + (q : Int))).2)) rfl rfl ?_)
    refine s_cons (op_assign r22 rfl ?_)
    refine s_cons (op_assign (.int .i64 ((rawA xs (1 + (q : Int))).2)) rfl ?_)
    refine s_nil ?_
    refine then_n ?_
    refine cE_seq ?_
    refine cE_region rfl ?_
    refine s_cons (op_assign (.int .i64 0) rfl ?_)
    refine s_cons (op_assign (.int .i64 0) rfl ?_)
    refine s_nil ?_
    refine then_n ?_
    refine cE_seq ?_
    refine cE_seq ?_
    refine cE_region rfl ?_
    refine s_cons (op_assign (.int .i64 0) rfl ?_)
    refine s_nil ?_
    refine then_n ?_
    refine cE_block ?_
    refine cE_loop (fun (m : Nat) (ρ : Env) (w : World) => ∃ (j : Nat), m = (rawA xs (1 + (q : Int))).1.length - j ∧ ρ 0 = v_steps ∧ ρ 1 = v_values ∧ ρ 2 = (.int .i64 k) ∧ ρ 6 = (.bool false) ∧ ρ 16 = v_steps ∧ ρ 17 = v_values ∧ ρ 18 = r1 ∧ ρ 19 = (.int .i64 k) ∧ ρ 20 = (.int .u64 (k % 18446744073709551616)) ∧ ρ 21 = (.int .u64 (q : Int)) ∧ ρ 22 = (.int .i64 (q : Int)) ∧ ρ 23 = (.int .i64 (1 + (q : Int))) ∧ ρ 8 = (.int .i64 (1 + (q : Int))) ∧ ρ 10 = (.int .i64 (i : Int)) ∧ ρ 9 = (.int .i64 (sumS (xs.take i))) ∧ ρ 7 = r1 ∧ ρ 24 = (.int .i64 (i : Int)) ∧ ρ 25 = r1 ∧ ρ 26 = (.int .i64 (xs.length : Int)) ∧ ρ 27 = (.bool (decide ((i : Int) < (xs.length : Int)))) ∧ ρ 48 = r1 ∧ ρ 49 = (.int .i64 (1 + (q : Int))) ∧ ρ 50 = (.tuple #[r22, (.int .i64 ((rawA xs (1 + (q : Int))).2))]) ∧ ρ 47 = (.tuple #[r22, (.int .i64 ((rawA xs (1 + (q : Int))).2))]) ∧ ρ 51 = r22 ∧ ρ 52 = (.int .i64 ((rawA xs (1 + (q : Int))).2)) ∧ ρ 11 = r22 ∧ ρ 12 = (.int .i64 ((rawA xs (1 + (q : Int))).2)) ∧ ρ 15 = (.int .i64 (j : Int)) ∧ ρ 13 = (.int .i64 (cntA ((rawA xs (1 + (q : Int))).1.take j))) ∧ ρ 14 = (.int .i64 (smA ((rawA xs (1 + (q : Int))).1.take j))) ∧ St w0 w [rowT 26 aggE r22 ((rawA xs (1 + (q : Int))).1), rowT 32 sampE r1 xs] ∧ j ≤ (rawA xs (1 + (q : Int))).1.length) id _ ⟨0, rfl, q3_0, q3_1, q3_2, q3_6, q3_16, q3_17, q3_18, q3_19, q3_20, q3_21, q3_22, q3_23, q3_8, q3_10, q3_9, q3_7, rfl, rfl, rfl, rfl, rfl, rfl, rfl, rfl, rfl, rfl, rfl, rfl, (congrArg (Value.int .i64) (show 0 = _ from by omega)), (congrArg (Value.int .i64) (show 0 = _ from by first | rfl | exact (cnt_succ (by omega)).symm)), (congrArg (Value.int .i64) (show 0 = _ from by first | rfl | exact (sm_succ (by omega)).symm)), hst, (by omega)⟩ ?_
    rintro m25 ρ26 w27 ⟨j, hm25, q24_0, q24_1, q24_2, q24_6, q24_16, q24_17, q24_18, q24_19, q24_20, q24_21, q24_22, q24_23, q24_8, q24_10, q24_9, q24_7, q24_24, q24_25, q24_26, q24_27, q24_48, q24_49, q24_50, q24_47, q24_51, q24_52, q24_11, q24_12, q24_15, q24_13, q24_14, hst, hj⟩
    have hpb := part_bounds (A := (rawA xs (1 + (q : Int))).1) hwn hj
    refine cE_seq ?_
    refine cE_seq ?_
    refine cE_region rfl ?_
    refine s_cons (op_move (.int .i64 (j : Int)) q24_15 ?_)
    refine s_cons (op_move r22 q24_11 ?_)
    refine s_cons (op_len (E := aggE) (xs := (rawA xs (1 + (q : Int))).1) Try.underlying41 rfl (hst.sl 0 rfl) ?_)
    refine s_cons (op_lss (k := .i64) (a := (j : Int)) (b := (((rawA xs (1 + (q : Int))).1).length : Int)) rfl rfl ?_)
    refine s_nil ?_
    refine then_n ?_
    rcases Bool.eq_false_or_eq_true (decide ((j : Int) < (((rawA xs (1 + (q : Int))).1).length : Int))) with b28 | b28
    · have c29 : (j : Int) < (((rawA xs (1 + (q : Int))).1).length : Int) := of_decide_eq_true b28
      have hla := len_cnt (A := (rawA xs (1 + (q : Int))).1) hwn
      have hpn := part_bounds (A := (rawA xs (1 + (q : Int))).1) hwn (j := j + 1) (by omega)
      have hcs := cnt_succ (A := (rawA xs (1 + (q : Int))).1) (j := j) (by omega)
      have hms := sm_succ (A := (rawA xs (1 + (q : Int))).1) (j := j) (by omega)
      refine cE_cond true (congrArg Value.bool b28) (fun _ => ?_) (fun h => by cases h)
      refine cE_skip ?_
      refine then_n ?_
      refine cE_seq ?_
      refine cE_block ?_
      refine cE_regionL hst [[(13, none)], [(11, none)], [(15, none)], [(60, some 1), (61, some 2)], [(62, some 3)], [(63, some 4)], [(59, some 0), (64, some 5)], [(14, none)], [(11, none)], [(15, none)], [(67, some 8), (68, some 9)], [(69, some 10)], [(70, some 11)], [(66, some 7), (71, some 12)], [(65, some 6)], [(72, some 13)]] [(rEq (.int .i64 (cntA ((rawA xs (1 + (q : Int))).1.take j)))), (rEq r22), (rEq (.int .i64 (j : Int))), (rPt [(.int .i64 ((((rawA xs (1 + (q : Int))).1)[j]'(by first | omega | (simp only [List.length_set]; omega))).From)), (.int .i64 ((((rawA xs (1 + (q : Int))).1)[j]'(by first | omega | (simp only [List.length_set]; omega))).Count)), (.int .i64 ((((rawA xs (1 + (q : Int))).1)[j]'(by first | omega | (simp only [List.length_set]; omega))).Sum)), (.int .i64 ((((rawA xs (1 + (q : Int))).1)[j]'(by first | omega | (simp only [List.length_set]; omega))).Min)), (.int .i64 ((((rawA xs (1 + (q : Int))).1)[j]'(by first | omega | (simp only [List.length_set]; omega))).Max)), (.int .i64 ((((rawA xs (1 + (q : Int))).1)[j]'(by first | omega | (simp only [List.length_set]; omega))).First)), (.int .i64 ((((rawA xs (1 + (q : Int))).1)[j]'(by first | omega | (simp only [List.length_set]; omega))).Last))]), (rPt [(.int .i64 ((((rawA xs (1 + (q : Int))).1)[j]'(by first | omega | (simp only [List.length_set]; omega))).Count)), (.int .i64 ((((rawA xs (1 + (q : Int))).1)[j]'(by first | omega | (simp only [List.length_set]; omega))).Sum)), (.int .i64 ((((rawA xs (1 + (q : Int))).1)[j]'(by first | omega | (simp only [List.length_set]; omega))).Min)), (.int .i64 ((((rawA xs (1 + (q : Int))).1)[j]'(by first | omega | (simp only [List.length_set]; omega))).Max)), (.int .i64 ((((rawA xs (1 + (q : Int))).1)[j]'(by first | omega | (simp only [List.length_set]; omega))).First)), (.int .i64 ((((rawA xs (1 + (q : Int))).1)[j]'(by first | omega | (simp only [List.length_set]; omega))).Last))]), (rEq (.int .i64 ((((rawA xs (1 + (q : Int))).1)[j]'(by first | omega | (simp only [List.length_set]; omega))).Count))), (rEq (.int .i64 ((cntA ((rawA xs (1 + (q : Int))).1.take j)) + ((((rawA xs (1 + (q : Int))).1)[j]'(by first | omega | (simp only [List.length_set]; omega))).Count)))), (rEq (.int .i64 (smA ((rawA xs (1 + (q : Int))).1.take j)))), (rEq r22), (rEq (.int .i64 (j : Int))), (rPt [(.int .i64 ((((rawA xs (1 + (q : Int))).1)[j]'(by first | omega | (simp only [List.length_set]; omega))).From)), (.int .i64 ((((rawA xs (1 + (q : Int))).1)[j]'(by first | omega | (simp only [List.length_set]; omega))).Count)), (.int .i64 ((((rawA xs (1 + (q : Int))).1)[j]'(by first | omega | (simp only [List.length_set]; omega))).Sum)), (.int .i64 ((((rawA xs (1 + (q : Int))).1)[j]'(by first | omega | (simp only [List.length_set]; omega))).Min)), (.int .i64 ((((rawA xs (1 + (q : Int))).1)[j]'(by first | omega | (simp only [List.length_set]; omega))).Max)), (.int .i64 ((((rawA xs (1 + (q : Int))).1)[j]'(by first | omega | (simp only [List.length_set]; omega))).First)), (.int .i64 ((((rawA xs (1 + (q : Int))).1)[j]'(by first | omega | (simp only [List.length_set]; omega))).Last))]), (rPt [(.int .i64 ((((rawA xs (1 + (q : Int))).1)[j]'(by first | omega | (simp only [List.length_set]; omega))).Sum)), (.int .i64 ((((rawA xs (1 + (q : Int))).1)[j]'(by first | omega | (simp only [List.length_set]; omega))).Min)), (.int .i64 ((((rawA xs (1 + (q : Int))).1)[j]'(by first | omega | (simp only [List.length_set]; omega))).Max)), (.int .i64 ((((rawA xs (1 + (q : Int))).1)[j]'(by first | omega | (simp only [List.length_set]; omega))).First)), (.int .i64 ((((rawA xs (1 + (q : Int))).1)[j]'(by first | omega | (simp only [List.length_set]; omega))).Last))]), (rEq (.int .i64 ((((rawA xs (1 + (q : Int))).1)[j]'(by first | omega | (simp only [List.length_set]; omega))).Sum))), (rEq (.int .i64 ((smA ((rawA xs (1 + (q : Int))).1.take j)) + ((((rawA xs (1 + (q : Int))).1)[j]'(by first | omega | (simp only [List.length_set]; omega))).Sum)))), (rEq (.int .i64 ((cntA ((rawA xs (1 + (q : Int))).1.take j)) + ((((rawA xs (1 + (q : Int))).1)[j]'(by first | omega | (simp only [List.length_set]; omega))).Count)))), (rEq (.int .i64 ((smA ((rawA xs (1 + (q : Int))).1.take j)) + ((((rawA xs (1 + (q : Int))).1)[j]'(by first | omega | (simp only [List.length_set]; omega))).Sum))))] (by kernel_rfl) rfl (by kernel_rfl) ⟨sEq, sEq, sEq, sPt, sPt, sEq, sEq, sEq, sEq, sEq, sPt, sPt, sEq, sEq, sEq, sEq, trivial⟩ ⟨?_, ?_, ?_, ?_, ?_, ?_, ?_, ?_, ?_, ?_, ?_, ?_, ?_, ?_, ?_, ?_, trivial⟩ ?_
      · rintro ρ36 w37 hj38 ⟨f13, _⟩
        have hst := hj38.2
        exact go_plain (op_move (.int .i64 (cntA ((rawA xs (1 + (q : Int))).1.take j))) (f13.trans q24_13) (kS hj38 rfl))
      · rintro ρ39 w40 hj41 ⟨f11, _⟩
        have hst := hj41.2
        exact go_plain (op_move r22 (f11.trans q24_11) (kS hj41 rfl))
      · rintro ρ42 w43 hj44 ⟨f15, _⟩
        have hst := hj44.2
        exact go_plain (op_move (.int .i64 (j : Int)) (f15.trans q24_15) (kS hj44 rfl))
      · rintro ρ45 w46 hj47 ⟨f60, f61, _⟩
        have hst := hj47.2
        refine go_plain (op_indexAddrN (E := aggE) (xs := (rawA xs (1 + (q : Int))).1) j Try.underlying41 Try.sizeOf26 f60 (hst.sl 0 rfl) f61 (by omega) (by first | omega | (simp only [List.length_set]; omega)) (fun a48 o49 p50 => ?_))
        exact kS hj47 ⟨_, _, rfl, p50⟩
      · rintro ρ51 w52 hj53 ⟨f62, _⟩
        have hst := hj53.2
        obtain ⟨a54, o55, e56, p57⟩ := f62
        exact go_plain (op_fieldAddr (s := 0) Try.underlying26 rfl rfl Try.sizeOf2 e56 (kS hj53 ⟨_, _, rfl, (p57.drop 1)⟩))
      · rintro ρ58 w59 hj60 ⟨f63, _⟩
        have hst := hj60.2
        obtain ⟨a61, o62, e63, p64⟩ := f63
        exact go_plain (op_load1 (u := (.int .i64 ((((rawA xs (1 + (q : Int))).1)[j]'(by first | omega | (simp only [List.length_set]; omega))).Count))) Try.isAgg2 e63 p64 (kS hj60 rfl))
      · rintro ρ65 w66 hj67 ⟨f59, f64, _⟩
        have hst := hj67.2
        exact go_plain (op_add (k := .i64) (a := (cntA ((rawA xs (1 + (q : Int))).1.take j))) (b := (((rawA xs (1 + (q : Int))).1)[j]'(by first | omega | (simp only [List.length_set]; omega))).Count) ((cntA ((rawA xs (1 + (q : Int))).1.take j)) + ((((rawA xs (1 + (q : Int))).1)[j]'(by first | omega | (simp only [List.length_set]; omega))).Count)) f59 f64 (xi64 (by omega) (by omega)) (kS hj67 rfl))
      · rintro ρ68 w69 hj70 ⟨f14, _⟩
        have hst := hj70.2
        exact go_plain (op_move (.int .i64 (smA ((rawA xs (1 + (q : Int))).1.take j))) (f14.trans q24_14) (kS hj70 rfl))
      · rintro ρ71 w72 hj73 ⟨f11, _⟩
        have hst := hj73.2
        exact go_plain (op_move r22 (f11.trans q24_11) (kS hj73 rfl))
      · rintro ρ74 w75 hj76 ⟨f15, _⟩
        have hst := hj76.2
        exact go_plain (op_move (.int .i64 (j : Int)) (f15.trans q24_15) (kS hj76 rfl))
      · rintro ρ77 w78 hj79 ⟨f67, f68, _⟩
        have hst := hj79.2
        refine go_plain (op_indexAddrN (E := aggE) (xs := (rawA xs (1 + (q : Int))).1) j Try.underlying41 Try.sizeOf26 f67 (hst.sl 0 rfl) f68 (by omega) (by first | omega | (simp only [List.length_set]; omega)) (fun a80 o81 p82 => ?_))
        exact kS hj79 ⟨_, _, rfl, p82⟩
      · rintro ρ83 w84 hj85 ⟨f69, _⟩
        have hst := hj85.2
        obtain ⟨a86, o87, e88, p89⟩ := f69
        exact go_plain (op_fieldAddr (s := 0) Try.underlying26 rfl rfl Try.sizeOf2 e88 (kS hj85 ⟨_, _, rfl, (p89.drop 2)⟩))
      · rintro ρ90 w91 hj92 ⟨f70, _⟩
        have hst := hj92.2
        obtain ⟨a93, o94, e95, p96⟩ := f70
        exact go_plain (op_load1 (u := (.int .i64 ((((rawA xs (1 + (q : Int))).1)[j]'(by first | omega | (simp only [List.length_set]; omega))).Sum))) Try.isAgg2 e95 p96 (kS hj92 rfl))
      · rintro ρ97 w98 hj99 ⟨f66, f71, _⟩
        have hst := hj99.2
        exact go_plain (op_add (k := .i64) (a := (smA ((rawA xs (1 + (q : Int))).1.take j))) (b := (((rawA xs (1 + (q : Int))).1)[j]'(by first | omega | (simp only [List.length_set]; omega))).Sum) ((smA ((rawA xs (1 + (q : Int))).1.take j)) + ((((rawA xs (1 + (q : Int))).1)[j]'(by first | omega | (simp only [List.length_set]; omega))).Sum)) f66 f71 (xi64 (by omega) (by omega)) (kS hj99 rfl))
      · rintro ρ100 w101 hj102 ⟨f65, _⟩
        have hst := hj102.2
        exact go_plain (op_assign (.int .i64 ((cntA ((rawA xs (1 + (q : Int))).1.take j)) + ((((rawA xs (1 + (q : Int))).1)[j]'(by first | omega | (simp only [List.length_set]; omega))).Count))) f65 (kS hj102 rfl))
      · rintro ρ103 w104 hj105 ⟨f72, _⟩
        have hst := hj105.2
        exact go_plain (op_assign (.int .i64 ((smA ((rawA xs (1 + (q : Int))).1.take j)) + ((((rawA xs (1 + (q : Int))).1)[j]'(by first | omega | (simp only [List.length_set]; omega))).Sum))) f72 (kS hj105 rfl))
      · intro ρ106 w107 hbw107 hst hRw107 hkw107
        have uw107_0 : ρ106 0 = v_steps := (hkw107 0 rfl).trans q24_0
        have uw107_1 : ρ106 1 = v_values := (hkw107 1 rfl).trans q24_1
        have uw107_2 : ρ106 2 = (.int .i64 k) := (hkw107 2 rfl).trans q24_2
        have uw107_6 : ρ106 6 = (.bool false) := (hkw107 6 rfl).trans q24_6
        have uw107_16 : ρ106 16 = v_steps := (hkw107 16 rfl).trans q24_16
        have uw107_17 : ρ106 17 = v_values := (hkw107 17 rfl).trans q24_17
        have uw107_18 : ρ106 18 = r1 := (hkw107 18 rfl).trans q24_18
        have uw107_19 : ρ106 19 = (.int .i64 k) := (hkw107 19 rfl).trans q24_19
        have uw107_20 : ρ106 20 = (.int .u64 (k % 18446744073709551616)) := (hkw107 20 rfl).trans q24_20
        have uw107_21 : ρ106 21 = (.int .u64 (q : Int)) := (hkw107 21 rfl).trans q24_21
        have uw107_22 : ρ106 22 = (.int .i64 (q : Int)) := (hkw107 22 rfl).trans q24_22
        have uw107_23 : ρ106 23 = (.int .i64 (1 + (q : Int))) := (hkw107 23 rfl).trans q24_23
        have uw107_8 : ρ106 8 = (.int .i64 (1 + (q : Int))) := (hkw107 8 rfl).trans q24_8
        have uw107_10 : ρ106 10 = (.int .i64 (i : Int)) := (hkw107 10 rfl).trans q24_10
        have uw107_9 : ρ106 9 = (.int .i64 (sumS (xs.take i))) := (hkw107 9 rfl).trans q24_9
        have uw107_7 : ρ106 7 = r1 := (hkw107 7 rfl).trans q24_7
        have uw107_24 : ρ106 24 = (.int .i64 (i : Int)) := (hkw107 24 rfl).trans q24_24
        have uw107_25 : ρ106 25 = r1 := (hkw107 25 rfl).trans q24_25
        have uw107_26 : ρ106 26 = (.int .i64 (xs.length : Int)) := (hkw107 26 rfl).trans q24_26
        have uw107_27 : ρ106 27 = (.bool (decide ((i : Int) < (xs.length : Int)))) := (hkw107 27 rfl).trans q24_27
        have uw107_48 : ρ106 48 = r1 := (hkw107 48 rfl).trans q24_48
        have uw107_49 : ρ106 49 = (.int .i64 (1 + (q : Int))) := (hkw107 49 rfl).trans q24_49
        have uw107_50 : ρ106 50 = (.tuple #[r22, (.int .i64 ((rawA xs (1 + (q : Int))).2))]) := (hkw107 50 rfl).trans q24_50
        have uw107_47 : ρ106 47 = (.tuple #[r22, (.int .i64 ((rawA xs (1 + (q : Int))).2))]) := (hkw107 47 rfl).trans q24_47
        have uw107_51 : ρ106 51 = r22 := (hkw107 51 rfl).trans q24_51
        have uw107_52 : ρ106 52 = (.int .i64 ((rawA xs (1 + (q : Int))).2)) := (hkw107 52 rfl).trans q24_52
        have uw107_11 : ρ106 11 = r22 := (hkw107 11 rfl).trans q24_11
        have uw107_12 : ρ106 12 = (.int .i64 ((rawA xs (1 + (q : Int))).2)) := (hkw107 12 rfl).trans q24_12
        have uw107_15 : ρ106 15 = (.int .i64 (j : Int)) := (hkw107 15 rfl).trans q24_15
        have uw107_53 : ρ106 53 = (.int .i64 (j : Int)) := (hkw107 53 rfl).trans rfl
        have uw107_54 : ρ106 54 = r22 := (hkw107 54 rfl).trans rfl
        have uw107_55 : ρ106 55 = (.int .i64 (((rawA xs (1 + (q : Int))).1).length : Int)) := (hkw107 55 rfl).trans rfl
        have uw107_56 : ρ106 56 = (.bool (decide ((j : Int) < (((rawA xs (1 + (q : Int))).1).length : Int)))) := (hkw107 56 rfl).trans rfl
        have uw107_13 : ρ106 13 = (.int .i64 ((cntA ((rawA xs (1 + (q : Int))).1.take j)) + ((((rawA xs (1 + (q : Int))).1)[j]'(by first | omega | (simp only [List.length_set]; omega))).Count))) := hRw107 14 13 rfl
        have uw107_14 : ρ106 14 = (.int .i64 ((smA ((rawA xs (1 + (q : Int))).1.take j)) + ((((rawA xs (1 + (q : Int))).1)[j]'(by first | omega | (simp only [List.length_set]; omega))).Sum))) := hRw107 15 14 rfl
        refine block_n (then_n ?_)
        refine cE_region rfl ?_
        refine s_cons (op_move (.int .i64 (j : Int)) uw107_15 ?_)
        refine s_cons (op_add (k := .i64) (a := (j : Int)) (b := 1) ((j : Int) + 1) rfl rfl (xi64 (by omega) (by omega)) ?_)
        refine s_cons (op_assign (.int .i64 ((j : Int) + 1)) rfl ?_)
        refine s_nil ?_
        refine then_n ?_
        exact ⟨_, ⟨(j + 1), rfl, uw107_0, uw107_1, uw107_2, uw107_6, uw107_16, uw107_17, uw107_18, uw107_19, uw107_20, uw107_21, uw107_22, uw107_23, uw107_8, uw107_10, uw107_9, uw107_7, uw107_24, uw107_25, uw107_26, uw107_27, uw107_48, uw107_49, uw107_50, uw107_47, uw107_51, uw107_52, uw107_11, uw107_12, (congrArg (Value.int .i64) (show ((j : Int) + 1) = _ from by omega)), (uw107_13.trans (congrArg (Value.int .i64) (show ((cntA ((rawA xs (1 + (q : Int))).1.take j)) + ((((rawA xs (1 + (q : Int))).1)[j]'(by first | omega | (simp only [List.length_set]; omega))).Count)) = _ from by first | rfl | exact (cnt_succ (by omega)).symm))), (uw107_14.trans (congrArg (Value.int .i64) (show ((smA ((rawA xs (1 + (q : Int))).1.take j)) + ((((rawA xs (1 + (q : Int))).1)[j]'(by first | omega | (simp only [List.length_set]; omega))).Sum)) = _ from by first | rfl | exact (sm_succ (by omega)).symm))), hst, (by omega)⟩, (by simp only [id]; omega)⟩
    · have c108 : ¬ ((j : Int) < (((rawA xs (1 + (q : Int))).1).length : Int)) := of_decide_eq_false b28
      refine cE_cond false (congrArg Value.bool b28) (fun h => by cases h) (fun _ => ?_)
      refine cE_exit ?_
      refine then_x (then_x (block_hit (then_n ?_)))
      refine cE_seq ?_
      refine cE_region rfl ?_
      refine s_cons (op_call Try.call20 evs_nil (c_told4 (w0 := w27)) ?_)
      rintro _ w109 ⟨rfl, hcall⟩
      refine ⟨_, rfl, ?_⟩
      have hst : St w0 w109 [rowT 26 aggE r22 ((rawA xs (1 + (q : Int))).1), rowT 32 sampE r1 xs] := hst.call hcall
      refine s_cons (op_move (.bool true) rfl ?_)
      refine s_yes 74 rfl rfl (op_move (.int .i64 ((rawA xs (1 + (q : Int))).2)) q24_12 ?_)
      refine s_yes 74 rfl rfl (op_eql (k := .i64) (a := (rawA xs (1 + (q : Int))).2) (b := 0) rfl rfl ?_)
      refine s_cons (op_pick_t (.bool (decide (((rawA xs (1 + (q : Int))).2) = 0))) rfl rfl ?_)
      refine s_cons (op_move (.bool (decide (((rawA xs (1 + (q : Int))).2) = 0))) rfl ?_)
      refine s_yes 78 rfl (congrArg Value.bool (show (decide (((rawA xs (1 + (q : Int))).2) = 0)) = true from (decide_eq_true hrr.1))) (op_move (.int .i64 (cntA ((rawA xs (1 + (q : Int))).1.take j))) q24_13 ?_)
      refine s_yes 78 rfl (congrArg Value.bool (show (decide (((rawA xs (1 + (q : Int))).2) = 0)) = true from (decide_eq_true hrr.1))) (op_move r1 q24_7 ?_)
      refine s_yes 78 rfl (congrArg Value.bool (show (decide (((rawA xs (1 + (q : Int))).2) = 0)) = true from (decide_eq_true hrr.1))) (op_len (E := sampE) (xs := xs) Try.underlying22 rfl (hst.sl 1 rfl) ?_)
      refine s_yes 78 rfl (congrArg Value.bool (show (decide (((rawA xs (1 + (q : Int))).2) = 0)) = true from (decide_eq_true hrr.1))) (op_eql (k := .i64) (a := (cntA ((rawA xs (1 + (q : Int))).1.take j))) (b := (xs.length : Int)) rfl rfl ?_)
      refine s_cons (op_pick_t (.bool (decide ((cntA ((rawA xs (1 + (q : Int))).1.take j)) = (xs.length : Int)))) (congrArg Value.bool (show (decide (((rawA xs (1 + (q : Int))).2) = 0)) = true from (decide_eq_true hrr.1))) rfl ?_)
      refine s_cons (op_move (.bool (decide ((cntA ((rawA xs (1 + (q : Int))).1.take j)) = (xs.length : Int)))) rfl ?_)
      refine s_yes 84 rfl (congrArg Value.bool (show (decide ((cntA ((rawA xs (1 + (q : Int))).1.take j)) = (xs.length : Int))) = true from (decide_eq_true (by rw [List.take_of_length_le (by omega)]; exact hcA)))) (op_move (.int .i64 (smA ((rawA xs (1 + (q : Int))).1.take j))) q24_14 ?_)
      refine s_yes 84 rfl (congrArg Value.bool (show (decide ((cntA ((rawA xs (1 + (q : Int))).1.take j)) = (xs.length : Int))) = true from (decide_eq_true (by rw [List.take_of_length_le (by omega)]; exact hcA)))) (op_move (.int .i64 (sumS (xs.take i))) q24_9 ?_)
      refine s_yes 84 rfl (congrArg Value.bool (show (decide ((cntA ((rawA xs (1 + (q : Int))).1.take j)) = (xs.length : Int))) = true from (decide_eq_true (by rw [List.take_of_length_le (by omega)]; exact hcA)))) (op_eql (k := .i64) (a := (smA ((rawA xs (1 + (q : Int))).1.take j))) (b := (sumS (xs.take i))) rfl rfl ?_)
      refine s_cons (op_pick_t (.bool (decide ((smA ((rawA xs (1 + (q : Int))).1.take j)) = (sumS (xs.take i))))) (congrArg Value.bool (show (decide ((cntA ((rawA xs (1 + (q : Int))).1.take j)) = (xs.length : Int))) = true from (decide_eq_true (by rw [List.take_of_length_le (by omega)]; exact hcA)))) rfl ?_)
      refine s_cons (op_move (.bool (decide ((smA ((rawA xs (1 + (q : Int))).1.take j)) = (sumS (xs.take i))))) rfl ?_)
      refine s_yes 89 rfl (congrArg Value.bool (show (decide ((smA ((rawA xs (1 + (q : Int))).1.take j)) = (sumS (xs.take i)))) = true from (decide_eq_true (by rw [List.take_of_length_le (by omega), he]; exact hrr.2.2.2)))) (op_move r22 q24_11 ?_)
      refine s_yes 89 rfl (congrArg Value.bool (show (decide ((smA ((rawA xs (1 + (q : Int))).1.take j)) = (sumS (xs.take i)))) = true from (decide_eq_true (by rw [List.take_of_length_le (by omega), he]; exact hrr.2.2.2)))) (op_move (.int .i64 (1 + (q : Int))) q24_8 ?_)
      refine s_yes 89 rfl (congrArg Value.bool (show (decide ((smA ((rawA xs (1 + (q : Int))).1.take j)) = (sumS (xs.take i)))) = true from (decide_eq_true (by rw [List.take_of_length_le (by omega), he]; exact hrr.2.2.2)))) (op_call Try.call23 (evs_cons (v := r22) rfl (evs_cons (v := (.int .i64 (1 + (q : Int)))) rfl evs_nil)) (c_Aligned (w0 := w109) (v_l := r22) (l := (rawA xs (1 + (q : Int))).1) (h_l := (hst.sl 0 rfl)) (k := (1 + (q : Int))) (hl := (rawA_ok hok)) (k0 := (by omega)) (k1 := (by omega))) ?_)
      rintro _ w110 ⟨rfl, hcall⟩
      refine ⟨_, rfl, ?_⟩
      have hst : St w0 w110 [rowT 26 aggE r22 ((rawA xs (1 + (q : Int))).1), rowT 32 sampE r1 xs] := hst.call hcall
      refine s_cons (op_pick_t (.bool (alignedA ((rawA xs (1 + (q : Int))).1) (1 + (q : Int)))) (congrArg Value.bool (show (decide ((smA ((rawA xs (1 + (q : Int))).1.take j)) = (sumS (xs.take i)))) = true from (decide_eq_true (by rw [List.take_of_length_le (by omega), he]; exact hrr.2.2.2)))) rfl ?_)
      refine s_cons (op_assign (.bool (alignedA ((rawA xs (1 + (q : Int))).1) (1 + (q : Int)))) rfl ?_)
      refine s_nil ?_
      refine then_n ?_
      refine cE_ret ?_
      refine post_r _ (res1 (v := (.bool true)) (congrArg Value.bool (show (alignedA ((rawA xs (1 + (q : Int))).1) (1 + (q : Int))) = true from hrr.2.1))) ?_
      exact ⟨rfl, hst.bare⟩

end Go.Proofs.Ytffnhcioponbbaa
