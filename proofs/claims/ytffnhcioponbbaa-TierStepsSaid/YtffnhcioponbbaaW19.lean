/- the law TierSteps -/
import Derived.Test.YtffnhcioponbbaaW13
import Derived.Test.YtffnhcioponbbaaW15
import Derived.Test.YtffnhcioponbbaaA
import Derived.Test.YtffnhcioponbbaaW18
namespace Go.Proofs.Ytffnhcioponbbaa
open Go.RowKit

set_option maxHeartbeats 4000000 in
theorem c_TierSteps (w0 : World) (v_steps : Value) (steps : List Int) (h_steps : Sl w0 (intE .i64) v_steps steps) (v_values : Value) (values : List Int) (h_values : Sl w0 (intE .i64) v_values values) (hv : ∀ v ∈ values, i64R v) (hs : ∀ v ∈ steps, i64R v) :
    Calls Try.prog 11 #[v_steps, v_values] w0 fun e w' => e = .returned (.bool true) ∧ St w0 w' [] := by
  have hNN : riseN steps 60 ≤ 60 := Nat.le_trans (riseN_le2 steps 60) (by decide)
  have hLO := rise_ok (steps := steps) (values := values) (n := riseN steps 60) (riseN_le _ _) (by omega) hv
  have hLL := rise_length steps values (riseN steps 60)
  have hLR := rise_rises (steps := steps) (values := values) (n := riseN steps 60) (riseN_le _ _) (by omega)
  refine calls_E (n := 84) (ts := [4]) Try.func11 rfl rfl rfl (by simp) ?_
  have hst := St.start w0
  refine cE_seq ?_
  refine cE_region rfl ?_
  refine s_cons (op_assign (.bool false) rfl ?_)
  refine s_nil ?_
  refine then_n ?_
  refine cE_seq ?_
  refine cE_region rfl ?_
  refine s_cons (op_move v_steps rfl ?_)
  refine s_cons (op_move v_values rfl ?_)
  refine s_cons (op_call Try.call19 (evs_cons (v := v_steps) rfl (evs_cons (v := v_values) rfl (evs_cons (v := (.int .i64 60)) rfl evs_nil))) (c_Rise (w0 := w0) (v_steps := v_steps) (steps := steps) (h_steps := (h_steps.below hst.below)) (v_values := v_values) (values := values) (h_values := (h_values.below hst.below)) (most := 60) (m0 := (by omega)) (m1 := (by omega)) (hv := hv) (hs := hs)) ?_)
  rintro _ w2 ⟨r1, rfl, hcall⟩
  refine ⟨_, rfl, ?_⟩
  have hst : St w0 w2 [rowT 32 sampE r1 (riseL steps values (riseN steps 60))] := hst.call hcall
  refine s_cons (op_assign r1 rfl ?_)
  refine s_nil ?_
  refine then_n ?_
  refine cE_seq ?_
  refine cE_seq ?_
  refine cE_region rfl ?_
  refine s_cons (op_assign (.int .i64 0) rfl ?_)
  refine s_nil ?_
  refine then_n ?_
  refine cE_block ?_
  refine cE_loop (fun (m : Nat) (ρ : Env) (w : World) => ∃ (xs : List Sample) (i : Nat), m = xs.length - i ∧ ρ 0 = v_steps ∧ ρ 1 = v_values ∧ ρ 4 = (.bool false) ∧ ρ 17 = v_steps ∧ ρ 18 = v_values ∧ ρ 19 = r1 ∧ ρ 6 = (.int .i64 (i : Int)) ∧ ρ 5 = r1 ∧ St w0 w [rowT 32 sampE r1 xs] ∧ xs.length = riseN steps 60 ∧ i ≤ xs.length ∧ SmallTo xs i ∧ (∀ s ∈ xs, s.ok) ∧ xs.map Sample.T = (riseL steps values (riseN steps 60)).map Sample.T) id _ ⟨(riseL steps values (riseN steps 60)), 0, rfl, rfl, rfl, rfl, rfl, rfl, rfl, (congrArg (Value.int .i64) (show 0 = _ from by omega)), rfl, hst, (by first | exact hLL | (simp only [List.length_set]; omega)), (by first | omega | (simp only [List.length_set]; omega)), (by first | exact fun j h hj => absurd hj (by omega) | exact smallTo_set hsm (by omega) (tmod_small _)), (by first | exact hLO | exact set_ok hok ⟨(hok _ (List.getElem_mem (by omega))).1, modV_r _⟩), (by first | rfl | exact (mapT_set (by omega) _).trans hmT)⟩ ?_
  rintro m4 ρ5 w6 ⟨xs, i, hm4, q3_0, q3_1, q3_4, q3_17, q3_18, q3_19, q3_6, q3_5, hst, hxl, hi, hsm, hok, hmT⟩
  refine cE_seq ?_
  refine cE_seq ?_
  refine cE_region rfl ?_
  refine s_cons (op_move (.int .i64 (i : Int)) q3_6 ?_)
  refine s_cons (op_move r1 q3_5 ?_)
  refine s_cons (op_len (E := sampE) (xs := xs) Try.underlying22 rfl (hst.sl 0 rfl) ?_)
  refine s_cons (op_lss (k := .i64) (a := (i : Int)) (b := (xs.length : Int)) rfl rfl ?_)
  refine s_nil ?_
  refine then_n ?_
  rcases Bool.eq_false_or_eq_true (decide ((i : Int) < (xs.length : Int))) with b7 | b7
  · have c8 : (i : Int) < (xs.length : Int) := of_decide_eq_true b7
    refine cE_cond true (congrArg Value.bool b7) (fun _ => ?_) (fun h => by cases h)
    refine cE_skip ?_
    refine then_n ?_
    refine cE_seq ?_
    refine cE_block ?_
    refine cE_region rfl ?_
    refine s_cons (op_move r1 q3_5 ?_)
    refine s_cons (op_move (.int .i64 (i : Int)) q3_6 ?_)
    refine s_cons (op_move r1 q3_5 ?_)
    refine s_cons (op_move (.int .i64 (i : Int)) q3_6 ?_)
    refine s_cons (op_indexAddrN (E := sampE) (xs := xs) i Try.underlying22 Try.sizeOf32 rfl (hst.sl 0 rfl) rfl (by omega) (by first | omega | (simp only [List.length_set]; omega)) (fun a9 o10 p11 => ?_))
    refine s_cons (op_fieldAddr (s := 0) Try.underlying32 rfl rfl Try.sizeOf2 rfl ?_)
    refine s_cons (op_load1 (u := (.int .i64 ((xs[i]'(by first | omega | (simp only [List.length_set]; omega))).V))) Try.isAgg2 rfl (p11.drop 1) ?_)
    refine s_cons (op_rem (k := .i64) (a := (xs[i]'(by first | omega | (simp only [List.length_set]; omega))).V) (b := 1000000000) (Int.tmod (xs[i]'(by first | omega | (simp only [List.length_set]; omega))).V 1000000000) rfl rfl (by omega) rfl ?_)
    refine s_cons (op_indexRowN hst 0 rfl i Try.underlying22 Try.sizeOf32 rfl rfl (by omega) (by first | omega | (simp only [List.length_set]; omega)) (fun g16 hb15 p14 => ?_))
    refine s_cons (op_fieldAddr (s := 0) Try.underlying32 rfl rfl Try.sizeOf2 rfl ?_)
    refine s_cons0 (op_storeRow1 (y := (⟨(xs[i]'(by first | omega | (simp only [List.length_set]; omega))).T, (Int.tmod (xs[i]'(by first | omega | (simp only [List.length_set]; omega))).V 1000000000)⟩ : Sample)) hst 0 rfl hb15 Try.sizeOf2 rfl rfl rfl (i) 1 rfl (by first | omega | (simp only [List.length_set]; omega)) (by decide) rfl (fun w17 hst => ?_))
    replace hst : St w0 w17 [rowT 32 sampE r1 (xs.set (i) (⟨(xs[i]'(by first | omega | (simp only [List.length_set]; omega))).T, (Int.tmod (xs[i]'(by first | omega | (simp only [List.length_set]; omega))).V 1000000000)⟩ : Sample))] := hst
    refine s_nil ?_
    refine block_n (then_n ?_)
    refine cE_region rfl ?_
    refine s_cons (op_move (.int .i64 (i : Int)) q3_6 ?_)
    refine s_cons (op_add (k := .i64) (a := (i : Int)) (b := 1) ((i : Int) + 1) rfl rfl (xi64 (by omega) (by omega)) ?_)
    refine s_cons (op_assign (.int .i64 ((i : Int) + 1)) rfl ?_)
    refine s_nil ?_
    refine then_n ?_
    exact ⟨_, ⟨(xs.set (i) (⟨(xs[i]'(by first | omega | (simp only [List.length_set]; omega))).T, (Int.tmod (xs[i]'(by first | omega | (simp only [List.length_set]; omega))).V 1000000000)⟩ : Sample)), (i + 1), rfl, q3_0, q3_1, q3_4, q3_17, q3_18, q3_19, (congrArg (Value.int .i64) (show ((i : Int) + 1) = _ from by omega)), q3_5, hst, (by first | exact hLL | (simp only [List.length_set]; omega)), (by first | omega | (simp only [List.length_set]; omega)), (by first | exact fun j h hj => absurd hj (by omega) | exact smallTo_set hsm (by omega) (tmod_small _)), (by first | exact hLO | exact set_ok hok ⟨(hok _ (List.getElem_mem (by omega))).1, modV_r _⟩), (by first | rfl | exact (mapT_set (by omega) _).trans hmT)⟩, (by simp only [id, List.length_set]; omega)⟩
  · have c18 : ¬ ((i : Int) < (xs.length : Int)) := of_decide_eq_false b7
    refine cE_cond false (congrArg Value.bool b7) (fun h => by cases h) (fun _ => ?_)
    refine cE_exit ?_
    refine then_x (then_x (block_hit (then_n ?_)))
    refine cE_seq ?_
    have hri : risingA xs = true := (rises_congr xs _ (-1) hmT).trans hLR
    have hsa := smallTo_all hsm (by omega)
    have rq1 := raw_rising (l := xs) (k := 1) (by decide) (by decide) hri (by omega) hsa
    have l1 := len_cnt (raw_wn (l := xs) (k := 1) (by decide) (by decide) hri (by omega) hsa)
    have z1 := rq1.1
    have n1 : cntA (rawA xs 1).1 = (xs.length : Int) := rq1.2.2.1
    have rq2 := raw_rising (l := xs) (k := 2) (by decide) (by decide) hri (by omega) hsa
    have l2 := len_cnt (raw_wn (l := xs) (k := 2) (by decide) (by decide) hri (by omega) hsa)
    have z2 := rq2.1
    have n2 : cntA (rawA xs 2).1 = (xs.length : Int) := rq2.2.2.1
    have rq3 := raw_rising (l := xs) (k := 3) (by decide) (by decide) hri (by omega) hsa
    have l3 := len_cnt (raw_wn (l := xs) (k := 3) (by decide) (by decide) hri (by omega) hsa)
    have z3 := rq3.1
    have n3 : cntA (rawA xs 3).1 = (xs.length : Int) := rq3.2.2.1
    have s12 := steps_once (l := xs) (k := 1) (k' := 2) (Or.inl ⟨rfl, rfl⟩) hri (by omega) hsa
    have s23 := steps_once (l := xs) (k := 2) (k' := 3) (Or.inr ⟨rfl, rfl⟩) hri (by omega) hsa
    have hB := s12.1
    have hC : downA (downA (rawA xs 1).1 2).1 3 = rawA xs 3 := by rw [hB]; exact s23.1
    have zB : (downA (rawA xs 1).1 2).2 = 0 := by rw [hB]; exact z2
    have zC : (downA (downA (rawA xs 1).1 2).1 3).2 = 0 := by rw [hC]; exact z3
    refine cE_region rfl ?_
    refine s_cons (op_move r1 q3_5 ?_)
    refine s_cons (op_call Try.call21 (evs_cons (v := r1) rfl (evs_cons (v := (.int .i64 1)) rfl evs_nil)) (c_Raw (w0 := w6) (v_l := r1) (l := xs) (h_l := (hst.sl 0 rfl)) (k := 1) (hl := hok) (hn := (by omega)) (k0 := (by omega)) (k1 := (by omega))) ?_)
    rintro _ w20 ⟨r19, rfl, hcall⟩
    refine ⟨_, rfl, ?_⟩
    have hst : St w0 w20 [rowT 26 aggE r19 ((rawA xs 1).1), rowT 32 sampE r1 xs] := hst.call hcall
    refine s_cons (op_move (.tuple #[r19, (.int .i64 ((rawA xs 1).2))]) rfl ?_)
    refine s_cons (op_extract r19 rfl rfl ?_)
    refine s_cons (op_extract (.int .i64 ((rawA xs 1).2)) rfl rfl ?_)
    refine s_cons (op_assign r19 rfl ?_)
    refine s_cons (op_assign (.int .i64 ((rawA xs 1).2)) rfl ?_)
    refine s_nil ?_
    refine then_n ?_
    refine cE_seq ?_
    refine cE_region rfl ?_
    refine s_cons (op_move r19 rfl ?_)
    refine s_cons (op_call Try.call22 (evs_cons (v := r19) rfl (evs_cons (v := (.int .i64 2)) rfl evs_nil)) (c_Down (w0 := w20) (v_l := r19) (l := (rawA xs 1).1) (h_l := (hst.sl 0 rfl)) (k := 2) (hl := (rawA_ok hok)) (hn := (by omega)) (k0 := (by omega)) (k1 := (by omega))) ?_)
    rintro _ w22 ⟨r21, rfl, hcall⟩
    refine ⟨_, rfl, ?_⟩
    have hst : St w0 w22 [rowT 26 aggE r21 ((downA ((rawA xs 1).1) 2).1), rowT 26 aggE r19 ((rawA xs 1).1), rowT 32 sampE r1 xs] := hst.call hcall
    refine s_cons (op_move (.tuple #[r21, (.int .i64 ((downA ((rawA xs 1).1) 2).2))]) rfl ?_)
    refine s_cons (op_extract r21 rfl rfl ?_)
    refine s_cons (op_extract (.int .i64 ((downA ((rawA xs 1).1) 2).2)) rfl rfl ?_)
    refine s_cons (op_assign r21 rfl ?_)
    refine s_cons (op_assign (.int .i64 ((downA ((rawA xs 1).1) 2).2)) rfl ?_)
    refine s_nil ?_
    refine then_n ?_
    refine cE_seq ?_
    refine cE_region rfl ?_
    refine s_cons (op_move r21 rfl ?_)
    refine s_cons (op_call Try.call22 (evs_cons (v := r21) rfl (evs_cons (v := (.int .i64 3)) rfl evs_nil)) (c_Down (w0 := w22) (v_l := r21) (l := (downA ((rawA xs 1).1) 2).1) (h_l := (hst.sl 0 rfl)) (k := 3) (hl := (by rw [hB]; exact rawA_ok hok)) (hn := (by rw [hB]; omega)) (k0 := (by omega)) (k1 := (by omega))) ?_)
    rintro _ w24 ⟨r23, rfl, hcall⟩
    refine ⟨_, rfl, ?_⟩
    have hst : St w0 w24 [rowT 26 aggE r23 ((downA ((downA ((rawA xs 1).1) 2).1) 3).1), rowT 26 aggE r21 ((downA ((rawA xs 1).1) 2).1), rowT 26 aggE r19 ((rawA xs 1).1), rowT 32 sampE r1 xs] := hst.call hcall
    refine s_cons (op_move (.tuple #[r23, (.int .i64 ((downA ((downA ((rawA xs 1).1) 2).1) 3).2))]) rfl ?_)
    refine s_cons (op_extract r23 rfl rfl ?_)
    refine s_cons (op_extract (.int .i64 ((downA ((downA ((rawA xs 1).1) 2).1) 3).2)) rfl rfl ?_)
    refine s_cons (op_assign r23 rfl ?_)
    refine s_cons (op_assign (.int .i64 ((downA ((downA ((rawA xs 1).1) 2).1) 3).2)) rfl ?_)
    refine s_nil ?_
    refine then_n ?_
    refine cE_seq ?_
    refine cE_region rfl ?_
    refine s_cons (op_move r1 q3_5 ?_)
    refine s_cons (op_call Try.call21 (evs_cons (v := r1) rfl (evs_cons (v := (.int .i64 2)) rfl evs_nil)) (c_Raw (w0 := w24) (v_l := r1) (l := xs) (h_l := (hst.sl 3 rfl)) (k := 2) (hl := hok) (hn := (by omega)) (k0 := (by omega)) (k1 := (by omega))) ?_)
    rintro _ w26 ⟨r25, rfl, hcall⟩
    refine ⟨_, rfl, ?_⟩
    have hst : St w0 w26 [rowT 26 aggE r25 ((rawA xs 2).1), rowT 26 aggE r23 ((downA ((downA ((rawA xs 1).1) 2).1) 3).1), rowT 26 aggE r21 ((downA ((rawA xs 1).1) 2).1), rowT 26 aggE r19 ((rawA xs 1).1), rowT 32 sampE r1 xs] := hst.call hcall
    refine s_cons (op_move (.tuple #[r25, (.int .i64 ((rawA xs 2).2))]) rfl ?_)
    refine s_cons (op_extract r25 rfl rfl ?_)
    refine s_cons (op_extract (.int .i64 ((rawA xs 2).2)) rfl rfl ?_)
    refine s_cons (op_assign r25 rfl ?_)
    refine s_cons (op_assign (.int .i64 ((rawA xs 2).2)) rfl ?_)
    refine s_nil ?_
    refine then_n ?_
    refine cE_seq ?_
    refine cE_region rfl ?_
    refine s_cons (op_move r1 q3_5 ?_)
    refine s_cons (op_call Try.call21 (evs_cons (v := r1) rfl (evs_cons (v := (.int .i64 3)) rfl evs_nil)) (c_Raw (w0 := w26) (v_l := r1) (l := xs) (h_l := (hst.sl 4 rfl)) (k := 3) (hl := hok) (hn := (by omega)) (k0 := (by omega)) (k1 := (by omega))) ?_)
    rintro _ w28 ⟨r27, rfl, hcall⟩
    refine ⟨_, rfl, ?_⟩
    have hst : St w0 w28 [rowT 26 aggE r27 ((rawA xs 3).1), rowT 26 aggE r25 ((rawA xs 2).1), rowT 26 aggE r23 ((downA ((downA ((rawA xs 1).1) 2).1) 3).1), rowT 26 aggE r21 ((downA ((rawA xs 1).1) 2).1), rowT 26 aggE r19 ((rawA xs 1).1), rowT 32 sampE r1 xs] := hst.call hcall
    refine s_cons (op_move (.tuple #[r27, (.int .i64 ((rawA xs 3).2))]) rfl ?_)
    refine s_cons (op_extract r27 rfl rfl ?_)
    refine s_cons (op_extract (.int .i64 ((rawA xs 3).2)) rfl rfl ?_)
    refine s_cons (op_assign r27 rfl ?_)
    refine s_cons (op_assign (.int .i64 ((rawA xs 3).2)) rfl ?_)
    refine s_nil ?_
    refine then_n ?_
    refine cE_seq ?_
    refine cE_region rfl ?_
    refine s_cons (op_call Try.call20 evs_nil (c_told4 (w0 := w28)) ?_)
    rintro _ w29 ⟨rfl, hcall⟩
    refine ⟨_, rfl, ?_⟩
    have hst : St w0 w29 [rowT 26 aggE r27 ((rawA xs 3).1), rowT 26 aggE r25 ((rawA xs 2).1), rowT 26 aggE r23 ((downA ((downA ((rawA xs 1).1) 2).1) 3).1), rowT 26 aggE r21 ((downA ((rawA xs 1).1) 2).1), rowT 26 aggE r19 ((rawA xs 1).1), rowT 32 sampE r1 xs] := hst.call hcall
    refine s_cons (op_move (.bool true) rfl ?_)
    refine s_yes 62 rfl rfl (op_move (.int .i64 ((rawA xs 1).2)) rfl ?_)
    refine s_yes 62 rfl rfl (op_move (.int .i64 ((downA ((rawA xs 1).1) 2).2)) rfl ?_)
    refine s_yes 62 rfl rfl (op_add (k := .i64) (a := (rawA xs 1).2) (b := (downA ((rawA xs 1).1) 2).2) (((rawA xs 1).2) + ((downA ((rawA xs 1).1) 2).2)) rfl rfl (xi64 (by omega) (by omega)) ?_)
    refine s_yes 62 rfl rfl (op_move (.int .i64 ((downA ((downA ((rawA xs 1).1) 2).1) 3).2)) rfl ?_)
    refine s_yes 62 rfl rfl (op_add (k := .i64) (a := (((rawA xs 1).2) + ((downA ((rawA xs 1).1) 2).2))) (b := (downA ((downA ((rawA xs 1).1) 2).1) 3).2) ((((rawA xs 1).2) + ((downA ((rawA xs 1).1) 2).2)) + ((downA ((downA ((rawA xs 1).1) 2).1) 3).2)) rfl rfl (xi64 (by omega) (by omega)) ?_)
    refine s_yes 62 rfl rfl (op_move (.int .i64 ((rawA xs 2).2)) rfl ?_)
    refine s_yes 62 rfl rfl (op_add (k := .i64) (a := ((((rawA xs 1).2) + ((downA ((rawA xs 1).1) 2).2)) + ((downA ((downA ((rawA xs 1).1) 2).1) 3).2))) (b := (rawA xs 2).2) (((((rawA xs 1).2) + ((downA ((rawA xs 1).1) 2).2)) + ((downA ((downA ((rawA xs 1).1) 2).1) 3).2)) + ((rawA xs 2).2)) rfl rfl (xi64 (by omega) (by omega)) ?_)
    refine s_yes 62 rfl rfl (op_move (.int .i64 ((rawA xs 3).2)) rfl ?_)
    refine s_yes 62 rfl rfl (op_add (k := .i64) (a := (((((rawA xs 1).2) + ((downA ((rawA xs 1).1) 2).2)) + ((downA ((downA ((rawA xs 1).1) 2).1) 3).2)) + ((rawA xs 2).2))) (b := (rawA xs 3).2) ((((((rawA xs 1).2) + ((downA ((rawA xs 1).1) 2).2)) + ((downA ((downA ((rawA xs 1).1) 2).1) 3).2)) + ((rawA xs 2).2)) + ((rawA xs 3).2)) rfl rfl (xi64 (by omega) (by omega)) ?_)
    refine s_yes 62 rfl rfl (op_eql (k := .i64) (a := ((((((rawA xs 1).2) + ((downA ((rawA xs 1).1) 2).2)) + ((downA ((downA ((rawA xs 1).1) 2).1) 3).2)) + ((rawA xs 2).2)) + ((rawA xs 3).2))) (b := 0) rfl rfl ?_)
    refine s_cons (op_pick_t (.bool (decide (((((((rawA xs 1).2) + ((downA ((rawA xs 1).1) 2).2)) + ((downA ((downA ((rawA xs 1).1) 2).1) 3).2)) + ((rawA xs 2).2)) + ((rawA xs 3).2)) = 0))) rfl rfl ?_)
    refine s_cons (op_move (.bool (decide (((((((rawA xs 1).2) + ((downA ((rawA xs 1).1) 2).2)) + ((downA ((downA ((rawA xs 1).1) 2).1) 3).2)) + ((rawA xs 2).2)) + ((rawA xs 3).2)) = 0))) rfl ?_)
    refine s_yes 74 rfl (congrArg Value.bool (show (decide (((((((rawA xs 1).2) + ((downA ((rawA xs 1).1) 2).2)) + ((downA ((downA ((rawA xs 1).1) 2).1) 3).2)) + ((rawA xs 2).2)) + ((rawA xs 3).2)) = 0)) = true from (decide_eq_true (by omega)))) (op_move r21 rfl ?_)
    refine s_yes 74 rfl (congrArg Value.bool (show (decide (((((((rawA xs 1).2) + ((downA ((rawA xs 1).1) 2).2)) + ((downA ((downA ((rawA xs 1).1) 2).1) 3).2)) + ((rawA xs 2).2)) + ((rawA xs 3).2)) = 0)) = true from (decide_eq_true (by omega)))) (op_move r25 rfl ?_)
    refine s_yes 74 rfl (congrArg Value.bool (show (decide (((((((rawA xs 1).2) + ((downA ((rawA xs 1).1) 2).2)) + ((downA ((downA ((rawA xs 1).1) 2).1) 3).2)) + ((rawA xs 2).2)) + ((rawA xs 3).2)) = 0)) = true from (decide_eq_true (by omega)))) (op_call Try.call27 (evs_cons (v := r21) rfl (evs_cons (v := r25) rfl evs_nil)) (c_SameAggs (w0 := w29) (v_a := r21) (a := (downA ((rawA xs 1).1) 2).1) (h_a := (hst.sl 3 rfl)) (v_b := r25) (b := (rawA xs 2).1) (h_b := (hst.sl 1 rfl))) ?_)
    rintro _ w30 ⟨rfl, hcall⟩
    refine ⟨_, rfl, ?_⟩
    have hst : St w0 w30 [rowT 26 aggE r27 ((rawA xs 3).1), rowT 26 aggE r25 ((rawA xs 2).1), rowT 26 aggE r23 ((downA ((downA ((rawA xs 1).1) 2).1) 3).1), rowT 26 aggE r21 ((downA ((rawA xs 1).1) 2).1), rowT 26 aggE r19 ((rawA xs 1).1), rowT 32 sampE r1 xs] := hst.call hcall
    refine s_cons (op_pick_t (.bool (decide ((downA ((rawA xs 1).1) 2).1 = (rawA xs 2).1))) (congrArg Value.bool (show (decide (((((((rawA xs 1).2) + ((downA ((rawA xs 1).1) 2).2)) + ((downA ((downA ((rawA xs 1).1) 2).1) 3).2)) + ((rawA xs 2).2)) + ((rawA xs 3).2)) = 0)) = true from (decide_eq_true (by omega)))) rfl ?_)
    refine s_cons (op_move (.bool (decide ((downA ((rawA xs 1).1) 2).1 = (rawA xs 2).1))) rfl ?_)
    refine s_yes 79 rfl (congrArg Value.bool (show (decide ((downA ((rawA xs 1).1) 2).1 = (rawA xs 2).1)) = true from (decide_eq_true (congrArg Prod.fst hB)))) (op_move r23 rfl ?_)
    refine s_yes 79 rfl (congrArg Value.bool (show (decide ((downA ((rawA xs 1).1) 2).1 = (rawA xs 2).1)) = true from (decide_eq_true (congrArg Prod.fst hB)))) (op_move r27 rfl ?_)
    refine s_yes 79 rfl (congrArg Value.bool (show (decide ((downA ((rawA xs 1).1) 2).1 = (rawA xs 2).1)) = true from (decide_eq_true (congrArg Prod.fst hB)))) (op_call Try.call27 (evs_cons (v := r23) rfl (evs_cons (v := r27) rfl evs_nil)) (c_SameAggs (w0 := w30) (v_a := r23) (a := (downA ((downA ((rawA xs 1).1) 2).1) 3).1) (h_a := (hst.sl 2 rfl)) (v_b := r27) (b := (rawA xs 3).1) (h_b := (hst.sl 0 rfl))) ?_)
    rintro _ w31 ⟨rfl, hcall⟩
    refine ⟨_, rfl, ?_⟩
    have hst : St w0 w31 [rowT 26 aggE r27 ((rawA xs 3).1), rowT 26 aggE r25 ((rawA xs 2).1), rowT 26 aggE r23 ((downA ((downA ((rawA xs 1).1) 2).1) 3).1), rowT 26 aggE r21 ((downA ((rawA xs 1).1) 2).1), rowT 26 aggE r19 ((rawA xs 1).1), rowT 32 sampE r1 xs] := hst.call hcall
    refine s_cons (op_pick_t (.bool (decide ((downA ((downA ((rawA xs 1).1) 2).1) 3).1 = (rawA xs 3).1))) (congrArg Value.bool (show (decide ((downA ((rawA xs 1).1) 2).1 = (rawA xs 2).1)) = true from (decide_eq_true (congrArg Prod.fst hB)))) rfl ?_)
    refine s_cons (op_assign (.bool (decide ((downA ((downA ((rawA xs 1).1) 2).1) 3).1 = (rawA xs 3).1))) rfl ?_)
    refine s_nil ?_
    refine then_n ?_
    refine cE_ret ?_
    refine post_r _ (res1 (v := (.bool true)) (congrArg Value.bool (show (decide ((downA ((downA ((rawA xs 1).1) 2).1) 3).1 = (rawA xs 3).1)) = true from (decide_eq_true (congrArg Prod.fst hC))))) ?_
    exact ⟨rfl, hst.bare⟩

end Go.Proofs.Ytffnhcioponbbaa
