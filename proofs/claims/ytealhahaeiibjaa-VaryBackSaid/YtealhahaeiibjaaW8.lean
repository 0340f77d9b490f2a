/- the law VaryBack of numbers as bytes -/
import Derived.Test.YtealhahaeiibjaaW3
import Derived.Test.YtealhahaeiibjaaZ
import Derived.Test.YtealhahaeiibjaaW4
namespace Go.Proofs.Ytealhahaeiibjaa
open Go.RowKit

theorem c_VaryBack (w0 : World) (v_l : Value) (l : List Int) (h_l : Sl w0 (intE .u64) v_l l) (v_ahead : Value) (ahead : List UInt8) (h_ahead : Sl w0 u8E v_ahead ahead) (hw : ∀ x ∈ l, 0 ≤ x ∧ x ≤ 18446744073709551615) :
    Calls Try.prog 10 #[v_l, v_ahead] w0 fun e w' => e = .returned (.bool true) ∧ St w0 w' [] := by
  refine calls_E (n := 87) (ts := [4]) Try.func10 rfl rfl rfl (by simp) ?_
  have hst := St.start w0
  refine cE_seq ?_
  refine cE_region rfl ?_
  refine s_cons (op_assign (.bool false) rfl ?_)
  refine s_nil ?_
  refine then_n ?_
  refine cE_seq ?_
  refine cE_seq ?_
  refine cE_region rfl ?_
  refine s_cons (op_move v_l rfl ?_)
  refine s_cons (op_len (E := (intE .u64)) (xs := l) Try.underlying45 rfl h_l ?_)
  refine s_cons (op_gtr (k := .i64) (a := (l.length : Int)) (b := 20) rfl rfl ?_)
  refine s_cons (op_move (.bool (decide (20 < (l.length : Int)))) rfl ?_)
  rcases Bool.eq_false_or_eq_true (decide (20 < (l.length : Int))) with b1 | b1
  · have c2 : 20 < (l.length : Int) := of_decide_eq_true b1
    refine s_no 15 rfl (congrArg Value.bool b1) ?_
    refine s_no 15 rfl (congrArg Value.bool b1) ?_
    refine s_no 15 rfl (congrArg Value.bool b1) ?_
    refine s_cons (op_pick_t (.bool true) (congrArg Value.bool b1) rfl ?_)
    refine s_nil ?_
    refine then_n ?_
    refine cE_cond true rfl (fun _ => ?_) (fun h => by cases h)
    refine cE_seq ?_
    refine cE_region rfl ?_
    refine s_cons (op_call Try.call20 evs_nil (c_told1 (w0 := w0)) ?_)
    rintro _ w3 ⟨rfl, hcall⟩
    refine ⟨_, rfl, ?_⟩
    have hst : St w0 w3 [] := hst.call hcall
    refine s_cons (op_assign (.bool true) rfl ?_)
    refine s_nil ?_
    refine then_n ?_
    refine cE_ret ?_
    refine then_r ?_
    refine post_r _ (res1 (v := (.bool true)) rfl) ?_
    exact ⟨rfl, hst.bare⟩
  · have c4 : ¬ (20 < (l.length : Int)) := of_decide_eq_false b1
    refine s_yes 15 rfl (congrArg Value.bool b1) (op_move v_ahead rfl ?_)
    refine s_yes 15 rfl (congrArg Value.bool b1) (op_len (E := u8E) (xs := ahead) Try.underlying22 rfl h_ahead ?_)
    refine s_yes 15 rfl (congrArg Value.bool b1) (op_gtr (k := .i64) (a := (ahead.length : Int)) (b := 10) rfl rfl ?_)
    refine s_cons (op_pick_f (.bool (decide (10 < (ahead.length : Int)))) (congrArg Value.bool b1) rfl ?_)
    refine s_nil ?_
    refine then_n ?_
    rcases Bool.eq_false_or_eq_true (decide (10 < (ahead.length : Int))) with b5 | b5
    · have c6 : 10 < (ahead.length : Int) := of_decide_eq_true b5
      refine cE_cond true (congrArg Value.bool b5) (fun _ => ?_) (fun h => by cases h)
      refine cE_seq ?_
      refine cE_region rfl ?_
      refine s_cons (op_call Try.call20 evs_nil (c_told1 (w0 := w0)) ?_)
      rintro _ w7 ⟨rfl, hcall⟩
      refine ⟨_, rfl, ?_⟩
      have hst : St w0 w7 [] := hst.call hcall
      refine s_cons (op_assign (.bool true) rfl ?_)
      refine s_nil ?_
      refine then_n ?_
      refine cE_ret ?_
      refine then_r ?_
      refine post_r _ (res1 (v := (.bool true)) rfl) ?_
      exact ⟨rfl, hst.bare⟩
    · have c8 : ¬ (10 < (ahead.length : Int)) := of_decide_eq_false b5
      refine cE_cond false (congrArg Value.bool b5) (fun h => by cases h) (fun _ => ?_)
      refine cE_skip ?_
      refine then_n ?_
      refine cE_seq ?_
      refine cE_region rfl ?_
      refine s_cons (op_buildSlice (E := u8E) [] hst Try.underlying22 Try.sizeOf5 Try.zeroValue5 evp_nil parts_nil rfl (by decide) (fun v9 w10 hst => ?_))
      replace hst : St w0 w10 [rowT 5 u8E v9 ([])] := hst
      refine s_cons (op_move v_ahead rfl ?_)
      refine s_cons (op_append (E := u8E) (xs := []) (ys := ahead) (z := (.int .u8 0)) (bytes := 1) hst 0 rfl Try.underlying22 (by kernel_rfl) rfl rfl rfl (h_ahead.below hst.below) (by first | omega | (simp only [List.length_append, List.length_cons, List.length_nil, List.length_take, List.length_drop, List.length_set]; omega)) (by first | omega | (simp only [List.length_append, List.length_cons, List.length_nil, List.length_take, List.length_drop, List.length_set]; omega)) (fun v11 w12 hst => ?_))
      replace hst : St w0 w12 [rowT 5 u8E v11 (ahead ++ (l.take 0).flatMap put)] := by rw [← List.append_nil ahead] at hst; exact hst
      refine s_cons (op_assign v11 rfl ?_)
      refine s_nil ?_
      refine then_n ?_
      refine cE_seq ?_
      refine cE_seq ?_
      refine cE_region rfl ?_
      refine s_cons (op_assign (.int .i64 0) rfl ?_)
      refine s_nil ?_
      refine then_n ?_
      refine cE_block ?_
      refine cE_loop (fun (m : Nat) (ρ : Env) (w : World) => ∃ (v : Value) (k : Nat), m = l.length - k ∧ ρ 0 = v_l ∧ ρ 1 = v_ahead ∧ ρ 4 = (.bool false) ∧ ρ 12 = v_l ∧ ρ 13 = (.int .i64 (l.length : Int)) ∧ ρ 14 = (.bool (decide (20 < (l.length : Int)))) ∧ ρ 15 = (.bool (decide (20 < (l.length : Int)))) ∧ ρ 16 = v_ahead ∧ ρ 17 = (.int .i64 (ahead.length : Int)) ∧ ρ 18 = (.bool (decide (10 < (ahead.length : Int)))) ∧ ρ 19 = (.bool (decide (10 < (ahead.length : Int)))) ∧ ρ 22 = v_ahead ∧ ρ 23 = v11 ∧ ρ 6 = (.int .i64 (k : Int)) ∧ ρ 5 = v ∧ St w0 w [rowT 5 u8E v (ahead ++ (l.take k).flatMap put)] ∧ k ≤ l.length) id _ ⟨v11, 0, rfl, rfl, rfl, rfl, rfl, rfl, rfl, rfl, rfl, rfl, rfl, rfl, rfl, rfl, (congrArg (Value.int .i64) (show 0 = _ from by omega)), rfl, hst, (by omega)⟩ ?_
      rintro m14 ρ15 w16 ⟨v, k, hm14, q13_0, q13_1, q13_4, q13_12, q13_13, q13_14, q13_15, q13_16, q13_17, q13_18, q13_19, q13_22, q13_23, q13_6, q13_5, hst, hk⟩
      have hfl := flat_len l k
      refine cE_seq ?_
      refine cE_seq ?_
      refine cE_region rfl ?_
      refine s_cons (op_move (.int .i64 (k : Int)) q13_6 ?_)
      refine s_cons (op_move v_l q13_0 ?_)
      refine s_cons (op_len (E := (intE .u64)) (xs := l) Try.underlying45 rfl h_l ?_)
      refine s_cons (op_lss (k := .i64) (a := (k : Int)) (b := (l.length : Int)) rfl rfl ?_)
      refine s_nil ?_
      refine then_n ?_
      rcases Bool.eq_false_or_eq_true (decide ((k : Int) < (l.length : Int))) with b17 | b17
      · have c18 : (k : Int) < (l.length : Int) := of_decide_eq_true b17
        refine cE_cond true (congrArg Value.bool b17) (fun _ => ?_) (fun h => by cases h)
        refine cE_skip ?_
        refine then_n ?_
        refine cE_seq ?_
        refine cE_block ?_
        refine cE_region rfl ?_
        refine s_cons (op_move v q13_5 ?_)
        refine s_cons (op_move v_l q13_0 ?_)
        refine s_cons (op_move (.int .i64 (k : Int)) q13_6 ?_)
        refine s_cons (op_indexAddrN (E := (intE .u64)) (xs := l) k Try.underlying45 Try.sizeOf33 rfl h_l rfl (by omega) (by omega) (fun a19 o20 p21 => ?_))
        have hrk := hw (l[k]'(by omega)) (List.getElem_mem _)
        have hplk := (put_length (l[k]'(by omega))).2
        refine s_cons (op_load1 (u := (.int .u64 (l[k]'(by omega)))) Try.isAgg33 rfl (p21.below hst.below) ?_)
        refine s_cons (op_call Try.call19 (evs_cons (v := (.int .u64 (l[k]'(by omega)))) rfl evs_nil) (c_Put (w0 := w16) (n := (l[k]'(by omega))) (h0 := (by omega)) (h1 := (by omega))) ?_)
        rintro _ w23 ⟨r22, rfl, hcall⟩
        refine ⟨_, rfl, ?_⟩
        have hst : St w0 w23 [rowT 5 u8E r22 (put (l[k]'(by omega))), rowT 5 u8E v (ahead ++ (l.take k).flatMap put)] := hst.call hcall
        refine s_cons (op_append (E := u8E) (xs := (ahead ++ (l.take k).flatMap put)) (ys := (put (l[k]'(by omega)))) (z := (.int .u8 0)) (bytes := 1) hst 1 rfl Try.underlying22 (by kernel_rfl) rfl rfl rfl (hst.sl 0 rfl) (by first | omega | (simp only [List.length_append, List.length_cons, List.length_nil, List.length_take, List.length_drop, List.length_set]; omega)) (by first | omega | (simp only [List.length_append, List.length_cons, List.length_nil, List.length_take, List.length_drop, List.length_set]; omega)) (fun v24 w25 hst => ?_))
        replace hst : St w0 w25 [rowT 5 u8E r22 (put (l[k]'(by omega))), rowT 5 u8E v24 (ahead ++ (l.take (k + 1)).flatMap put)] := by rw [flat_succ l k (by omega) ahead] at hst; exact hst
        refine s_cons (op_assign v24 rfl ?_)
        refine s_nil ?_
        refine block_n (then_n ?_)
        refine cE_region rfl ?_
        refine s_cons (op_move (.int .i64 (k : Int)) q13_6 ?_)
        refine s_cons (op_add (k := .i64) (a := (k : Int)) (b := 1) ((k : Int) + 1) rfl rfl (xi64 (by omega) (by omega)) ?_)
        refine s_cons (op_assign (.int .i64 ((k : Int) + 1)) rfl ?_)
        refine s_nil ?_
        refine then_n ?_
        exact ⟨_, ⟨v24, (k + 1), rfl, q13_0, q13_1, q13_4, q13_12, q13_13, q13_14, q13_15, q13_16, q13_17, q13_18, q13_19, q13_22, q13_23, (congrArg (Value.int .i64) (show ((k : Int) + 1) = _ from by omega)), rfl, (hst.sub (.cons _ (.cons_cons _ .slnil))), (by omega)⟩, (by simp only [id]; omega)⟩
      · have c26 : ¬ ((k : Int) < (l.length : Int)) := of_decide_eq_false b17
        refine cE_cond false (congrArg Value.bool b17) (fun h => by cases h) (fun _ => ?_)
        refine cE_exit ?_
        refine then_x (then_x (block_hit (then_n ?_)))
        refine cE_seq ?_
        have hkl : k = l.length := by omega
        refine cE_region rfl ?_
        refine s_cons (op_move v_ahead q13_1 ?_)
        refine s_cons (op_len (E := u8E) (xs := ahead) Try.underlying22 rfl h_ahead ?_)
        refine s_cons (op_assign (.int .i64 (ahead.length : Int)) rfl ?_)
        refine s_nil ?_
        refine then_n ?_
        refine cE_seq ?_
        refine cE_seq ?_
        refine cE_region rfl ?_
        refine s_cons (op_assign (.int .i64 0) rfl ?_)
        refine s_nil ?_
        refine then_n ?_
        refine cE_block ?_
        refine cE_loop (fun (m : Nat) (ρ : Env) (w : World) => ∃ (i : Nat), m = l.length - i ∧ ρ 0 = v_l ∧ ρ 1 = v_ahead ∧ ρ 12 = v_l ∧ ρ 13 = (.int .i64 (l.length : Int)) ∧ ρ 14 = (.bool (decide (20 < (l.length : Int)))) ∧ ρ 15 = (.bool (decide (20 < (l.length : Int)))) ∧ ρ 16 = v_ahead ∧ ρ 17 = (.int .i64 (ahead.length : Int)) ∧ ρ 18 = (.bool (decide (10 < (ahead.length : Int)))) ∧ ρ 19 = (.bool (decide (10 < (ahead.length : Int)))) ∧ ρ 22 = v_ahead ∧ ρ 23 = v11 ∧ ρ 6 = (.int .i64 (k : Int)) ∧ ρ 5 = v ∧ ρ 24 = (.int .i64 (k : Int)) ∧ ρ 25 = v_l ∧ ρ 26 = (.int .i64 (l.length : Int)) ∧ ρ 27 = (.bool (decide ((k : Int) < (l.length : Int)))) ∧ ρ 37 = v_ahead ∧ ρ 38 = (.int .i64 (ahead.length : Int)) ∧ ρ 8 = (.int .i64 (i : Int)) ∧ ρ 7 = (.int .i64 ((ahead.length + ((l.take i).flatMap put).length : Nat) : Int)) ∧ St w0 w [rowT 5 u8E v (ahead ++ (l.take k).flatMap put)] ∧ i ≤ l.length) id _ ⟨0, rfl, q13_0, q13_1, q13_12, q13_13, q13_14, q13_15, q13_16, q13_17, q13_18, q13_19, q13_22, q13_23, q13_6, q13_5, rfl, rfl, rfl, rfl, rfl, rfl, (congrArg (Value.int .i64) (show 0 = _ from by omega)), (congrArg (Value.int .i64) (show (ahead.length : Int) = _ from by first | (simp; done) | (rw [hget]; simp only []; rw [flat_len_succ l i (by omega)]; omega))), hst, (by omega)⟩ ?_
        rintro m28 ρ29 w30 ⟨i, hm28, q27_0, q27_1, q27_12, q27_13, q27_14, q27_15, q27_16, q27_17, q27_18, q27_19, q27_22, q27_23, q27_6, q27_5, q27_24, q27_25, q27_26, q27_27, q27_37, q27_38, q27_8, q27_7, hst, hi⟩
        have hfi := flat_len l i
        refine cE_seq ?_
        refine cE_seq ?_
        refine cE_region rfl ?_
        refine s_cons (op_move (.int .i64 (i : Int)) q27_8 ?_)
        refine s_cons (op_move v_l q27_0 ?_)
        refine s_cons (op_len (E := (intE .u64)) (xs := l) Try.underlying45 rfl h_l ?_)
        refine s_cons (op_lss (k := .i64) (a := (i : Int)) (b := (l.length : Int)) rfl rfl ?_)
        refine s_nil ?_
        refine then_n ?_
        rcases Bool.eq_false_or_eq_true (decide ((i : Int) < (l.length : Int))) with b31 | b31
        · have c32 : (i : Int) < (l.length : Int) := of_decide_eq_true b31
          have hget := get_back ahead l k i hw (by omega) (by omega)
          refine cE_cond true (congrArg Value.bool b31) (fun _ => ?_) (fun h => by cases h)
          refine cE_skip ?_
          refine then_n ?_
          refine cE_seq ?_
          refine cE_block ?_
          refine cE_seq ?_
          refine cE_region rfl ?_
          refine s_cons (op_move v q27_5 ?_)
          refine s_cons (op_move (.int .i64 ((ahead.length + ((l.take i).flatMap put).length : Nat) : Int)) q27_7 ?_)
          refine s_cons (op_call Try.call21 (evs_cons (v := v) rfl (evs_cons (v := (.int .i64 ((ahead.length + ((l.take i).flatMap put).length : Nat) : Int))) rfl evs_nil)) (c_Get (w0 := w30) (v_b := v) (b := (ahead ++ (l.take k).flatMap put)) (h_b := (hst.sl 0 rfl)) (at_ := ((ahead.length + ((l.take i).flatMap put).length : Nat) : Int)) (hl := (by simp only [List.length_append]; omega))) ?_)
          rintro _ w33 ⟨rfl, hcall⟩
          refine ⟨_, rfl, ?_⟩
          have hst : St w0 w33 [rowT 5 u8E v (ahead ++ (l.take k).flatMap put)] := hst.call hcall
          refine s_cons (op_move (.tuple #[(.int .u64 ((get (ahead ++ (l.take k).flatMap put) ((ahead.length + ((l.take i).flatMap put).length : Nat) : Int)).1)), (.int .i64 ((get (ahead ++ (l.take k).flatMap put) ((ahead.length + ((l.take i).flatMap put).length : Nat) : Int)).2.1)), (.int .i64 ((get (ahead ++ (l.take k).flatMap put) ((ahead.length + ((l.take i).flatMap put).length : Nat) : Int)).2.2))]) rfl ?_)
          refine s_cons (op_extract (.int .u64 ((get (ahead ++ (l.take k).flatMap put) ((ahead.length + ((l.take i).flatMap put).length : Nat) : Int)).1)) rfl rfl ?_)
          refine s_cons (op_extract (.int .i64 ((get (ahead ++ (l.take k).flatMap put) ((ahead.length + ((l.take i).flatMap put).length : Nat) : Int)).2.1)) rfl rfl ?_)
          refine s_cons (op_extract (.int .i64 ((get (ahead ++ (l.take k).flatMap put) ((ahead.length + ((l.take i).flatMap put).length : Nat) : Int)).2.2)) rfl rfl ?_)
          refine s_cons (op_assign (.int .u64 ((get (ahead ++ (l.take k).flatMap put) ((ahead.length + ((l.take i).flatMap put).length : Nat) : Int)).1)) rfl ?_)
          refine s_cons (op_assign (.int .i64 ((get (ahead ++ (l.take k).flatMap put) ((ahead.length + ((l.take i).flatMap put).length : Nat) : Int)).2.1)) rfl ?_)
          refine s_cons (op_assign (.int .i64 ((get (ahead ++ (l.take k).flatMap put) ((ahead.length + ((l.take i).flatMap put).length : Nat) : Int)).2.2)) rfl ?_)
          refine s_nil ?_
          refine then_n ?_
          refine cE_seq ?_
          refine cE_seq ?_
          refine cE_region rfl ?_
          refine s_cons (op_move (.int .u64 ((get (ahead ++ (l.take k).flatMap put) ((ahead.length + ((l.take i).flatMap put).length : Nat) : Int)).1)) rfl ?_)
          refine s_cons (op_move v_l q27_0 ?_)
          refine s_cons (op_move (.int .i64 (i : Int)) q27_8 ?_)
          refine s_cons (op_indexAddrN (E := (intE .u64)) (xs := l) i Try.underlying45 Try.sizeOf33 rfl h_l rfl (by omega) (by omega) (fun a34 o35 p36 => ?_))
          have hri := hw (l[i]'(by omega)) (List.getElem_mem _)
          have hpli := (put_length (l[i]'(by omega))).2
          refine s_cons (op_load1 (u := (.int .u64 (l[i]'(by omega)))) Try.isAgg33 rfl (p36.below hst.below) ?_)
          refine s_cons (op_neq (k := .u64) (a := (get (ahead ++ (l.take k).flatMap put) ((ahead.length + ((l.take i).flatMap put).length : Nat) : Int)).1) (b := (l[i]'(by omega))) rfl rfl ?_)
          refine s_cons (op_move (.bool (!decide (((get (ahead ++ (l.take k).flatMap put) ((ahead.length + ((l.take i).flatMap put).length : Nat) : Int)).1) = (l[i]'(by omega))))) rfl ?_)
          refine s_yes 58 rfl (congrArg Value.bool (congrArg (! ·) (show (decide (((get (ahead ++ (l.take k).flatMap put) ((ahead.length + ((l.take i).flatMap put).length : Nat) : Int)).1) = (l[i]'(by omega)))) = true from (decide_eq_true (by rw [hget]))))) (op_move (.int .i64 ((get (ahead ++ (l.take k).flatMap put) ((ahead.length + ((l.take i).flatMap put).length : Nat) : Int)).2.2)) rfl ?_)
          refine s_yes 58 rfl (congrArg Value.bool (congrArg (! ·) (show (decide (((get (ahead ++ (l.take k).flatMap put) ((ahead.length + ((l.take i).flatMap put).length : Nat) : Int)).1) = (l[i]'(by omega)))) = true from (decide_eq_true (by rw [hget]))))) (op_neq (k := .i64) (a := (get (ahead ++ (l.take k).flatMap put) ((ahead.length + ((l.take i).flatMap put).length : Nat) : Int)).2.2) (b := 0) rfl rfl ?_)
          refine s_cons (op_pick_f (.bool (!decide (((get (ahead ++ (l.take k).flatMap put) ((ahead.length + ((l.take i).flatMap put).length : Nat) : Int)).2.2) = 0))) (congrArg Value.bool (congrArg (! ·) (show (decide (((get (ahead ++ (l.take k).flatMap put) ((ahead.length + ((l.take i).flatMap put).length : Nat) : Int)).1) = (l[i]'(by omega)))) = true from (decide_eq_true (by rw [hget]))))) rfl ?_)
          refine s_cons (op_move (.bool (!decide (((get (ahead ++ (l.take k).flatMap put) ((ahead.length + ((l.take i).flatMap put).length : Nat) : Int)).2.2) = 0))) rfl ?_)
          refine s_yes 62 rfl (congrArg Value.bool (congrArg (! ·) (show (decide (((get (ahead ++ (l.take k).flatMap put) ((ahead.length + ((l.take i).flatMap put).length : Nat) : Int)).2.2) = 0)) = true from (decide_eq_true (by rw [hget]))))) (op_move (.int .i64 ((get (ahead ++ (l.take k).flatMap put) ((ahead.length + ((l.take i).flatMap put).length : Nat) : Int)).2.1)) rfl ?_)
          refine s_yes 62 rfl (congrArg Value.bool (congrArg (! ·) (show (decide (((get (ahead ++ (l.take k).flatMap put) ((ahead.length + ((l.take i).flatMap put).length : Nat) : Int)).2.2) = 0)) = true from (decide_eq_true (by rw [hget]))))) (op_move (.int .i64 ((ahead.length + ((l.take i).flatMap put).length : Nat) : Int)) q27_7 ?_)
          refine s_yes 62 rfl (congrArg Value.bool (congrArg (! ·) (show (decide (((get (ahead ++ (l.take k).flatMap put) ((ahead.length + ((l.take i).flatMap put).length : Nat) : Int)).2.2) = 0)) = true from (decide_eq_true (by rw [hget]))))) (op_move v_l q27_0 ?_)
          refine s_yes 62 rfl (congrArg Value.bool (congrArg (! ·) (show (decide (((get (ahead ++ (l.take k).flatMap put) ((ahead.length + ((l.take i).flatMap put).length : Nat) : Int)).2.2) = 0)) = true from (decide_eq_true (by rw [hget]))))) (op_move (.int .i64 (i : Int)) q27_8 ?_)
          refine s_yes 62 rfl (congrArg Value.bool (congrArg (! ·) (show (decide (((get (ahead ++ (l.take k).flatMap put) ((ahead.length + ((l.take i).flatMap put).length : Nat) : Int)).2.2) = 0)) = true from (decide_eq_true (by rw [hget]))))) (op_indexAddrN (E := (intE .u64)) (xs := l) i Try.underlying45 Try.sizeOf33 rfl h_l rfl (by omega) (by omega) (fun a37 o38 p39 => ?_))
          refine s_yes 62 rfl (congrArg Value.bool (congrArg (! ·) (show (decide (((get (ahead ++ (l.take k).flatMap put) ((ahead.length + ((l.take i).flatMap put).length : Nat) : Int)).2.2) = 0)) = true from (decide_eq_true (by rw [hget]))))) (op_load1 (u := (.int .u64 (l[i]'(by omega)))) Try.isAgg33 rfl (p39.below hst.below) ?_)
          refine s_yes 62 rfl (congrArg Value.bool (congrArg (! ·) (show (decide (((get (ahead ++ (l.take k).flatMap put) ((ahead.length + ((l.take i).flatMap put).length : Nat) : Int)).2.2) = 0)) = true from (decide_eq_true (by rw [hget]))))) (op_call Try.call28 (evs_cons (v := (.int .u64 (l[i]'(by omega)))) rfl evs_nil) (c_Size (w0 := w33) (n := (l[i]'(by omega))) (h0 := (by omega)) (h1 := (by omega))) ?_)
          rintro _ w40 ⟨rfl, hcall⟩
          refine ⟨_, rfl, ?_⟩
          have hst : St w0 w40 [rowT 5 u8E v (ahead ++ (l.take k).flatMap put)] := hst.call hcall
          refine s_yes 62 rfl (congrArg Value.bool (congrArg (! ·) (show (decide (((get (ahead ++ (l.take k).flatMap put) ((ahead.length + ((l.take i).flatMap put).length : Nat) : Int)).2.2) = 0)) = true from (decide_eq_true (by rw [hget]))))) (op_add (k := .i64) (a := ((ahead.length + ((l.take i).flatMap put).length : Nat) : Int)) (b := ((put (l[i]'(by omega))).length : Int)) (((ahead.length + ((l.take i).flatMap put).length : Nat) : Int) + ((put (l[i]'(by omega))).length : Int)) rfl rfl (xi64 (by omega) (by omega)) ?_)
          refine s_yes 62 rfl (congrArg Value.bool (congrArg (! ·) (show (decide (((get (ahead ++ (l.take k).flatMap put) ((ahead.length + ((l.take i).flatMap put).length : Nat) : Int)).2.2) = 0)) = true from (decide_eq_true (by rw [hget]))))) (op_neq (k := .i64) (a := (get (ahead ++ (l.take k).flatMap put) ((ahead.length + ((l.take i).flatMap put).length : Nat) : Int)).2.1) (b := (((ahead.length + ((l.take i).flatMap put).length : Nat) : Int) + ((put (l[i]'(by omega))).length : Int))) rfl rfl ?_)
          refine s_cons (op_pick_f (.bool (!decide (((get (ahead ++ (l.take k).flatMap put) ((ahead.length + ((l.take i).flatMap put).length : Nat) : Int)).2.1) = (((ahead.length + ((l.take i).flatMap put).length : Nat) : Int) + ((put (l[i]'(by omega))).length : Int))))) (congrArg Value.bool (congrArg (! ·) (show (decide (((get (ahead ++ (l.take k).flatMap put) ((ahead.length + ((l.take i).flatMap put).length : Nat) : Int)).2.2) = 0)) = true from (decide_eq_true (by rw [hget]))))) rfl ?_)
          refine s_cons (op_move (.bool (!decide (((get (ahead ++ (l.take k).flatMap put) ((ahead.length + ((l.take i).flatMap put).length : Nat) : Int)).2.1) = (((ahead.length + ((l.take i).flatMap put).length : Nat) : Int) + ((put (l[i]'(by omega))).length : Int))))) rfl ?_)
          refine s_yes 73 rfl (congrArg Value.bool (congrArg (! ·) (show (decide (((get (ahead ++ (l.take k).flatMap put) ((ahead.length + ((l.take i).flatMap put).length : Nat) : Int)).2.1) = (((ahead.length + ((l.take i).flatMap put).length : Nat) : Int) + ((put (l[i]'(by omega))).length : Int)))) = true from (decide_eq_true (by rw [hget]))))) (op_move (.int .i64 ((get (ahead ++ (l.take k).flatMap put) ((ahead.length + ((l.take i).flatMap put).length : Nat) : Int)).2.1)) rfl ?_)
          refine s_yes 73 rfl (congrArg Value.bool (congrArg (! ·) (show (decide (((get (ahead ++ (l.take k).flatMap put) ((ahead.length + ((l.take i).flatMap put).length : Nat) : Int)).2.1) = (((ahead.length + ((l.take i).flatMap put).length : Nat) : Int) + ((put (l[i]'(by omega))).length : Int)))) = true from (decide_eq_true (by rw [hget]))))) (op_move v q27_5 ?_)
          refine s_yes 73 rfl (congrArg Value.bool (congrArg (! ·) (show (decide (((get (ahead ++ (l.take k).flatMap put) ((ahead.length + ((l.take i).flatMap put).length : Nat) : Int)).2.1) = (((ahead.length + ((l.take i).flatMap put).length : Nat) : Int) + ((put (l[i]'(by omega))).length : Int)))) = true from (decide_eq_true (by rw [hget]))))) (op_len (E := u8E) (xs := (ahead ++ (l.take k).flatMap put)) Try.underlying22 rfl (hst.sl 0 rfl) ?_)
          refine s_yes 73 rfl (congrArg Value.bool (congrArg (! ·) (show (decide (((get (ahead ++ (l.take k).flatMap put) ((ahead.length + ((l.take i).flatMap put).length : Nat) : Int)).2.1) = (((ahead.length + ((l.take i).flatMap put).length : Nat) : Int) + ((put (l[i]'(by omega))).length : Int)))) = true from (decide_eq_true (by rw [hget]))))) (op_gtr (k := .i64) (a := (get (ahead ++ (l.take k).flatMap put) ((ahead.length + ((l.take i).flatMap put).length : Nat) : Int)).2.1) (b := ((ahead ++ (l.take k).flatMap put).length : Int)) rfl rfl ?_)
          refine s_cons (op_pick_f (.bool (decide (((ahead ++ (l.take k).flatMap put).length : Int) < ((get (ahead ++ (l.take k).flatMap put) ((ahead.length + ((l.take i).flatMap put).length : Nat) : Int)).2.1)))) (congrArg Value.bool (congrArg (! ·) (show (decide (((get (ahead ++ (l.take k).flatMap put) ((ahead.length + ((l.take i).flatMap put).length : Nat) : Int)).2.1) = (((ahead.length + ((l.take i).flatMap put).length : Nat) : Int) + ((put (l[i]'(by omega))).length : Int)))) = true from (decide_eq_true (by rw [hget]))))) rfl ?_)
          refine s_nil ?_
          refine then_n ?_
          refine cE_cond false (congrArg Value.bool (show (decide (((ahead ++ (l.take k).flatMap put).length : Int) < ((get (ahead ++ (l.take k).flatMap put) ((ahead.length + ((l.take i).flatMap put).length : Nat) : Int)).2.1))) = false from (decide_eq_false (by rw [hget]; simp only [List.length_append]; have := flat_le l k i (by omega) (by omega); omega)))) (fun h => by cases h) (fun _ => ?_)
          refine cE_skip ?_
          refine then_n ?_
          refine cE_region rfl ?_
          refine s_cons (op_move (.int .i64 ((get (ahead ++ (l.take k).flatMap put) ((ahead.length + ((l.take i).flatMap put).length : Nat) : Int)).2.1)) rfl ?_)
          refine s_cons (op_assign (.int .i64 ((get (ahead ++ (l.take k).flatMap put) ((ahead.length + ((l.take i).flatMap put).length : Nat) : Int)).2.1)) rfl ?_)
          refine s_nil ?_
          refine block_n (then_n ?_)
          refine cE_region rfl ?_
          refine s_cons (op_move (.int .i64 (i : Int)) q27_8 ?_)
          refine s_cons (op_add (k := .i64) (a := (i : Int)) (b := 1) ((i : Int) + 1) rfl rfl (xi64 (by omega) (by omega)) ?_)
          refine s_cons (op_assign (.int .i64 ((i : Int) + 1)) rfl ?_)
          refine s_nil ?_
          refine then_n ?_
          exact ⟨_, ⟨(i + 1), rfl, q27_0, q27_1, q27_12, q27_13, q27_14, q27_15, q27_16, q27_17, q27_18, q27_19, q27_22, q27_23, q27_6, q27_5, q27_24, q27_25, q27_26, q27_27, q27_37, q27_38, (congrArg (Value.int .i64) (show ((i : Int) + 1) = _ from by omega)), (congrArg (Value.int .i64) (show (get (ahead ++ (l.take k).flatMap put) ((ahead.length + ((l.take i).flatMap put).length : Nat) : Int)).2.1 = _ from by first | (simp; done) | (rw [hget]; simp only []; rw [flat_len_succ l i (by omega)]; omega))), hst, (by omega)⟩, (by simp only [id]; omega)⟩
        · have c41 : ¬ ((i : Int) < (l.length : Int)) := of_decide_eq_false b31
          refine cE_cond false (congrArg Value.bool b31) (fun h => by cases h) (fun _ => ?_)
          refine cE_exit ?_
          refine then_x (then_x (block_hit (then_n ?_)))
          refine cE_seq ?_
          refine cE_region rfl ?_
          refine s_cons (op_call Try.call20 evs_nil (c_told1 (w0 := w30)) ?_)
          rintro _ w42 ⟨rfl, hcall⟩
          refine ⟨_, rfl, ?_⟩
          have hst : St w0 w42 [rowT 5 u8E v (ahead ++ (l.take k).flatMap put)] := hst.call hcall
          refine s_cons (op_move (.bool true) rfl ?_)
          refine s_yes 81 rfl rfl (op_move (.int .i64 ((ahead.length + ((l.take i).flatMap put).length : Nat) : Int)) q27_7 ?_)
          refine s_yes 81 rfl rfl (op_move v q27_5 ?_)
          refine s_yes 81 rfl rfl (op_len (E := u8E) (xs := (ahead ++ (l.take k).flatMap put)) Try.underlying22 rfl (hst.sl 0 rfl) ?_)
          refine s_yes 81 rfl rfl (op_eql (k := .i64) (a := ((ahead.length + ((l.take i).flatMap put).length : Nat) : Int)) (b := ((ahead ++ (l.take k).flatMap put).length : Int)) rfl rfl ?_)
          refine s_cons (op_pick_t (.bool (decide (((ahead.length + ((l.take i).flatMap put).length : Nat) : Int) = ((ahead ++ (l.take k).flatMap put).length : Int)))) rfl rfl ?_)
          refine s_cons (op_assign (.bool (decide (((ahead.length + ((l.take i).flatMap put).length : Nat) : Int) = ((ahead ++ (l.take k).flatMap put).length : Int)))) rfl ?_)
          refine s_nil ?_
          refine then_n ?_
          refine cE_ret ?_
          refine post_r _ (res1 (v := (.bool true)) (congrArg Value.bool (show (decide (((ahead.length + ((l.take i).flatMap put).length : Nat) : Int) = ((ahead ++ (l.take k).flatMap put).length : Int))) = true from (decide_eq_true (by rw [show i = k from (by omega), List.length_append]))))) ?_
          exact ⟨rfl, hst.bare⟩

end Go.Proofs.Ytealhahaeiibjaa
