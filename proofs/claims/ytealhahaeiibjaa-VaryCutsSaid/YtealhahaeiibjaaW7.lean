/- the law VaryCuts of numbers as bytes -/
import Derived.Test.YtealhahaeiibjaaW3
import Derived.Test.YtealhahaeiibjaaZ
import Derived.Test.YtealhahaeiibjaaW4
namespace Go.Proofs.Ytealhahaeiibjaa
open Go.RowKit

theorem c_VaryCuts (w0 : World) (n : Int) (cut : Int) (more_ : Int) (h0 : 0 ≤ n) (h1 : n ≤ 18446744073709551615) :
    Calls Try.prog 13 #[(.int .u64 n), (.int .i64 cut), (.int .i64 more_)] w0 fun e w' => e = .returned (.bool true) ∧ St w0 w' [] := by
  have hpl := put_length n
  refine calls_E (n := 87) (ts := [6]) Try.func13 rfl rfl rfl (by simp) ?_
  have hst := St.start w0
  refine cE_seq ?_
  refine cE_region rfl ?_
  refine s_cons (op_assign (.bool false) rfl ?_)
  refine s_nil ?_
  refine then_n ?_
  refine cE_seq ?_
  refine cE_region rfl ?_
  refine s_cons (op_move (.int .u64 n) rfl ?_)
  refine s_cons (op_call Try.call19 (evs_cons (v := (.int .u64 n)) rfl evs_nil) (c_Put (w0 := w0) (n := n) (h0 := (by omega)) (h1 := (by omega))) ?_)
  rintro _ w2 ⟨r1, rfl, hcall⟩
  refine ⟨_, rfl, ?_⟩
  have hst : St w0 w2 [rowT 5 u8E r1 (put n)] := hst.call hcall
  refine s_cons (op_assign r1 rfl ?_)
  refine s_nil ?_
  refine then_n ?_
  refine cE_seq ?_
  refine cE_seq ?_
  refine cE_region rfl ?_
  refine s_cons (op_move r1 rfl ?_)
  refine s_cons (op_len (E := u8E) (xs := (put n)) Try.underlying22 rfl (hst.sl 0 rfl) ?_)
  refine s_cons (op_eql (k := .i64) (a := ((put n).length : Int)) (b := 0) rfl rfl ?_)
  refine s_nil ?_
  refine then_n ?_
  rcases Bool.eq_false_or_eq_true (decide (((put n).length : Int) = 0)) with b3 | b3
  · have c4 : ((put n).length : Int) = 0 := of_decide_eq_true b3
    exfalso; omega
  · have c5 : ¬ (((put n).length : Int) = 0) := of_decide_eq_false b3
    refine cE_cond false (congrArg Value.bool b3) (fun h => by cases h) (fun _ => ?_)
    refine cE_skip ?_
    refine then_n ?_
    refine cE_seq ?_
    refine cE_region rfl ?_
    refine s_cons (op_move (.int .i64 cut) rfl ?_)
    refine s_cons (op_conv (k := .i64) (a := cut) (cut % 18446744073709551616) Try.underlying30 (by rw [Try.underlying3]; rfl) rfl (IntKind.wrap_u64 _) ?_)
    refine s_cons (op_move r1 rfl ?_)
    refine s_cons (op_len (E := u8E) (xs := (put n)) Try.underlying22 rfl (hst.sl 0 rfl) ?_)
    refine s_cons (op_conv (k := .i64) (a := ((put n).length : Int)) ((put n).length : Int) Try.underlying30 (by rw [Try.underlying3]; rfl) rfl (xu64 (by omega) (by omega)) ?_)
    obtain ⟨k, hk, hkl⟩ := rem_nat (a := (cut % 18446744073709551616)) (b := ((put n).length : Int)) (by omega) (by omega)
    refine s_cons (op_rem (k := .u64) (a := (cut % 18446744073709551616)) (b := ((put n).length : Int)) (k : Int) rfl rfl (by omega) hk ?_)
    refine s_cons (op_conv (k := .u64) (a := (k : Int)) (k : Int) Try.underlying3 (by rw [Try.underlying30]; rfl) rfl (xi64 (by omega) (by omega)) ?_)
    refine s_cons (op_assign (.int .i64 (k : Int)) rfl ?_)
    refine s_nil ?_
    refine then_n ?_
    refine cE_seq ?_
    refine cE_region rfl ?_
    refine s_cons (op_move r1 rfl ?_)
    refine s_cons (op_move (.int .i64 (k : Int)) rfl ?_)
    refine s_cons (op_slice_toN k (E := u8E) (xs := (put n)) Try.underlying22 Try.sizeOf5 rfl (hst.sl 0 rfl) rfl (by omega) (by omega) (fun v6 hs7 => ?_))
    refine s_cons (op_call Try.call21 (evs_cons (v := v6) rfl (evs_cons (v := (.int .i64 0)) rfl evs_nil)) (c_Get (w0 := w2) (v_b := v6) (b := ((put n).take k)) (h_b := hs7) (at_ := 0) (hl := (by first | omega | (simp; omega)))) ?_)
    rintro _ w8 ⟨rfl, hcall⟩
    refine ⟨_, rfl, ?_⟩
    have hst : St w0 w8 [rowT 5 u8E r1 (put n)] := hst.call hcall
    refine s_cons (op_move (.tuple #[(.int .u64 ((get ((put n).take k) 0).1)), (.int .i64 ((get ((put n).take k) 0).2.1)), (.int .i64 ((get ((put n).take k) 0).2.2))]) rfl ?_)
    refine s_cons (op_extract (.int .u64 ((get ((put n).take k) 0).1)) rfl rfl ?_)
    refine s_cons (op_extract (.int .i64 ((get ((put n).take k) 0).2.1)) rfl rfl ?_)
    refine s_cons (op_extract (.int .i64 ((get ((put n).take k) 0).2.2)) rfl rfl ?_)
    refine s_cons (op_assign (.int .u64 ((get ((put n).take k) 0).1)) rfl ?_)
    refine s_cons (op_assign (.int .i64 ((get ((put n).take k) 0).2.1)) rfl ?_)
    refine s_cons (op_assign (.int .i64 ((get ((put n).take k) 0).2.2)) rfl ?_)
    refine s_nil ?_
    refine then_n ?_
    refine cE_seq ?_
    refine cE_region rfl ?_
    refine s_cons (op_buildSlice (E := u8E) [] hst Try.underlying22 Try.sizeOf5 Try.zeroValue5 evp_nil parts_nil rfl (by decide) (fun v9 w10 hst => ?_))
    replace hst : St w0 w10 [rowT 5 u8E v9 ([]), rowT 5 u8E r1 (put n)] := hst
    refine s_cons (op_move r1 rfl ?_)
    refine s_cons (op_append (E := u8E) (xs := []) (ys := (put n)) (z := (.int .u8 0)) (bytes := 1) hst 0 rfl Try.underlying22 (by kernel_rfl) rfl rfl rfl (hst.sl 1 rfl) (by first | omega | (simp only [List.length_append, List.length_cons, List.length_nil, List.length_take, List.length_drop, List.length_set]; omega)) (by first | omega | (simp only [List.length_append, List.length_cons, List.length_nil, List.length_take, List.length_drop, List.length_set]; omega)) (fun v11 w12 hst => ?_))
    replace hst : St w0 w12 [rowT 5 u8E v11 (put n), rowT 5 u8E r1 (put n)] := hst
    refine s_cons (op_assign v11 rfl ?_)
    refine s_nil ?_
    refine then_n ?_
    refine cE_seq ?_
    refine cE_region rfl ?_
    refine s_cons (op_move v11 rfl ?_)
    refine s_cons (op_move v11 rfl ?_)
    refine s_cons (op_len (E := u8E) (xs := (put n)) Try.underlying22 rfl (hst.sl 0 rfl) ?_)
    refine s_cons (op_sub (k := .i64) (a := ((put n).length : Int)) (b := 1) (((put n).length : Int) - 1) rfl rfl (xi64 (by omega) (by omega)) ?_)
    refine s_cons (op_move v11 rfl ?_)
    refine s_cons (op_move v11 rfl ?_)
    refine s_cons (op_len (E := u8E) (xs := (put n)) Try.underlying22 rfl (hst.sl 0 rfl) ?_)
    refine s_cons (op_sub (k := .i64) (a := ((put n).length : Int)) (b := 1) (((put n).length : Int) - 1) rfl rfl (xi64 (by omega) (by omega)) ?_)
    refine s_cons (op_indexAddrN (E := u8E) (xs := (put n)) ((put n).length - 1) Try.underlying22 Try.sizeOf5 rfl (hst.sl 0 rfl) rfl (by omega) (by omega) (fun a13 o14 p15 => ?_))
    refine s_cons (op_load1 (u := (.int .u8 (((put n)[((put n).length - 1)]'(by omega)).toNat : Int))) Try.isAgg5 rfl p15 ?_)
    have hu16 := u8_lt ((put n)[((put n).length - 1)]'(by omega))
    refine s_cons (op_or (k := .u8) (a := (((put n)[((put n).length - 1)]'(by omega)).toNat : Int)) (b := 128) ((((put n)[((put n).length - 1)]'(by omega)).toNat : Int) % 128 + 128) rfl rfl (or128 (by omega) (by omega)) ?_)
    refine s_cons (op_indexRowN hst 0 rfl ((put n).length - 1) Try.underlying22 Try.sizeOf5 rfl rfl (by omega) (by omega) (fun g21 hb20 p19 => ?_))
    refine s_cons0 (op_storeRow1 (y := (byt ((((put n)[((put n).length - 1)]'(by omega)).toNat : Int) % 128 + 128))) hst 0 rfl hb20 Try.sizeOf5 rfl rfl rfl (((put n).length - 1)) 0 rfl (by omega) (by decide) (by rw [u8cell, byt_toNat (by omega) (by omega)]; rfl) (fun w22 hst => ?_))
    replace hst : St w0 w22 [rowT 5 u8E v11 ((put n).set (((put n).length - 1)) (byt ((((put n)[((put n).length - 1)]'(by omega)).toNat : Int) % 128 + 128))), rowT 5 u8E r1 (put n)] := hst
    refine s_nil ?_
    refine then_n ?_
    refine cE_seq ?_
    refine cE_seq ?_
    refine cE_region rfl ?_
    refine s_cons (op_move (.int .i64 more_) rfl ?_)
    refine s_cons (op_conv (k := .i64) (a := more_) (more_ % 18446744073709551616) Try.underlying30 (by rw [Try.underlying3]; rfl) rfl (IntKind.wrap_u64 _) ?_)
    obtain ⟨i0, hi0, hi0l⟩ := rem_nat (a := (more_ % 18446744073709551616)) (b := 3) (by omega) (by omega)
    refine s_cons (op_rem (k := .u64) (a := (more_ % 18446744073709551616)) (b := 3) (i0 : Int) rfl rfl (by omega) hi0 ?_)
    refine s_cons (op_assign (.int .u64 (i0 : Int)) rfl ?_)
    refine s_nil ?_
    refine then_n ?_
    refine cE_block ?_
    refine cE_loop (fun (m : Nat) (ρ : Env) (w : World) => ∃ (v : Value) (done : List UInt8) (i : Nat), m = i ∧ ρ 0 = (.int .u64 n) ∧ ρ 1 = (.int .i64 cut) ∧ ρ 2 = (.int .i64 more_) ∧ ρ 6 = (.bool false) ∧ ρ 17 = (.int .u64 n) ∧ ρ 18 = r1 ∧ ρ 7 = r1 ∧ ρ 19 = r1 ∧ ρ 20 = (.int .i64 ((put n).length : Int)) ∧ ρ 21 = (.bool (decide (((put n).length : Int) = 0))) ∧ ρ 22 = (.int .i64 cut) ∧ ρ 23 = (.int .u64 (cut % 18446744073709551616)) ∧ ρ 24 = r1 ∧ ρ 25 = (.int .i64 ((put n).length : Int)) ∧ ρ 26 = (.int .u64 ((put n).length : Int)) ∧ ρ 27 = (.int .u64 (k : Int)) ∧ ρ 28 = (.int .i64 (k : Int)) ∧ ρ 8 = (.int .i64 (k : Int)) ∧ ρ 30 = r1 ∧ ρ 31 = (.int .i64 (k : Int)) ∧ ρ 33 = (.tuple #[(.int .u64 ((get ((put n).take k) 0).1)), (.int .i64 ((get ((put n).take k) 0).2.1)), (.int .i64 ((get ((put n).take k) 0).2.2))]) ∧ ρ 29 = (.tuple #[(.int .u64 ((get ((put n).take k) 0).1)), (.int .i64 ((get ((put n).take k) 0).2.1)), (.int .i64 ((get ((put n).take k) 0).2.2))]) ∧ ρ 34 = (.int .u64 ((get ((put n).take k) 0).1)) ∧ ρ 35 = (.int .i64 ((get ((put n).take k) 0).2.1)) ∧ ρ 36 = (.int .i64 ((get ((put n).take k) 0).2.2)) ∧ ρ 10 = (.int .i64 ((get ((put n).take k) 0).2.1)) ∧ ρ 11 = (.int .i64 ((get ((put n).take k) 0).2.2)) ∧ ρ 38 = r1 ∧ ρ 39 = v11 ∧ ρ 40 = v11 ∧ ρ 41 = v11 ∧ ρ 42 = (.int .i64 ((put n).length : Int)) ∧ ρ 43 = (.int .i64 (((put n).length : Int) - 1)) ∧ ρ 44 = v11 ∧ ρ 45 = v11 ∧ ρ 46 = (.int .i64 ((put n).length : Int)) ∧ ρ 47 = (.int .i64 (((put n).length : Int) - 1)) ∧ ρ 48 = (.pointer (some ⟨a13, o14, none⟩)) ∧ ρ 49 = (.int .u8 (((put n)[((put n).length - 1)]'(by omega)).toNat : Int)) ∧ ρ 50 = (.int .u8 ((((put n)[((put n).length - 1)]'(by omega)).toNat : Int) % 128 + 128)) ∧ ρ 51 = (.pointer (some ⟨g21, (((put n).length - 1) * u8E.size), none⟩)) ∧ ρ 52 = (.int .i64 more_) ∧ ρ 53 = (.int .u64 (more_ % 18446744073709551616)) ∧ ρ 54 = (.int .u64 (i0 : Int)) ∧ ρ 13 = (.int .u64 (i : Int)) ∧ ρ 12 = v ∧ St w0 w [rowT 5 u8E v done] ∧ (∀ c ∈ done, 128 ≤ c.toNat) ∧ 0 < done.length ∧ done.length + i ≤ 12) id _ ⟨v11, ((put n).set (((put n).length - 1)) (byt ((((put n)[((put n).length - 1)]'(by omega)).toNat : Int) % 128 + 128))), i0, rfl, rfl, rfl, rfl, rfl, rfl, rfl, rfl, rfl, rfl, rfl, rfl, rfl, rfl, rfl, rfl, rfl, rfl, rfl, rfl, rfl, rfl, rfl, rfl, rfl, rfl, rfl, rfl, rfl, rfl, rfl, rfl, rfl, rfl, rfl, rfl, rfl, rfl, rfl, rfl, rfl, rfl, rfl, rfl, rfl, rfl, rfl, (hst.sub (.cons_cons _ (.cons _ .slnil))), (by first | exact set_high n | exact high_snoc hd), (by first | omega | (simp only [List.length_set]; omega) | (simp only [List.length_append, List.length_cons, List.length_nil]; omega))⟩ ?_
    rintro m24 ρ25 w26 ⟨v, done, i, hm24, q23_0, q23_1, q23_2, q23_6, q23_17, q23_18, q23_7, q23_19, q23_20, q23_21, q23_22, q23_23, q23_24, q23_25, q23_26, q23_27, q23_28, q23_8, q23_30, q23_31, q23_33, q23_29, q23_34, q23_35, q23_36, q23_10, q23_11, q23_38, q23_39, q23_40, q23_41, q23_42, q23_43, q23_44, q23_45, q23_46, q23_47, q23_48, q23_49, q23_50, q23_51, q23_52, q23_53, q23_54, q23_13, q23_12, hst, hd, hdl⟩
    refine cE_seq ?_
    refine cE_seq ?_
    refine cE_region rfl ?_
    refine s_cons (op_move (.int .u64 (i : Int)) q23_13 ?_)
    refine s_cons (op_gtr (k := .u64) (a := (i : Int)) (b := 0) rfl rfl ?_)
    refine s_nil ?_
    refine then_n ?_
    rcases Bool.eq_false_or_eq_true (decide (0 < (i : Int))) with b27 | b27
    · have c28 : 0 < (i : Int) := of_decide_eq_true b27
      refine cE_cond true (congrArg Value.bool b27) (fun _ => ?_) (fun h => by cases h)
      refine cE_skip ?_
      refine then_n ?_
      refine cE_seq ?_
      refine cE_block ?_
      refine cE_region rfl ?_
      refine s_cons (op_move v q23_12 ?_)
      refine s_cons (op_buildSlice (E := u8E) [(byt 128)] hst Try.underlying22 Try.sizeOf5 Try.zeroValue5 (evp_cons (v := (.int .u8 128)) rfl evp_nil) (parts_cons (by rw [u8cell]; exact byt_cell (by omega) (by omega)) parts_nil) rfl (by decide) (fun v29 w30 hst => ?_))
      replace hst : St w0 w30 [rowT 5 u8E v29 ([(byt 128)]), rowT 5 u8E v done] := hst
      refine s_cons (op_append (E := u8E) (xs := done) (ys := [(byt 128)]) (z := (.int .u8 0)) (bytes := 1) hst 1 rfl Try.underlying22 (by kernel_rfl) rfl rfl rfl (hst.sl 0 rfl) (by first | omega | (simp only [List.length_append, List.length_cons, List.length_nil, List.length_take, List.length_drop, List.length_set]; omega)) (by first | omega | (simp only [List.length_append, List.length_cons, List.length_nil, List.length_take, List.length_drop, List.length_set]; omega)) (fun v31 w32 hst => ?_))
      replace hst : St w0 w32 [rowT 5 u8E v29 ([(byt 128)]), rowT 5 u8E v31 (done ++ ([(byt 128)]))] := hst
      refine s_cons (op_assign v31 rfl ?_)
      refine s_nil ?_
      refine block_n (then_n ?_)
      refine cE_region rfl ?_
      refine s_cons (op_move (.int .u64 (i : Int)) q23_13 ?_)
      refine s_cons (op_sub (k := .u64) (a := (i : Int)) (b := 1) ((i : Int) - 1) rfl rfl (xu64 (by omega) (by omega)) ?_)
      refine s_cons (op_assign (.int .u64 ((i : Int) - 1)) rfl ?_)
      refine s_nil ?_
      refine then_n ?_
      exact ⟨_, ⟨v31, (done ++ ([(byt 128)])), (i - 1), rfl, q23_0, q23_1, q23_2, q23_6, q23_17, q23_18, q23_7, q23_19, q23_20, q23_21, q23_22, q23_23, q23_24, q23_25, q23_26, q23_27, q23_28, q23_8, q23_30, q23_31, q23_33, q23_29, q23_34, q23_35, q23_36, q23_10, q23_11, q23_38, q23_39, q23_40, q23_41, q23_42, q23_43, q23_44, q23_45, q23_46, q23_47, q23_48, q23_49, q23_50, q23_51, q23_52, q23_53, q23_54, (congrArg (Value.int .u64) (show ((i : Int) - 1) = _ from by omega)), rfl, (hst.sub (.cons _ (.cons_cons _ .slnil))), (by first | exact set_high n | exact high_snoc hd), (by first | omega | (simp only [List.length_set]; omega) | (simp only [List.length_append, List.length_cons, List.length_nil]; omega))⟩, (by simp only [id]; omega)⟩
    · have c33 : ¬ (0 < (i : Int)) := of_decide_eq_false b27
      refine cE_cond false (congrArg Value.bool b27) (fun h => by cases h) (fun _ => ?_)
      refine cE_exit ?_
      refine then_x (then_x (block_hit (then_n ?_)))
      refine cE_seq ?_
      refine cE_region rfl ?_
      refine s_cons (op_move v q23_12 ?_)
      refine s_cons (op_buildSlice (E := u8E) [(byt 0)] hst Try.underlying22 Try.sizeOf5 Try.zeroValue5 (evp_cons (v := (.int .u8 0)) rfl evp_nil) (parts_cons (by rw [u8cell]; exact byt_cell (by omega) (by omega)) parts_nil) rfl (by decide) (fun v34 w35 hst => ?_))
      replace hst : St w0 w35 [rowT 5 u8E v34 ([(byt 0)]), rowT 5 u8E v done] := hst
      refine s_cons (op_append (E := u8E) (xs := done) (ys := [(byt 0)]) (z := (.int .u8 0)) (bytes := 1) hst 1 rfl Try.underlying22 (by kernel_rfl) rfl rfl rfl (hst.sl 0 rfl) (by first | omega | (simp only [List.length_append, List.length_cons, List.length_nil, List.length_take, List.length_drop, List.length_set]; omega)) (by first | omega | (simp only [List.length_append, List.length_cons, List.length_nil, List.length_take, List.length_drop, List.length_set]; omega)) (fun v36 w37 hst => ?_))
      replace hst : St w0 w37 [rowT 5 u8E v34 ([(byt 0)]), rowT 5 u8E v36 (done ++ ([(byt 0)]))] := hst
      refine s_cons (op_call Try.call21 (evs_cons (v := v36) rfl (evs_cons (v := (.int .i64 0)) rfl evs_nil)) (c_Get (w0 := w37) (v_b := v36) (b := (done ++ ([(byt 0)]))) (h_b := (hst.sl 1 rfl)) (at_ := 0) (hl := (by first | omega | (simp; omega)))) ?_)
      rintro _ w38 ⟨rfl, hcall⟩
      refine ⟨_, rfl, ?_⟩
      have hst : St w0 w38 [rowT 5 u8E v34 ([(byt 0)]), rowT 5 u8E v36 (done ++ ([(byt 0)]))] := hst.call hcall
      refine s_cons (op_move (.tuple #[(.int .u64 ((get (done ++ ([(byt 0)])) 0).1)), (.int .i64 ((get (done ++ ([(byt 0)])) 0).2.1)), (.int .i64 ((get (done ++ ([(byt 0)])) 0).2.2))]) rfl ?_)
      refine s_cons (op_extract (.int .u64 ((get (done ++ ([(byt 0)])) 0).1)) rfl rfl ?_)
      refine s_cons (op_extract (.int .i64 ((get (done ++ ([(byt 0)])) 0).2.1)) rfl rfl ?_)
      refine s_cons (op_extract (.int .i64 ((get (done ++ ([(byt 0)])) 0).2.2)) rfl rfl ?_)
      refine s_cons (op_assign (.int .u64 ((get (done ++ ([(byt 0)])) 0).1)) rfl ?_)
      refine s_cons (op_assign (.int .i64 ((get (done ++ ([(byt 0)])) 0).2.1)) rfl ?_)
      refine s_cons (op_assign (.int .i64 ((get (done ++ ([(byt 0)])) 0).2.2)) rfl ?_)
      refine s_nil ?_
      refine then_n ?_
      refine cE_seq ?_
      refine cE_region rfl ?_
      refine s_cons (op_call Try.call20 evs_nil (c_told1 (w0 := w38)) ?_)
      rintro _ w39 ⟨rfl, hcall⟩
      refine ⟨_, rfl, ?_⟩
      have hst : St w0 w39 [rowT 5 u8E v34 ([(byt 0)]), rowT 5 u8E v36 (done ++ ([(byt 0)]))] := hst.call hcall
      refine s_cons (op_move (.bool true) rfl ?_)
      refine s_yes 71 rfl rfl (op_move (.int .i64 ((get ((put n).take k) 0).2.2)) q23_11 ?_)
      refine s_yes 71 rfl rfl (op_eql (k := .i64) (a := (get ((put n).take k) 0).2.2) (b := 2) rfl rfl ?_)
      refine s_cons (op_pick_t (.bool (decide (((get ((put n).take k) 0).2.2) = 2))) rfl rfl ?_)
      refine s_cons (op_move (.bool (decide (((get ((put n).take k) 0).2.2) = 2))) rfl ?_)
      refine s_yes 75 rfl (congrArg Value.bool (show (decide (((get ((put n).take k) 0).2.2) = 2)) = true from (decide_eq_true (by rw [get_cut h0 h1 (by omega)])))) (op_move (.int .i64 ((get ((put n).take k) 0).2.1)) q23_10 ?_)
      refine s_yes 75 rfl (congrArg Value.bool (show (decide (((get ((put n).take k) 0).2.2) = 2)) = true from (decide_eq_true (by rw [get_cut h0 h1 (by omega)])))) (op_eql (k := .i64) (a := (get ((put n).take k) 0).2.1) (b := 0) rfl rfl ?_)
      refine s_cons (op_pick_t (.bool (decide (((get ((put n).take k) 0).2.1) = 0))) (congrArg Value.bool (show (decide (((get ((put n).take k) 0).2.2) = 2)) = true from (decide_eq_true (by rw [get_cut h0 h1 (by omega)])))) rfl ?_)
      refine s_cons (op_move (.bool (decide (((get ((put n).take k) 0).2.1) = 0))) rfl ?_)
      refine s_yes 79 rfl (congrArg Value.bool (show (decide (((get ((put n).take k) 0).2.1) = 0)) = true from (decide_eq_true (by rw [get_cut h0 h1 (by omega)])))) (op_move (.int .i64 ((get (done ++ ([(byt 0)])) 0).2.2)) rfl ?_)
      refine s_yes 79 rfl (congrArg Value.bool (show (decide (((get ((put n).take k) 0).2.1) = 0)) = true from (decide_eq_true (by rw [get_cut h0 h1 (by omega)])))) (op_eql (k := .i64) (a := (get (done ++ ([(byt 0)])) 0).2.2) (b := 2) rfl rfl ?_)
      refine s_cons (op_pick_t (.bool (decide (((get (done ++ ([(byt 0)])) 0).2.2) = 2))) (congrArg Value.bool (show (decide (((get ((put n).take k) 0).2.1) = 0)) = true from (decide_eq_true (by rw [get_cut h0 h1 (by omega)])))) rfl ?_)
      refine s_cons (op_move (.bool (decide (((get (done ++ ([(byt 0)])) 0).2.2) = 2))) rfl ?_)
      refine s_yes 83 rfl (congrArg Value.bool (show (decide (((get (done ++ ([(byt 0)])) 0).2.2) = 2)) = true from (decide_eq_true (by rw [get_high hd hdl.1])))) (op_move (.int .i64 ((get (done ++ ([(byt 0)])) 0).2.1)) rfl ?_)
      refine s_yes 83 rfl (congrArg Value.bool (show (decide (((get (done ++ ([(byt 0)])) 0).2.2) = 2)) = true from (decide_eq_true (by rw [get_high hd hdl.1])))) (op_eql (k := .i64) (a := (get (done ++ ([(byt 0)])) 0).2.1) (b := 0) rfl rfl ?_)
      refine s_cons (op_pick_t (.bool (decide (((get (done ++ ([(byt 0)])) 0).2.1) = 0))) (congrArg Value.bool (show (decide (((get (done ++ ([(byt 0)])) 0).2.2) = 2)) = true from (decide_eq_true (by rw [get_high hd hdl.1])))) rfl ?_)
      refine s_cons (op_assign (.bool (decide (((get (done ++ ([(byt 0)])) 0).2.1) = 0))) rfl ?_)
      refine s_nil ?_
      refine then_n ?_
      refine cE_ret ?_
      refine post_r _ (res1 (v := (.bool true)) (congrArg Value.bool (show (decide (((get (done ++ ([(byt 0)])) 0).2.1) = 0)) = true from (decide_eq_true (by rw [get_high hd hdl.1]))))) ?_
      exact ⟨rfl, hst.bare⟩

end Go.Proofs.Ytealhahaeiibjaa
