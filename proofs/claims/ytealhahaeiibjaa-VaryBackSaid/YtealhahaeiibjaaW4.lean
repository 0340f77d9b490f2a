/- the laws of numbers as bytes -/
import Derived.Test.YtealhahaeiibjaaW3
import Derived.Test.YtealhahaeiibjaaZ
namespace Go.Proofs.Ytealhahaeiibjaa
open Go.RowKit

theorem c_told1 (w0 : World) :
    Calls Try.prog 20 #[] w0 fun e w' => e = .returned (.bool true) ∧ St w0 w' [] := by
  refine calls_E (n := 98) (ts := [0]) Try.func20 rfl rfl rfl (by simp) ?_
  have hst := St.start w0
  refine cE_seq ?_
  refine cE_region rfl ?_
  refine s_cons (op_assign (.bool false) rfl ?_)
  refine s_nil ?_
  refine then_n ?_
  refine cE_seq ?_
  refine cE_region rfl ?_
  refine s_cons (op_call Try.call19 (evs_cons (v := (.int .u64 300)) rfl evs_nil) (c_Put (w0 := w0) (n := 300) (h0 := (by omega)) (h1 := (by omega))) ?_)
  rintro _ w2 ⟨r1, rfl, hcall⟩
  refine ⟨_, rfl, ?_⟩
  have hst : St w0 w2 [rowT 5 u8E r1 (put 300)] := hst.call hcall
  refine s_cons (op_assign r1 rfl ?_)
  refine s_nil ?_
  refine then_n ?_
  refine cE_seq ?_
  refine cE_region rfl ?_
  refine s_cons (op_move r1 rfl ?_)
  refine s_cons (op_call Try.call21 (evs_cons (v := r1) rfl (evs_cons (v := (.int .i64 0)) rfl evs_nil)) (c_Get (w0 := w2) (v_b := r1) (b := (put 300)) (h_b := (hst.sl 0 rfl)) (at_ := 0) (hl := (by decide))) ?_)
  rintro _ w3 ⟨rfl, hcall⟩
  refine ⟨_, rfl, ?_⟩
  have hst : St w0 w3 [rowT 5 u8E r1 (put 300)] := hst.call hcall
  refine s_cons (op_move (.tuple #[(.int .u64 ((get (put 300) 0).1)), (.int .i64 ((get (put 300) 0).2.1)), (.int .i64 ((get (put 300) 0).2.2))]) rfl ?_)
  refine s_cons (op_extract (.int .u64 ((get (put 300) 0).1)) rfl rfl ?_)
  refine s_cons (op_extract (.int .i64 ((get (put 300) 0).2.1)) rfl rfl ?_)
  refine s_cons (op_extract (.int .i64 ((get (put 300) 0).2.2)) rfl rfl ?_)
  refine s_cons (op_assign (.int .u64 ((get (put 300) 0).1)) rfl ?_)
  refine s_cons (op_assign (.int .i64 ((get (put 300) 0).2.1)) rfl ?_)
  refine s_cons (op_assign (.int .i64 ((get (put 300) 0).2.2)) rfl ?_)
  refine s_nil ?_
  refine then_n ?_
  refine cE_seq ?_
  refine cE_region rfl ?_
  refine s_cons (op_buildSlice (E := u8E) [(byt 128)] hst Try.underlying22 Try.sizeOf5 Try.zeroValue5 (evp_cons (v := (.int .u8 128)) rfl evp_nil) (parts_cons (by rw [u8cell]; exact byt_cell (by omega) (by omega)) parts_nil) rfl (by decide) (fun v4 w5 hst => ?_))
  replace hst : St w0 w5 [rowT 5 u8E v4 ([(byt 128)]), rowT 5 u8E r1 (put 300)] := hst
  refine s_cons (op_call Try.call21 (evs_cons (v := v4) rfl (evs_cons (v := (.int .i64 0)) rfl evs_nil)) (c_Get (w0 := w5) (v_b := v4) (b := [(byt 128)]) (h_b := (hst.sl 0 rfl)) (at_ := 0) (hl := (by decide))) ?_)
  rintro _ w6 ⟨rfl, hcall⟩
  refine ⟨_, rfl, ?_⟩
  have hst : St w0 w6 [rowT 5 u8E v4 ([(byt 128)]), rowT 5 u8E r1 (put 300)] := hst.call hcall
  refine s_cons (op_move (.tuple #[(.int .u64 ((get ([(byt 128)]) 0).1)), (.int .i64 ((get ([(byt 128)]) 0).2.1)), (.int .i64 ((get ([(byt 128)]) 0).2.2))]) rfl ?_)
  refine s_cons (op_extract (.int .u64 ((get ([(byt 128)]) 0).1)) rfl rfl ?_)
  refine s_cons (op_extract (.int .i64 ((get ([(byt 128)]) 0).2.1)) rfl rfl ?_)
  refine s_cons (op_extract (.int .i64 ((get ([(byt 128)]) 0).2.2)) rfl rfl ?_)
  refine s_cons (op_assign (.int .u64 ((get ([(byt 128)]) 0).1)) rfl ?_)
  refine s_cons (op_assign (.int .i64 ((get ([(byt 128)]) 0).2.1)) rfl ?_)
  refine s_cons (op_assign (.int .i64 ((get ([(byt 128)]) 0).2.2)) rfl ?_)
  refine s_nil ?_
  refine then_n ?_
  refine cE_seq ?_
  refine cE_region rfl ?_
  refine s_cons (op_buildSlice (E := u8E) [(byt 128), (byt 0)] hst Try.underlying22 Try.sizeOf5 Try.zeroValue5 (evp_cons (v := (.int .u8 128)) rfl (evp_cons (v := (.int .u8 0)) rfl evp_nil)) (parts_cons (by rw [u8cell]; exact byt_cell (by omega) (by omega)) (parts_cons (by rw [u8cell]; exact byt_cell (by omega) (by omega)) parts_nil)) rfl (by decide) (fun v7 w8 hst => ?_))
  replace hst : St w0 w8 [rowT 5 u8E v7 ([(byt 128), (byt 0)]), rowT 5 u8E v4 ([(byt 128)]), rowT 5 u8E r1 (put 300)] := hst
  refine s_cons (op_call Try.call21 (evs_cons (v := v7) rfl (evs_cons (v := (.int .i64 0)) rfl evs_nil)) (c_Get (w0 := w8) (v_b := v7) (b := [(byt 128), (byt 0)]) (h_b := (hst.sl 0 rfl)) (at_ := 0) (hl := (by decide))) ?_)
  rintro _ w9 ⟨rfl, hcall⟩
  refine ⟨_, rfl, ?_⟩
  have hst : St w0 w9 [rowT 5 u8E v7 ([(byt 128), (byt 0)]), rowT 5 u8E v4 ([(byt 128)]), rowT 5 u8E r1 (put 300)] := hst.call hcall
  refine s_cons (op_move (.tuple #[(.int .u64 ((get ([(byt 128), (byt 0)]) 0).1)), (.int .i64 ((get ([(byt 128), (byt 0)]) 0).2.1)), (.int .i64 ((get ([(byt 128), (byt 0)]) 0).2.2))]) rfl ?_)
  refine s_cons (op_extract (.int .u64 ((get ([(byt 128), (byt 0)]) 0).1)) rfl rfl ?_)
  refine s_cons (op_extract (.int .i64 ((get ([(byt 128), (byt 0)]) 0).2.1)) rfl rfl ?_)
  refine s_cons (op_extract (.int .i64 ((get ([(byt 128), (byt 0)]) 0).2.2)) rfl rfl ?_)
  refine s_cons (op_assign (.int .u64 ((get ([(byt 128), (byt 0)]) 0).1)) rfl ?_)
  refine s_cons (op_assign (.int .i64 ((get ([(byt 128), (byt 0)]) 0).2.1)) rfl ?_)
  refine s_cons (op_assign (.int .i64 ((get ([(byt 128), (byt 0)]) 0).2.2)) rfl ?_)
  refine s_nil ?_
  refine then_n ?_
  refine cE_seq ?_
  refine cE_region rfl ?_
  refine s_cons (op_move r1 rfl ?_)
  refine s_cons (op_call Try.call21 (evs_cons (v := r1) rfl (evs_cons (v := (.int .i64 3)) rfl evs_nil)) (c_Get (w0 := w9) (v_b := r1) (b := (put 300)) (h_b := (hst.sl 2 rfl)) (at_ := 3) (hl := (by decide))) ?_)
  rintro _ w10 ⟨rfl, hcall⟩
  refine ⟨_, rfl, ?_⟩
  have hst : St w0 w10 [rowT 5 u8E v7 ([(byt 128), (byt 0)]), rowT 5 u8E v4 ([(byt 128)]), rowT 5 u8E r1 (put 300)] := hst.call hcall
  refine s_cons (op_move (.tuple #[(.int .u64 ((get (put 300) 3).1)), (.int .i64 ((get (put 300) 3).2.1)), (.int .i64 ((get (put 300) 3).2.2))]) rfl ?_)
  refine s_cons (op_extract (.int .u64 ((get (put 300) 3).1)) rfl rfl ?_)
  refine s_cons (op_extract (.int .i64 ((get (put 300) 3).2.1)) rfl rfl ?_)
  refine s_cons (op_extract (.int .i64 ((get (put 300) 3).2.2)) rfl rfl ?_)
  refine s_cons (op_assign (.int .u64 ((get (put 300) 3).1)) rfl ?_)
  refine s_cons (op_assign (.int .i64 ((get (put 300) 3).2.1)) rfl ?_)
  refine s_cons (op_assign (.int .i64 ((get (put 300) 3).2.2)) rfl ?_)
  refine s_nil ?_
  refine then_n ?_
  refine cE_seq ?_
  refine cE_region rfl ?_
  refine s_cons (op_move r1 rfl ?_)
  refine s_cons (op_len (E := u8E) (xs := (put 300)) Try.underlying22 rfl (hst.sl 2 rfl) ?_)
  refine s_cons (op_eql (k := .i64) (a := ((put 300).length : Int)) (b := 2) rfl rfl ?_)
  refine s_cons (op_move (.bool (decide (((put 300).length : Int) = 2))) rfl ?_)
  refine s_yes 42 rfl (congrArg Value.bool (show (decide (((put 300).length : Int) = 2)) = true from by decide)) (op_move r1 rfl ?_)
  refine s_yes 42 rfl (congrArg Value.bool (show (decide (((put 300).length : Int) = 2)) = true from by decide)) (op_indexAddrN (E := u8E) (xs := (put 300)) 0 Try.underlying22 Try.sizeOf5 rfl (hst.sl 2 rfl) rfl (by omega) (by decide) (fun a11 o12 p13 => ?_))
  refine s_yes 42 rfl (congrArg Value.bool (show (decide (((put 300).length : Int) = 2)) = true from by decide)) (op_load1 (u := (.int .u8 (((put 300)[0]'(by decide)).toNat : Int))) Try.isAgg5 rfl p13 ?_)
  have hu14 := u8_lt ((put 300)[0]'(by decide))
  refine s_yes 42 rfl (congrArg Value.bool (show (decide (((put 300).length : Int) = 2)) = true from by decide)) (op_eql (k := .u8) (a := (((put 300)[0]'(by decide)).toNat : Int)) (b := 172) rfl rfl ?_)
  refine s_cons (op_pick_t (.bool (decide ((((put 300)[0]'(by decide)).toNat : Int) = 172))) (congrArg Value.bool (show (decide (((put 300).length : Int) = 2)) = true from by decide)) rfl ?_)
  refine s_cons (op_move (.bool (decide ((((put 300)[0]'(by decide)).toNat : Int) = 172))) rfl ?_)
  refine s_yes 48 rfl (congrArg Value.bool (show (decide ((((put 300)[0]'(by decide)).toNat : Int) = 172)) = true from by decide)) (op_move r1 rfl ?_)
  refine s_yes 48 rfl (congrArg Value.bool (show (decide ((((put 300)[0]'(by decide)).toNat : Int) = 172)) = true from by decide)) (op_indexAddrN (E := u8E) (xs := (put 300)) 1 Try.underlying22 Try.sizeOf5 rfl (hst.sl 2 rfl) rfl (by omega) (by decide) (fun a15 o16 p17 => ?_))
  refine s_yes 48 rfl (congrArg Value.bool (show (decide ((((put 300)[0]'(by decide)).toNat : Int) = 172)) = true from by decide)) (op_load1 (u := (.int .u8 (((put 300)[1]'(by decide)).toNat : Int))) Try.isAgg5 rfl p17 ?_)
  have hu18 := u8_lt ((put 300)[1]'(by decide))
  refine s_yes 48 rfl (congrArg Value.bool (show (decide ((((put 300)[0]'(by decide)).toNat : Int) = 172)) = true from by decide)) (op_eql (k := .u8) (a := (((put 300)[1]'(by decide)).toNat : Int)) (b := 2) rfl rfl ?_)
  refine s_cons (op_pick_t (.bool (decide ((((put 300)[1]'(by decide)).toNat : Int) = 2))) (congrArg Value.bool (show (decide ((((put 300)[0]'(by decide)).toNat : Int) = 172)) = true from by decide)) rfl ?_)
  refine s_cons (op_move (.bool (decide ((((put 300)[1]'(by decide)).toNat : Int) = 2))) rfl ?_)
  refine s_yes 54 rfl (congrArg Value.bool (show (decide ((((put 300)[1]'(by decide)).toNat : Int) = 2)) = true from by decide)) (op_move (.int .u64 ((get (put 300) 0).1)) rfl ?_)
  refine s_yes 54 rfl (congrArg Value.bool (show (decide ((((put 300)[1]'(by decide)).toNat : Int) = 2)) = true from by decide)) (op_eql (k := .u64) (a := (get (put 300) 0).1) (b := 300) rfl rfl ?_)
  refine s_cons (op_pick_t (.bool (decide (((get (put 300) 0).1) = 300))) (congrArg Value.bool (show (decide ((((put 300)[1]'(by decide)).toNat : Int) = 2)) = true from by decide)) rfl ?_)
  refine s_cons (op_move (.bool (decide (((get (put 300) 0).1) = 300))) rfl ?_)
  refine s_yes 58 rfl (congrArg Value.bool (show (decide (((get (put 300) 0).1) = 300)) = true from by decide)) (op_move (.int .i64 ((get (put 300) 0).2.1)) rfl ?_)
  refine s_yes 58 rfl (congrArg Value.bool (show (decide (((get (put 300) 0).1) = 300)) = true from by decide)) (op_eql (k := .i64) (a := (get (put 300) 0).2.1) (b := 2) rfl rfl ?_)
  refine s_cons (op_pick_t (.bool (decide (((get (put 300) 0).2.1) = 2))) (congrArg Value.bool (show (decide (((get (put 300) 0).1) = 300)) = true from by decide)) rfl ?_)
  refine s_cons (op_move (.bool (decide (((get (put 300) 0).2.1) = 2))) rfl ?_)
  refine s_yes 62 rfl (congrArg Value.bool (show (decide (((get (put 300) 0).2.1) = 2)) = true from by decide)) (op_move (.int .i64 ((get (put 300) 0).2.2)) rfl ?_)
  refine s_yes 62 rfl (congrArg Value.bool (show (decide (((get (put 300) 0).2.1) = 2)) = true from by decide)) (op_eql (k := .i64) (a := (get (put 300) 0).2.2) (b := 0) rfl rfl ?_)
  refine s_cons (op_pick_t (.bool (decide (((get (put 300) 0).2.2) = 0))) (congrArg Value.bool (show (decide (((get (put 300) 0).2.1) = 2)) = true from by decide)) rfl ?_)
  refine s_cons (op_move (.bool (decide (((get (put 300) 0).2.2) = 0))) rfl ?_)
  refine s_yes 66 rfl (congrArg Value.bool (show (decide (((get (put 300) 0).2.2) = 0)) = true from by decide)) (op_move (.int .i64 ((get ([(byt 128)]) 0).2.2)) rfl ?_)
  refine s_yes 66 rfl (congrArg Value.bool (show (decide (((get (put 300) 0).2.2) = 0)) = true from by decide)) (op_eql (k := .i64) (a := (get ([(byt 128)]) 0).2.2) (b := 2) rfl rfl ?_)
  refine s_cons (op_pick_t (.bool (decide (((get ([(byt 128)]) 0).2.2) = 2))) (congrArg Value.bool (show (decide (((get (put 300) 0).2.2) = 0)) = true from by decide)) rfl ?_)
  refine s_cons (op_move (.bool (decide (((get ([(byt 128)]) 0).2.2) = 2))) rfl ?_)
  refine s_yes 70 rfl (congrArg Value.bool (show (decide (((get ([(byt 128)]) 0).2.2) = 2)) = true from by decide)) (op_move (.int .i64 ((get ([(byt 128), (byt 0)]) 0).2.2)) rfl ?_)
  refine s_yes 70 rfl (congrArg Value.bool (show (decide (((get ([(byt 128)]) 0).2.2) = 2)) = true from by decide)) (op_eql (k := .i64) (a := (get ([(byt 128), (byt 0)]) 0).2.2) (b := 2) rfl rfl ?_)
  refine s_cons (op_pick_t (.bool (decide (((get ([(byt 128), (byt 0)]) 0).2.2) = 2))) (congrArg Value.bool (show (decide (((get ([(byt 128)]) 0).2.2) = 2)) = true from by decide)) rfl ?_)
  refine s_cons (op_move (.bool (decide (((get ([(byt 128), (byt 0)]) 0).2.2) = 2))) rfl ?_)
  refine s_yes 74 rfl (congrArg Value.bool (show (decide (((get ([(byt 128), (byt 0)]) 0).2.2) = 2)) = true from by decide)) (op_move (.int .i64 ((get (put 300) 3).2.2)) rfl ?_)
  refine s_yes 74 rfl (congrArg Value.bool (show (decide (((get ([(byt 128), (byt 0)]) 0).2.2) = 2)) = true from by decide)) (op_eql (k := .i64) (a := (get (put 300) 3).2.2) (b := 1) rfl rfl ?_)
  refine s_cons (op_pick_t (.bool (decide (((get (put 300) 3).2.2) = 1))) (congrArg Value.bool (show (decide (((get ([(byt 128), (byt 0)]) 0).2.2) = 2)) = true from by decide)) rfl ?_)
  refine s_cons (op_move (.bool (decide (((get (put 300) 3).2.2) = 1))) rfl ?_)
  refine s_yes 78 rfl (congrArg Value.bool (show (decide (((get (put 300) 3).2.2) = 1)) = true from by decide)) (op_move (.int .i64 ((get (put 300) 3).2.1)) rfl ?_)
  refine s_yes 78 rfl (congrArg Value.bool (show (decide (((get (put 300) 3).2.2) = 1)) = true from by decide)) (op_eql (k := .i64) (a := (get (put 300) 3).2.1) (b := 3) rfl rfl ?_)
  refine s_cons (op_pick_t (.bool (decide (((get (put 300) 3).2.1) = 3))) (congrArg Value.bool (show (decide (((get (put 300) 3).2.2) = 1)) = true from by decide)) rfl ?_)
  refine s_cons (op_move (.bool (decide (((get (put 300) 3).2.1) = 3))) rfl ?_)
  refine s_yes 82 rfl (congrArg Value.bool (show (decide (((get (put 300) 3).2.1) = 3)) = true from by decide)) (op_call Try.call24 (evs_cons (v := (.int .i64 (-1))) rfl evs_nil) (c_Zig (w0 := w10) (m := (-1)) (h0 := (by omega)) (h1 := (by omega))) ?_)
  rintro _ w19 ⟨rfl, hcall⟩
  refine ⟨_, rfl, ?_⟩
  have hst : St w0 w19 [rowT 5 u8E v7 ([(byt 128), (byt 0)]), rowT 5 u8E v4 ([(byt 128)]), rowT 5 u8E r1 (put 300)] := hst.call hcall
  refine s_yes 82 rfl (congrArg Value.bool (show (decide (((get (put 300) 3).2.1) = 3)) = true from by decide)) (op_eql (k := .u64) (a := (zig (-1))) (b := 1) rfl rfl ?_)
  refine s_cons (op_pick_t (.bool (decide ((zig (-1)) = 1))) (congrArg Value.bool (show (decide (((get (put 300) 3).2.1) = 3)) = true from by decide)) rfl ?_)
  refine s_cons (op_move (.bool (decide ((zig (-1)) = 1))) rfl ?_)
  refine s_yes 86 rfl (congrArg Value.bool (show (decide ((zig (-1)) = 1)) = true from by decide)) (op_call Try.call26 (evs_cons (v := (.int .u64 3)) rfl evs_nil) (c_Zag (w0 := w19) (n := 3) (h0 := (by omega)) (h1 := (by omega))) ?_)
  rintro _ w20 ⟨rfl, hcall⟩
  refine ⟨_, rfl, ?_⟩
  have hst : St w0 w20 [rowT 5 u8E v7 ([(byt 128), (byt 0)]), rowT 5 u8E v4 ([(byt 128)]), rowT 5 u8E r1 (put 300)] := hst.call hcall
  refine s_yes 86 rfl (congrArg Value.bool (show (decide ((zig (-1)) = 1)) = true from by decide)) (op_eql (k := .i64) (a := (zag 3)) (b := (-2)) rfl rfl ?_)
  refine s_cons (op_pick_t (.bool (decide ((zag 3) = (-2)))) (congrArg Value.bool (show (decide ((zig (-1)) = 1)) = true from by decide)) rfl ?_)
  refine s_cons (op_move (.bool (decide ((zag 3) = (-2)))) rfl ?_)
  refine s_yes 90 rfl (congrArg Value.bool (show (decide ((zag 3) = (-2))) = true from by decide)) (op_call Try.call28 (evs_cons (v := (.int .u64 0)) rfl evs_nil) (c_Size (w0 := w20) (n := 0) (h0 := (by omega)) (h1 := (by omega))) ?_)
  rintro _ w21 ⟨rfl, hcall⟩
  refine ⟨_, rfl, ?_⟩
  have hst : St w0 w21 [rowT 5 u8E v7 ([(byt 128), (byt 0)]), rowT 5 u8E v4 ([(byt 128)]), rowT 5 u8E r1 (put 300)] := hst.call hcall
  refine s_yes 90 rfl (congrArg Value.bool (show (decide ((zag 3) = (-2))) = true from by decide)) (op_eql (k := .i64) (a := ((put 0).length : Int)) (b := 1) rfl rfl ?_)
  refine s_cons (op_pick_t (.bool (decide (((put 0).length : Int) = 1))) (congrArg Value.bool (show (decide ((zag 3) = (-2))) = true from by decide)) rfl ?_)
  refine s_cons (op_move (.bool (decide (((put 0).length : Int) = 1))) rfl ?_)
  refine s_yes 94 rfl (congrArg Value.bool (show (decide (((put 0).length : Int) = 1)) = true from by decide)) (op_call Try.call24 (evs_cons (v := (.int .i64 (-9223372036854775808))) rfl evs_nil) (c_Zig (w0 := w21) (m := (-9223372036854775808)) (h0 := (by omega)) (h1 := (by omega))) ?_)
  rintro _ w22 ⟨rfl, hcall⟩
  refine ⟨_, rfl, ?_⟩
  have hst : St w0 w22 [rowT 5 u8E v7 ([(byt 128), (byt 0)]), rowT 5 u8E v4 ([(byt 128)]), rowT 5 u8E r1 (put 300)] := hst.call hcall
  refine s_yes 94 rfl (congrArg Value.bool (show (decide (((put 0).length : Int) = 1)) = true from by decide)) (op_eql (k := .u64) (a := (zig (-9223372036854775808))) (b := 18446744073709551615) rfl rfl ?_)
  refine s_cons (op_pick_t (.bool (decide ((zig (-9223372036854775808)) = 18446744073709551615))) (congrArg Value.bool (show (decide (((put 0).length : Int) = 1)) = true from by decide)) rfl ?_)
  refine s_cons (op_assign (.bool (decide ((zig (-9223372036854775808)) = 18446744073709551615))) rfl ?_)
  refine s_nil ?_
  refine then_n ?_
  refine cE_ret ?_
  refine post_r _ (res1 (v := (.bool true)) (congrArg Value.bool (show (decide ((zig (-9223372036854775808)) = 18446744073709551615)) = true from by decide))) ?_
  exact ⟨rfl, hst.bare⟩

theorem c_VaryAsks (w0 : World) (n : Int) (m : Int) (v_b : Value) (b : List UInt8) (h_b : Sl w0 u8E v_b b) (at_ : Int) (h0 : 0 ≤ n) (h1 : n ≤ 18446744073709551615) (i0 : -9223372036854775808 ≤ m) (i1 : m ≤ 9223372036854775807) :
    Calls Try.prog 9 #[(.int .u64 n), (.int .i64 m), v_b, (.int .i64 at_)] w0 fun e w' => e = .returned (.bool true) ∧ St w0 w' [] := by
  refine calls_E (n := 80) (ts := [8]) Try.func9 rfl rfl rfl (by simp) ?_
  have hst := St.start w0
  refine cE_seq ?_
  refine cE_region rfl ?_
  refine s_cons (op_assign (.bool false) rfl ?_)
  refine s_nil ?_
  refine then_n ?_
  refine cE_seq ?_
  refine cE_seq ?_
  refine cE_region rfl ?_
  refine s_cons (op_move v_b rfl ?_)
  refine s_cons (op_len (E := u8E) (xs := b) Try.underlying22 rfl h_b ?_)
  refine s_cons (op_gtr (k := .i64) (a := (b.length : Int)) (b := 40) rfl rfl ?_)
  refine s_nil ?_
  refine then_n ?_
  rcases Bool.eq_false_or_eq_true (decide (40 < (b.length : Int))) with b23 | b23
  · have c24 : 40 < (b.length : Int) := of_decide_eq_true b23
    refine cE_cond true (congrArg Value.bool b23) (fun _ => ?_) (fun h => by cases h)
    refine cE_seq ?_
    refine cE_region rfl ?_
    refine s_cons (op_call Try.call20 evs_nil (c_told1 (w0 := w0)) ?_)
    rintro _ w25 ⟨rfl, hcall⟩
    refine ⟨_, rfl, ?_⟩
    have hst : St w0 w25 [] := hst.call hcall
    refine s_cons (op_assign (.bool true) rfl ?_)
    refine s_nil ?_
    refine then_n ?_
    refine cE_ret ?_
    refine then_r ?_
    refine post_r _ (res1 (v := (.bool true)) rfl) ?_
    exact ⟨rfl, hst.bare⟩
  · have c26 : ¬ (40 < (b.length : Int)) := of_decide_eq_false b23
    refine cE_cond false (congrArg Value.bool b23) (fun h => by cases h) (fun _ => ?_)
    refine cE_skip ?_
    refine then_n ?_
    refine cE_seq ?_
    refine cE_region rfl ?_
    refine s_cons (op_move v_b rfl ?_)
    refine s_cons (op_move (.int .i64 at_) rfl ?_)
    refine s_cons (op_call Try.call21 (evs_cons (v := v_b) rfl (evs_cons (v := (.int .i64 at_)) rfl evs_nil)) (c_Get (w0 := w0) (v_b := v_b) (b := b) (h_b := (h_b.below hst.below)) (at_ := at_) (hl := (by omega))) ?_)
    rintro _ w27 ⟨rfl, hcall⟩
    refine ⟨_, rfl, ?_⟩
    have hst : St w0 w27 [] := hst.call hcall
    refine s_cons (op_move (.tuple #[(.int .u64 ((get b at_).1)), (.int .i64 ((get b at_).2.1)), (.int .i64 ((get b at_).2.2))]) rfl ?_)
    refine s_cons (op_extract (.int .u64 ((get b at_).1)) rfl rfl ?_)
    refine s_cons (op_extract (.int .i64 ((get b at_).2.1)) rfl rfl ?_)
    refine s_cons (op_extract (.int .i64 ((get b at_).2.2)) rfl rfl ?_)
    refine s_cons (op_assign (.int .u64 ((get b at_).1)) rfl ?_)
    refine s_cons (op_assign (.int .i64 ((get b at_).2.1)) rfl ?_)
    refine s_cons (op_assign (.int .i64 ((get b at_).2.2)) rfl ?_)
    refine s_nil ?_
    refine then_n ?_
    refine cE_seq ?_
    refine cE_region rfl ?_
    refine s_cons (op_move v_b rfl ?_)
    refine s_cons (op_str (xs := b) Try.underlying22 Try.underlying5 Try.underlying9 rfl (h_b.below hst.below) ?_)
    refine s_cons (op_move (.int .i64 at_) rfl ?_)
    refine s_cons (op_call Try.call22 (evs_cons (v := (.string (str b))) rfl (evs_cons (v := (.int .i64 at_)) rfl evs_nil)) (c_rGet (w0 := w27) (b := b) (at_ := at_) (hl := (by omega))) ?_)
    rintro _ w28 ⟨rfl, hcall⟩
    refine ⟨_, rfl, ?_⟩
    have hst : St w0 w28 [] := hst.call hcall
    refine s_cons (op_move (.tuple #[(.int .u64 ((get b at_).1)), (.int .i64 ((get b at_).2.1)), (.int .i64 ((get b at_).2.2))]) rfl ?_)
    refine s_cons (op_extract (.int .u64 ((get b at_).1)) rfl rfl ?_)
    refine s_cons (op_extract (.int .i64 ((get b at_).2.1)) rfl rfl ?_)
    refine s_cons (op_extract (.int .i64 ((get b at_).2.2)) rfl rfl ?_)
    refine s_cons (op_assign (.int .u64 ((get b at_).1)) rfl ?_)
    refine s_cons (op_assign (.int .i64 ((get b at_).2.1)) rfl ?_)
    refine s_cons (op_assign (.int .i64 ((get b at_).2.2)) rfl ?_)
    refine s_nil ?_
    refine then_n ?_
    refine cE_seq ?_
    refine cE_regionL hst [[], [(34, some 0)], [(0, none), (35, some 1)], [(36, some 2), (35, some 1)], [(37, some 3), (35, some 1)], [(0, none), (35, some 1)], [(39, some 5), (35, some 1)], [(38, some 4), (40, some 6), (35, some 1)], [(35, some 1), (41, some 7)], [(42, some 8)], [(9, none), (43, some 9)], [(12, none), (43, some 9)], [(44, some 10), (45, some 11), (43, some 9)], [(43, some 9), (46, some 12)], [(47, some 13)], [(10, none), (48, some 14)], [(13, none), (48, some 14)], [(49, some 15), (50, some 16), (48, some 14)], [(48, some 14), (51, some 17)], [(52, some 18)], [(11, none), (53, some 19)], [(14, none), (53, some 19)], [(54, some 20), (55, some 21), (53, some 19)], [(53, some 19), (56, some 22)], [(57, some 23)], [(1, none), (58, some 24)], [(59, some 25), (58, some 24)], [(1, none), (58, some 24)], [(61, some 27), (58, some 24)], [(60, some 26), (62, some 28), (58, some 24)], [(58, some 24), (63, some 29)], [(64, some 30)], [(0, none), (65, some 31)], [(66, some 32), (65, some 31)], [(0, none), (65, some 31)], [(68, some 34), (65, some 31)], [(67, some 33), (69, some 35), (65, some 31)], [(65, some 31), (70, some 36)], [(71, some 37)], [(0, none), (72, some 38)], [(73, some 39), (72, some 38)], [(0, none), (72, some 38)], [(75, some 41), (72, some 38)], [(76, some 42), (72, some 38)], [(74, some 40), (77, some 43), (72, some 38)], [(72, some 38), (78, some 44)], [(79, some 45)]] [(rEq (.bool true)), (rEq (.bool true)), (rEq (.int .u64 n)), (rSl u8E (put n)), (rEq (.string (str (put n)))), (rEq (.int .u64 n)), (rEq (.string (str (put n)))), (rEq (.bool (decide ((put n) = (put n))))), (rEq (.bool (decide ((put n) = (put n))))), (rEq (.bool (decide ((put n) = (put n))))), (rEq (.int .u64 ((get b at_).1))), (rEq (.int .u64 ((get b at_).1))), (rEq (.bool (decide (((get b at_).1) = ((get b at_).1))))), (rEq (.bool (decide (((get b at_).1) = ((get b at_).1))))), (rEq (.bool (decide (((get b at_).1) = ((get b at_).1))))), (rEq (.int .i64 ((get b at_).2.1))), (rEq (.int .i64 ((get b at_).2.1))), (rEq (.bool (decide (((get b at_).2.1) = ((get b at_).2.1))))), (rEq (.bool (decide (((get b at_).2.1) = ((get b at_).2.1))))), (rEq (.bool (decide (((get b at_).2.1) = ((get b at_).2.1))))), (rEq (.int .i64 ((get b at_).2.2))), (rEq (.int .i64 ((get b at_).2.2))), (rEq (.bool (decide (((get b at_).2.2) = ((get b at_).2.2))))), (rEq (.bool (decide (((get b at_).2.2) = ((get b at_).2.2))))), (rEq (.bool (decide (((get b at_).2.2) = ((get b at_).2.2))))), (rEq (.int .i64 m)), (rEq (.int .u64 (zig m))), (rEq (.int .i64 m)), (rEq (.int .u64 (zig m))), (rEq (.bool (decide ((zig m) = (zig m))))), (rEq (.bool (decide ((zig m) = (zig m))))), (rEq (.bool (decide ((zig m) = (zig m))))), (rEq (.int .u64 n)), (rEq (.int .i64 (zag n))), (rEq (.int .u64 n)), (rEq (.int .i64 (zag n))), (rEq (.bool (decide ((zag n) = (zag n))))), (rEq (.bool (decide ((zag n) = (zag n))))), (rEq (.bool (decide ((zag n) = (zag n))))), (rEq (.int .u64 n)), (rEq (.int .i64 ((put n).length : Int))), (rEq (.int .u64 n)), (rEq (.string (str (put n)))), (rEq (.int .i64 ((put n).length : Int))), (rEq (.bool (decide (((put n).length : Int) = ((put n).length : Int))))), (rEq (.bool (decide (((put n).length : Int) = ((put n).length : Int))))), (rEq (.bool (decide (((put n).length : Int) = ((put n).length : Int)))))] (by kernel_rfl) rfl (by kernel_rfl) ⟨sEq, sEq, sEq, sSl, sEq, sEq, sEq, sEq, sEq, sEq, sEq, sEq, sEq, sEq, sEq, sEq, sEq, sEq, sEq, sEq, sEq, sEq, sEq, sEq, sEq, sEq, sEq, sEq, sEq, sEq, sEq, sEq, sEq, sEq, sEq, sEq, sEq, sEq, sEq, sEq, sEq, sEq, sEq, sEq, sEq, sEq, sEq, trivial⟩ ⟨?_, ?_, ?_, ?_, ?_, ?_, ?_, ?_, ?_, ?_, ?_, ?_, ?_, ?_, ?_, ?_, ?_, ?_, ?_, ?_, ?_, ?_, ?_, ?_, ?_, ?_, ?_, ?_, ?_, ?_, ?_, ?_, ?_, ?_, ?_, ?_, ?_, ?_, ?_, ?_, ?_, ?_, ?_, ?_, ?_, ?_, ?_, trivial⟩ ?_
    · rintro ρ39 w40 hj41 ⟨_⟩
      have hst := hj41.2
      refine go_plain (op_call Try.call20 evs_nil (c_told1 (w0 := w40)) ?_)
      rintro _ w42 ⟨rfl, hcall⟩
      refine ⟨_, rfl, ?_⟩
      exact kD hj41 hcall rfl
    · rintro ρ43 w44 hj45 ⟨f34, _⟩
      have hst := hj45.2
      exact go_plain (op_move (.bool true) f34 (kS hj45 rfl))
    · rintro ρ46 w47 hj48 ⟨f0, f35, _⟩
      have hst := hj48.2
      exact go_yes 35 rfl f35 (op_move (.int .u64 n) (f0.trans rfl) (kS hj48 rfl))
    · rintro ρ49 w50 hj51 ⟨f36, f35, _⟩
      have hst := hj51.2
      refine go_yes 35 rfl f35 (op_call Try.call19 (evs_cons (v := (.int .u64 n)) f36 evs_nil) (c_Put (w0 := w50) (n := n) (h0 := (by omega)) (h1 := (by omega))) ?_)
      rintro _ w53 ⟨r52, rfl, hcall⟩
      refine ⟨_, rfl, ?_⟩
      exact kD hj51 hcall (hcall.sl 0 rfl)
    · rintro ρ54 w55 hj56 ⟨f37, f35, _⟩
      have hst := hj56.2
      have hs59 : Sl w55 u8E _ (put n) := f37
      exact go_yes 35 rfl f35 (op_str (xs := (put n)) Try.underlying22 Try.underlying5 Try.underlying9 rfl hs59 (kS hj56 rfl))
    · rintro ρ60 w61 hj62 ⟨f0, f35, _⟩
      have hst := hj62.2
      exact go_yes 35 rfl f35 (op_move (.int .u64 n) (f0.trans rfl) (kS hj62 rfl))
    · rintro ρ63 w64 hj65 ⟨f39, f35, _⟩
      have hst := hj65.2
      refine go_yes 35 rfl f35 (op_call Try.call23 (evs_cons (v := (.int .u64 n)) f39 evs_nil) (c_rPut (w0 := w64) (n := n) (h0 := (by omega)) (h1 := (by omega))) ?_)
      rintro _ w66 ⟨rfl, hcall⟩
      refine ⟨_, rfl, ?_⟩
      exact kD hj65 hcall rfl
    · rintro ρ67 w68 hj69 ⟨f38, f40, f35, _⟩
      have hst := hj69.2
      exact go_yes 35 rfl f35 (op_eqlStr (a := (put n)) (b := (put n)) f38 f40 (kS hj69 rfl))
    · rintro ρ70 w71 hj72 ⟨f35, f41, _⟩
      have hst := hj72.2
      exact go_plain (op_pick_t (.bool (decide ((put n) = (put n)))) f35 f41 (kS hj72 rfl))
    · rintro ρ73 w74 hj75 ⟨f42, _⟩
      have hst := hj75.2
      exact go_plain (op_move (.bool (decide ((put n) = (put n)))) f42 (kS hj75 rfl))
    · rintro ρ76 w77 hj78 ⟨f9, f43, _⟩
      have hst := hj78.2
      exact go_yes 43 rfl (f43.trans (congrArg Value.bool (show (decide ((put n) = (put n))) = true from (decide_eq_true rfl)))) (op_move (.int .u64 ((get b at_).1)) (f9.trans rfl) (kS hj78 rfl))
    · rintro ρ79 w80 hj81 ⟨f12, f43, _⟩
      have hst := hj81.2
      exact go_yes 43 rfl (f43.trans (congrArg Value.bool (show (decide ((put n) = (put n))) = true from (decide_eq_true rfl)))) (op_move (.int .u64 ((get b at_).1)) (f12.trans rfl) (kS hj81 rfl))
    · rintro ρ82 w83 hj84 ⟨f44, f45, f43, _⟩
      have hst := hj84.2
      exact go_yes 43 rfl (f43.trans (congrArg Value.bool (show (decide ((put n) = (put n))) = true from (decide_eq_true rfl)))) (op_eql (k := .u64) (a := (get b at_).1) (b := (get b at_).1) f44 f45 (kS hj84 rfl))
    · rintro ρ85 w86 hj87 ⟨f43, f46, _⟩
      have hst := hj87.2
      exact go_plain (op_pick_t (.bool (decide (((get b at_).1) = ((get b at_).1)))) (f43.trans (congrArg Value.bool (show (decide ((put n) = (put n))) = true from (decide_eq_true rfl)))) f46 (kS hj87 rfl))
    · rintro ρ88 w89 hj90 ⟨f47, _⟩
      have hst := hj90.2
      exact go_plain (op_move (.bool (decide (((get b at_).1) = ((get b at_).1)))) f47 (kS hj90 rfl))
    · rintro ρ91 w92 hj93 ⟨f10, f48, _⟩
      have hst := hj93.2
      exact go_yes 48 rfl (f48.trans (congrArg Value.bool (show (decide (((get b at_).1) = ((get b at_).1))) = true from (decide_eq_true rfl)))) (op_move (.int .i64 ((get b at_).2.1)) (f10.trans rfl) (kS hj93 rfl))
    · rintro ρ94 w95 hj96 ⟨f13, f48, _⟩
      have hst := hj96.2
      exact go_yes 48 rfl (f48.trans (congrArg Value.bool (show (decide (((get b at_).1) = ((get b at_).1))) = true from (decide_eq_true rfl)))) (op_move (.int .i64 ((get b at_).2.1)) (f13.trans rfl) (kS hj96 rfl))
    · rintro ρ97 w98 hj99 ⟨f49, f50, f48, _⟩
      have hst := hj99.2
      exact go_yes 48 rfl (f48.trans (congrArg Value.bool (show (decide (((get b at_).1) = ((get b at_).1))) = true from (decide_eq_true rfl)))) (op_eql (k := .i64) (a := (get b at_).2.1) (b := (get b at_).2.1) f49 f50 (kS hj99 rfl))
    · rintro ρ100 w101 hj102 ⟨f48, f51, _⟩
      have hst := hj102.2
      exact go_plain (op_pick_t (.bool (decide (((get b at_).2.1) = ((get b at_).2.1)))) (f48.trans (congrArg Value.bool (show (decide (((get b at_).1) = ((get b at_).1))) = true from (decide_eq_true rfl)))) f51 (kS hj102 rfl))
    · rintro ρ103 w104 hj105 ⟨f52, _⟩
      have hst := hj105.2
      exact go_plain (op_move (.bool (decide (((get b at_).2.1) = ((get b at_).2.1)))) f52 (kS hj105 rfl))
    · rintro ρ106 w107 hj108 ⟨f11, f53, _⟩
      have hst := hj108.2
      exact go_yes 53 rfl (f53.trans (congrArg Value.bool (show (decide (((get b at_).2.1) = ((get b at_).2.1))) = true from (decide_eq_true rfl)))) (op_move (.int .i64 ((get b at_).2.2)) (f11.trans rfl) (kS hj108 rfl))
    · rintro ρ109 w110 hj111 ⟨f14, f53, _⟩
      have hst := hj111.2
      exact go_yes 53 rfl (f53.trans (congrArg Value.bool (show (decide (((get b at_).2.1) = ((get b at_).2.1))) = true from (decide_eq_true rfl)))) (op_move (.int .i64 ((get b at_).2.2)) (f14.trans rfl) (kS hj111 rfl))
    · rintro ρ112 w113 hj114 ⟨f54, f55, f53, _⟩
      have hst := hj114.2
      exact go_yes 53 rfl (f53.trans (congrArg Value.bool (show (decide (((get b at_).2.1) = ((get b at_).2.1))) = true from (decide_eq_true rfl)))) (op_eql (k := .i64) (a := (get b at_).2.2) (b := (get b at_).2.2) f54 f55 (kS hj114 rfl))
    · rintro ρ115 w116 hj117 ⟨f53, f56, _⟩
      have hst := hj117.2
      exact go_plain (op_pick_t (.bool (decide (((get b at_).2.2) = ((get b at_).2.2)))) (f53.trans (congrArg Value.bool (show (decide (((get b at_).2.1) = ((get b at_).2.1))) = true from (decide_eq_true rfl)))) f56 (kS hj117 rfl))
    · rintro ρ118 w119 hj120 ⟨f57, _⟩
      have hst := hj120.2
      exact go_plain (op_move (.bool (decide (((get b at_).2.2) = ((get b at_).2.2)))) f57 (kS hj120 rfl))
    · rintro ρ121 w122 hj123 ⟨f1, f58, _⟩
      have hst := hj123.2
      exact go_yes 58 rfl (f58.trans (congrArg Value.bool (show (decide (((get b at_).2.2) = ((get b at_).2.2))) = true from (decide_eq_true rfl)))) (op_move (.int .i64 m) (f1.trans rfl) (kS hj123 rfl))
    · rintro ρ124 w125 hj126 ⟨f59, f58, _⟩
      have hst := hj126.2
      refine go_yes 58 rfl (f58.trans (congrArg Value.bool (show (decide (((get b at_).2.2) = ((get b at_).2.2))) = true from (decide_eq_true rfl)))) (op_call Try.call24 (evs_cons (v := (.int .i64 m)) f59 evs_nil) (c_Zig (w0 := w125) (m := m) (h0 := (by omega)) (h1 := (by omega))) ?_)
      rintro _ w127 ⟨rfl, hcall⟩
      refine ⟨_, rfl, ?_⟩
      exact kD hj126 hcall rfl
    · rintro ρ128 w129 hj130 ⟨f1, f58, _⟩
      have hst := hj130.2
      exact go_yes 58 rfl (f58.trans (congrArg Value.bool (show (decide (((get b at_).2.2) = ((get b at_).2.2))) = true from (decide_eq_true rfl)))) (op_move (.int .i64 m) (f1.trans rfl) (kS hj130 rfl))
    · rintro ρ131 w132 hj133 ⟨f61, f58, _⟩
      have hst := hj133.2
      refine go_yes 58 rfl (f58.trans (congrArg Value.bool (show (decide (((get b at_).2.2) = ((get b at_).2.2))) = true from (decide_eq_true rfl)))) (op_call Try.call25 (evs_cons (v := (.int .i64 m)) f61 evs_nil) (c_rZig (w0 := w132) (m := m) (h0 := (by omega)) (h1 := (by omega))) ?_)
      rintro _ w134 ⟨rfl, hcall⟩
      refine ⟨_, rfl, ?_⟩
      exact kD hj133 hcall rfl
    · rintro ρ135 w136 hj137 ⟨f60, f62, f58, _⟩
      have hst := hj137.2
      exact go_yes 58 rfl (f58.trans (congrArg Value.bool (show (decide (((get b at_).2.2) = ((get b at_).2.2))) = true from (decide_eq_true rfl)))) (op_eql (k := .u64) (a := (zig m)) (b := (zig m)) f60 f62 (kS hj137 rfl))
    · rintro ρ138 w139 hj140 ⟨f58, f63, _⟩
      have hst := hj140.2
      exact go_plain (op_pick_t (.bool (decide ((zig m) = (zig m)))) (f58.trans (congrArg Value.bool (show (decide (((get b at_).2.2) = ((get b at_).2.2))) = true from (decide_eq_true rfl)))) f63 (kS hj140 rfl))
    · rintro ρ141 w142 hj143 ⟨f64, _⟩
      have hst := hj143.2
      exact go_plain (op_move (.bool (decide ((zig m) = (zig m)))) f64 (kS hj143 rfl))
    · rintro ρ144 w145 hj146 ⟨f0, f65, _⟩
      have hst := hj146.2
      exact go_yes 65 rfl (f65.trans (congrArg Value.bool (show (decide ((zig m) = (zig m))) = true from (decide_eq_true rfl)))) (op_move (.int .u64 n) (f0.trans rfl) (kS hj146 rfl))
    · rintro ρ147 w148 hj149 ⟨f66, f65, _⟩
      have hst := hj149.2
      refine go_yes 65 rfl (f65.trans (congrArg Value.bool (show (decide ((zig m) = (zig m))) = true from (decide_eq_true rfl)))) (op_call Try.call26 (evs_cons (v := (.int .u64 n)) f66 evs_nil) (c_Zag (w0 := w148) (n := n) (h0 := (by omega)) (h1 := (by omega))) ?_)
      rintro _ w150 ⟨rfl, hcall⟩
      refine ⟨_, rfl, ?_⟩
      exact kD hj149 hcall rfl
    · rintro ρ151 w152 hj153 ⟨f0, f65, _⟩
      have hst := hj153.2
      exact go_yes 65 rfl (f65.trans (congrArg Value.bool (show (decide ((zig m) = (zig m))) = true from (decide_eq_true rfl)))) (op_move (.int .u64 n) (f0.trans rfl) (kS hj153 rfl))
    · rintro ρ154 w155 hj156 ⟨f68, f65, _⟩
      have hst := hj156.2
      refine go_yes 65 rfl (f65.trans (congrArg Value.bool (show (decide ((zig m) = (zig m))) = true from (decide_eq_true rfl)))) (op_call Try.call27 (evs_cons (v := (.int .u64 n)) f68 evs_nil) (c_rZag (w0 := w155) (n := n) (h0 := (by omega)) (h1 := (by omega))) ?_)
      rintro _ w157 ⟨rfl, hcall⟩
      refine ⟨_, rfl, ?_⟩
      exact kD hj156 hcall rfl
    · rintro ρ158 w159 hj160 ⟨f67, f69, f65, _⟩
      have hst := hj160.2
      exact go_yes 65 rfl (f65.trans (congrArg Value.bool (show (decide ((zig m) = (zig m))) = true from (decide_eq_true rfl)))) (op_eql (k := .i64) (a := (zag n)) (b := (zag n)) f67 f69 (kS hj160 rfl))
    · rintro ρ161 w162 hj163 ⟨f65, f70, _⟩
      have hst := hj163.2
      exact go_plain (op_pick_t (.bool (decide ((zag n) = (zag n)))) (f65.trans (congrArg Value.bool (show (decide ((zig m) = (zig m))) = true from (decide_eq_true rfl)))) f70 (kS hj163 rfl))
    · rintro ρ164 w165 hj166 ⟨f71, _⟩
      have hst := hj166.2
      exact go_plain (op_move (.bool (decide ((zag n) = (zag n)))) f71 (kS hj166 rfl))
    · rintro ρ167 w168 hj169 ⟨f0, f72, _⟩
      have hst := hj169.2
      exact go_yes 72 rfl (f72.trans (congrArg Value.bool (show (decide ((zag n) = (zag n))) = true from (decide_eq_true rfl)))) (op_move (.int .u64 n) (f0.trans rfl) (kS hj169 rfl))
    · rintro ρ170 w171 hj172 ⟨f73, f72, _⟩
      have hst := hj172.2
      refine go_yes 72 rfl (f72.trans (congrArg Value.bool (show (decide ((zag n) = (zag n))) = true from (decide_eq_true rfl)))) (op_call Try.call28 (evs_cons (v := (.int .u64 n)) f73 evs_nil) (c_Size (w0 := w171) (n := n) (h0 := (by omega)) (h1 := (by omega))) ?_)
      rintro _ w173 ⟨rfl, hcall⟩
      refine ⟨_, rfl, ?_⟩
      exact kD hj172 hcall rfl
    · rintro ρ174 w175 hj176 ⟨f0, f72, _⟩
      have hst := hj176.2
      exact go_yes 72 rfl (f72.trans (congrArg Value.bool (show (decide ((zag n) = (zag n))) = true from (decide_eq_true rfl)))) (op_move (.int .u64 n) (f0.trans rfl) (kS hj176 rfl))
    · rintro ρ177 w178 hj179 ⟨f75, f72, _⟩
      have hst := hj179.2
      refine go_yes 72 rfl (f72.trans (congrArg Value.bool (show (decide ((zag n) = (zag n))) = true from (decide_eq_true rfl)))) (op_call Try.call23 (evs_cons (v := (.int .u64 n)) f75 evs_nil) (c_rPut (w0 := w178) (n := n) (h0 := (by omega)) (h1 := (by omega))) ?_)
      rintro _ w180 ⟨rfl, hcall⟩
      refine ⟨_, rfl, ?_⟩
      exact kD hj179 hcall rfl
    · rintro ρ181 w182 hj183 ⟨f76, f72, _⟩
      have hst := hj183.2
      exact go_yes 72 rfl (f72.trans (congrArg Value.bool (show (decide ((zag n) = (zag n))) = true from (decide_eq_true rfl)))) (op_lenL Try.underlying9 (s := (put n)) f76 (kS hj183 rfl))
    · rintro ρ184 w185 hj186 ⟨f74, f77, f72, _⟩
      have hst := hj186.2
      exact go_yes 72 rfl (f72.trans (congrArg Value.bool (show (decide ((zag n) = (zag n))) = true from (decide_eq_true rfl)))) (op_eql (k := .i64) (a := ((put n).length : Int)) (b := ((put n).length : Int)) f74 f77 (kS hj186 rfl))
    · rintro ρ187 w188 hj189 ⟨f72, f78, _⟩
      have hst := hj189.2
      exact go_plain (op_pick_t (.bool (decide (((put n).length : Int) = ((put n).length : Int)))) (f72.trans (congrArg Value.bool (show (decide ((zag n) = (zag n))) = true from (decide_eq_true rfl)))) f78 (kS hj189 rfl))
    · rintro ρ190 w191 hj192 ⟨f79, _⟩
      have hst := hj192.2
      exact go_plain (op_assign (.bool (decide (((put n).length : Int) = ((put n).length : Int)))) f79 (kS hj192 rfl))
    · intro ρ193 w194 hbw194 hst hRw194 hkw194
      have uw194_2 : ρ193 2 = v_b := (hkw194 2 rfl).trans rfl
      have uw194_3 : ρ193 3 = (.int .i64 at_) := (hkw194 3 rfl).trans rfl
      have uw194_15 : ρ193 15 = v_b := (hkw194 15 rfl).trans rfl
      have uw194_16 : ρ193 16 = (.int .i64 (b.length : Int)) := (hkw194 16 rfl).trans rfl
      have uw194_17 : ρ193 17 = (.bool (decide (40 < (b.length : Int)))) := (hkw194 17 rfl).trans rfl
      have uw194_20 : ρ193 20 = v_b := (hkw194 20 rfl).trans rfl
      have uw194_21 : ρ193 21 = (.int .i64 at_) := (hkw194 21 rfl).trans rfl
      have uw194_22 : ρ193 22 = (.tuple #[(.int .u64 ((get b at_).1)), (.int .i64 ((get b at_).2.1)), (.int .i64 ((get b at_).2.2))]) := (hkw194 22 rfl).trans rfl
      have uw194_19 : ρ193 19 = (.tuple #[(.int .u64 ((get b at_).1)), (.int .i64 ((get b at_).2.1)), (.int .i64 ((get b at_).2.2))]) := (hkw194 19 rfl).trans rfl
      have uw194_23 : ρ193 23 = (.int .u64 ((get b at_).1)) := (hkw194 23 rfl).trans rfl
      have uw194_24 : ρ193 24 = (.int .i64 ((get b at_).2.1)) := (hkw194 24 rfl).trans rfl
      have uw194_25 : ρ193 25 = (.int .i64 ((get b at_).2.2)) := (hkw194 25 rfl).trans rfl
      have uw194_27 : ρ193 27 = v_b := (hkw194 27 rfl).trans rfl
      have uw194_28 : ρ193 28 = (.string (str b)) := (hkw194 28 rfl).trans rfl
      have uw194_29 : ρ193 29 = (.int .i64 at_) := (hkw194 29 rfl).trans rfl
      have uw194_30 : ρ193 30 = (.tuple #[(.int .u64 ((get b at_).1)), (.int .i64 ((get b at_).2.1)), (.int .i64 ((get b at_).2.2))]) := (hkw194 30 rfl).trans rfl
      have uw194_26 : ρ193 26 = (.tuple #[(.int .u64 ((get b at_).1)), (.int .i64 ((get b at_).2.1)), (.int .i64 ((get b at_).2.2))]) := (hkw194 26 rfl).trans rfl
      have uw194_31 : ρ193 31 = (.int .u64 ((get b at_).1)) := (hkw194 31 rfl).trans rfl
      have uw194_32 : ρ193 32 = (.int .i64 ((get b at_).2.1)) := (hkw194 32 rfl).trans rfl
      have uw194_33 : ρ193 33 = (.int .i64 ((get b at_).2.2)) := (hkw194 33 rfl).trans rfl
      have uw194_8 : ρ193 8 = (.bool (decide (((put n).length : Int) = ((put n).length : Int)))) := hRw194 46 8 rfl
      refine then_n ?_
      refine cE_ret ?_
      refine post_r _ (res1 (v := (.bool true)) (uw194_8.trans (congrArg Value.bool (show (decide (((put n).length : Int) = ((put n).length : Int))) = true from (decide_eq_true rfl))))) ?_
      exact ⟨rfl, hst.bare⟩

theorem c_VaryZigs (w0 : World) (m : Int) (n : Int) (i0 : -9223372036854775808 ≤ m) (i1 : m ≤ 9223372036854775807) (h0 : 0 ≤ n) (h1 : n ≤ 18446744073709551615) :
    Calls Try.prog 12 #[(.int .i64 m), (.int .u64 n)] w0 fun e w' => e = .returned (.bool true) ∧ St w0 w' [] := by
  have hz := zig_cases m
  have hy := zag_cases n
  refine calls_E (n := 46) (ts := [4]) Try.func12 rfl rfl rfl (by simp) ?_
  have hst := St.start w0
  refine cE_seq ?_
  refine cE_region rfl ?_
  refine s_cons (op_assign (.bool false) rfl ?_)
  refine s_nil ?_
  refine then_n ?_
  refine cE_seq ?_
  refine cE_region rfl ?_
  refine s_cons (op_move (.int .i64 m) rfl ?_)
  refine s_cons (op_call Try.call24 (evs_cons (v := (.int .i64 m)) rfl evs_nil) (c_Zig (w0 := w0) (m := m) (h0 := (by omega)) (h1 := (by omega))) ?_)
  rintro _ w195 ⟨rfl, hcall⟩
  refine ⟨_, rfl, ?_⟩
  have hst : St w0 w195 [] := hst.call hcall
  refine s_cons (op_assign (.int .u64 (zig m)) rfl ?_)
  refine s_nil ?_
  refine then_n ?_
  refine cE_seq ?_
  refine cE_region rfl ?_
  refine s_cons (op_call Try.call20 evs_nil (c_told1 (w0 := w195)) ?_)
  rintro _ w196 ⟨rfl, hcall⟩
  refine ⟨_, rfl, ?_⟩
  have hst : St w0 w196 [] := hst.call hcall
  refine s_cons (op_move (.bool true) rfl ?_)
  refine s_yes 9 rfl rfl (op_move (.int .u64 (zig m)) rfl ?_)
  refine s_yes 9 rfl rfl (op_call Try.call26 (evs_cons (v := (.int .u64 (zig m))) rfl evs_nil) (c_Zag (w0 := w196) (n := (zig m)) (h0 := (by omega)) (h1 := (by omega))) ?_)
  rintro _ w197 ⟨rfl, hcall⟩
  refine ⟨_, rfl, ?_⟩
  have hst : St w0 w197 [] := hst.call hcall
  refine s_yes 9 rfl rfl (op_move (.int .i64 m) rfl ?_)
  refine s_yes 9 rfl rfl (op_eql (k := .i64) (a := (zag (zig m))) (b := m) rfl rfl ?_)
  refine s_cons (op_pick_t (.bool (decide ((zag (zig m)) = m))) rfl rfl ?_)
  refine s_cons (op_move (.bool (decide ((zag (zig m)) = m))) rfl ?_)
  refine s_yes 15 rfl (congrArg Value.bool (show (decide ((zag (zig m)) = m)) = true from (decide_eq_true (zag_zig m)))) (op_move (.int .u64 n) rfl ?_)
  refine s_yes 15 rfl (congrArg Value.bool (show (decide ((zag (zig m)) = m)) = true from (decide_eq_true (zag_zig m)))) (op_call Try.call26 (evs_cons (v := (.int .u64 n)) rfl evs_nil) (c_Zag (w0 := w197) (n := n) (h0 := (by omega)) (h1 := (by omega))) ?_)
  rintro _ w198 ⟨rfl, hcall⟩
  refine ⟨_, rfl, ?_⟩
  have hst : St w0 w198 [] := hst.call hcall
  refine s_yes 15 rfl (congrArg Value.bool (show (decide ((zag (zig m)) = m)) = true from (decide_eq_true (zag_zig m)))) (op_call Try.call24 (evs_cons (v := (.int .i64 (zag n))) rfl evs_nil) (c_Zig (w0 := w198) (m := (zag n)) (h0 := (by omega)) (h1 := (by omega))) ?_)
  rintro _ w199 ⟨rfl, hcall⟩
  refine ⟨_, rfl, ?_⟩
  have hst : St w0 w199 [] := hst.call hcall
  refine s_yes 15 rfl (congrArg Value.bool (show (decide ((zag (zig m)) = m)) = true from (decide_eq_true (zag_zig m)))) (op_move (.int .u64 n) rfl ?_)
  refine s_yes 15 rfl (congrArg Value.bool (show (decide ((zag (zig m)) = m)) = true from (decide_eq_true (zag_zig m)))) (op_eql (k := .u64) (a := (zig (zag n))) (b := n) rfl rfl ?_)
  refine s_cons (op_pick_t (.bool (decide ((zig (zag n)) = n))) (congrArg Value.bool (show (decide ((zag (zig m)) = m)) = true from (decide_eq_true (zag_zig m)))) rfl ?_)
  refine s_cons (op_move (.bool (decide ((zig (zag n)) = n))) rfl ?_)
  refine s_yes 22 rfl (congrArg Value.bool (show (decide ((zig (zag n)) = n)) = true from (decide_eq_true (zig_zag h0)))) (op_move (.int .u64 (zig m)) rfl ?_)
  refine s_yes 22 rfl (congrArg Value.bool (show (decide ((zig (zag n)) = n)) = true from (decide_eq_true (zig_zag h0)))) (op_and (k := .u64) (a := (zig m)) (b := 1) ((zig m) % 2) rfl rfl (and1w (by omega) (by omega)) ?_)
  refine s_yes 22 rfl (congrArg Value.bool (show (decide ((zig (zag n)) = n)) = true from (decide_eq_true (zig_zag h0)))) (op_eql (k := .u64) (a := ((zig m) % 2)) (b := 1) rfl rfl ?_)
  refine s_yes 22 rfl (congrArg Value.bool (show (decide ((zig (zag n)) = n)) = true from (decide_eq_true (zig_zag h0)))) (op_move (.int .i64 m) rfl ?_)
  refine s_yes 22 rfl (congrArg Value.bool (show (decide ((zig (zag n)) = n)) = true from (decide_eq_true (zig_zag h0)))) (op_lss (k := .i64) (a := m) (b := 0) rfl rfl ?_)
  refine s_yes 22 rfl (congrArg Value.bool (show (decide ((zig (zag n)) = n)) = true from (decide_eq_true (zig_zag h0)))) (op_eqlb (a := decide (((zig m) % 2) = 1)) (b := decide (m < 0)) Try.underlying4 rfl rfl ?_)
  refine s_cons (op_pick_t (.bool ((decide (((zig m) % 2) = 1)) == (decide (m < 0)))) (congrArg Value.bool (show (decide ((zig (zag n)) = n)) = true from (decide_eq_true (zig_zag h0)))) rfl ?_)
  refine s_cons (op_move (.bool ((decide (((zig m) % 2) = 1)) == (decide (m < 0)))) rfl ?_)
  refine s_yes 30 rfl (congrArg Value.bool (show ((decide (((zig m) % 2) = 1)) == (decide (m < 0))) = true from (zig_odd m))) (op_move (.int .i64 m) rfl ?_)
  refine s_yes 30 rfl (congrArg Value.bool (show ((decide (((zig m) % 2) = 1)) == (decide (m < 0))) = true from (zig_odd m))) (op_lss (k := .i64) (a := m) (b := 0) rfl rfl ?_)
  refine s_yes 30 rfl (congrArg Value.bool (show ((decide (((zig m) % 2) = 1)) == (decide (m < 0))) = true from (zig_odd m))) (op_move (.bool (decide (m < 0))) rfl ?_)
  rcases Bool.eq_false_or_eq_true (decide (m < 0)) with b200 | b200
  · have c201 : m < 0 := of_decide_eq_true b200
    refine s_no 33 rfl (congrArg Value.bool b200) ?_
    refine s_no 33 rfl (congrArg Value.bool b200) ?_
    refine s_yes 30 rfl (congrArg Value.bool (show ((decide (((zig m) % 2) = 1)) == (decide (m < 0))) = true from (zig_odd m))) (op_pick_t (.bool true) (congrArg Value.bool b200) rfl ?_)
    refine s_yes 30 rfl (congrArg Value.bool (show ((decide (((zig m) % 2) = 1)) == (decide (m < 0))) = true from (zig_odd m))) (op_move (.bool true) rfl ?_)
    refine s_no 37 rfl rfl ?_
    refine s_no 37 rfl rfl ?_
    refine s_no 37 rfl rfl ?_
    refine s_no 37 rfl rfl ?_
    refine s_no 37 rfl rfl ?_
    refine s_no 37 rfl rfl ?_
    refine s_yes 30 rfl (congrArg Value.bool (show ((decide (((zig m) % 2) = 1)) == (decide (m < 0))) = true from (zig_odd m))) (op_pick_t (.bool true) rfl rfl ?_)
    refine s_cons (op_pick_t (.bool true) (congrArg Value.bool (show ((decide (((zig m) % 2) = 1)) == (decide (m < 0))) = true from (zig_odd m))) rfl ?_)
    refine s_cons (op_assign (.bool true) rfl ?_)
    refine s_nil ?_
    refine then_n ?_
    refine cE_ret ?_
    refine post_r _ (res1 (v := (.bool true)) rfl) ?_
    exact ⟨rfl, hst.bare⟩
  · have c202 : ¬ (m < 0) := of_decide_eq_false b200
    refine s_yes 33 rfl (congrArg Value.bool b200) (op_move (.int .i64 m) rfl ?_)
    refine s_yes 33 rfl (congrArg Value.bool b200) (op_eql (k := .i64) (a := m) (b := 9223372036854775807) rfl rfl ?_)
    refine s_yes 30 rfl (congrArg Value.bool (show ((decide (((zig m) % 2) = 1)) == (decide (m < 0))) = true from (zig_odd m))) (op_pick_f (.bool (decide (m = 9223372036854775807))) (congrArg Value.bool b200) rfl ?_)
    refine s_yes 30 rfl (congrArg Value.bool (show ((decide (((zig m) % 2) = 1)) == (decide (m < 0))) = true from (zig_odd m))) (op_move (.bool (decide (m = 9223372036854775807))) rfl ?_)
    rcases Bool.eq_false_or_eq_true (decide (m = 9223372036854775807)) with b203 | b203
    · have c204 : m = 9223372036854775807 := of_decide_eq_true b203
      refine s_no 37 rfl (congrArg Value.bool b203) ?_
      refine s_no 37 rfl (congrArg Value.bool b203) ?_
      refine s_no 37 rfl (congrArg Value.bool b203) ?_
      refine s_no 37 rfl (congrArg Value.bool b203) ?_
      refine s_no 37 rfl (congrArg Value.bool b203) ?_
      refine s_no 37 rfl (congrArg Value.bool b203) ?_
      refine s_yes 30 rfl (congrArg Value.bool (show ((decide (((zig m) % 2) = 1)) == (decide (m < 0))) = true from (zig_odd m))) (op_pick_t (.bool true) (congrArg Value.bool b203) rfl ?_)
      refine s_cons (op_pick_t (.bool true) (congrArg Value.bool (show ((decide (((zig m) % 2) = 1)) == (decide (m < 0))) = true from (zig_odd m))) rfl ?_)
      refine s_cons (op_assign (.bool true) rfl ?_)
      refine s_nil ?_
      refine then_n ?_
      refine cE_ret ?_
      refine post_r _ (res1 (v := (.bool true)) rfl) ?_
      exact ⟨rfl, hst.bare⟩
    · have c205 : ¬ (m = 9223372036854775807) := of_decide_eq_false b203
      refine s_yes 37 rfl (congrArg Value.bool b203) (op_move (.int .i64 m) rfl ?_)
      refine s_yes 37 rfl (congrArg Value.bool b203) (op_add (k := .i64) (a := m) (b := 1) (m + 1) rfl rfl (xi64 (by omega) (by omega)) ?_)
      refine s_yes 37 rfl (congrArg Value.bool b203) (op_call Try.call24 (evs_cons (v := (.int .i64 (m + 1))) rfl evs_nil) (c_Zig (w0 := w199) (m := (m + 1)) (h0 := (by omega)) (h1 := (by omega))) ?_)
      rintro _ w206 ⟨rfl, hcall⟩
      refine ⟨_, rfl, ?_⟩
      have hst : St w0 w206 [] := hst.call hcall
      refine s_yes 37 rfl (congrArg Value.bool b203) (op_move (.int .u64 (zig m)) rfl ?_)
      refine s_yes 37 rfl (congrArg Value.bool b203) (op_add (k := .u64) (a := (zig m)) (b := 2) ((zig m) + 2) rfl rfl (xu64 (by omega) (by omega)) ?_)
      refine s_yes 37 rfl (congrArg Value.bool b203) (op_eql (k := .u64) (a := (zig (m + 1))) (b := ((zig m) + 2)) rfl rfl ?_)
      refine s_yes 30 rfl (congrArg Value.bool (show ((decide (((zig m) % 2) = 1)) == (decide (m < 0))) = true from (zig_odd m))) (op_pick_f (.bool (decide ((zig (m + 1)) = ((zig m) + 2)))) (congrArg Value.bool b203) rfl ?_)
      refine s_cons (op_pick_t (.bool (decide ((zig (m + 1)) = ((zig m) + 2)))) (congrArg Value.bool (show ((decide (((zig m) % 2) = 1)) == (decide (m < 0))) = true from (zig_odd m))) rfl ?_)
      refine s_cons (op_assign (.bool (decide ((zig (m + 1)) = ((zig m) + 2)))) rfl ?_)
      refine s_nil ?_
      refine then_n ?_
      refine cE_ret ?_
      refine post_r _ (res1 (v := (.bool true)) (congrArg Value.bool (show (decide ((zig (m + 1)) = ((zig m) + 2))) = true from (decide_eq_true (zig_next (by omega)))))) ?_
      exact ⟨rfl, hst.bare⟩

end Go.Proofs.Ytealhahaeiibjaa
