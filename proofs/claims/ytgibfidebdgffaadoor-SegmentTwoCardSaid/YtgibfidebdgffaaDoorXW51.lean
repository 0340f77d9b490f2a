/- strconv.small, strconv.FormatInt, strconv.Itoa, strconv.Itoa, segment.Name, segment.low -/
import Derived.Test.YtgibfidebdgffaaDoorXLB
import Derived.Test.YtgibfidebdgffaaDoorXT
namespace Go.Proofs.YtgibfidebdgffaaDoor
open Go.RowKit

set_option maxRecDepth 8000 in
theorem c_small (w0 : World) (n : Int) (hn : n = 3) :
  Calls Tryd.prog 55 #[(iV n)] w0 fun e w' => e = .returned (.string (str ([51]))) ∧ St w0 w' [] := by
 refine calls_E (n := 15) (ts := [2]) Tryd.func55 rfl rfl rfl (by simp) ?_
 have hst := St.start w0
 refine cE_seq (cE_region rfl (s_cons (op_assign (.string (str ([] : List UInt8))) rfl (s_nil (then_n (cE_seq (cE_seq (cE_region rfl (s_cons (op_move (iV n) rfl (s_cons (op_lss (k := .i64) (a := n) (b := 10) rfl rfl (s_nil (then_n (cE_cond true (congrArg Value.bool (show (decide (n < 10)) = true from (decide_eq_true (by omega)))) (fun _ => ?_) (fun h => by cases h))))))))))))))))
 refine cE_seq (cE_region rfl (s_cons (op_move (iV n) rfl (s_cons (op_move (iV n) rfl (s_cons (op_add (k := .i64) (a := n) (b := 1) (n + 1) rfl rfl (xi64 (by omega) (by omega)) (s_cons (op_sliceStr (s := [48, 49, 50, 51, 52, 53, 54, 55, 56, 57, 97, 98, 99, 100, 101, 102, 103, 104, 105, 106, 107, 108, 109, 110, 111, 112, 113, 114, 115, 116, 117, 118, 119, 120, 121, 122]) (Int.toNat n) (Int.toNat (n + 1)) Tryd.underlying9 rfl rfl rfl (by omega) (by omega) (by first | omega | (subst hn; decide)) (by first | omega | (subst hn; decide)) ?_)))))))))
 refine s_cons (op_assign (.string (str ((([48, 49, 50, 51, 52, 53, 54, 55, 56, 57, 97, 98, 99, 100, 101, 102, 103, 104, 105, 106, 107, 108, 109, 110, 111, 112, 113, 114, 115, 116, 117, 118, 119, 120, 121, 122]).take (Int.toNat (n + 1))).drop (Int.toNat n)))) rfl (s_nil (then_n (cE_ret (then_r (post_r _ (res1 (v := (.string (str ((([48, 49, 50, 51, 52, 53, 54, 55, 56, 57, 97, 98, 99, 100, 101, 102, 103, 104, 105, 106, 107, 108, 109, 110, 111, 112, 113, 114, 115, 116, 117, 118, 119, 120, 121, 122]).take (Int.toNat (n + 1))).drop (Int.toNat n))))) rfl) ?_))))))
 exact ⟨(retv1 (congrArg (fun l => Value.string (str l)) (show ((([48, 49, 50, 51, 52, 53, 54, 55, 56, 57, 97, 98, 99, 100, 101, 102, 103, 104, 105, 106, 107, 108, 109, 110, 111, 112, 113, 114, 115, 116, 117, 118, 119, 120, 121, 122]).take (Int.toNat (n + 1))).drop (Int.toNat n)) = [51] from by (subst hn; rfl)))), hst.bare⟩

set_option maxRecDepth 8000 in
theorem c_fmt (w0 : World) (n : Int) (base : Int) (hn : n = 3) (hb : base = 10) :
  Calls Tryd.prog 54 #[(iV n), (iV base)] w0 fun e w' => e = .returned (.string (str ([51]))) ∧ St w0 w' [] := by
 refine calls_E (n := 54) (ts := [4]) Tryd.func54 rfl rfl rfl (by simp) ?_
 have hst := St.start w0
 refine cE_seq (cE_region rfl (s_cons (op_assign (.string (str ([] : List UInt8))) rfl (s_nil (then_n (cE_seq (cE_seq (cE_region rfl (s_cons (op_move (iV base) rfl (s_cons (op_eql (k := .i64) (a := base) (b := 10) rfl rfl (s_nil (then_n (cE_cond true (congrArg Value.bool (show (decide (base = 10)) = true from (decide_eq_true hb))) (fun _ => ?_) (fun h => by cases h))))))))))))))))
 refine cE_seq (cE_seq (cE_region rfl (s_cons (op_move (iV n) rfl (s_cons (op_leq (k := .i64) (a := 0) (b := n) rfl rfl (s_cons (op_move (.bool (decide (0 ≤ n))) rfl (s_yes 14 rfl (congrArg Value.bool (show (decide (0 ≤ n)) = true from (decide_eq_true (by omega)))) (op_move (iV n) rfl (s_yes 14 rfl (congrArg Value.bool (show (decide (0 ≤ n)) = true from (decide_eq_true (by omega)))) (op_lss (k := .i64) (a := n) (b := 100) rfl rfl ?_))))))))))))
 refine s_cons (op_pick_t (.bool (decide (n < 100))) (congrArg Value.bool (show (decide (0 ≤ n)) = true from (decide_eq_true (by omega)))) rfl (s_nil (then_n (cE_cond true (congrArg Value.bool (show (decide (n < 100)) = true from (decide_eq_true (by omega)))) (fun _ => ?_) (fun h => by cases h)))))
 refine cE_seq (cE_region rfl (s_cons (op_move (iV n) rfl (s_cons (op_call Tryd.call55 (evs_cons (v := (iV n)) rfl evs_nil) (c_small (w0 := w0) (n := n) (hn := hn)) ?_)))))
 rintro _ w1 ⟨rfl, hcall⟩
 refine ⟨_, rfl, ?_⟩
 have hst : St w0 w1 [] := hst.call hcall
 refine s_cons (op_assign (.string (str ([51]))) rfl (s_nil (then_n (cE_ret (then_r (then_r (post_r _ (res1 (v := (.string (str ([51])))) rfl) ?_)))))))
 exact ⟨rfl, hst.bare⟩

set_option maxRecDepth 8000 in
theorem c_itoa0 (w0 : World) (n : Int) (hn : n = 3) :
  Calls Tryd.prog 51 #[(iV n)] w0 fun e w' => e = .returned (.string (str ([51]))) ∧ St w0 w' [] := by
 refine calls_E (n := 5) (ts := [2]) Tryd.func51 rfl rfl rfl (by simp) ?_
 have hst := St.start w0
 refine cE_seq (cE_region rfl (s_cons (op_assign (.string (str ([] : List UInt8))) rfl (s_nil (then_n (cE_seq (cE_region rfl (s_cons (op_move (iV n) rfl (s_cons (op_call Tryd.call54 (evs_cons (v := (iV n)) rfl (evs_cons (v := (iV 10)) rfl evs_nil)) (c_fmt (w0 := w0) (n := n) (base := 10) (hn := hn) (hb := rfl)) ?_)))))))))))
 rintro _ w2 ⟨rfl, hcall⟩
 refine ⟨_, rfl, ?_⟩
 have hst : St w0 w2 [] := hst.call hcall
 refine s_cons (op_assign (.string (str ([51]))) rfl (s_nil (then_n (cE_ret (post_r _ (res1 (v := (.string (str ([51])))) rfl) ?_)))))
 exact ⟨rfl, hst.bare⟩

set_option maxRecDepth 8000 in
theorem c_itoa (w0 : World) (n : Int) (hn : n = 3) :
  Calls Tryd.prog 43 #[(iV n)] w0 fun e w' => e = .returned (.string (str ([51]))) ∧ St w0 w' [] := by
 refine calls_E (n := 5) (ts := [2]) Tryd.func43 rfl rfl rfl (by simp) ?_
 have hst := St.start w0
 refine cE_seq (cE_region rfl (s_cons (op_assign (.string (str ([] : List UInt8))) rfl (s_nil (then_n (cE_seq (cE_region rfl (s_cons (op_move (iV n) rfl (s_cons (op_call Tryd.call51 (evs_cons (v := (iV n)) rfl evs_nil) (c_itoa0 (w0 := w0) (n := n) (hn := hn)) ?_)))))))))))
 rintro _ w3 ⟨rfl, hcall⟩
 refine ⟨_, rfl, ?_⟩
 have hst : St w0 w3 [] := hst.call hcall
 refine s_cons (op_assign (.string (str ([51]))) rfl (s_nil (then_n (cE_ret (post_r _ (res1 (v := (.string (str ([51])))) rfl) ?_)))))
 exact ⟨rfl, hst.bare⟩

set_option maxRecDepth 8000 in
theorem c_Name (w0 : World) (n : Int) (hn : n < 1 ∨ n = 3) :
  Calls Tryd.prog 22 #[(iV n)] w0 fun e w' => e = .returned (.string (str (nameG n))) ∧ St w0 w' [] := by
 refine calls_E (n := 8) (ts := [2]) Tryd.func22 rfl rfl rfl (by simp) ?_
 have hst := St.start w0
 refine cE_seq (cE_region rfl (s_cons (op_assign (.string (str ([] : List UInt8))) rfl (s_nil (then_n (cE_seq (cE_seq (cE_region rfl (s_cons (op_move (iV n) rfl (s_cons (op_lss (k := .i64) (a := n) (b := 1) rfl rfl (s_nil (then_n ?_))))))))))))))
 rcases Bool.eq_false_or_eq_true (decide (n < 1)) with b4 | b4
 ·have c5 : n < 1 := of_decide_eq_true b4
  refine cE_cond true (congrArg Value.bool b4) (fun _ => ?_) (fun h => by cases h)
  refine cE_seq (cE_region rfl (s_cons (op_assign (.string (str ([] : List UInt8))) rfl (s_nil (then_n (cE_ret (then_r (post_r _ (res1 (v := (.string (str ([] : List UInt8)))) rfl) ?_))))))))
  exact ⟨(retv1 (congrArg (fun l => Value.string (str l)) (show ([] : List UInt8) = (nameG n) from by (first | exact (nameG_no (by omega)).symm | exact (nameG_yes (by omega)).symm)))), hst.bare⟩
 have c6 : ¬ (n < 1) := of_decide_eq_false b4
 refine cE_cond false (congrArg Value.bool b4) (fun h => by cases h) (fun _ => ?_)
 refine cE_skip (then_n (cE_seq (cE_region rfl (s_cons (op_move (iV n) rfl (s_cons (op_call Tryd.call43 (evs_cons (v := (iV n)) rfl evs_nil) (c_itoa (w0 := w0) (n := n) (hn := (by omega))) ?_)))))))
 rintro _ w7 ⟨rfl, hcall⟩
 refine ⟨_, rfl, ?_⟩
 have hst : St w0 w7 [] := hst.call hcall
 refine s_cons (op_addStr (a := [115]) (b := [51]) rfl rfl (by decide) (s_cons (op_assign (.string (str (([115]) ++ ([51])))) rfl (s_nil (then_n (cE_ret (post_r _ (res1 (v := (.string (str (([115]) ++ ([51]))))) rfl) ?_)))))))
 exact ⟨(retv1 (congrArg (fun l => Value.string (str l)) (show (([115]) ++ ([51])) = (nameG n) from by (first | exact (nameG_no (by omega)).symm | exact (nameG_yes (by omega)).symm)))), hst.bare⟩

set_option maxRecDepth 8000 in
theorem c_low (w0 : World) (n : Int) (h0 : 0 ≤ n) (h1 : n ≤ 4294967295) :
  Calls Tryd.prog 19 #[(.int .u32 n)] w0 fun e w' => ∃ (r : Value), e = .returned r ∧ St w0 w' [rowT 5 u8E r (four n)] := by
 refine calls_E (n := 15) (ts := [2]) Tryd.func19 rfl rfl rfl (by simp) ?_
 have hst := St.start w0
 refine cE_seq (cE_region rfl (s_cons (op_assign nS rfl (s_nil (then_n (cE_seq (cE_region rfl (s_cons (op_move (.int .u32 n) rfl (s_cons (op_conv (k := .u32) (a := n) (n % 256) Tryd.underlying5 (by rw [Tryd.underlying48]; rfl) rfl (IntKind.wrap_u8 _) (s_cons (op_move (.int .u32 n) rfl (s_cons (op_shr (k := .u32) (k' := .u64) (a := n) (b := 8) (n / 256) rfl rfl (by omega) (by simp [IntKind.bits]; try omega) rfl ?_)))))))))))))))
 refine s_cons (op_conv (k := .u32) (a := (n / 256)) ((n / 256) % 256) Tryd.underlying5 (by rw [Tryd.underlying48]; rfl) rfl (IntKind.wrap_u8 _) (s_cons (op_move (.int .u32 n) rfl (s_cons (op_shr (k := .u32) (k' := .u64) (a := n) (b := 16) (n / 65536) rfl rfl (by omega) (by simp [IntKind.bits]; try omega) rfl (s_cons (op_conv (k := .u32) (a := (n / 65536)) ((n / 65536) % 256) Tryd.underlying5 (by rw [Tryd.underlying48]; rfl) rfl (IntKind.wrap_u8 _) ?_)))))))
 refine s_cons (op_move (.int .u32 n) rfl (s_cons (op_shr (k := .u32) (k' := .u64) (a := n) (b := 24) (n / 16777216) rfl rfl (by omega) (by simp [IntKind.bits]; try omega) rfl (s_cons (op_conv (k := .u32) (a := (n / 16777216)) ((n / 16777216) % 256) Tryd.underlying5 (by rw [Tryd.underlying48]; rfl) rfl (IntKind.wrap_u8 _) (s_cons (op_buildSlice (E := u8E) [(byt (n % 256)), (byt ((n / 256) % 256)), (byt ((n / 65536) % 256)), (byt ((n / 16777216) % 256))] hst Tryd.underlying29 Tryd.sizeOf5 Tryd.zeroValue5 (evp_cons (v := (.int .u8 (n % 256))) rfl (evp_cons (v := (.int .u8 ((n / 256) % 256))) rfl (evp_cons (v := (.int .u8 ((n / 65536) % 256))) rfl (evp_cons (v := (.int .u8 ((n / 16777216) % 256))) rfl evp_nil)))) (parts_cons (by rw [u8cell]; exact byt_cell (by omega) (by omega)) (parts_cons (by rw [u8cell]; exact byt_cell (by omega) (by omega)) (parts_cons (by rw [u8cell]; exact byt_cell (by omega) (by omega)) (parts_cons (by rw [u8cell]; exact byt_cell (by omega) (by omega)) parts_nil)))) rfl (by decide) (fun v8 w9 hst => ?_))))))))
 replace hst : St w0 w9 [rowT 5 u8E v8 ([(byt (n % 256)), (byt ((n / 256) % 256)), (byt ((n / 65536) % 256)), (byt ((n / 16777216) % 256))])] := hst
 refine s_cons (op_assign v8 rfl (s_nil (then_n (cE_ret (post_r _ (res1 (v := v8) rfl) ?_)))))
 have e10 : [(byt (n % 256)), (byt ((n / 256) % 256)), (byt ((n / 65536) % 256)), (byt ((n / 16777216) % 256))] = (four n) := by rfl
 replace hst : St w0 w9 [rowT 5 u8E v8 (four n)] := by rw [congrArg (fun l => rowT 5 u8E v8 l) e10] at hst; exact hst
 exact ⟨v8, rfl, hst.sub (.cons_cons _ .slnil)⟩

end Go.Proofs.YtgibfidebdgffaaDoor
