/- the law FoldParts -/
import Derived.Test.YtffnhcioponbbaaW2
namespace Go.Proofs.Ytffnhcioponbbaa
open Go.RowKit

theorem c_FoldParts (w0 : World) (v_l : Value) (l : List Sample) (h_l : Sl w0 sampE v_l l) (cut : Int) (hl : ∀ s ∈ l, s.ok) (cut0 : -9223372036854775808 ≤ cut) (cut1 : cut ≤ 9223372036854775807) :
    Calls Try.prog 3 #[v_l, (.int .i64 cut)] w0 fun e w' => e = .returned (.bool true) ∧ St w0 w' [] := by
  refine calls_E (n := 102) (ts := [4]) Try.func3 rfl rfl rfl (by simp) ?_
  have hst := St.start w0
  refine cE_seq ?_
  refine cE_region rfl ?_
  refine s_cons (op_assign (.bool false) rfl ?_)
  refine s_nil ?_
  refine then_n ?_
  refine cE_seq ?_
  refine cE_seq ?_
  refine cE_region rfl ?_
  refine s_cons (op_move v_l rfl ?_)
  refine s_cons (op_len (E := sampE) (xs := l) Try.underlying22 rfl h_l ?_)
  refine s_cons (op_lss (k := .i64) (a := (l.length : Int)) (b := 2) rfl rfl ?_)
  refine s_cons (op_move (.bool (decide ((l.length : Int) < 2))) rfl ?_)
  rcases Bool.eq_false_or_eq_true (decide ((l.length : Int) < 2)) with b1 | b1
  · have c2 : (l.length : Int) < 2 := of_decide_eq_true b1
    refine s_no 17 rfl (congrArg Value.bool b1) ?_
    refine s_no 17 rfl (congrArg Value.bool b1) ?_
    refine s_no 17 rfl (congrArg Value.bool b1) ?_
    refine s_cons (op_pick_t (.bool true) (congrArg Value.bool b1) rfl ?_)
    refine s_nil ?_
    refine then_n ?_
    refine cE_cond true rfl (fun _ => ?_) (fun h => by cases h)
    refine cE_seq ?_
    refine cE_region rfl ?_
    refine s_cons (op_call Try.call14 evs_nil (c_told3 (w0 := w0)) ?_)
    rintro _ w3 ⟨rfl, hcall⟩
    refine ⟨_, rfl, ?_⟩
    have hst : St w0 w3 [] := hst.call hcall
    refine s_cons (op_assign (.bool true) rfl ?_)
    refine s_nil ?_
    refine then_n ?_
    refine cE_ret ?_
    refine then_r ?_
    refine post_r _ (res1 (v := (.bool true)) rfl) ?_
    exact ⟨rfl, hst.bare⟩
  · have c4 : ¬ ((l.length : Int) < 2) := of_decide_eq_false b1
    refine s_yes 17 rfl (congrArg Value.bool b1) (op_move v_l rfl ?_)
    refine s_yes 17 rfl (congrArg Value.bool b1) (op_len (E := sampE) (xs := l) Try.underlying22 rfl h_l ?_)
    refine s_yes 17 rfl (congrArg Value.bool b1) (op_gtr (k := .i64) (a := (l.length : Int)) (b := 60) rfl rfl ?_)
    refine s_cons (op_pick_f (.bool (decide (60 < (l.length : Int)))) (congrArg Value.bool b1) rfl ?_)
    refine s_nil ?_
    refine then_n ?_
    rcases Bool.eq_false_or_eq_true (decide (60 < (l.length : Int))) with b5 | b5
    · have c6 : 60 < (l.length : Int) := of_decide_eq_true b5
      refine cE_cond true (congrArg Value.bool b5) (fun _ => ?_) (fun h => by cases h)
      refine cE_seq ?_
      refine cE_region rfl ?_
      refine s_cons (op_call Try.call14 evs_nil (c_told3 (w0 := w0)) ?_)
      rintro _ w7 ⟨rfl, hcall⟩
      refine ⟨_, rfl, ?_⟩
      have hst : St w0 w7 [] := hst.call hcall
      refine s_cons (op_assign (.bool true) rfl ?_)
      refine s_nil ?_
      refine then_n ?_
      refine cE_ret ?_
      refine then_r ?_
      refine post_r _ (res1 (v := (.bool true)) rfl) ?_
      exact ⟨rfl, hst.bare⟩
    · have c8 : ¬ (60 < (l.length : Int)) := of_decide_eq_false b5
      refine cE_cond false (congrArg Value.bool b5) (fun h => by cases h) (fun _ => ?_)
      refine cE_skip ?_
      refine then_n ?_
      refine cE_seq ?_
      refine cE_region rfl ?_
      refine s_cons (op_move (.int .i64 cut) rfl ?_)
      refine s_cons (op_conv (k := .i64) (a := cut) (cut % 18446744073709551616) Try.underlying24 (by rw [Try.underlying3]; rfl) rfl (IntKind.wrap_u64 _) ?_)
      refine s_cons (op_move v_l rfl ?_)
      refine s_cons (op_len (E := sampE) (xs := l) Try.underlying22 rfl h_l ?_)
      refine s_cons (op_sub (k := .i64) (a := (l.length : Int)) (b := 1) ((l.length : Int) - 1) rfl rfl (xi64 (by omega) (by omega)) ?_)
      refine s_cons (op_conv (k := .i64) (a := ((l.length : Int) - 1)) ((l.length : Int) - 1) Try.underlying24 (by rw [Try.underlying3]; rfl) rfl (xu64 (by omega) (by omega)) ?_)
      obtain ⟨k, hk, hkl⟩ := rem_nat (a := (cut % 18446744073709551616)) (b := ((l.length : Int) - 1)) (by omega) (by omega)
      refine s_cons (op_rem (k := .u64) (a := (cut % 18446744073709551616)) (b := ((l.length : Int) - 1)) (k : Int) rfl rfl (by omega) hk ?_)
      refine s_cons (op_conv (k := .u64) (a := (k : Int)) (k : Int) Try.underlying3 (by rw [Try.underlying24]; rfl) rfl (xi64 (by omega) (by omega)) ?_)
      refine s_cons (op_add (k := .i64) (a := 1) (b := (k : Int)) ((k + 1 : Nat) : Int) rfl rfl (by rw [show (1 : Int) + (k : Int) = ((k + 1 : Nat) : Int) from by omega]; exact xi64 (by omega) (by omega)) ?_)
      refine s_cons (op_assign (.int .i64 ((k + 1 : Nat) : Int)) rfl ?_)
      refine s_nil ?_
      refine then_n ?_
      refine cE_seq ?_
      have q1 := all_code (fr := 7) (by decide) (by decide) (l := l.take (k + 1)) (by rw [List.length_take]; omega) (by rw [List.length_take]; omega)
      have q2 := all_code (fr := 9) (by decide) (by decide) (l := l.drop (k + 1)) (by rw [List.length_drop]; omega) (by rw [List.length_drop]; omega)
      have q3 := all_code (fr := 7) (by decide) (by decide) (l := l) (by omega) (by omega)
      have o1 := allA_ok (fr := 7) (by decide) (l := l.take (k + 1)) (fun s h => hl s (List.mem_of_mem_take h))
      have o2 := allA_ok (fr := 9) (by decide) (l := l.drop (k + 1)) (fun s h => hl s (List.mem_of_mem_drop h))
      refine cE_region rfl ?_
      refine s_cons (op_move v_l rfl ?_)
      refine s_cons (op_move (.int .i64 ((k + 1 : Nat) : Int)) rfl ?_)
      refine s_cons (op_slice_toN (k + 1 : Nat) (E := sampE) (xs := l) Try.underlying22 Try.sizeOf32 rfl h_l rfl (by omega) (by omega) (fun v9 hs10 => ?_))
      refine s_cons (op_call Try.call15 (evs_cons (v := v9) rfl (evs_cons (v := (.int .i64 7)) rfl evs_nil)) (c_All (w0 := w0) (v_l := v9) (l := (l.take (k + 1 : Nat))) (h_l := (hs10.below hst.below)) (fr := 7) (hl := (by first | exact hl | exact fun s h => hl s (List.mem_of_mem_take h) | exact fun s h => hl s (List.mem_of_mem_drop h))) (fr0 := (by omega)) (fr1 := (by omega)) (hn := (by first | omega | (simp only [List.length_take, List.length_drop]; omega)))) ?_)
      rintro _ w11 ⟨rfl, hcall⟩
      refine ⟨_, rfl, ?_⟩
      have hst : St w0 w11 [] := hst.call hcall
      refine s_cons (op_move (.tuple #[(.agg #[(.int .i64 (((allA (l.take (k + 1 : Nat)) 7).1).From)), (.int .i64 (((allA (l.take (k + 1 : Nat)) 7).1).Count)), (.int .i64 (((allA (l.take (k + 1 : Nat)) 7).1).Sum)), (.int .i64 (((allA (l.take (k + 1 : Nat)) 7).1).Min)), (.int .i64 (((allA (l.take (k + 1 : Nat)) 7).1).Max)), (.int .i64 (((allA (l.take (k + 1 : Nat)) 7).1).First)), (.int .i64 (((allA (l.take (k + 1 : Nat)) 7).1).Last))]), (.int .i64 ((allA (l.take (k + 1 : Nat)) 7).2))]) rfl ?_)
      refine s_cons (op_extract (.agg #[(.int .i64 (((allA (l.take (k + 1 : Nat)) 7).1).From)), (.int .i64 (((allA (l.take (k + 1 : Nat)) 7).1).Count)), (.int .i64 (((allA (l.take (k + 1 : Nat)) 7).1).Sum)), (.int .i64 (((allA (l.take (k + 1 : Nat)) 7).1).Min)), (.int .i64 (((allA (l.take (k + 1 : Nat)) 7).1).Max)), (.int .i64 (((allA (l.take (k + 1 : Nat)) 7).1).First)), (.int .i64 (((allA (l.take (k + 1 : Nat)) 7).1).Last))]) rfl rfl ?_)
      refine s_cons (op_extract (.int .i64 ((allA (l.take (k + 1 : Nat)) 7).2)) rfl rfl ?_)
      refine s_cons (op_alloc (cs := #[(.int .i64 0), (.int .i64 0), (.int .i64 0), (.int .i64 0), (.int .i64 0), (.int .i64 0), (.int .i64 0)]) hst Try.zeroValue26 rfl (fun g12 w13 hst _ => ?_))
      replace hst : St w0 w13 [.blk g12 26 #[(.int .i64 0), (.int .i64 0), (.int .i64 0), (.int .i64 0), (.int .i64 0), (.int .i64 0), (.int .i64 0)]] := hst
      refine s_cons0 (op_storeAll hst 0 rfl Try.sizeOf26 rfl rfl rfl rfl (by simp [Value.oneCell']) (fun w14 hst => ?_))
      replace hst : St w0 w14 [.blk g12 26 #[(.int .i64 (((allA (l.take (k + 1 : Nat)) 7).1).From)), (.int .i64 (((allA (l.take (k + 1 : Nat)) 7).1).Count)), (.int .i64 (((allA (l.take (k + 1 : Nat)) 7).1).Sum)), (.int .i64 (((allA (l.take (k + 1 : Nat)) 7).1).Min)), (.int .i64 (((allA (l.take (k + 1 : Nat)) 7).1).Max)), (.int .i64 (((allA (l.take (k + 1 : Nat)) 7).1).First)), (.int .i64 (((allA (l.take (k + 1 : Nat)) 7).1).Last))]] := hst
      refine s_cons (op_assign (.int .i64 ((allA (l.take (k + 1 : Nat)) 7).2)) rfl ?_)
      refine s_nil ?_
      refine then_n ?_
      refine cE_seq ?_
      refine cE_region rfl ?_
      refine s_cons (op_move v_l rfl ?_)
      refine s_cons (op_move (.int .i64 ((k + 1 : Nat) : Int)) rfl ?_)
      refine s_cons (op_slice_fromN (k + 1 : Nat) (E := sampE) (xs := l) Try.underlying22 Try.sizeOf32 rfl h_l rfl (by omega) (by omega) (fun v15 hs16 => ?_))
      refine s_cons (op_call Try.call15 (evs_cons (v := v15) rfl (evs_cons (v := (.int .i64 9)) rfl evs_nil)) (c_All (w0 := w14) (v_l := v15) (l := (l.drop (k + 1 : Nat))) (h_l := (hs16.below hst.below)) (fr := 9) (hl := (by first | exact hl | exact fun s h => hl s (List.mem_of_mem_take h) | exact fun s h => hl s (List.mem_of_mem_drop h))) (fr0 := (by omega)) (fr1 := (by omega)) (hn := (by first | omega | (simp only [List.length_take, List.length_drop]; omega)))) ?_)
      rintro _ w17 ⟨rfl, hcall⟩
      refine ⟨_, rfl, ?_⟩
      have hst : St w0 w17 [.blk g12 26 #[(.int .i64 (((allA (l.take (k + 1 : Nat)) 7).1).From)), (.int .i64 (((allA (l.take (k + 1 : Nat)) 7).1).Count)), (.int .i64 (((allA (l.take (k + 1 : Nat)) 7).1).Sum)), (.int .i64 (((allA (l.take (k + 1 : Nat)) 7).1).Min)), (.int .i64 (((allA (l.take (k + 1 : Nat)) 7).1).Max)), (.int .i64 (((allA (l.take (k + 1 : Nat)) 7).1).First)), (.int .i64 (((allA (l.take (k + 1 : Nat)) 7).1).Last))]] := hst.call hcall
      refine s_cons (op_move (.tuple #[(.agg #[(.int .i64 (((allA (l.drop (k + 1 : Nat)) 9).1).From)), (.int .i64 (((allA (l.drop (k + 1 : Nat)) 9).1).Count)), (.int .i64 (((allA (l.drop (k + 1 : Nat)) 9).1).Sum)), (.int .i64 (((allA (l.drop (k + 1 : Nat)) 9).1).Min)), (.int .i64 (((allA (l.drop (k + 1 : Nat)) 9).1).Max)), (.int .i64 (((allA (l.drop (k + 1 : Nat)) 9).1).First)), (.int .i64 (((allA (l.drop (k + 1 : Nat)) 9).1).Last))]), (.int .i64 ((allA (l.drop (k + 1 : Nat)) 9).2))]) rfl ?_)
      refine s_cons (op_extract (.agg #[(.int .i64 (((allA (l.drop (k + 1 : Nat)) 9).1).From)), (.int .i64 (((allA (l.drop (k + 1 : Nat)) 9).1).Count)), (.int .i64 (((allA (l.drop (k + 1 : Nat)) 9).1).Sum)), (.int .i64 (((allA (l.drop (k + 1 : Nat)) 9).1).Min)), (.int .i64 (((allA (l.drop (k + 1 : Nat)) 9).1).Max)), (.int .i64 (((allA (l.drop (k + 1 : Nat)) 9).1).First)), (.int .i64 (((allA (l.drop (k + 1 : Nat)) 9).1).Last))]) rfl rfl ?_)
      refine s_cons (op_extract (.int .i64 ((allA (l.drop (k + 1 : Nat)) 9).2)) rfl rfl ?_)
      refine s_cons (op_alloc (cs := #[(.int .i64 0), (.int .i64 0), (.int .i64 0), (.int .i64 0), (.int .i64 0), (.int .i64 0), (.int .i64 0)]) hst Try.zeroValue26 rfl (fun g18 w19 hst _ => ?_))
      replace hst : St w0 w19 [.blk g18 26 #[(.int .i64 0), (.int .i64 0), (.int .i64 0), (.int .i64 0), (.int .i64 0), (.int .i64 0), (.int .i64 0)], .blk g12 26 #[(.int .i64 (((allA (l.take (k + 1 : Nat)) 7).1).From)), (.int .i64 (((allA (l.take (k + 1 : Nat)) 7).1).Count)), (.int .i64 (((allA (l.take (k + 1 : Nat)) 7).1).Sum)), (.int .i64 (((allA (l.take (k + 1 : Nat)) 7).1).Min)), (.int .i64 (((allA (l.take (k + 1 : Nat)) 7).1).Max)), (.int .i64 (((allA (l.take (k + 1 : Nat)) 7).1).First)), (.int .i64 (((allA (l.take (k + 1 : Nat)) 7).1).Last))]] := hst
      refine s_cons0 (op_storeAll hst 0 rfl Try.sizeOf26 rfl rfl rfl rfl (by simp [Value.oneCell']) (fun w20 hst => ?_))
      replace hst : St w0 w20 [.blk g18 26 #[(.int .i64 (((allA (l.drop (k + 1 : Nat)) 9).1).From)), (.int .i64 (((allA (l.drop (k + 1 : Nat)) 9).1).Count)), (.int .i64 (((allA (l.drop (k + 1 : Nat)) 9).1).Sum)), (.int .i64 (((allA (l.drop (k + 1 : Nat)) 9).1).Min)), (.int .i64 (((allA (l.drop (k + 1 : Nat)) 9).1).Max)), (.int .i64 (((allA (l.drop (k + 1 : Nat)) 9).1).First)), (.int .i64 (((allA (l.drop (k + 1 : Nat)) 9).1).Last))], .blk g12 26 #[(.int .i64 (((allA (l.take (k + 1 : Nat)) 7).1).From)), (.int .i64 (((allA (l.take (k + 1 : Nat)) 7).1).Count)), (.int .i64 (((allA (l.take (k + 1 : Nat)) 7).1).Sum)), (.int .i64 (((allA (l.take (k + 1 : Nat)) 7).1).Min)), (.int .i64 (((allA (l.take (k + 1 : Nat)) 7).1).Max)), (.int .i64 (((allA (l.take (k + 1 : Nat)) 7).1).First)), (.int .i64 (((allA (l.take (k + 1 : Nat)) 7).1).Last))]] := hst
      refine s_cons (op_assign (.int .i64 ((allA (l.drop (k + 1 : Nat)) 9).2)) rfl ?_)
      refine s_nil ?_
      refine then_n ?_
      refine cE_seq ?_
      refine cE_region rfl ?_
      refine s_cons (op_move v_l rfl ?_)
      refine s_cons (op_call Try.call15 (evs_cons (v := v_l) rfl (evs_cons (v := (.int .i64 7)) rfl evs_nil)) (c_All (w0 := w20) (v_l := v_l) (l := l) (h_l := (h_l.below hst.below)) (fr := 7) (hl := (by first | exact hl | exact fun s h => hl s (List.mem_of_mem_take h) | exact fun s h => hl s (List.mem_of_mem_drop h))) (fr0 := (by omega)) (fr1 := (by omega)) (hn := (by first | omega | (simp only [List.length_take, List.length_drop]; omega)))) ?_)
      rintro _ w21 ⟨rfl, hcall⟩
      refine ⟨_, rfl, ?_⟩
      have hst : St w0 w21 [.blk g18 26 #[(.int .i64 (((allA (l.drop (k + 1 : Nat)) 9).1).From)), (.int .i64 (((allA (l.drop (k + 1 : Nat)) 9).1).Count)), (.int .i64 (((allA (l.drop (k + 1 : Nat)) 9).1).Sum)), (.int .i64 (((allA (l.drop (k + 1 : Nat)) 9).1).Min)), (.int .i64 (((allA (l.drop (k + 1 : Nat)) 9).1).Max)), (.int .i64 (((allA (l.drop (k + 1 : Nat)) 9).1).First)), (.int .i64 (((allA (l.drop (k + 1 : Nat)) 9).1).Last))], .blk g12 26 #[(.int .i64 (((allA (l.take (k + 1 : Nat)) 7).1).From)), (.int .i64 (((allA (l.take (k + 1 : Nat)) 7).1).Count)), (.int .i64 (((allA (l.take (k + 1 : Nat)) 7).1).Sum)), (.int .i64 (((allA (l.take (k + 1 : Nat)) 7).1).Min)), (.int .i64 (((allA (l.take (k + 1 : Nat)) 7).1).Max)), (.int .i64 (((allA (l.take (k + 1 : Nat)) 7).1).First)), (.int .i64 (((allA (l.take (k + 1 : Nat)) 7).1).Last))]] := hst.call hcall
      refine s_cons (op_move (.tuple #[(.agg #[(.int .i64 (((allA l 7).1).From)), (.int .i64 (((allA l 7).1).Count)), (.int .i64 (((allA l 7).1).Sum)), (.int .i64 (((allA l 7).1).Min)), (.int .i64 (((allA l 7).1).Max)), (.int .i64 (((allA l 7).1).First)), (.int .i64 (((allA l 7).1).Last))]), (.int .i64 ((allA l 7).2))]) rfl ?_)
      refine s_cons (op_extract (.agg #[(.int .i64 (((allA l 7).1).From)), (.int .i64 (((allA l 7).1).Count)), (.int .i64 (((allA l 7).1).Sum)), (.int .i64 (((allA l 7).1).Min)), (.int .i64 (((allA l 7).1).Max)), (.int .i64 (((allA l 7).1).First)), (.int .i64 (((allA l 7).1).Last))]) rfl rfl ?_)
      refine s_cons (op_extract (.int .i64 ((allA l 7).2)) rfl rfl ?_)
      refine s_cons (op_alloc (cs := #[(.int .i64 0), (.int .i64 0), (.int .i64 0), (.int .i64 0), (.int .i64 0), (.int .i64 0), (.int .i64 0)]) hst Try.zeroValue26 rfl (fun g22 w23 hst _ => ?_))
      replace hst : St w0 w23 [.blk g22 26 #[(.int .i64 0), (.int .i64 0), (.int .i64 0), (.int .i64 0), (.int .i64 0), (.int .i64 0), (.int .i64 0)], .blk g18 26 #[(.int .i64 (((allA (l.drop (k + 1 : Nat)) 9).1).From)), (.int .i64 (((allA (l.drop (k + 1 : Nat)) 9).1).Count)), (.int .i64 (((allA (l.drop (k + 1 : Nat)) 9).1).Sum)), (.int .i64 (((allA (l.drop (k + 1 : Nat)) 9).1).Min)), (.int .i64 (((allA (l.drop (k + 1 : Nat)) 9).1).Max)), (.int .i64 (((allA (l.drop (k + 1 : Nat)) 9).1).First)), (.int .i64 (((allA (l.drop (k + 1 : Nat)) 9).1).Last))], .blk g12 26 #[(.int .i64 (((allA (l.take (k + 1 : Nat)) 7).1).From)), (.int .i64 (((allA (l.take (k + 1 : Nat)) 7).1).Count)), (.int .i64 (((allA (l.take (k + 1 : Nat)) 7).1).Sum)), (.int .i64 (((allA (l.take (k + 1 : Nat)) 7).1).Min)), (.int .i64 (((allA (l.take (k + 1 : Nat)) 7).1).Max)), (.int .i64 (((allA (l.take (k + 1 : Nat)) 7).1).First)), (.int .i64 (((allA (l.take (k + 1 : Nat)) 7).1).Last))]] := hst
      refine s_cons0 (op_storeAll hst 0 rfl Try.sizeOf26 rfl rfl rfl rfl (by simp [Value.oneCell']) (fun w24 hst => ?_))
      replace hst : St w0 w24 [.blk g22 26 #[(.int .i64 (((allA l 7).1).From)), (.int .i64 (((allA l 7).1).Count)), (.int .i64 (((allA l 7).1).Sum)), (.int .i64 (((allA l 7).1).Min)), (.int .i64 (((allA l 7).1).Max)), (.int .i64 (((allA l 7).1).First)), (.int .i64 (((allA l 7).1).Last))], .blk g18 26 #[(.int .i64 (((allA (l.drop (k + 1 : Nat)) 9).1).From)), (.int .i64 (((allA (l.drop (k + 1 : Nat)) 9).1).Count)), (.int .i64 (((allA (l.drop (k + 1 : Nat)) 9).1).Sum)), (.int .i64 (((allA (l.drop (k + 1 : Nat)) 9).1).Min)), (.int .i64 (((allA (l.drop (k + 1 : Nat)) 9).1).Max)), (.int .i64 (((allA (l.drop (k + 1 : Nat)) 9).1).First)), (.int .i64 (((allA (l.drop (k + 1 : Nat)) 9).1).Last))], .blk g12 26 #[(.int .i64 (((allA (l.take (k + 1 : Nat)) 7).1).From)), (.int .i64 (((allA (l.take (k + 1 : Nat)) 7).1).Count)), (.int .i64 (((allA (l.take (k + 1 : Nat)) 7).1).Sum)), (.int .i64 (((allA (l.take (k + 1 : Nat)) 7).1).Min)), (.int .i64 (((allA (l.take (k + 1 : Nat)) 7).1).Max)), (.int .i64 (((allA (l.take (k + 1 : Nat)) 7).1).First)), (.int .i64 (((allA (l.take (k + 1 : Nat)) 7).1).Last))]] := hst
      refine s_cons (op_assign (.int .i64 ((allA l 7).2)) rfl ?_)
      refine s_nil ?_
      refine then_n ?_
      refine cE_seq ?_
      refine cE_region rfl ?_
      refine s_cons (op_loadN (cs := [(.int .i64 (((allA (l.take (k + 1 : Nat)) 7).1).From)), (.int .i64 (((allA (l.take (k + 1 : Nat)) 7).1).Count)), (.int .i64 (((allA (l.take (k + 1 : Nat)) 7).1).Sum)), (.int .i64 (((allA (l.take (k + 1 : Nat)) 7).1).Min)), (.int .i64 (((allA (l.take (k + 1 : Nat)) 7).1).Max)), (.int .i64 (((allA (l.take (k + 1 : Nat)) 7).1).First)), (.int .i64 (((allA (l.take (k + 1 : Nat)) 7).1).Last))]) Try.isAgg26 Try.sizeOf26 rfl (Pt.of (hst.cell 2 rfl) rfl) rfl ?_)
      refine s_cons (op_loadN (cs := [(.int .i64 (((allA (l.drop (k + 1 : Nat)) 9).1).From)), (.int .i64 (((allA (l.drop (k + 1 : Nat)) 9).1).Count)), (.int .i64 (((allA (l.drop (k + 1 : Nat)) 9).1).Sum)), (.int .i64 (((allA (l.drop (k + 1 : Nat)) 9).1).Min)), (.int .i64 (((allA (l.drop (k + 1 : Nat)) 9).1).Max)), (.int .i64 (((allA (l.drop (k + 1 : Nat)) 9).1).First)), (.int .i64 (((allA (l.drop (k + 1 : Nat)) 9).1).Last))]) Try.isAgg26 Try.sizeOf26 rfl (Pt.of (hst.cell 1 rfl) rfl) rfl ?_)
      refine s_cons (op_call Try.call16 (evs_cons (v := (.agg #[(.int .i64 (((allA (l.take (k + 1 : Nat)) 7).1).From)), (.int .i64 (((allA (l.take (k + 1 : Nat)) 7).1).Count)), (.int .i64 (((allA (l.take (k + 1 : Nat)) 7).1).Sum)), (.int .i64 (((allA (l.take (k + 1 : Nat)) 7).1).Min)), (.int .i64 (((allA (l.take (k + 1 : Nat)) 7).1).Max)), (.int .i64 (((allA (l.take (k + 1 : Nat)) 7).1).First)), (.int .i64 (((allA (l.take (k + 1 : Nat)) 7).1).Last))])) rfl (evs_cons (v := (.agg #[(.int .i64 (((allA (l.drop (k + 1 : Nat)) 9).1).From)), (.int .i64 (((allA (l.drop (k + 1 : Nat)) 9).1).Count)), (.int .i64 (((allA (l.drop (k + 1 : Nat)) 9).1).Sum)), (.int .i64 (((allA (l.drop (k + 1 : Nat)) 9).1).Min)), (.int .i64 (((allA (l.drop (k + 1 : Nat)) 9).1).Max)), (.int .i64 (((allA (l.drop (k + 1 : Nat)) 9).1).First)), (.int .i64 (((allA (l.drop (k + 1 : Nat)) 9).1).Last))])) rfl evs_nil)) (c_Join (w0 := w24) (a := ((allA (l.take (k + 1 : Nat)) 7).1)) (b := ((allA (l.drop (k + 1 : Nat)) 9).1)) (ha := o1) (hb := o2)) ?_)
      rintro _ w25 ⟨rfl, hcall⟩
      refine ⟨_, rfl, ?_⟩
      have hst : St w0 w25 [.blk g22 26 #[(.int .i64 (((allA l 7).1).From)), (.int .i64 (((allA l 7).1).Count)), (.int .i64 (((allA l 7).1).Sum)), (.int .i64 (((allA l 7).1).Min)), (.int .i64 (((allA l 7).1).Max)), (.int .i64 (((allA l 7).1).First)), (.int .i64 (((allA l 7).1).Last))], .blk g18 26 #[(.int .i64 (((allA (l.drop (k + 1 : Nat)) 9).1).From)), (.int .i64 (((allA (l.drop (k + 1 : Nat)) 9).1).Count)), (.int .i64 (((allA (l.drop (k + 1 : Nat)) 9).1).Sum)), (.int .i64 (((allA (l.drop (k + 1 : Nat)) 9).1).Min)), (.int .i64 (((allA (l.drop (k + 1 : Nat)) 9).1).Max)), (.int .i64 (((allA (l.drop (k + 1 : Nat)) 9).1).First)), (.int .i64 (((allA (l.drop (k + 1 : Nat)) 9).1).Last))], .blk g12 26 #[(.int .i64 (((allA (l.take (k + 1 : Nat)) 7).1).From)), (.int .i64 (((allA (l.take (k + 1 : Nat)) 7).1).Count)), (.int .i64 (((allA (l.take (k + 1 : Nat)) 7).1).Sum)), (.int .i64 (((allA (l.take (k + 1 : Nat)) 7).1).Min)), (.int .i64 (((allA (l.take (k + 1 : Nat)) 7).1).Max)), (.int .i64 (((allA (l.take (k + 1 : Nat)) 7).1).First)), (.int .i64 (((allA (l.take (k + 1 : Nat)) 7).1).Last))]] := hst.call hcall
      refine s_cons (op_move (.tuple #[(.agg #[(.int .i64 (((joinA ((allA (l.take (k + 1 : Nat)) 7).1) ((allA (l.drop (k + 1 : Nat)) 9).1)).1).From)), (.int .i64 (((joinA ((allA (l.take (k + 1 : Nat)) 7).1) ((allA (l.drop (k + 1 : Nat)) 9).1)).1).Count)), (.int .i64 (((joinA ((allA (l.take (k + 1 : Nat)) 7).1) ((allA (l.drop (k + 1 : Nat)) 9).1)).1).Sum)), (.int .i64 (((joinA ((allA (l.take (k + 1 : Nat)) 7).1) ((allA (l.drop (k + 1 : Nat)) 9).1)).1).Min)), (.int .i64 (((joinA ((allA (l.take (k + 1 : Nat)) 7).1) ((allA (l.drop (k + 1 : Nat)) 9).1)).1).Max)), (.int .i64 (((joinA ((allA (l.take (k + 1 : Nat)) 7).1) ((allA (l.drop (k + 1 : Nat)) 9).1)).1).First)), (.int .i64 (((joinA ((allA (l.take (k + 1 : Nat)) 7).1) ((allA (l.drop (k + 1 : Nat)) 9).1)).1).Last))]), (.int .i64 ((joinA ((allA (l.take (k + 1 : Nat)) 7).1) ((allA (l.drop (k + 1 : Nat)) 9).1)).2))]) rfl ?_)
      refine s_cons (op_extract (.agg #[(.int .i64 (((joinA ((allA (l.take (k + 1 : Nat)) 7).1) ((allA (l.drop (k + 1 : Nat)) 9).1)).1).From)), (.int .i64 (((joinA ((allA (l.take (k + 1 : Nat)) 7).1) ((allA (l.drop (k + 1 : Nat)) 9).1)).1).Count)), (.int .i64 (((joinA ((allA (l.take (k + 1 : Nat)) 7).1) ((allA (l.drop (k + 1 : Nat)) 9).1)).1).Sum)), (.int .i64 (((joinA ((allA (l.take (k + 1 : Nat)) 7).1) ((allA (l.drop (k + 1 : Nat)) 9).1)).1).Min)), (.int .i64 (((joinA ((allA (l.take (k + 1 : Nat)) 7).1) ((allA (l.drop (k + 1 : Nat)) 9).1)).1).Max)), (.int .i64 (((joinA ((allA (l.take (k + 1 : Nat)) 7).1) ((allA (l.drop (k + 1 : Nat)) 9).1)).1).First)), (.int .i64 (((joinA ((allA (l.take (k + 1 : Nat)) 7).1) ((allA (l.drop (k + 1 : Nat)) 9).1)).1).Last))]) rfl rfl ?_)
      refine s_cons (op_extract (.int .i64 ((joinA ((allA (l.take (k + 1 : Nat)) 7).1) ((allA (l.drop (k + 1 : Nat)) 9).1)).2)) rfl rfl ?_)
      refine s_cons (op_alloc (cs := #[(.int .i64 0), (.int .i64 0), (.int .i64 0), (.int .i64 0), (.int .i64 0), (.int .i64 0), (.int .i64 0)]) hst Try.zeroValue26 rfl (fun g26 w27 hst _ => ?_))
      replace hst : St w0 w27 [.blk g26 26 #[(.int .i64 0), (.int .i64 0), (.int .i64 0), (.int .i64 0), (.int .i64 0), (.int .i64 0), (.int .i64 0)], .blk g22 26 #[(.int .i64 (((allA l 7).1).From)), (.int .i64 (((allA l 7).1).Count)), (.int .i64 (((allA l 7).1).Sum)), (.int .i64 (((allA l 7).1).Min)), (.int .i64 (((allA l 7).1).Max)), (.int .i64 (((allA l 7).1).First)), (.int .i64 (((allA l 7).1).Last))], .blk g18 26 #[(.int .i64 (((allA (l.drop (k + 1 : Nat)) 9).1).From)), (.int .i64 (((allA (l.drop (k + 1 : Nat)) 9).1).Count)), (.int .i64 (((allA (l.drop (k + 1 : Nat)) 9).1).Sum)), (.int .i64 (((allA (l.drop (k + 1 : Nat)) 9).1).Min)), (.int .i64 (((allA (l.drop (k + 1 : Nat)) 9).1).Max)), (.int .i64 (((allA (l.drop (k + 1 : Nat)) 9).1).First)), (.int .i64 (((allA (l.drop (k + 1 : Nat)) 9).1).Last))], .blk g12 26 #[(.int .i64 (((allA (l.take (k + 1 : Nat)) 7).1).From)), (.int .i64 (((allA (l.take (k + 1 : Nat)) 7).1).Count)), (.int .i64 (((allA (l.take (k + 1 : Nat)) 7).1).Sum)), (.int .i64 (((allA (l.take (k + 1 : Nat)) 7).1).Min)), (.int .i64 (((allA (l.take (k + 1 : Nat)) 7).1).Max)), (.int .i64 (((allA (l.take (k + 1 : Nat)) 7).1).First)), (.int .i64 (((allA (l.take (k + 1 : Nat)) 7).1).Last))]] := hst
      refine s_cons0 (op_storeAll hst 0 rfl Try.sizeOf26 rfl rfl rfl rfl (by simp [Value.oneCell']) (fun w28 hst => ?_))
      replace hst : St w0 w28 [.blk g26 26 #[(.int .i64 (((joinA ((allA (l.take (k + 1 : Nat)) 7).1) ((allA (l.drop (k + 1 : Nat)) 9).1)).1).From)), (.int .i64 (((joinA ((allA (l.take (k + 1 : Nat)) 7).1) ((allA (l.drop (k + 1 : Nat)) 9).1)).1).Count)), (.int .i64 (((joinA ((allA (l.take (k + 1 : Nat)) 7).1) ((allA (l.drop (k + 1 : Nat)) 9).1)).1).Sum)), (.int .i64 (((joinA ((allA (l.take (k + 1 : Nat)) 7).1) ((allA (l.drop (k + 1 : Nat)) 9).1)).1).Min)), (.int .i64 (((joinA ((allA (l.take (k + 1 : Nat)) 7).1) ((allA (l.drop (k + 1 : Nat)) 9).1)).1).Max)), (.int .i64 (((joinA ((allA (l.take (k + 1 : Nat)) 7).1) ((allA (l.drop (k + 1 : Nat)) 9).1)).1).First)), (.int .i64 (((joinA ((allA (l.take (k + 1 : Nat)) 7).1) ((allA (l.drop (k + 1 : Nat)) 9).1)).1).Last))], .blk g22 26 #[(.int .i64 (((allA l 7).1).From)), (.int .i64 (((allA l 7).1).Count)), (.int .i64 (((allA l 7).1).Sum)), (.int .i64 (((allA l 7).1).Min)), (.int .i64 (((allA l 7).1).Max)), (.int .i64 (((allA l 7).1).First)), (.int .i64 (((allA l 7).1).Last))], .blk g18 26 #[(.int .i64 (((allA (l.drop (k + 1 : Nat)) 9).1).From)), (.int .i64 (((allA (l.drop (k + 1 : Nat)) 9).1).Count)), (.int .i64 (((allA (l.drop (k + 1 : Nat)) 9).1).Sum)), (.int .i64 (((allA (l.drop (k + 1 : Nat)) 9).1).Min)), (.int .i64 (((allA (l.drop (k + 1 : Nat)) 9).1).Max)), (.int .i64 (((allA (l.drop (k + 1 : Nat)) 9).1).First)), (.int .i64 (((allA (l.drop (k + 1 : Nat)) 9).1).Last))], .blk g12 26 #[(.int .i64 (((allA (l.take (k + 1 : Nat)) 7).1).From)), (.int .i64 (((allA (l.take (k + 1 : Nat)) 7).1).Count)), (.int .i64 (((allA (l.take (k + 1 : Nat)) 7).1).Sum)), (.int .i64 (((allA (l.take (k + 1 : Nat)) 7).1).Min)), (.int .i64 (((allA (l.take (k + 1 : Nat)) 7).1).Max)), (.int .i64 (((allA (l.take (k + 1 : Nat)) 7).1).First)), (.int .i64 (((allA (l.take (k + 1 : Nat)) 7).1).Last))]] := hst
      refine s_cons (op_assign (.int .i64 ((joinA ((allA (l.take (k + 1 : Nat)) 7).1) ((allA (l.drop (k + 1 : Nat)) 9).1)).2)) rfl ?_)
      refine s_nil ?_
      refine then_n ?_
      refine cE_seq ?_
      refine cE_seq ?_
      refine cE_region rfl ?_
      refine s_cons (op_move (.int .i64 ((allA (l.take (k + 1 : Nat)) 7).2)) rfl ?_)
      refine s_cons (op_neq (k := .i64) (a := (allA (l.take (k + 1 : Nat)) 7).2) (b := 0) rfl rfl ?_)
      refine s_cons (op_move (.bool (!decide (((allA (l.take (k + 1 : Nat)) 7).2) = 0))) rfl ?_)
      rcases Bool.eq_false_or_eq_true (decide (((allA (l.take (k + 1 : Nat)) 7).2) = 0)) with b29 | b29
      · have c30 : ((allA (l.take (k + 1 : Nat)) 7).2) = 0 := of_decide_eq_true b29
        refine s_yes 59 rfl (congrArg Value.bool (congrArg (! ·) b29)) (op_move (.int .i64 ((allA (l.drop (k + 1 : Nat)) 9).2)) rfl ?_)
        refine s_yes 59 rfl (congrArg Value.bool (congrArg (! ·) b29)) (op_neq (k := .i64) (a := (allA (l.drop (k + 1 : Nat)) 9).2) (b := 0) rfl rfl ?_)
        refine s_cons (op_pick_f (.bool (!decide (((allA (l.drop (k + 1 : Nat)) 9).2) = 0))) (congrArg Value.bool (congrArg (! ·) b29)) rfl ?_)
        refine s_cons (op_move (.bool (!decide (((allA (l.drop (k + 1 : Nat)) 9).2) = 0))) rfl ?_)
        rcases Bool.eq_false_or_eq_true (decide (((allA (l.drop (k + 1 : Nat)) 9).2) = 0)) with b31 | b31
        · have c32 : ((allA (l.drop (k + 1 : Nat)) 9).2) = 0 := of_decide_eq_true b31
          refine s_yes 63 rfl (congrArg Value.bool (congrArg (! ·) b31)) (op_move (.int .i64 ((allA l 7).2)) rfl ?_)
          refine s_yes 63 rfl (congrArg Value.bool (congrArg (! ·) b31)) (op_neq (k := .i64) (a := (allA l 7).2) (b := 0) rfl rfl ?_)
          refine s_cons (op_pick_f (.bool (!decide (((allA l 7).2) = 0))) (congrArg Value.bool (congrArg (! ·) b31)) rfl ?_)
          refine s_cons (op_move (.bool (!decide (((allA l 7).2) = 0))) rfl ?_)
          rcases Bool.eq_false_or_eq_true (decide (((allA l 7).2) = 0)) with b33 | b33
          · have c34 : ((allA l 7).2) = 0 := of_decide_eq_true b33
            refine s_yes 67 rfl (congrArg Value.bool (congrArg (! ·) b33)) (op_move (.int .i64 ((joinA ((allA (l.take (k + 1 : Nat)) 7).1) ((allA (l.drop (k + 1 : Nat)) 9).1)).2)) rfl ?_)
            refine s_yes 67 rfl (congrArg Value.bool (congrArg (! ·) b33)) (op_neq (k := .i64) (a := (joinA ((allA (l.take (k + 1 : Nat)) 7).1) ((allA (l.drop (k + 1 : Nat)) 9).1)).2) (b := 0) rfl rfl ?_)
            refine s_cons (op_pick_f (.bool (!decide (((joinA ((allA (l.take (k + 1 : Nat)) 7).1) ((allA (l.drop (k + 1 : Nat)) 9).1)).2) = 0))) (congrArg Value.bool (congrArg (! ·) b33)) rfl ?_)
            refine s_nil ?_
            refine then_n ?_
            rcases Bool.eq_false_or_eq_true (decide (((joinA ((allA (l.take (k + 1 : Nat)) 7).1) ((allA (l.drop (k + 1 : Nat)) 9).1)).2) = 0)) with b35 | b35
            · have c36 : ((joinA ((allA (l.take (k + 1 : Nat)) 7).1) ((allA (l.drop (k + 1 : Nat)) 9).1)).2) = 0 := of_decide_eq_true b35
              refine cE_cond false (congrArg Value.bool (congrArg (! ·) b35)) (fun h => by cases h) (fun _ => ?_)
              refine cE_skip ?_
              refine then_n ?_
              refine cE_seq ?_
              refine cE_region rfl ?_
              refine s_cons (op_call Try.call14 evs_nil (c_told3 (w0 := w28)) ?_)
              rintro _ w37 ⟨rfl, hcall⟩
              refine ⟨_, rfl, ?_⟩
              have hst : St w0 w37 [.blk g26 26 #[(.int .i64 (((joinA ((allA (l.take (k + 1 : Nat)) 7).1) ((allA (l.drop (k + 1 : Nat)) 9).1)).1).From)), (.int .i64 (((joinA ((allA (l.take (k + 1 : Nat)) 7).1) ((allA (l.drop (k + 1 : Nat)) 9).1)).1).Count)), (.int .i64 (((joinA ((allA (l.take (k + 1 : Nat)) 7).1) ((allA (l.drop (k + 1 : Nat)) 9).1)).1).Sum)), (.int .i64 (((joinA ((allA (l.take (k + 1 : Nat)) 7).1) ((allA (l.drop (k + 1 : Nat)) 9).1)).1).Min)), (.int .i64 (((joinA ((allA (l.take (k + 1 : Nat)) 7).1) ((allA (l.drop (k + 1 : Nat)) 9).1)).1).Max)), (.int .i64 (((joinA ((allA (l.take (k + 1 : Nat)) 7).1) ((allA (l.drop (k + 1 : Nat)) 9).1)).1).First)), (.int .i64 (((joinA ((allA (l.take (k + 1 : Nat)) 7).1) ((allA (l.drop (k + 1 : Nat)) 9).1)).1).Last))], .blk g22 26 #[(.int .i64 (((allA l 7).1).From)), (.int .i64 (((allA l 7).1).Count)), (.int .i64 (((allA l 7).1).Sum)), (.int .i64 (((allA l 7).1).Min)), (.int .i64 (((allA l 7).1).Max)), (.int .i64 (((allA l 7).1).First)), (.int .i64 (((allA l 7).1).Last))], .blk g18 26 #[(.int .i64 (((allA (l.drop (k + 1 : Nat)) 9).1).From)), (.int .i64 (((allA (l.drop (k + 1 : Nat)) 9).1).Count)), (.int .i64 (((allA (l.drop (k + 1 : Nat)) 9).1).Sum)), (.int .i64 (((allA (l.drop (k + 1 : Nat)) 9).1).Min)), (.int .i64 (((allA (l.drop (k + 1 : Nat)) 9).1).Max)), (.int .i64 (((allA (l.drop (k + 1 : Nat)) 9).1).First)), (.int .i64 (((allA (l.drop (k + 1 : Nat)) 9).1).Last))], .blk g12 26 #[(.int .i64 (((allA (l.take (k + 1 : Nat)) 7).1).From)), (.int .i64 (((allA (l.take (k + 1 : Nat)) 7).1).Count)), (.int .i64 (((allA (l.take (k + 1 : Nat)) 7).1).Sum)), (.int .i64 (((allA (l.take (k + 1 : Nat)) 7).1).Min)), (.int .i64 (((allA (l.take (k + 1 : Nat)) 7).1).Max)), (.int .i64 (((allA (l.take (k + 1 : Nat)) 7).1).First)), (.int .i64 (((allA (l.take (k + 1 : Nat)) 7).1).Last))]] := hst.call hcall
              refine s_cons (op_move (.bool true) rfl ?_)
              refine s_yes 97 rfl rfl (op_loadN (cs := [(.int .i64 (((allA l 7).1).From)), (.int .i64 (((allA l 7).1).Count)), (.int .i64 (((allA l 7).1).Sum)), (.int .i64 (((allA l 7).1).Min)), (.int .i64 (((allA l 7).1).Max)), (.int .i64 (((allA l 7).1).First)), (.int .i64 (((allA l 7).1).Last))]) Try.isAgg26 Try.sizeOf26 rfl (Pt.of (hst.cell 1 rfl) rfl) rfl ?_)
              refine s_yes 97 rfl rfl (op_loadN (cs := [(.int .i64 (((joinA ((allA (l.take (k + 1 : Nat)) 7).1) ((allA (l.drop (k + 1 : Nat)) 9).1)).1).From)), (.int .i64 (((joinA ((allA (l.take (k + 1 : Nat)) 7).1) ((allA (l.drop (k + 1 : Nat)) 9).1)).1).Count)), (.int .i64 (((joinA ((allA (l.take (k + 1 : Nat)) 7).1) ((allA (l.drop (k + 1 : Nat)) 9).1)).1).Sum)), (.int .i64 (((joinA ((allA (l.take (k + 1 : Nat)) 7).1) ((allA (l.drop (k + 1 : Nat)) 9).1)).1).Min)), (.int .i64 (((joinA ((allA (l.take (k + 1 : Nat)) 7).1) ((allA (l.drop (k + 1 : Nat)) 9).1)).1).Max)), (.int .i64 (((joinA ((allA (l.take (k + 1 : Nat)) 7).1) ((allA (l.drop (k + 1 : Nat)) 9).1)).1).First)), (.int .i64 (((joinA ((allA (l.take (k + 1 : Nat)) 7).1) ((allA (l.drop (k + 1 : Nat)) 9).1)).1).Last))]) Try.isAgg26 Try.sizeOf26 rfl (Pt.of (hst.cell 0 rfl) rfl) rfl ?_)
              refine s_yes 97 rfl rfl (op_eqlG Try.eqGuardType26 (Try.eqAgg ((allA l 7).1) ((joinA ((allA (l.take (k + 1 : Nat)) 7).1) ((allA (l.drop (k + 1 : Nat)) 9).1)).1) _) rfl rfl ?_)
              refine s_cons (op_pick_t (.bool (decide (((allA l 7).1) = ((joinA ((allA (l.take (k + 1 : Nat)) 7).1) ((allA (l.drop (k + 1 : Nat)) 9).1)).1)))) rfl rfl ?_)
              refine s_cons (op_assign (.bool (decide (((allA l 7).1) = ((joinA ((allA (l.take (k + 1 : Nat)) 7).1) ((allA (l.drop (k + 1 : Nat)) 9).1)).1)))) rfl ?_)
              refine s_nil ?_
              refine then_n ?_
              refine cE_ret ?_
              refine post_r _ (res1 (v := (.bool true)) (congrArg Value.bool (show (decide (((allA l 7).1) = ((joinA ((allA (l.take (k + 1 : Nat)) 7).1) ((allA (l.drop (k + 1 : Nat)) 9).1)).1))) = true from (decide_eq_true (parts_eq (by omega) (by omega) (by omega) (by omega) (by omega) (by omega) (by omega)))))) ?_
              exact ⟨rfl, hst.bare⟩
            · have c38 : ¬ (((joinA ((allA (l.take (k + 1 : Nat)) 7).1) ((allA (l.drop (k + 1 : Nat)) 9).1)).2) = 0) := of_decide_eq_false b35
              refine cE_cond true (congrArg Value.bool (congrArg (! ·) b35)) (fun _ => ?_) (fun h => by cases h)
              refine cE_seq ?_
              refine cE_region rfl ?_
              refine s_cons (op_call Try.call14 evs_nil (c_told3 (w0 := w28)) ?_)
              rintro _ w39 ⟨rfl, hcall⟩
              refine ⟨_, rfl, ?_⟩
              have hst : St w0 w39 [.blk g26 26 #[(.int .i64 (((joinA ((allA (l.take (k + 1 : Nat)) 7).1) ((allA (l.drop (k + 1 : Nat)) 9).1)).1).From)), (.int .i64 (((joinA ((allA (l.take (k + 1 : Nat)) 7).1) ((allA (l.drop (k + 1 : Nat)) 9).1)).1).Count)), (.int .i64 (((joinA ((allA (l.take (k + 1 : Nat)) 7).1) ((allA (l.drop (k + 1 : Nat)) 9).1)).1).Sum)), (.int .i64 (((joinA ((allA (l.take (k + 1 : Nat)) 7).1) ((allA (l.drop (k + 1 : Nat)) 9).1)).1).Min)), (.int .i64 (((joinA ((allA (l.take (k + 1 : Nat)) 7).1) ((allA (l.drop (k + 1 : Nat)) 9).1)).1).Max)), (.int .i64 (((joinA ((allA (l.take (k + 1 : Nat)) 7).1) ((allA (l.drop (k + 1 : Nat)) 9).1)).1).First)), (.int .i64 (((joinA ((allA (l.take (k + 1 : Nat)) 7).1) ((allA (l.drop (k + 1 : Nat)) 9).1)).1).Last))], .blk g22 26 #[(.int .i64 (((allA l 7).1).From)), (.int .i64 (((allA l 7).1).Count)), (.int .i64 (((allA l 7).1).Sum)), (.int .i64 (((allA l 7).1).Min)), (.int .i64 (((allA l 7).1).Max)), (.int .i64 (((allA l 7).1).First)), (.int .i64 (((allA l 7).1).Last))], .blk g18 26 #[(.int .i64 (((allA (l.drop (k + 1 : Nat)) 9).1).From)), (.int .i64 (((allA (l.drop (k + 1 : Nat)) 9).1).Count)), (.int .i64 (((allA (l.drop (k + 1 : Nat)) 9).1).Sum)), (.int .i64 (((allA (l.drop (k + 1 : Nat)) 9).1).Min)), (.int .i64 (((allA (l.drop (k + 1 : Nat)) 9).1).Max)), (.int .i64 (((allA (l.drop (k + 1 : Nat)) 9).1).First)), (.int .i64 (((allA (l.drop (k + 1 : Nat)) 9).1).Last))], .blk g12 26 #[(.int .i64 (((allA (l.take (k + 1 : Nat)) 7).1).From)), (.int .i64 (((allA (l.take (k + 1 : Nat)) 7).1).Count)), (.int .i64 (((allA (l.take (k + 1 : Nat)) 7).1).Sum)), (.int .i64 (((allA (l.take (k + 1 : Nat)) 7).1).Min)), (.int .i64 (((allA (l.take (k + 1 : Nat)) 7).1).Max)), (.int .i64 (((allA (l.take (k + 1 : Nat)) 7).1).First)), (.int .i64 (((allA (l.take (k + 1 : Nat)) 7).1).Last))]] := hst.call hcall
              refine s_cons (op_move (.bool true) rfl ?_)
              refine s_yes 72 rfl rfl (op_move (.int .i64 ((allA (l.take (k + 1 : Nat)) 7).2)) rfl ?_)
              refine s_yes 72 rfl rfl (op_eql (k := .i64) (a := (allA (l.take (k + 1 : Nat)) 7).2) (b := 0) rfl rfl ?_)
              refine s_yes 72 rfl rfl (op_move (.bool (decide (((allA (l.take (k + 1 : Nat)) 7).2) = 0))) rfl ?_)
              refine s_no 75 rfl (congrArg Value.bool b29) ?_
              refine s_no 75 rfl (congrArg Value.bool b29) ?_
              refine s_yes 72 rfl rfl (op_pick_t (.bool true) (congrArg Value.bool b29) rfl ?_)
              refine s_cons (op_pick_t (.bool true) rfl rfl ?_)
              refine s_cons (op_move (.bool true) rfl ?_)
              refine s_yes 80 rfl rfl (op_move (.int .i64 ((allA (l.drop (k + 1 : Nat)) 9).2)) rfl ?_)
              refine s_yes 80 rfl rfl (op_eql (k := .i64) (a := (allA (l.drop (k + 1 : Nat)) 9).2) (b := 0) rfl rfl ?_)
              refine s_yes 80 rfl rfl (op_move (.bool (decide (((allA (l.drop (k + 1 : Nat)) 9).2) = 0))) rfl ?_)
              refine s_no 83 rfl (congrArg Value.bool b31) ?_
              refine s_no 83 rfl (congrArg Value.bool b31) ?_
              refine s_yes 80 rfl rfl (op_pick_t (.bool true) (congrArg Value.bool b31) rfl ?_)
              refine s_cons (op_pick_t (.bool true) rfl rfl ?_)
              refine s_cons (op_move (.bool true) rfl ?_)
              refine s_yes 88 rfl rfl (op_move (.int .i64 ((allA l 7).2)) rfl ?_)
              refine s_yes 88 rfl rfl (op_eql (k := .i64) (a := (allA l 7).2) (b := 0) rfl rfl ?_)
              refine s_yes 88 rfl rfl (op_move (.bool (decide (((allA l 7).2) = 0))) rfl ?_)
              refine s_no 91 rfl (congrArg Value.bool b33) ?_
              refine s_no 91 rfl (congrArg Value.bool b33) ?_
              refine s_yes 88 rfl rfl (op_pick_t (.bool true) (congrArg Value.bool b33) rfl ?_)
              refine s_cons (op_pick_t (.bool true) rfl rfl ?_)
              refine s_cons (op_assign (.bool true) rfl ?_)
              refine s_nil ?_
              refine then_n ?_
              refine cE_ret ?_
              refine then_r ?_
              refine post_r _ (res1 (v := (.bool true)) rfl) ?_
              exact ⟨rfl, hst.bare⟩
          · have c40 : ¬ (((allA l 7).2) = 0) := of_decide_eq_false b33
            refine s_no 67 rfl (congrArg Value.bool (congrArg (! ·) b33)) ?_
            refine s_no 67 rfl (congrArg Value.bool (congrArg (! ·) b33)) ?_
            refine s_cons (op_pick_t (.bool true) (congrArg Value.bool (congrArg (! ·) b33)) rfl ?_)
            refine s_nil ?_
            refine then_n ?_
            refine cE_cond true rfl (fun _ => ?_) (fun h => by cases h)
            refine cE_seq ?_
            refine cE_region rfl ?_
            refine s_cons (op_call Try.call14 evs_nil (c_told3 (w0 := w28)) ?_)
            rintro _ w41 ⟨rfl, hcall⟩
            refine ⟨_, rfl, ?_⟩
            have hst : St w0 w41 [.blk g26 26 #[(.int .i64 (((joinA ((allA (l.take (k + 1 : Nat)) 7).1) ((allA (l.drop (k + 1 : Nat)) 9).1)).1).From)), (.int .i64 (((joinA ((allA (l.take (k + 1 : Nat)) 7).1) ((allA (l.drop (k + 1 : Nat)) 9).1)).1).Count)), (.int .i64 (((joinA ((allA (l.take (k + 1 : Nat)) 7).1) ((allA (l.drop (k + 1 : Nat)) 9).1)).1).Sum)), (.int .i64 (((joinA ((allA (l.take (k + 1 : Nat)) 7).1) ((allA (l.drop (k + 1 : Nat)) 9).1)).1).Min)), (.int .i64 (((joinA ((allA (l.take (k + 1 : Nat)) 7).1) ((allA (l.drop (k + 1 : Nat)) 9).1)).1).Max)), (.int .i64 (((joinA ((allA (l.take (k + 1 : Nat)) 7).1) ((allA (l.drop (k + 1 : Nat)) 9).1)).1).First)), (.int .i64 (((joinA ((allA (l.take (k + 1 : Nat)) 7).1) ((allA (l.drop (k + 1 : Nat)) 9).1)).1).Last))], .blk g22 26 #[(.int .i64 (((allA l 7).1).From)), (.int .i64 (((allA l 7).1).Count)), (.int .i64 (((allA l 7).1).Sum)), (.int .i64 (((allA l 7).1).Min)), (.int .i64 (((allA l 7).1).Max)), (.int .i64 (((allA l 7).1).First)), (.int .i64 (((allA l 7).1).Last))], .blk g18 26 #[(.int .i64 (((allA (l.drop (k + 1 : Nat)) 9).1).From)), (.int .i64 (((allA (l.drop (k + 1 : Nat)) 9).1).Count)), (.int .i64 (((allA (l.drop (k + 1 : Nat)) 9).1).Sum)), (.int .i64 (((allA (l.drop (k + 1 : Nat)) 9).1).Min)), (.int .i64 (((allA (l.drop (k + 1 : Nat)) 9).1).Max)), (.int .i64 (((allA (l.drop (k + 1 : Nat)) 9).1).First)), (.int .i64 (((allA (l.drop (k + 1 : Nat)) 9).1).Last))], .blk g12 26 #[(.int .i64 (((allA (l.take (k + 1 : Nat)) 7).1).From)), (.int .i64 (((allA (l.take (k + 1 : Nat)) 7).1).Count)), (.int .i64 (((allA (l.take (k + 1 : Nat)) 7).1).Sum)), (.int .i64 (((allA (l.take (k + 1 : Nat)) 7).1).Min)), (.int .i64 (((allA (l.take (k + 1 : Nat)) 7).1).Max)), (.int .i64 (((allA (l.take (k + 1 : Nat)) 7).1).First)), (.int .i64 (((allA (l.take (k + 1 : Nat)) 7).1).Last))]] := hst.call hcall
            refine s_cons (op_move (.bool true) rfl ?_)
            refine s_yes 72 rfl rfl (op_move (.int .i64 ((allA (l.take (k + 1 : Nat)) 7).2)) rfl ?_)
            refine s_yes 72 rfl rfl (op_eql (k := .i64) (a := (allA (l.take (k + 1 : Nat)) 7).2) (b := 0) rfl rfl ?_)
            refine s_yes 72 rfl rfl (op_move (.bool (decide (((allA (l.take (k + 1 : Nat)) 7).2) = 0))) rfl ?_)
            refine s_no 75 rfl (congrArg Value.bool b29) ?_
            refine s_no 75 rfl (congrArg Value.bool b29) ?_
            refine s_yes 72 rfl rfl (op_pick_t (.bool true) (congrArg Value.bool b29) rfl ?_)
            refine s_cons (op_pick_t (.bool true) rfl rfl ?_)
            refine s_cons (op_move (.bool true) rfl ?_)
            refine s_yes 80 rfl rfl (op_move (.int .i64 ((allA (l.drop (k + 1 : Nat)) 9).2)) rfl ?_)
            refine s_yes 80 rfl rfl (op_eql (k := .i64) (a := (allA (l.drop (k + 1 : Nat)) 9).2) (b := 0) rfl rfl ?_)
            refine s_yes 80 rfl rfl (op_move (.bool (decide (((allA (l.drop (k + 1 : Nat)) 9).2) = 0))) rfl ?_)
            refine s_no 83 rfl (congrArg Value.bool b31) ?_
            refine s_no 83 rfl (congrArg Value.bool b31) ?_
            refine s_yes 80 rfl rfl (op_pick_t (.bool true) (congrArg Value.bool b31) rfl ?_)
            refine s_cons (op_pick_t (.bool true) rfl rfl ?_)
            refine s_cons (op_move (.bool true) rfl ?_)
            refine s_yes 88 rfl rfl (op_move (.int .i64 ((allA l 7).2)) rfl ?_)
            refine s_yes 88 rfl rfl (op_eql (k := .i64) (a := (allA l 7).2) (b := 0) rfl rfl ?_)
            refine s_yes 88 rfl rfl (op_move (.bool (decide (((allA l 7).2) = 0))) rfl ?_)
            refine s_yes 91 rfl (congrArg Value.bool b33) (op_move (.int .i64 ((allA l 7).2)) rfl ?_)
            refine s_yes 91 rfl (congrArg Value.bool b33) (op_eql (k := .i64) (a := (allA l 7).2) (b := 3) rfl rfl ?_)
            refine s_yes 88 rfl rfl (op_pick_f (.bool (decide (((allA l 7).2) = 3))) (congrArg Value.bool b33) rfl ?_)
            refine s_cons (op_pick_t (.bool (decide (((allA l 7).2) = 3))) rfl rfl ?_)
            refine s_cons (op_assign (.bool (decide (((allA l 7).2) = 3))) rfl ?_)
            refine s_nil ?_
            refine then_n ?_
            refine cE_ret ?_
            refine then_r ?_
            refine post_r _ (res1 (v := (.bool (decide (((allA l 7).2) = 3)))) rfl) ?_
            exact ⟨(retv1 (congrArg Value.bool (show decide (((allA l 7).2) = 3) = true from by first | omega | exact decide_eq_true (by omega)))), hst.bare⟩
        · have c42 : ¬ (((allA (l.drop (k + 1 : Nat)) 9).2) = 0) := of_decide_eq_false b31
          refine s_no 63 rfl (congrArg Value.bool (congrArg (! ·) b31)) ?_
          refine s_no 63 rfl (congrArg Value.bool (congrArg (! ·) b31)) ?_
          refine s_cons (op_pick_t (.bool true) (congrArg Value.bool (congrArg (! ·) b31)) rfl ?_)
          refine s_cons (op_move (.bool true) rfl ?_)
          refine s_no 67 rfl rfl ?_
          refine s_no 67 rfl rfl ?_
          refine s_cons (op_pick_t (.bool true) rfl rfl ?_)
          refine s_nil ?_
          refine then_n ?_
          refine cE_cond true rfl (fun _ => ?_) (fun h => by cases h)
          refine cE_seq ?_
          refine cE_region rfl ?_
          refine s_cons (op_call Try.call14 evs_nil (c_told3 (w0 := w28)) ?_)
          rintro _ w43 ⟨rfl, hcall⟩
          refine ⟨_, rfl, ?_⟩
          have hst : St w0 w43 [.blk g26 26 #[(.int .i64 (((joinA ((allA (l.take (k + 1 : Nat)) 7).1) ((allA (l.drop (k + 1 : Nat)) 9).1)).1).From)), (.int .i64 (((joinA ((allA (l.take (k + 1 : Nat)) 7).1) ((allA (l.drop (k + 1 : Nat)) 9).1)).1).Count)), (.int .i64 (((joinA ((allA (l.take (k + 1 : Nat)) 7).1) ((allA (l.drop (k + 1 : Nat)) 9).1)).1).Sum)), (.int .i64 (((joinA ((allA (l.take (k + 1 : Nat)) 7).1) ((allA (l.drop (k + 1 : Nat)) 9).1)).1).Min)), (.int .i64 (((joinA ((allA (l.take (k + 1 : Nat)) 7).1) ((allA (l.drop (k + 1 : Nat)) 9).1)).1).Max)), (.int .i64 (((joinA ((allA (l.take (k + 1 : Nat)) 7).1) ((allA (l.drop (k + 1 : Nat)) 9).1)).1).First)), (.int .i64 (((joinA ((allA (l.take (k + 1 : Nat)) 7).1) ((allA (l.drop (k + 1 : Nat)) 9).1)).1).Last))], .blk g22 26 #[(.int .i64 (((allA l 7).1).From)), (.int .i64 (((allA l 7).1).Count)), (.int .i64 (((allA l 7).1).Sum)), (.int .i64 (((allA l 7).1).Min)), (.int .i64 (((allA l 7).1).Max)), (.int .i64 (((allA l 7).1).First)), (.int .i64 (((allA l 7).1).Last))], .blk g18 26 #[(.int .i64 (((allA (l.drop (k + 1 : Nat)) 9).1).From)), (.int .i64 (((allA (l.drop (k + 1 : Nat)) 9).1).Count)), (.int .i64 (((allA (l.drop (k + 1 : Nat)) 9).1).Sum)), (.int .i64 (((allA (l.drop (k + 1 : Nat)) 9).1).Min)), (.int .i64 (((allA (l.drop (k + 1 : Nat)) 9).1).Max)), (.int .i64 (((allA (l.drop (k + 1 : Nat)) 9).1).First)), (.int .i64 (((allA (l.drop (k + 1 : Nat)) 9).1).Last))], .blk g12 26 #[(.int .i64 (((allA (l.take (k + 1 : Nat)) 7).1).From)), (.int .i64 (((allA (l.take (k + 1 : Nat)) 7).1).Count)), (.int .i64 (((allA (l.take (k + 1 : Nat)) 7).1).Sum)), (.int .i64 (((allA (l.take (k + 1 : Nat)) 7).1).Min)), (.int .i64 (((allA (l.take (k + 1 : Nat)) 7).1).Max)), (.int .i64 (((allA (l.take (k + 1 : Nat)) 7).1).First)), (.int .i64 (((allA (l.take (k + 1 : Nat)) 7).1).Last))]] := hst.call hcall
          refine s_cons (op_move (.bool true) rfl ?_)
          refine s_yes 72 rfl rfl (op_move (.int .i64 ((allA (l.take (k + 1 : Nat)) 7).2)) rfl ?_)
          refine s_yes 72 rfl rfl (op_eql (k := .i64) (a := (allA (l.take (k + 1 : Nat)) 7).2) (b := 0) rfl rfl ?_)
          refine s_yes 72 rfl rfl (op_move (.bool (decide (((allA (l.take (k + 1 : Nat)) 7).2) = 0))) rfl ?_)
          refine s_no 75 rfl (congrArg Value.bool b29) ?_
          refine s_no 75 rfl (congrArg Value.bool b29) ?_
          refine s_yes 72 rfl rfl (op_pick_t (.bool true) (congrArg Value.bool b29) rfl ?_)
          refine s_cons (op_pick_t (.bool true) rfl rfl ?_)
          refine s_cons (op_move (.bool true) rfl ?_)
          refine s_yes 80 rfl rfl (op_move (.int .i64 ((allA (l.drop (k + 1 : Nat)) 9).2)) rfl ?_)
          refine s_yes 80 rfl rfl (op_eql (k := .i64) (a := (allA (l.drop (k + 1 : Nat)) 9).2) (b := 0) rfl rfl ?_)
          refine s_yes 80 rfl rfl (op_move (.bool (decide (((allA (l.drop (k + 1 : Nat)) 9).2) = 0))) rfl ?_)
          refine s_yes 83 rfl (congrArg Value.bool b31) (op_move (.int .i64 ((allA (l.drop (k + 1 : Nat)) 9).2)) rfl ?_)
          refine s_yes 83 rfl (congrArg Value.bool b31) (op_eql (k := .i64) (a := (allA (l.drop (k + 1 : Nat)) 9).2) (b := 3) rfl rfl ?_)
          refine s_yes 80 rfl rfl (op_pick_f (.bool (decide (((allA (l.drop (k + 1 : Nat)) 9).2) = 3))) (congrArg Value.bool b31) rfl ?_)
          refine s_cons (op_pick_t (.bool (decide (((allA (l.drop (k + 1 : Nat)) 9).2) = 3))) rfl rfl ?_)
          refine s_cons (op_move (.bool (decide (((allA (l.drop (k + 1 : Nat)) 9).2) = 3))) rfl ?_)
          rcases Bool.eq_false_or_eq_true (decide (((allA (l.drop (k + 1 : Nat)) 9).2) = 3)) with b44 | b44
          · have c45 : ((allA (l.drop (k + 1 : Nat)) 9).2) = 3 := of_decide_eq_true b44
            refine s_yes 88 rfl (congrArg Value.bool b44) (op_move (.int .i64 ((allA l 7).2)) rfl ?_)
            refine s_yes 88 rfl (congrArg Value.bool b44) (op_eql (k := .i64) (a := (allA l 7).2) (b := 0) rfl rfl ?_)
            refine s_yes 88 rfl (congrArg Value.bool b44) (op_move (.bool (decide (((allA l 7).2) = 0))) rfl ?_)
            rcases Bool.eq_false_or_eq_true (decide (((allA l 7).2) = 0)) with b46 | b46
            · have c47 : ((allA l 7).2) = 0 := of_decide_eq_true b46
              refine s_no 91 rfl (congrArg Value.bool b46) ?_
              refine s_no 91 rfl (congrArg Value.bool b46) ?_
              refine s_yes 88 rfl (congrArg Value.bool b44) (op_pick_t (.bool true) (congrArg Value.bool b46) rfl ?_)
              refine s_cons (op_pick_t (.bool true) (congrArg Value.bool b44) rfl ?_)
              refine s_cons (op_assign (.bool true) rfl ?_)
              refine s_nil ?_
              refine then_n ?_
              refine cE_ret ?_
              refine then_r ?_
              refine post_r _ (res1 (v := (.bool true)) rfl) ?_
              exact ⟨rfl, hst.bare⟩
            · have c48 : ¬ (((allA l 7).2) = 0) := of_decide_eq_false b46
              refine s_yes 91 rfl (congrArg Value.bool b46) (op_move (.int .i64 ((allA l 7).2)) rfl ?_)
              refine s_yes 91 rfl (congrArg Value.bool b46) (op_eql (k := .i64) (a := (allA l 7).2) (b := 3) rfl rfl ?_)
              refine s_yes 88 rfl (congrArg Value.bool b44) (op_pick_f (.bool (decide (((allA l 7).2) = 3))) (congrArg Value.bool b46) rfl ?_)
              refine s_cons (op_pick_t (.bool (decide (((allA l 7).2) = 3))) (congrArg Value.bool b44) rfl ?_)
              refine s_cons (op_assign (.bool (decide (((allA l 7).2) = 3))) rfl ?_)
              refine s_nil ?_
              refine then_n ?_
              refine cE_ret ?_
              refine then_r ?_
              refine post_r _ (res1 (v := (.bool (decide (((allA l 7).2) = 3)))) rfl) ?_
              exact ⟨(retv1 (congrArg Value.bool (show decide (((allA l 7).2) = 3) = true from by first | omega | exact decide_eq_true (by omega)))), hst.bare⟩
          · have c49 : ¬ (((allA (l.drop (k + 1 : Nat)) 9).2) = 3) := of_decide_eq_false b44
            refine s_no 88 rfl (congrArg Value.bool b44) ?_
            refine s_no 88 rfl (congrArg Value.bool b44) ?_
            refine s_no 88 rfl (congrArg Value.bool b44) ?_
            refine s_un 91 rfl rfl ?_
            refine s_un 91 rfl rfl ?_
            refine s_no 88 rfl (congrArg Value.bool b44) ?_
            refine s_cons (op_pick_f (.bool false) (congrArg Value.bool b44) rfl ?_)
            refine s_cons (op_assign (.bool false) rfl ?_)
            refine s_nil ?_
            refine then_n ?_
            refine cE_ret ?_
            refine then_r ?_
            refine post_r _ (res1 (v := (.bool false)) rfl) ?_
            exact ⟨(retv1 (congrArg Value.bool (show false = true from by first | omega | exact decide_eq_true (by omega)))), hst.bare⟩
      · have c50 : ¬ (((allA (l.take (k + 1 : Nat)) 7).2) = 0) := of_decide_eq_false b29
        refine s_no 59 rfl (congrArg Value.bool (congrArg (! ·) b29)) ?_
        refine s_no 59 rfl (congrArg Value.bool (congrArg (! ·) b29)) ?_
        refine s_cons (op_pick_t (.bool true) (congrArg Value.bool (congrArg (! ·) b29)) rfl ?_)
        refine s_cons (op_move (.bool true) rfl ?_)
        refine s_no 63 rfl rfl ?_
        refine s_no 63 rfl rfl ?_
        refine s_cons (op_pick_t (.bool true) rfl rfl ?_)
        refine s_cons (op_move (.bool true) rfl ?_)
        refine s_no 67 rfl rfl ?_
        refine s_no 67 rfl rfl ?_
        refine s_cons (op_pick_t (.bool true) rfl rfl ?_)
        refine s_nil ?_
        refine then_n ?_
        refine cE_cond true rfl (fun _ => ?_) (fun h => by cases h)
        refine cE_seq ?_
        refine cE_region rfl ?_
        refine s_cons (op_call Try.call14 evs_nil (c_told3 (w0 := w28)) ?_)
        rintro _ w51 ⟨rfl, hcall⟩
        refine ⟨_, rfl, ?_⟩
        have hst : St w0 w51 [.blk g26 26 #[(.int .i64 (((joinA ((allA (l.take (k + 1 : Nat)) 7).1) ((allA (l.drop (k + 1 : Nat)) 9).1)).1).From)), (.int .i64 (((joinA ((allA (l.take (k + 1 : Nat)) 7).1) ((allA (l.drop (k + 1 : Nat)) 9).1)).1).Count)), (.int .i64 (((joinA ((allA (l.take (k + 1 : Nat)) 7).1) ((allA (l.drop (k + 1 : Nat)) 9).1)).1).Sum)), (.int .i64 (((joinA ((allA (l.take (k + 1 : Nat)) 7).1) ((allA (l.drop (k + 1 : Nat)) 9).1)).1).Min)), (.int .i64 (((joinA ((allA (l.take (k + 1 : Nat)) 7).1) ((allA (l.drop (k + 1 : Nat)) 9).1)).1).Max)), (.int .i64 (((joinA ((allA (l.take (k + 1 : Nat)) 7).1) ((allA (l.drop (k + 1 : Nat)) 9).1)).1).First)), (.int .i64 (((joinA ((allA (l.take (k + 1 : Nat)) 7).1) ((allA (l.drop (k + 1 : Nat)) 9).1)).1).Last))], .blk g22 26 #[(.int .i64 (((allA l 7).1).From)), (.int .i64 (((allA l 7).1).Count)), (.int .i64 (((allA l 7).1).Sum)), (.int .i64 (((allA l 7).1).Min)), (.int .i64 (((allA l 7).1).Max)), (.int .i64 (((allA l 7).1).First)), (.int .i64 (((allA l 7).1).Last))], .blk g18 26 #[(.int .i64 (((allA (l.drop (k + 1 : Nat)) 9).1).From)), (.int .i64 (((allA (l.drop (k + 1 : Nat)) 9).1).Count)), (.int .i64 (((allA (l.drop (k + 1 : Nat)) 9).1).Sum)), (.int .i64 (((allA (l.drop (k + 1 : Nat)) 9).1).Min)), (.int .i64 (((allA (l.drop (k + 1 : Nat)) 9).1).Max)), (.int .i64 (((allA (l.drop (k + 1 : Nat)) 9).1).First)), (.int .i64 (((allA (l.drop (k + 1 : Nat)) 9).1).Last))], .blk g12 26 #[(.int .i64 (((allA (l.take (k + 1 : Nat)) 7).1).From)), (.int .i64 (((allA (l.take (k + 1 : Nat)) 7).1).Count)), (.int .i64 (((allA (l.take (k + 1 : Nat)) 7).1).Sum)), (.int .i64 (((allA (l.take (k + 1 : Nat)) 7).1).Min)), (.int .i64 (((allA (l.take (k + 1 : Nat)) 7).1).Max)), (.int .i64 (((allA (l.take (k + 1 : Nat)) 7).1).First)), (.int .i64 (((allA (l.take (k + 1 : Nat)) 7).1).Last))]] := hst.call hcall
        refine s_cons (op_move (.bool true) rfl ?_)
        refine s_yes 72 rfl rfl (op_move (.int .i64 ((allA (l.take (k + 1 : Nat)) 7).2)) rfl ?_)
        refine s_yes 72 rfl rfl (op_eql (k := .i64) (a := (allA (l.take (k + 1 : Nat)) 7).2) (b := 0) rfl rfl ?_)
        refine s_yes 72 rfl rfl (op_move (.bool (decide (((allA (l.take (k + 1 : Nat)) 7).2) = 0))) rfl ?_)
        refine s_yes 75 rfl (congrArg Value.bool b29) (op_move (.int .i64 ((allA (l.take (k + 1 : Nat)) 7).2)) rfl ?_)
        refine s_yes 75 rfl (congrArg Value.bool b29) (op_eql (k := .i64) (a := (allA (l.take (k + 1 : Nat)) 7).2) (b := 3) rfl rfl ?_)
        refine s_yes 72 rfl rfl (op_pick_f (.bool (decide (((allA (l.take (k + 1 : Nat)) 7).2) = 3))) (congrArg Value.bool b29) rfl ?_)
        refine s_cons (op_pick_t (.bool (decide (((allA (l.take (k + 1 : Nat)) 7).2) = 3))) rfl rfl ?_)
        refine s_cons (op_move (.bool (decide (((allA (l.take (k + 1 : Nat)) 7).2) = 3))) rfl ?_)
        rcases Bool.eq_false_or_eq_true (decide (((allA (l.take (k + 1 : Nat)) 7).2) = 3)) with b52 | b52
        · have c53 : ((allA (l.take (k + 1 : Nat)) 7).2) = 3 := of_decide_eq_true b52
          refine s_yes 80 rfl (congrArg Value.bool b52) (op_move (.int .i64 ((allA (l.drop (k + 1 : Nat)) 9).2)) rfl ?_)
          refine s_yes 80 rfl (congrArg Value.bool b52) (op_eql (k := .i64) (a := (allA (l.drop (k + 1 : Nat)) 9).2) (b := 0) rfl rfl ?_)
          refine s_yes 80 rfl (congrArg Value.bool b52) (op_move (.bool (decide (((allA (l.drop (k + 1 : Nat)) 9).2) = 0))) rfl ?_)
          rcases Bool.eq_false_or_eq_true (decide (((allA (l.drop (k + 1 : Nat)) 9).2) = 0)) with b54 | b54
          · have c55 : ((allA (l.drop (k + 1 : Nat)) 9).2) = 0 := of_decide_eq_true b54
            refine s_no 83 rfl (congrArg Value.bool b54) ?_
            refine s_no 83 rfl (congrArg Value.bool b54) ?_
            refine s_yes 80 rfl (congrArg Value.bool b52) (op_pick_t (.bool true) (congrArg Value.bool b54) rfl ?_)
            refine s_cons (op_pick_t (.bool true) (congrArg Value.bool b52) rfl ?_)
            refine s_cons (op_move (.bool true) rfl ?_)
            refine s_yes 88 rfl rfl (op_move (.int .i64 ((allA l 7).2)) rfl ?_)
            refine s_yes 88 rfl rfl (op_eql (k := .i64) (a := (allA l 7).2) (b := 0) rfl rfl ?_)
            refine s_yes 88 rfl rfl (op_move (.bool (decide (((allA l 7).2) = 0))) rfl ?_)
            rcases Bool.eq_false_or_eq_true (decide (((allA l 7).2) = 0)) with b56 | b56
            · have c57 : ((allA l 7).2) = 0 := of_decide_eq_true b56
              refine s_no 91 rfl (congrArg Value.bool b56) ?_
              refine s_no 91 rfl (congrArg Value.bool b56) ?_
              refine s_yes 88 rfl rfl (op_pick_t (.bool true) (congrArg Value.bool b56) rfl ?_)
              refine s_cons (op_pick_t (.bool true) rfl rfl ?_)
              refine s_cons (op_assign (.bool true) rfl ?_)
              refine s_nil ?_
              refine then_n ?_
              refine cE_ret ?_
              refine then_r ?_
              refine post_r _ (res1 (v := (.bool true)) rfl) ?_
              exact ⟨rfl, hst.bare⟩
            · have c58 : ¬ (((allA l 7).2) = 0) := of_decide_eq_false b56
              refine s_yes 91 rfl (congrArg Value.bool b56) (op_move (.int .i64 ((allA l 7).2)) rfl ?_)
              refine s_yes 91 rfl (congrArg Value.bool b56) (op_eql (k := .i64) (a := (allA l 7).2) (b := 3) rfl rfl ?_)
              refine s_yes 88 rfl rfl (op_pick_f (.bool (decide (((allA l 7).2) = 3))) (congrArg Value.bool b56) rfl ?_)
              refine s_cons (op_pick_t (.bool (decide (((allA l 7).2) = 3))) rfl rfl ?_)
              refine s_cons (op_assign (.bool (decide (((allA l 7).2) = 3))) rfl ?_)
              refine s_nil ?_
              refine then_n ?_
              refine cE_ret ?_
              refine then_r ?_
              refine post_r _ (res1 (v := (.bool (decide (((allA l 7).2) = 3)))) rfl) ?_
              exact ⟨(retv1 (congrArg Value.bool (show decide (((allA l 7).2) = 3) = true from by first | omega | exact decide_eq_true (by omega)))), hst.bare⟩
          · have c59 : ¬ (((allA (l.drop (k + 1 : Nat)) 9).2) = 0) := of_decide_eq_false b54
            refine s_yes 83 rfl (congrArg Value.bool b54) (op_move (.int .i64 ((allA (l.drop (k + 1 : Nat)) 9).2)) rfl ?_)
            refine s_yes 83 rfl (congrArg Value.bool b54) (op_eql (k := .i64) (a := (allA (l.drop (k + 1 : Nat)) 9).2) (b := 3) rfl rfl ?_)
            refine s_yes 80 rfl (congrArg Value.bool b52) (op_pick_f (.bool (decide (((allA (l.drop (k + 1 : Nat)) 9).2) = 3))) (congrArg Value.bool b54) rfl ?_)
            refine s_cons (op_pick_t (.bool (decide (((allA (l.drop (k + 1 : Nat)) 9).2) = 3))) (congrArg Value.bool b52) rfl ?_)
            refine s_cons (op_move (.bool (decide (((allA (l.drop (k + 1 : Nat)) 9).2) = 3))) rfl ?_)
            rcases Bool.eq_false_or_eq_true (decide (((allA (l.drop (k + 1 : Nat)) 9).2) = 3)) with b60 | b60
            · have c61 : ((allA (l.drop (k + 1 : Nat)) 9).2) = 3 := of_decide_eq_true b60
              refine s_yes 88 rfl (congrArg Value.bool b60) (op_move (.int .i64 ((allA l 7).2)) rfl ?_)
              refine s_yes 88 rfl (congrArg Value.bool b60) (op_eql (k := .i64) (a := (allA l 7).2) (b := 0) rfl rfl ?_)
              refine s_yes 88 rfl (congrArg Value.bool b60) (op_move (.bool (decide (((allA l 7).2) = 0))) rfl ?_)
              rcases Bool.eq_false_or_eq_true (decide (((allA l 7).2) = 0)) with b62 | b62
              · have c63 : ((allA l 7).2) = 0 := of_decide_eq_true b62
                refine s_no 91 rfl (congrArg Value.bool b62) ?_
                refine s_no 91 rfl (congrArg Value.bool b62) ?_
                refine s_yes 88 rfl (congrArg Value.bool b60) (op_pick_t (.bool true) (congrArg Value.bool b62) rfl ?_)
                refine s_cons (op_pick_t (.bool true) (congrArg Value.bool b60) rfl ?_)
                refine s_cons (op_assign (.bool true) rfl ?_)
                refine s_nil ?_
                refine then_n ?_
                refine cE_ret ?_
                refine then_r ?_
                refine post_r _ (res1 (v := (.bool true)) rfl) ?_
                exact ⟨rfl, hst.bare⟩
              · have c64 : ¬ (((allA l 7).2) = 0) := of_decide_eq_false b62
                refine s_yes 91 rfl (congrArg Value.bool b62) (op_move (.int .i64 ((allA l 7).2)) rfl ?_)
                refine s_yes 91 rfl (congrArg Value.bool b62) (op_eql (k := .i64) (a := (allA l 7).2) (b := 3) rfl rfl ?_)
                refine s_yes 88 rfl (congrArg Value.bool b60) (op_pick_f (.bool (decide (((allA l 7).2) = 3))) (congrArg Value.bool b62) rfl ?_)
                refine s_cons (op_pick_t (.bool (decide (((allA l 7).2) = 3))) (congrArg Value.bool b60) rfl ?_)
                refine s_cons (op_assign (.bool (decide (((allA l 7).2) = 3))) rfl ?_)
                refine s_nil ?_
                refine then_n ?_
                refine cE_ret ?_
                refine then_r ?_
                refine post_r _ (res1 (v := (.bool (decide (((allA l 7).2) = 3)))) rfl) ?_
                exact ⟨(retv1 (congrArg Value.bool (show decide (((allA l 7).2) = 3) = true from by first | omega | exact decide_eq_true (by omega)))), hst.bare⟩
            · have c65 : ¬ (((allA (l.drop (k + 1 : Nat)) 9).2) = 3) := of_decide_eq_false b60
              refine s_no 88 rfl (congrArg Value.bool b60) ?_
              refine s_no 88 rfl (congrArg Value.bool b60) ?_
              refine s_no 88 rfl (congrArg Value.bool b60) ?_
              refine s_un 91 rfl rfl ?_
              refine s_un 91 rfl rfl ?_
              refine s_no 88 rfl (congrArg Value.bool b60) ?_
              refine s_cons (op_pick_f (.bool false) (congrArg Value.bool b60) rfl ?_)
              refine s_cons (op_assign (.bool false) rfl ?_)
              refine s_nil ?_
              refine then_n ?_
              refine cE_ret ?_
              refine then_r ?_
              refine post_r _ (res1 (v := (.bool false)) rfl) ?_
              exact ⟨(retv1 (congrArg Value.bool (show false = true from by first | omega | exact decide_eq_true (by omega)))), hst.bare⟩
        · have c66 : ¬ (((allA (l.take (k + 1 : Nat)) 7).2) = 3) := of_decide_eq_false b52
          refine s_no 80 rfl (congrArg Value.bool b52) ?_
          refine s_no 80 rfl (congrArg Value.bool b52) ?_
          refine s_no 80 rfl (congrArg Value.bool b52) ?_
          refine s_un 83 rfl rfl ?_
          refine s_un 83 rfl rfl ?_
          refine s_no 80 rfl (congrArg Value.bool b52) ?_
          refine s_cons (op_pick_f (.bool false) (congrArg Value.bool b52) rfl ?_)
          refine s_cons (op_move (.bool false) rfl ?_)
          refine s_no 88 rfl rfl ?_
          refine s_no 88 rfl rfl ?_
          refine s_no 88 rfl rfl ?_
          refine s_un 91 rfl rfl ?_
          refine s_un 91 rfl rfl ?_
          refine s_no 88 rfl rfl ?_
          refine s_cons (op_pick_f (.bool false) rfl rfl ?_)
          refine s_cons (op_assign (.bool false) rfl ?_)
          refine s_nil ?_
          refine then_n ?_
          refine cE_ret ?_
          refine then_r ?_
          refine post_r _ (res1 (v := (.bool false)) rfl) ?_
          exact ⟨(retv1 (congrArg Value.bool (show false = true from by first | omega | exact decide_eq_true (by omega)))), hst.bare⟩

end Go.Proofs.Ytffnhcioponbbaa
