/- the law VaryOrders of numbers as bytes -/
import Derived.Test.YtealhahaeiibjaaW3
import Derived.Test.YtealhahaeiibjaaZ
import Derived.Test.YtealhahaeiibjaaW4
namespace Go.Proofs.Ytealhahaeiibjaa
open Go.RowKit

theorem c_VaryOrders (w0 : World) (a : Int) (b : Int) (a0 : 0 ≤ a) (a1 : a ≤ 18446744073709551615) (b0 : 0 ≤ b) (b1 : b ≤ 18446744073709551615) :
    Calls Try.prog 8 #[(.int .u64 a), (.int .u64 b)] w0 fun e w' => e = .returned (.bool true) ∧ St w0 w' [] := by
  have hla := put_length a
  have hlb := put_length b
  refine calls_E (n := 87) (ts := [4]) Try.func8 rfl rfl rfl (by simp) ?_
  have hst := St.start w0
  refine cE_seq ?_
  refine cE_region rfl ?_
  refine s_cons (op_assign (.bool false) rfl ?_)
  refine s_nil ?_
  refine then_n ?_
  refine cE_seq ?_
  refine cE_region rfl ?_
  refine s_cons (op_move (.int .u64 a) rfl ?_)
  refine s_cons (op_call Try.call19 (evs_cons (v := (.int .u64 a)) rfl evs_nil) (c_Put (w0 := w0) (n := a) (h0 := (by omega)) (h1 := (by omega))) ?_)
  rintro _ w2 ⟨r1, rfl, hcall⟩
  refine ⟨_, rfl, ?_⟩
  have hst : St w0 w2 [rowT 5 u8E r1 (put a)] := hst.call hcall
  refine s_cons (op_move (.int .u64 b) rfl ?_)
  refine s_cons (op_call Try.call19 (evs_cons (v := (.int .u64 b)) rfl evs_nil) (c_Put (w0 := w2) (n := b) (h0 := (by omega)) (h1 := (by omega))) ?_)
  rintro _ w4 ⟨r3, rfl, hcall⟩
  refine ⟨_, rfl, ?_⟩
  have hst : St w0 w4 [rowT 5 u8E r3 (put b), rowT 5 u8E r1 (put a)] := hst.call hcall
  refine s_cons (op_assign r1 rfl ?_)
  refine s_cons (op_assign r3 rfl ?_)
  refine s_nil ?_
  refine then_n ?_
  refine cE_seq ?_
  refine cE_seq ?_
  refine cE_region rfl ?_
  refine s_cons (op_move r1 rfl ?_)
  refine s_cons (op_len (E := u8E) (xs := (put a)) Try.underlying22 rfl (hst.sl 1 rfl) ?_)
  refine s_cons (op_move r3 rfl ?_)
  refine s_cons (op_len (E := u8E) (xs := (put b)) Try.underlying22 rfl (hst.sl 0 rfl) ?_)
  refine s_cons (op_neq (k := .i64) (a := ((put a).length : Int)) (b := ((put b).length : Int)) rfl rfl ?_)
  refine s_cons (op_move (.bool (!decide (((put a).length : Int) = ((put b).length : Int)))) rfl ?_)
  rcases Bool.eq_false_or_eq_true (decide (((put a).length : Int) = ((put b).length : Int))) with b5 | b5
  · have c6 : ((put a).length : Int) = ((put b).length : Int) := of_decide_eq_true b5
    refine s_yes 17 rfl (congrArg Value.bool (congrArg (! ·) b5)) (op_move (.int .u64 a) rfl ?_)
    refine s_yes 17 rfl (congrArg Value.bool (congrArg (! ·) b5)) (op_move (.int .u64 b) rfl ?_)
    refine s_yes 17 rfl (congrArg Value.bool (congrArg (! ·) b5)) (op_eql (k := .u64) (a := a) (b := b) rfl rfl ?_)
    refine s_cons (op_pick_f (.bool (decide (a = b))) (congrArg Value.bool (congrArg (! ·) b5)) rfl ?_)
    refine s_nil ?_
    refine then_n ?_
    rcases Bool.eq_false_or_eq_true (decide (a = b)) with b7 | b7
    · have c8 : a = b := of_decide_eq_true b7
      refine cE_cond true (congrArg Value.bool b7) (fun _ => ?_) (fun h => by cases h)
      refine cE_seq ?_
      refine cE_region rfl ?_
      refine s_cons (op_call Try.call20 evs_nil (c_told1 (w0 := w4)) ?_)
      rintro _ w9 ⟨rfl, hcall⟩
      refine ⟨_, rfl, ?_⟩
      have hst : St w0 w9 [rowT 5 u8E r3 (put b), rowT 5 u8E r1 (put a)] := hst.call hcall
      refine s_cons (op_move (.bool true) rfl ?_)
      refine s_yes 23 rfl rfl (op_move r1 rfl ?_)
      refine s_yes 23 rfl rfl (op_len (E := u8E) (xs := (put a)) Try.underlying22 rfl (hst.sl 1 rfl) ?_)
      refine s_yes 23 rfl rfl (op_move r3 rfl ?_)
      refine s_yes 23 rfl rfl (op_len (E := u8E) (xs := (put b)) Try.underlying22 rfl (hst.sl 0 rfl) ?_)
      refine s_yes 23 rfl rfl (op_eql (k := .i64) (a := ((put a).length : Int)) (b := ((put b).length : Int)) rfl rfl ?_)
      refine s_yes 23 rfl rfl (op_move (.bool (decide (((put a).length : Int) = ((put b).length : Int)))) rfl ?_)
      refine s_no 29 rfl (congrArg Value.bool b5) ?_
      refine s_no 29 rfl (congrArg Value.bool b5) ?_
      refine s_no 29 rfl (congrArg Value.bool b5) ?_
      refine s_no 29 rfl (congrArg Value.bool b5) ?_
      refine s_no 29 rfl (congrArg Value.bool b5) ?_
      refine s_no 29 rfl (congrArg Value.bool b5) ?_
      refine s_no 29 rfl (congrArg Value.bool b5) ?_
      refine s_no 29 rfl (congrArg Value.bool b5) ?_
      refine s_no 29 rfl (congrArg Value.bool b5) ?_
      refine s_yes 23 rfl rfl (op_pick_t (.bool true) (congrArg Value.bool b5) rfl ?_)
      refine s_cons (op_pick_t (.bool true) rfl rfl ?_)
      refine s_cons (op_move (.bool true) rfl ?_)
      refine s_yes 41 rfl rfl (op_move (.int .u64 a) rfl ?_)
      refine s_yes 41 rfl rfl (op_move (.int .u64 b) rfl ?_)
      refine s_yes 41 rfl rfl (op_neq (k := .u64) (a := a) (b := b) rfl rfl ?_)
      refine s_yes 41 rfl rfl (op_move (.bool (!decide (a = b))) rfl ?_)
      refine s_yes 45 rfl (congrArg Value.bool (congrArg (! ·) b7)) (op_move r1 rfl ?_)
      refine s_yes 45 rfl (congrArg Value.bool (congrArg (! ·) b7)) (op_str (xs := (put a)) Try.underlying22 Try.underlying5 Try.underlying9 rfl (hst.sl 1 rfl) ?_)
      refine s_yes 45 rfl (congrArg Value.bool (congrArg (! ·) b7)) (op_move r3 rfl ?_)
      refine s_yes 45 rfl (congrArg Value.bool (congrArg (! ·) b7)) (op_str (xs := (put b)) Try.underlying22 Try.underlying5 Try.underlying9 rfl (hst.sl 0 rfl) ?_)
      refine s_yes 45 rfl (congrArg Value.bool (congrArg (! ·) b7)) (op_eqlStr (a := (put a)) (b := (put b)) rfl rfl ?_)
      refine s_yes 41 rfl rfl (op_pick_f (.bool (decide ((put a) = (put b)))) (congrArg Value.bool (congrArg (! ·) b7)) rfl ?_)
      refine s_cons (op_pick_t (.bool (decide ((put a) = (put b)))) rfl rfl ?_)
      refine s_cons (op_assign (.bool (decide ((put a) = (put b)))) rfl ?_)
      refine s_nil ?_
      refine then_n ?_
      refine cE_ret ?_
      refine then_r ?_
      refine post_r _ (res1 (v := (.bool true)) (congrArg Value.bool (show (decide ((put a) = (put b))) = true from (decide_eq_true (congrArg put (by omega)))))) ?_
      exact ⟨rfl, hst.bare⟩
    · have c10 : ¬ (a = b) := of_decide_eq_false b7
      refine cE_cond false (congrArg Value.bool b7) (fun h => by cases h) (fun _ => ?_)
      refine cE_skip ?_
      refine then_n ?_
      refine cE_seq ?_
      refine cE_seq ?_
      refine cE_region rfl ?_
      refine s_cons (op_move r1 rfl ?_)
      refine s_cons (op_len (E := u8E) (xs := (put a)) Try.underlying22 rfl (hst.sl 1 rfl) ?_)
      refine s_cons (op_sub (k := .i64) (a := ((put a).length : Int)) (b := 1) (((put a).length : Int) - 1) rfl rfl (xi64 (by omega) (by omega)) ?_)
      refine s_cons (op_assign (.int .i64 (((put a).length : Int) - 1)) rfl ?_)
      refine s_nil ?_
      refine then_n ?_
      refine cE_block ?_
      refine cE_loop (fun (m : Nat) (ρ : Env) (w : World) => ∃ (j : Nat), m = j ∧ ρ 0 = (.int .u64 a) ∧ ρ 1 = (.int .u64 b) ∧ ρ 8 = (.int .u64 a) ∧ ρ 9 = r1 ∧ ρ 10 = (.int .u64 b) ∧ ρ 11 = r3 ∧ ρ 5 = r1 ∧ ρ 6 = r3 ∧ ρ 12 = r1 ∧ ρ 13 = (.int .i64 ((put a).length : Int)) ∧ ρ 14 = r3 ∧ ρ 15 = (.int .i64 ((put b).length : Int)) ∧ ρ 16 = (.bool (!decide (((put a).length : Int) = ((put b).length : Int)))) ∧ ρ 17 = (.bool (!decide (((put a).length : Int) = ((put b).length : Int)))) ∧ ρ 18 = (.int .u64 a) ∧ ρ 19 = (.int .u64 b) ∧ ρ 20 = (.bool (decide (a = b))) ∧ ρ 21 = (.bool (decide (a = b))) ∧ ρ 53 = r1 ∧ ρ 54 = (.int .i64 ((put a).length : Int)) ∧ ρ 55 = (.int .i64 (((put a).length : Int) - 1)) ∧ ρ 7 = (.int .i64 ((j : Int) - 1)) ∧ St w0 w [rowT 5 u8E r3 (put b), rowT 5 u8E r1 (put a)] ∧ j ≤ (put a).length ∧ (∀ t, j ≤ t → (put a)[t]? = (put b)[t]?)) id _ ⟨(put a).length, rfl, rfl, rfl, rfl, rfl, rfl, rfl, rfl, rfl, rfl, rfl, rfl, rfl, rfl, rfl, rfl, rfl, rfl, rfl, rfl, rfl, rfl, (congrArg (Value.int .i64) (show (((put a).length : Int) - 1) = _ from by omega)), hst, (by omega), (by first | exact fun t ht => none_both (by omega) ht | exact eq_step he (by omega) (by omega) (by omega) (by omega))⟩ ?_
      rintro m12 ρ13 w14 ⟨j, hm12, q11_0, q11_1, q11_8, q11_9, q11_10, q11_11, q11_5, q11_6, q11_12, q11_13, q11_14, q11_15, q11_16, q11_17, q11_18, q11_19, q11_20, q11_21, q11_53, q11_54, q11_55, q11_7, hst, hjl, he⟩
      refine cE_seq ?_
      refine cE_seq ?_
      refine cE_region rfl ?_
      refine s_cons (op_move (.int .i64 ((j : Int) - 1)) q11_7 ?_)
      refine s_cons (op_geq (k := .i64) (a := ((j : Int) - 1)) (b := 0) rfl rfl ?_)
      refine s_nil ?_
      refine then_n ?_
      rcases Bool.eq_false_or_eq_true (decide (0 ≤ ((j : Int) - 1))) with b15 | b15
      · have c16 : 0 ≤ ((j : Int) - 1) := of_decide_eq_true b15
        refine cE_cond true (congrArg Value.bool b15) (fun _ => ?_) (fun h => by cases h)
        refine cE_skip ?_
        refine then_n ?_
        refine cE_seq ?_
        refine cE_block ?_
        refine cE_seq ?_
        refine cE_regionL hst [[(5, none)], [(7, none)], [(60, some 0), (61, some 1)], [(62, some 2)], [(6, none)], [(7, none)], [(64, some 4), (65, some 5)], [(66, some 6)], [(63, some 3), (67, some 7)]] [(rEq r1), (rEq (.int .i64 ((j : Int) - 1))), (rPt [(.int .u8 (((put a)[(j - 1)]'(by omega)).toNat : Int))]), (rEq (.int .u8 (((put a)[(j - 1)]'(by omega)).toNat : Int))), (rEq r3), (rEq (.int .i64 ((j : Int) - 1))), (rPt [(.int .u8 (((put b)[(j - 1)]'(by omega)).toNat : Int))]), (rEq (.int .u8 (((put b)[(j - 1)]'(by omega)).toNat : Int))), (rEq (.bool (!decide ((((put a)[(j - 1)]'(by omega)).toNat : Int) = (((put b)[(j - 1)]'(by omega)).toNat : Int)))))] (by kernel_rfl) rfl (by kernel_rfl) ⟨sEq, sEq, sPt, sEq, sEq, sEq, sPt, sEq, sEq, trivial⟩ ⟨?_, ?_, ?_, ?_, ?_, ?_, ?_, ?_, ?_, trivial⟩ ?_
        · rintro ρ25 w26 hj27 ⟨f5, _⟩
          have hst := hj27.2
          exact go_plain (op_move r1 (f5.trans q11_5) (kS hj27 rfl))
        · rintro ρ28 w29 hj30 ⟨f7, _⟩
          have hst := hj30.2
          exact go_plain (op_move (.int .i64 ((j : Int) - 1)) (f7.trans q11_7) (kS hj30 rfl))
        · rintro ρ31 w32 hj33 ⟨f60, f61, _⟩
          have hst := hj33.2
          refine go_plain (op_indexAddrN (E := u8E) (xs := (put a)) (j - 1) Try.underlying22 Try.sizeOf5 f60 (hst.sl 1 rfl) f61 (by omega) (by omega) (fun a34 o35 p36 => ?_))
          exact kS hj33 ⟨_, _, rfl, p36⟩
        · rintro ρ37 w38 hj39 ⟨f62, _⟩
          have hst := hj39.2
          obtain ⟨a40, o41, e42, p43⟩ := f62
          exact go_plain (op_load1 (u := (.int .u8 (((put a)[(j - 1)]'(by omega)).toNat : Int))) Try.isAgg5 e42 p43 (kS hj39 rfl))
        · rintro ρ45 w46 hj47 ⟨f6, _⟩
          have hst := hj47.2
          exact go_plain (op_move r3 (f6.trans q11_6) (kS hj47 rfl))
        · rintro ρ48 w49 hj50 ⟨f7, _⟩
          have hst := hj50.2
          exact go_plain (op_move (.int .i64 ((j : Int) - 1)) (f7.trans q11_7) (kS hj50 rfl))
        · rintro ρ51 w52 hj53 ⟨f64, f65, _⟩
          have hst := hj53.2
          refine go_plain (op_indexAddrN (E := u8E) (xs := (put b)) (j - 1) Try.underlying22 Try.sizeOf5 f64 (hst.sl 0 rfl) f65 (by omega) (by omega) (fun a54 o55 p56 => ?_))
          exact kS hj53 ⟨_, _, rfl, p56⟩
        · rintro ρ57 w58 hj59 ⟨f66, _⟩
          have hst := hj59.2
          obtain ⟨a60, o61, e62, p63⟩ := f66
          exact go_plain (op_load1 (u := (.int .u8 (((put b)[(j - 1)]'(by omega)).toNat : Int))) Try.isAgg5 e62 p63 (kS hj59 rfl))
        · rintro ρ65 w66 hj67 ⟨f63, f67, _⟩
          have hst := hj67.2
          exact go_plain (op_neq (k := .u8) (a := (((put a)[(j - 1)]'(by omega)).toNat : Int)) (b := (((put b)[(j - 1)]'(by omega)).toNat : Int)) f63 f67 (kS hj67 rfl))
        · intro ρ68 w69 hbw69 hst hRw69 hkw69
          have uw69_0 : ρ68 0 = (.int .u64 a) := (hkw69 0 rfl).trans q11_0
          have uw69_1 : ρ68 1 = (.int .u64 b) := (hkw69 1 rfl).trans q11_1
          have uw69_8 : ρ68 8 = (.int .u64 a) := (hkw69 8 rfl).trans q11_8
          have uw69_9 : ρ68 9 = r1 := (hkw69 9 rfl).trans q11_9
          have uw69_10 : ρ68 10 = (.int .u64 b) := (hkw69 10 rfl).trans q11_10
          have uw69_11 : ρ68 11 = r3 := (hkw69 11 rfl).trans q11_11
          have uw69_5 : ρ68 5 = r1 := (hkw69 5 rfl).trans q11_5
          have uw69_6 : ρ68 6 = r3 := (hkw69 6 rfl).trans q11_6
          have uw69_12 : ρ68 12 = r1 := (hkw69 12 rfl).trans q11_12
          have uw69_13 : ρ68 13 = (.int .i64 ((put a).length : Int)) := (hkw69 13 rfl).trans q11_13
          have uw69_14 : ρ68 14 = r3 := (hkw69 14 rfl).trans q11_14
          have uw69_15 : ρ68 15 = (.int .i64 ((put b).length : Int)) := (hkw69 15 rfl).trans q11_15
          have uw69_16 : ρ68 16 = (.bool (!decide (((put a).length : Int) = ((put b).length : Int)))) := (hkw69 16 rfl).trans q11_16
          have uw69_17 : ρ68 17 = (.bool (!decide (((put a).length : Int) = ((put b).length : Int)))) := (hkw69 17 rfl).trans q11_17
          have uw69_18 : ρ68 18 = (.int .u64 a) := (hkw69 18 rfl).trans q11_18
          have uw69_19 : ρ68 19 = (.int .u64 b) := (hkw69 19 rfl).trans q11_19
          have uw69_20 : ρ68 20 = (.bool (decide (a = b))) := (hkw69 20 rfl).trans q11_20
          have uw69_21 : ρ68 21 = (.bool (decide (a = b))) := (hkw69 21 rfl).trans q11_21
          have uw69_53 : ρ68 53 = r1 := (hkw69 53 rfl).trans q11_53
          have uw69_54 : ρ68 54 = (.int .i64 ((put a).length : Int)) := (hkw69 54 rfl).trans q11_54
          have uw69_55 : ρ68 55 = (.int .i64 (((put a).length : Int) - 1)) := (hkw69 55 rfl).trans q11_55
          have uw69_7 : ρ68 7 = (.int .i64 ((j : Int) - 1)) := (hkw69 7 rfl).trans q11_7
          have uw69_56 : ρ68 56 = (.int .i64 ((j : Int) - 1)) := (hkw69 56 rfl).trans rfl
          have uw69_57 : ρ68 57 = (.bool (decide (0 ≤ ((j : Int) - 1)))) := (hkw69 57 rfl).trans rfl
          have uw69_68 : ρ68 68 = (.bool (!decide ((((put a)[(j - 1)]'(by omega)).toNat : Int) = (((put b)[(j - 1)]'(by omega)).toNat : Int)))) := hRw69 8 68 rfl
          refine then_n ?_
          rcases Bool.eq_false_or_eq_true (decide ((((put a)[(j - 1)]'(by omega)).toNat : Int) = (((put b)[(j - 1)]'(by omega)).toNat : Int))) with b70 | b70
          · have c71 : (((put a)[(j - 1)]'(by omega)).toNat : Int) = (((put b)[(j - 1)]'(by omega)).toNat : Int) := of_decide_eq_true b70
            refine cE_cond false (uw69_68.trans (congrArg Value.bool (congrArg (! ·) b70))) (fun h => by cases h) (fun _ => ?_)
            refine cE_skip ?_
            refine block_n (then_n ?_)
            refine cE_region rfl ?_
            refine s_cons (op_move (.int .i64 ((j : Int) - 1)) uw69_7 ?_)
            refine s_cons (op_sub (k := .i64) (a := ((j : Int) - 1)) (b := 1) (((j : Int) - 1) - 1) rfl rfl (xi64 (by omega) (by omega)) ?_)
            refine s_cons (op_assign (.int .i64 (((j : Int) - 1) - 1)) rfl ?_)
            refine s_nil ?_
            refine then_n ?_
            exact ⟨_, ⟨(j - 1), rfl, uw69_0, uw69_1, uw69_8, uw69_9, uw69_10, uw69_11, uw69_5, uw69_6, uw69_12, uw69_13, uw69_14, uw69_15, uw69_16, uw69_17, uw69_18, uw69_19, uw69_20, uw69_21, uw69_53, uw69_54, uw69_55, (congrArg (Value.int .i64) (show (((j : Int) - 1) - 1) = _ from by omega)), hst, (by omega), (by first | exact fun t ht => none_both (by omega) ht | exact eq_step he (by omega) (by omega) (by omega) (by omega))⟩, (by simp only [id]; omega)⟩
          · have c72 : ¬ ((((put a)[(j - 1)]'(by omega)).toNat : Int) = (((put b)[(j - 1)]'(by omega)).toNat : Int)) := of_decide_eq_false b70
            refine cE_cond true (uw69_68.trans (congrArg Value.bool (congrArg (! ·) b70))) (fun _ => ?_) (fun h => by cases h)
            refine cE_seq ?_
            refine cE_regionL hst [[], [(69, some 0)], [(5, none), (70, some 1)], [(7, none), (70, some 1)], [(71, some 2), (72, some 3), (70, some 1)], [(73, some 4), (70, some 1)], [(74, some 5), (70, some 1)], [(6, none), (70, some 1)], [(7, none), (70, some 1)], [(76, some 7), (77, some 8), (70, some 1)], [(78, some 9), (70, some 1)], [(79, some 10), (70, some 1)], [(75, some 6), (80, some 11), (70, some 1)], [(0, none), (70, some 1)], [(1, none), (70, some 1)], [(82, some 13), (83, some 14), (70, some 1)], [(81, some 12), (84, some 15), (70, some 1)], [(70, some 1), (85, some 16)], [(86, some 17)]] [(rEq (.bool true)), (rEq (.bool true)), (rEq r1), (rEq (.int .i64 ((j : Int) - 1))), (rPt [(.int .u8 (((put a)[(j - 1)]'(by omega)).toNat : Int))]), (rEq (.int .u8 (((put a)[(j - 1)]'(by omega)).toNat : Int))), (rEq (.int .u8 ((((put a)[(j - 1)]'(by omega)).toNat : Int) % 128))), (rEq r3), (rEq (.int .i64 ((j : Int) - 1))), (rPt [(.int .u8 (((put b)[(j - 1)]'(by omega)).toNat : Int))]), (rEq (.int .u8 (((put b)[(j - 1)]'(by omega)).toNat : Int))), (rEq (.int .u8 ((((put b)[(j - 1)]'(by omega)).toNat : Int) % 128))), (rEq (.bool (decide (((((put b)[(j - 1)]'(by omega)).toNat : Int) % 128) < ((((put a)[(j - 1)]'(by omega)).toNat : Int) % 128))))), (rEq (.int .u64 a)), (rEq (.int .u64 b)), (rEq (.bool (decide (b < a)))), (rEq (.bool ((decide (((((put b)[(j - 1)]'(by omega)).toNat : Int) % 128) < ((((put a)[(j - 1)]'(by omega)).toNat : Int) % 128))) == (decide (b < a))))), (rEq (.bool ((decide (((((put b)[(j - 1)]'(by omega)).toNat : Int) % 128) < ((((put a)[(j - 1)]'(by omega)).toNat : Int) % 128))) == (decide (b < a))))), (rEq (.bool ((decide (((((put b)[(j - 1)]'(by omega)).toNat : Int) % 128) < ((((put a)[(j - 1)]'(by omega)).toNat : Int) % 128))) == (decide (b < a)))))] (by kernel_rfl) rfl (by kernel_rfl) ⟨sEq, sEq, sEq, sEq, sPt, sEq, sEq, sEq, sEq, sPt, sEq, sEq, sEq, sEq, sEq, sEq, sEq, sEq, sEq, trivial⟩ ⟨?_, ?_, ?_, ?_, ?_, ?_, ?_, ?_, ?_, ?_, ?_, ?_, ?_, ?_, ?_, ?_, ?_, ?_, ?_, trivial⟩ ?_
            · rintro ρ82 w83 hj84 ⟨_⟩
              have hst := hj84.2
              refine go_plain (op_call Try.call20 evs_nil (c_told1 (w0 := w83)) ?_)
              rintro _ w85 ⟨rfl, hcall⟩
              refine ⟨_, rfl, ?_⟩
              exact kD hj84 hcall rfl
            · rintro ρ86 w87 hj88 ⟨f69, _⟩
              have hst := hj88.2
              exact go_plain (op_move (.bool true) f69 (kS hj88 rfl))
            · rintro ρ89 w90 hj91 ⟨f5, f70, _⟩
              have hst := hj91.2
              exact go_yes 70 rfl f70 (op_move r1 (f5.trans uw69_5) (kS hj91 rfl))
            · rintro ρ92 w93 hj94 ⟨f7, f70, _⟩
              have hst := hj94.2
              exact go_yes 70 rfl f70 (op_move (.int .i64 ((j : Int) - 1)) (f7.trans uw69_7) (kS hj94 rfl))
            · rintro ρ95 w96 hj97 ⟨f71, f72, f70, _⟩
              have hst := hj97.2
              refine go_yes 70 rfl f70 (op_indexAddrN (E := u8E) (xs := (put a)) (j - 1) Try.underlying22 Try.sizeOf5 f71 (hst.sl 1 rfl) f72 (by omega) (by omega) (fun a98 o99 p100 => ?_))
              exact kS hj97 ⟨_, _, rfl, p100⟩
            · rintro ρ101 w102 hj103 ⟨f73, f70, _⟩
              have hst := hj103.2
              obtain ⟨a104, o105, e106, p107⟩ := f73
              exact go_yes 70 rfl f70 (op_load1 (u := (.int .u8 (((put a)[(j - 1)]'(by omega)).toNat : Int))) Try.isAgg5 e106 p107 (kS hj103 rfl))
            · rintro ρ109 w110 hj111 ⟨f74, f70, _⟩
              have hst := hj111.2
              exact go_yes 70 rfl f70 (op_and (k := .u8) (a := (((put a)[(j - 1)]'(by omega)).toNat : Int)) (b := 127) ((((put a)[(j - 1)]'(by omega)).toNat : Int) % 128) f74 rfl and127b (kS hj111 rfl))
            · rintro ρ112 w113 hj114 ⟨f6, f70, _⟩
              have hst := hj114.2
              exact go_yes 70 rfl f70 (op_move r3 (f6.trans uw69_6) (kS hj114 rfl))
            · rintro ρ115 w116 hj117 ⟨f7, f70, _⟩
              have hst := hj117.2
              exact go_yes 70 rfl f70 (op_move (.int .i64 ((j : Int) - 1)) (f7.trans uw69_7) (kS hj117 rfl))
            · rintro ρ118 w119 hj120 ⟨f76, f77, f70, _⟩
              have hst := hj120.2
              refine go_yes 70 rfl f70 (op_indexAddrN (E := u8E) (xs := (put b)) (j - 1) Try.underlying22 Try.sizeOf5 f76 (hst.sl 0 rfl) f77 (by omega) (by omega) (fun a121 o122 p123 => ?_))
              exact kS hj120 ⟨_, _, rfl, p123⟩
            · rintro ρ124 w125 hj126 ⟨f78, f70, _⟩
              have hst := hj126.2
              obtain ⟨a127, o128, e129, p130⟩ := f78
              exact go_yes 70 rfl f70 (op_load1 (u := (.int .u8 (((put b)[(j - 1)]'(by omega)).toNat : Int))) Try.isAgg5 e129 p130 (kS hj126 rfl))
            · rintro ρ132 w133 hj134 ⟨f79, f70, _⟩
              have hst := hj134.2
              exact go_yes 70 rfl f70 (op_and (k := .u8) (a := (((put b)[(j - 1)]'(by omega)).toNat : Int)) (b := 127) ((((put b)[(j - 1)]'(by omega)).toNat : Int) % 128) f79 rfl and127b (kS hj134 rfl))
            · rintro ρ135 w136 hj137 ⟨f75, f80, f70, _⟩
              have hst := hj137.2
              exact go_yes 70 rfl f70 (op_gtr (k := .u8) (a := ((((put a)[(j - 1)]'(by omega)).toNat : Int) % 128)) (b := ((((put b)[(j - 1)]'(by omega)).toNat : Int) % 128)) f75 f80 (kS hj137 rfl))
            · rintro ρ138 w139 hj140 ⟨f0, f70, _⟩
              have hst := hj140.2
              exact go_yes 70 rfl f70 (op_move (.int .u64 a) (f0.trans uw69_0) (kS hj140 rfl))
            · rintro ρ141 w142 hj143 ⟨f1, f70, _⟩
              have hst := hj143.2
              exact go_yes 70 rfl f70 (op_move (.int .u64 b) (f1.trans uw69_1) (kS hj143 rfl))
            · rintro ρ144 w145 hj146 ⟨f82, f83, f70, _⟩
              have hst := hj146.2
              exact go_yes 70 rfl f70 (op_gtr (k := .u64) (a := a) (b := b) f82 f83 (kS hj146 rfl))
            · rintro ρ147 w148 hj149 ⟨f81, f84, f70, _⟩
              have hst := hj149.2
              exact go_yes 70 rfl f70 (op_eqlb (a := decide (((((put b)[(j - 1)]'(by omega)).toNat : Int) % 128) < ((((put a)[(j - 1)]'(by omega)).toNat : Int) % 128))) (b := decide (b < a)) Try.underlying4 f81 f84 (kS hj149 rfl))
            · rintro ρ150 w151 hj152 ⟨f70, f85, _⟩
              have hst := hj152.2
              exact go_plain (op_pick_t (.bool ((decide (((((put b)[(j - 1)]'(by omega)).toNat : Int) % 128) < ((((put a)[(j - 1)]'(by omega)).toNat : Int) % 128))) == (decide (b < a)))) f70 f85 (kS hj152 rfl))
            · rintro ρ153 w154 hj155 ⟨f86, _⟩
              have hst := hj155.2
              exact go_plain (op_assign (.bool ((decide (((((put b)[(j - 1)]'(by omega)).toNat : Int) % 128) < ((((put a)[(j - 1)]'(by omega)).toNat : Int) % 128))) == (decide (b < a)))) f86 (kS hj155 rfl))
            · intro ρ156 w157 hbw157 hst hRw157 hkw157
              have uw157_0 : ρ156 0 = (.int .u64 a) := (hkw157 0 rfl).trans uw69_0
              have uw157_1 : ρ156 1 = (.int .u64 b) := (hkw157 1 rfl).trans uw69_1
              have uw157_8 : ρ156 8 = (.int .u64 a) := (hkw157 8 rfl).trans uw69_8
              have uw157_9 : ρ156 9 = r1 := (hkw157 9 rfl).trans uw69_9
              have uw157_10 : ρ156 10 = (.int .u64 b) := (hkw157 10 rfl).trans uw69_10
              have uw157_11 : ρ156 11 = r3 := (hkw157 11 rfl).trans uw69_11
              have uw157_5 : ρ156 5 = r1 := (hkw157 5 rfl).trans uw69_5
              have uw157_6 : ρ156 6 = r3 := (hkw157 6 rfl).trans uw69_6
              have uw157_12 : ρ156 12 = r1 := (hkw157 12 rfl).trans uw69_12
              have uw157_13 : ρ156 13 = (.int .i64 ((put a).length : Int)) := (hkw157 13 rfl).trans uw69_13
              have uw157_14 : ρ156 14 = r3 := (hkw157 14 rfl).trans uw69_14
              have uw157_15 : ρ156 15 = (.int .i64 ((put b).length : Int)) := (hkw157 15 rfl).trans uw69_15
              have uw157_16 : ρ156 16 = (.bool (!decide (((put a).length : Int) = ((put b).length : Int)))) := (hkw157 16 rfl).trans uw69_16
              have uw157_17 : ρ156 17 = (.bool (!decide (((put a).length : Int) = ((put b).length : Int)))) := (hkw157 17 rfl).trans uw69_17
              have uw157_18 : ρ156 18 = (.int .u64 a) := (hkw157 18 rfl).trans uw69_18
              have uw157_19 : ρ156 19 = (.int .u64 b) := (hkw157 19 rfl).trans uw69_19
              have uw157_20 : ρ156 20 = (.bool (decide (a = b))) := (hkw157 20 rfl).trans uw69_20
              have uw157_21 : ρ156 21 = (.bool (decide (a = b))) := (hkw157 21 rfl).trans uw69_21
              have uw157_53 : ρ156 53 = r1 := (hkw157 53 rfl).trans uw69_53
              have uw157_54 : ρ156 54 = (.int .i64 ((put a).length : Int)) := (hkw157 54 rfl).trans uw69_54
              have uw157_55 : ρ156 55 = (.int .i64 (((put a).length : Int) - 1)) := (hkw157 55 rfl).trans uw69_55
              have uw157_7 : ρ156 7 = (.int .i64 ((j : Int) - 1)) := (hkw157 7 rfl).trans uw69_7
              have uw157_56 : ρ156 56 = (.int .i64 ((j : Int) - 1)) := (hkw157 56 rfl).trans uw69_56
              have uw157_57 : ρ156 57 = (.bool (decide (0 ≤ ((j : Int) - 1)))) := (hkw157 57 rfl).trans uw69_57
              have uw157_68 : ρ156 68 = (.bool (!decide ((((put a)[(j - 1)]'(by omega)).toNat : Int) = (((put b)[(j - 1)]'(by omega)).toNat : Int)))) := (hkw157 68 rfl).trans uw69_68
              have uw157_4 : ρ156 4 = (.bool ((decide (((((put b)[(j - 1)]'(by omega)).toNat : Int) % 128) < ((((put a)[(j - 1)]'(by omega)).toNat : Int) % 128))) == (decide (b < a)))) := hRw157 18 4 rfl
              refine then_n ?_
              refine cE_ret ?_
              refine block_r (then_r (then_r (block_r (then_r ?_))))
              refine post_r _ (res1 (v := (.bool true)) (uw157_4.trans (congrArg Value.bool (show ((decide (((((put b)[(j - 1)]'(by omega)).toNat : Int) % 128) < ((((put a)[(j - 1)]'(by omega)).toNat : Int) % 128))) == (decide (b < a))) = true from (put_order a0 a1 b0 b1 (by omega) (by omega) (by omega) (fun t ht => he t (by omega)) (ne_u8 (by omega))))))) ?_
              exact ⟨rfl, hst.bare⟩
      · have c158 : ¬ (0 ≤ ((j : Int) - 1)) := of_decide_eq_false b15
        refine cE_cond false (congrArg Value.bool b15) (fun h => by cases h) (fun _ => ?_)
        refine cE_exit ?_
        refine then_x (then_x (block_hit (then_n ?_)))
        refine cE_seq ?_
        refine cE_region rfl ?_
        refine s_cons (op_assign (.bool false) rfl ?_)
        refine s_nil ?_
        refine then_n ?_
        refine cE_ret ?_
        refine post_r _ (res1 (v := (.bool false)) rfl) ?_
        exact ⟨(retv1 (congrArg Value.bool (show false = true from by exact absurd (put_inj a0 a1 b0 b1 (List.ext_getElem? (fun t => he t (by omega)))) (by omega)))), hst.bare⟩
  · have c159 : ¬ (((put a).length : Int) = ((put b).length : Int)) := of_decide_eq_false b5
    refine s_no 17 rfl (congrArg Value.bool (congrArg (! ·) b5)) ?_
    refine s_no 17 rfl (congrArg Value.bool (congrArg (! ·) b5)) ?_
    refine s_no 17 rfl (congrArg Value.bool (congrArg (! ·) b5)) ?_
    refine s_cons (op_pick_t (.bool true) (congrArg Value.bool (congrArg (! ·) b5)) rfl ?_)
    refine s_nil ?_
    refine then_n ?_
    refine cE_cond true rfl (fun _ => ?_) (fun h => by cases h)
    refine cE_seq ?_
    refine cE_region rfl ?_
    refine s_cons (op_call Try.call20 evs_nil (c_told1 (w0 := w4)) ?_)
    rintro _ w160 ⟨rfl, hcall⟩
    refine ⟨_, rfl, ?_⟩
    have hst : St w0 w160 [rowT 5 u8E r3 (put b), rowT 5 u8E r1 (put a)] := hst.call hcall
    refine s_cons (op_move (.bool true) rfl ?_)
    refine s_yes 23 rfl rfl (op_move r1 rfl ?_)
    refine s_yes 23 rfl rfl (op_len (E := u8E) (xs := (put a)) Try.underlying22 rfl (hst.sl 1 rfl) ?_)
    refine s_yes 23 rfl rfl (op_move r3 rfl ?_)
    refine s_yes 23 rfl rfl (op_len (E := u8E) (xs := (put b)) Try.underlying22 rfl (hst.sl 0 rfl) ?_)
    refine s_yes 23 rfl rfl (op_eql (k := .i64) (a := ((put a).length : Int)) (b := ((put b).length : Int)) rfl rfl ?_)
    refine s_yes 23 rfl rfl (op_move (.bool (decide (((put a).length : Int) = ((put b).length : Int)))) rfl ?_)
    refine s_yes 29 rfl (congrArg Value.bool b5) (op_move r1 rfl ?_)
    refine s_yes 29 rfl (congrArg Value.bool b5) (op_len (E := u8E) (xs := (put a)) Try.underlying22 rfl (hst.sl 1 rfl) ?_)
    refine s_yes 29 rfl (congrArg Value.bool b5) (op_move r3 rfl ?_)
    refine s_yes 29 rfl (congrArg Value.bool b5) (op_len (E := u8E) (xs := (put b)) Try.underlying22 rfl (hst.sl 0 rfl) ?_)
    refine s_yes 29 rfl (congrArg Value.bool b5) (op_lss (k := .i64) (a := ((put a).length : Int)) (b := ((put b).length : Int)) rfl rfl ?_)
    refine s_yes 29 rfl (congrArg Value.bool b5) (op_move (.int .u64 a) rfl ?_)
    refine s_yes 29 rfl (congrArg Value.bool b5) (op_move (.int .u64 b) rfl ?_)
    refine s_yes 29 rfl (congrArg Value.bool b5) (op_lss (k := .u64) (a := a) (b := b) rfl rfl ?_)
    refine s_yes 29 rfl (congrArg Value.bool b5) (op_eqlb (a := decide (((put a).length : Int) < ((put b).length : Int))) (b := decide (a < b)) Try.underlying4 rfl rfl ?_)
    refine s_yes 23 rfl rfl (op_pick_f (.bool ((decide (((put a).length : Int) < ((put b).length : Int))) == (decide (a < b)))) (congrArg Value.bool b5) rfl ?_)
    refine s_cons (op_pick_t (.bool ((decide (((put a).length : Int) < ((put b).length : Int))) == (decide (a < b)))) rfl rfl ?_)
    refine s_cons (op_move (.bool ((decide (((put a).length : Int) < ((put b).length : Int))) == (decide (a < b)))) rfl ?_)
    refine s_yes 41 rfl (congrArg Value.bool (show ((decide (((put a).length : Int) < ((put b).length : Int))) == (decide (a < b))) = true from (put_len_lt (by omega)))) (op_move (.int .u64 a) rfl ?_)
    refine s_yes 41 rfl (congrArg Value.bool (show ((decide (((put a).length : Int) < ((put b).length : Int))) == (decide (a < b))) = true from (put_len_lt (by omega)))) (op_move (.int .u64 b) rfl ?_)
    refine s_yes 41 rfl (congrArg Value.bool (show ((decide (((put a).length : Int) < ((put b).length : Int))) == (decide (a < b))) = true from (put_len_lt (by omega)))) (op_neq (k := .u64) (a := a) (b := b) rfl rfl ?_)
    refine s_yes 41 rfl (congrArg Value.bool (show ((decide (((put a).length : Int) < ((put b).length : Int))) == (decide (a < b))) = true from (put_len_lt (by omega)))) (op_move (.bool (!decide (a = b))) rfl ?_)
    rcases Bool.eq_false_or_eq_true (decide (a = b)) with b161 | b161
    · have c162 : a = b := of_decide_eq_true b161
      refine s_yes 45 rfl (congrArg Value.bool (congrArg (! ·) b161)) (op_move r1 rfl ?_)
      refine s_yes 45 rfl (congrArg Value.bool (congrArg (! ·) b161)) (op_str (xs := (put a)) Try.underlying22 Try.underlying5 Try.underlying9 rfl (hst.sl 1 rfl) ?_)
      refine s_yes 45 rfl (congrArg Value.bool (congrArg (! ·) b161)) (op_move r3 rfl ?_)
      refine s_yes 45 rfl (congrArg Value.bool (congrArg (! ·) b161)) (op_str (xs := (put b)) Try.underlying22 Try.underlying5 Try.underlying9 rfl (hst.sl 0 rfl) ?_)
      refine s_yes 45 rfl (congrArg Value.bool (congrArg (! ·) b161)) (op_eqlStr (a := (put a)) (b := (put b)) rfl rfl ?_)
      refine s_yes 41 rfl (congrArg Value.bool (show ((decide (((put a).length : Int) < ((put b).length : Int))) == (decide (a < b))) = true from (put_len_lt (by omega)))) (op_pick_f (.bool (decide ((put a) = (put b)))) (congrArg Value.bool (congrArg (! ·) b161)) rfl ?_)
      refine s_cons (op_pick_t (.bool (decide ((put a) = (put b)))) (congrArg Value.bool (show ((decide (((put a).length : Int) < ((put b).length : Int))) == (decide (a < b))) = true from (put_len_lt (by omega)))) rfl ?_)
      refine s_cons (op_assign (.bool (decide ((put a) = (put b)))) rfl ?_)
      refine s_nil ?_
      refine then_n ?_
      refine cE_ret ?_
      refine then_r ?_
      refine post_r _ (res1 (v := (.bool true)) (congrArg Value.bool (show (decide ((put a) = (put b))) = true from (decide_eq_true (congrArg put (by omega)))))) ?_
      exact ⟨rfl, hst.bare⟩
    · have c163 : ¬ (a = b) := of_decide_eq_false b161
      refine s_no 45 rfl (congrArg Value.bool (congrArg (! ·) b161)) ?_
      refine s_no 45 rfl (congrArg Value.bool (congrArg (! ·) b161)) ?_
      refine s_no 45 rfl (congrArg Value.bool (congrArg (! ·) b161)) ?_
      refine s_no 45 rfl (congrArg Value.bool (congrArg (! ·) b161)) ?_
      refine s_no 45 rfl (congrArg Value.bool (congrArg (! ·) b161)) ?_
      refine s_yes 41 rfl (congrArg Value.bool (show ((decide (((put a).length : Int) < ((put b).length : Int))) == (decide (a < b))) = true from (put_len_lt (by omega)))) (op_pick_t (.bool true) (congrArg Value.bool (congrArg (! ·) b161)) rfl ?_)
      refine s_cons (op_pick_t (.bool true) (congrArg Value.bool (show ((decide (((put a).length : Int) < ((put b).length : Int))) == (decide (a < b))) = true from (put_len_lt (by omega)))) rfl ?_)
      refine s_cons (op_assign (.bool true) rfl ?_)
      refine s_nil ?_
      refine then_n ?_
      refine cE_ret ?_
      refine then_r ?_
      refine post_r _ (res1 (v := (.bool true)) rfl) ?_
      exact ⟨rfl, hst.bare⟩

end Go.Proofs.Ytealhahaeiibjaa
