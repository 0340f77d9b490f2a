/- twinkeeplaw20.OrderSame -/
import Derived.Test.YtadnedoecbfojaaW40
import Derived.Test.YtadnedoecbfojaaW33
import Derived.Test.YtadnedoecbfojaaW36
import Derived.Test.YtadnedoecbfojaaW9
namespace Go.Proofs.Ytadnedoecbfojaa
open Go.RowKit

set_option maxHeartbeats 4000000 in
theorem c_OrderSame (w0 : World) (v_l : Value) (l : List Int) (h_l : Sl w0 (intE .i64) v_l l) (hl : ∀ v ∈ l, i64R v) :
    Calls Try.prog 6 #[v_l] w0 fun e w' => e = .returned (.bool true) ∧ St w0 w' [] := by
  refine calls_E (n := 85) (ts := [2]) Try.func6 rfl rfl rfl (by simp) ?_
  have hst := St.start w0
  refine cE_seq ?_
  refine cE_region rfl ?_
  refine s_cons (op_assign (.bool false) rfl ?_)
  refine s_nil ?_
  refine then_n ?_
  refine cE_seq ?_
  refine cE_region rfl ?_
  refine s_cons (op_assign (.slice none 0 0) rfl ?_)
  refine s_cons (op_assign (.slice none 0 0) rfl ?_)
  refine s_nil ?_
  refine then_n ?_
  refine cE_seq ?_
  refine cE_seq ?_
  refine cE_region rfl ?_
  refine s_cons (op_assign (.int .i64 0) rfl ?_)
  refine s_nil ?_
  refine then_n ?_
  refine cE_block ?_
  replace hst : St w0 w0 [rowT 34 infoE (.slice none 0 0) ([])] := hst.nilRow 34 infoE
  replace hst : St w0 w0 [rowT 34 infoE (.slice none 0 0) ([]), rowT 34 infoE (.slice none 0 0) ([])] := hst.nilRow 34 infoE
  refine cE_loop (fun (m : Nat) (ρ : Env) (w : World) => ∃ (vo : Value) (vp : Value) (i : Nat), m = l.length - i ∧ ρ 0 = v_l ∧ ρ 2 = (.bool false) ∧ ρ 3 = vo ∧ ρ 4 = vp ∧ ρ 5 = (.int .i64 (i : Int)) ∧ St w0 w [rowT 34 infoE vo (wantS l i), rowT 34 infoE vp ((wantS l i).reverse)] ∧ (i ≤ l.length) ∧ (i ≤ 20)) id _ ⟨(.slice none 0 0), (.slice none 0 0), 0, rfl, rfl, rfl, rfl, rfl, (congrArg (Value.int .i64) (show 0 = _ from by omega)), (by have h := hst; first | exact h | (refine (?_ : St _ _ _); simpa using h)), (by omega), (by omega)⟩ ?_
  rintro m2 ρ3 w4 ⟨vo, vp, i, hm2, q1_0, q1_2, q1_3, q1_4, q1_5, hst, hi, hi3⟩
  have hwl := wantS_len (l := l) hi
  have hlen := h_l.len
  have hrl : ((wantS l i).reverse).length = (wantS l i).length := List.length_reverse
  refine cE_seq ?_
  refine cE_seq ?_
  refine cE_region rfl ?_
  refine s_cons (op_move (.int .i64 (i : Int)) q1_5 ?_)
  refine s_cons (op_move v_l q1_0 ?_)
  refine s_cons (op_len (E := (intE .i64)) (xs := l) Try.underlying24 rfl h_l ?_)
  refine s_cons (op_lss (k := .i64) (a := (i : Int)) (b := (l.length : Int)) rfl rfl ?_)
  refine s_cons (op_move (.bool (decide ((i : Int) < (l.length : Int)))) rfl ?_)
  rcases Bool.eq_false_or_eq_true (decide ((i : Int) < (l.length : Int))) with b5 | b5
  · have c6 : (i : Int) < (l.length : Int) := of_decide_eq_true b5
    refine s_yes 16 rfl (congrArg Value.bool b5) (op_move (.int .i64 (i : Int)) q1_5 ?_)
    refine s_yes 16 rfl (congrArg Value.bool b5) (op_lss (k := .i64) (a := (i : Int)) (b := 20) rfl rfl ?_)
    refine s_cons (op_pick_t (.bool (decide ((i : Int) < 20))) (congrArg Value.bool b5) rfl ?_)
    refine s_nil ?_
    refine then_n ?_
    rcases Bool.eq_false_or_eq_true (decide ((i : Int) < 20)) with b7 | b7
    · have c8 : (i : Int) < 20 := of_decide_eq_true b7
      refine cE_cond true (congrArg Value.bool b7) (fun _ => ?_) (fun h => by cases h)
      refine cE_skip ?_
      refine then_n ?_
      refine cE_seq ?_
      refine cE_block ?_
      refine cE_seq ?_
      refine cE_region rfl ?_
      refine s_cons (op_move v_l q1_0 ?_)
      refine s_cons (op_move (.int .i64 (i : Int)) q1_5 ?_)
      refine s_cons (op_indexAddrN (E := (intE .i64)) (xs := l) i Try.underlying24 Try.sizeOf3 rfl h_l rfl (by omega) (by omega) (fun a9 o10 p11 => ?_))
      have hr := hl (l[i]'(by omega)) (List.getElem_mem _)
      refine s_cons (op_load1 (u := (.int .i64 (l[i]'(by omega)))) Try.isAgg3 rfl (p11.below hst.below) ?_)
      refine s_cons (op_conv (k := .i64) (a := (l[i]'(by omega))) ((l[i]'(by omega)) % 18446744073709551616) Try.underlying31 (by rw [Try.underlying3]; rfl) rfl (IntKind.wrap_u64 _) ?_)
      refine s_cons (op_assign (.int .u64 ((l[i]'(by omega)) % 18446744073709551616)) rfl ?_)
      refine s_nil ?_
      refine then_n ?_
      refine cE_seq ?_
      refine cE_region rfl ?_
      refine s_cons (op_move (.int .i64 (i : Int)) q1_5 ?_)
      refine s_cons (op_add (k := .i64) (a := (i : Int)) (b := 1) ((i : Int) + 1) rfl rfl (xi64 (by omega) (by omega)) ?_)
      refine s_cons (op_move (.int .u64 ((l[i]'(by omega)) % 18446744073709551616)) rfl ?_)
      refine s_cons (op_rem (k := .u64) (a := ((l[i]'(by omega)) % 18446744073709551616)) (b := 4) (((l[i]'(by omega)) % 18446744073709551616) % 4) rfl rfl (by omega) (tmod_nn (by omega)) ?_)
      refine s_cons (op_conv (k := .u64) (a := (((l[i]'(by omega)) % 18446744073709551616) % 4)) (((l[i]'(by omega)) % 18446744073709551616) % 4) Try.underlying3 (by rw [Try.underlying31]; rfl) rfl (xi64 (by omega) (by omega)) ?_)
      refine s_cons (op_move (.int .u64 ((l[i]'(by omega)) % 18446744073709551616)) rfl ?_)
      refine s_cons (op_quo (k := .u64) (a := ((l[i]'(by omega)) % 18446744073709551616)) (b := 4) (((l[i]'(by omega)) % 18446744073709551616) / 4) rfl rfl (by omega) (quo_x (by omega) (by omega) (xu64 (by omega) (by omega))) ?_)
      refine s_cons (op_rem (k := .u64) (a := (((l[i]'(by omega)) % 18446744073709551616) / 4)) (b := 10) ((((l[i]'(by omega)) % 18446744073709551616) / 4) % 10) rfl rfl (by omega) (tmod_nn (by omega)) ?_)
      refine s_cons (op_conv (k := .u64) (a := ((((l[i]'(by omega)) % 18446744073709551616) / 4) % 10)) ((((l[i]'(by omega)) % 18446744073709551616) / 4) % 10) Try.underlying2 (by rw [Try.underlying31]; rfl) rfl (xi64 (by omega) (by omega)) ?_)
      refine s_cons (op_move (.int .u64 ((l[i]'(by omega)) % 18446744073709551616)) rfl ?_)
      refine s_cons (op_quo (k := .u64) (a := ((l[i]'(by omega)) % 18446744073709551616)) (b := 40) (((l[i]'(by omega)) % 18446744073709551616) / 40) rfl rfl (by omega) (quo_x (by omega) (by omega) (xu64 (by omega) (by omega))) ?_)
      refine s_cons (op_rem (k := .u64) (a := (((l[i]'(by omega)) % 18446744073709551616) / 40)) (b := 3) ((((l[i]'(by omega)) % 18446744073709551616) / 40) % 3) rfl rfl (by omega) (tmod_nn (by omega)) ?_)
      refine s_cons (op_conv (k := .u64) (a := ((((l[i]'(by omega)) % 18446744073709551616) / 40) % 3)) ((((l[i]'(by omega)) % 18446744073709551616) / 40) % 3) Try.underlying2 (by rw [Try.underlying31]; rfl) rfl (xi64 (by omega) (by omega)) ?_)
      refine s_cons (op_add (k := .i64) (a := 20) (b := ((((l[i]'(by omega)) % 18446744073709551616) / 40) % 3)) (20 + ((((l[i]'(by omega)) % 18446744073709551616) / 40) % 3)) rfl rfl (xi64 (by omega) (by omega)) ?_)
      refine s_cons (op_build (r := (.agg #[(.int .i64 ((i : Int) + 1)), (.int .i64 (((l[i]'(by omega)) % 18446744073709551616) % 4)), (.int .i64 ((((l[i]'(by omega)) % 18446744073709551616) / 4) % 10)), (.int .i64 (20 + ((((l[i]'(by omega)) % 18446744073709551616) / 40) % 3))), (.int .u32 0)])) (evp_cons (v := (.int .i64 ((i : Int) + 1))) rfl (evp_cons (v := (.int .i64 (((l[i]'(by omega)) % 18446744073709551616) % 4))) rfl (evp_cons (v := (.int .i64 ((((l[i]'(by omega)) % 18446744073709551616) / 4) % 10))) rfl (evp_cons (v := (.int .i64 (20 + ((((l[i]'(by omega)) % 18446744073709551616) / 40) % 3)))) rfl evp_nil)))) (by simp [Instr.build, Instr.fill, Value.cells, Try.runUnderlying34, Try.zeroValue34]) ?_)
      refine s_cons (op_alloc (cs := #[(.int .i64 0), (.int .i64 0), (.int .i64 0), (.int .i64 0), (.int .u32 0)]) hst Try.zeroValue34 rfl (fun g12 w13 hst _ => ?_))
      replace hst : St w0 w13 [.blk g12 34 #[(.int .i64 0), (.int .i64 0), (.int .i64 0), (.int .i64 0), (.int .u32 0)], rowT 34 infoE vo (wantS l i), rowT 34 infoE vp ((wantS l i).reverse)] := hst
      refine s_cons0 (op_storeAll hst 0 rfl Try.sizeOf34 rfl rfl rfl rfl (by simp [Value.oneCell']) (fun w14 hst => ?_))
      replace hst : St w0 w14 [.blk g12 34 #[(.int .i64 ((i : Int) + 1)), (.int .i64 (((l[i]'(by omega)) % 18446744073709551616) % 4)), (.int .i64 ((((l[i]'(by omega)) % 18446744073709551616) / 4) % 10)), (.int .i64 (20 + ((((l[i]'(by omega)) % 18446744073709551616) / 40) % 3))), (.int .u32 0)], rowT 34 infoE vo (wantS l i), rowT 34 infoE vp ((wantS l i).reverse)] := hst
      refine s_nil ?_
      refine then_n ?_
      have hM23 : stabML [3, 7] [(kEq vo), (kEq (.agg #[(.int .i64 ((i : Int) + 1)), (.int .i64 (((l[i]'(by omega)) % 18446744073709551616) % 4)), (.int .i64 ((((l[i]'(by omega)) % 18446744073709551616) / 4) % 10)), (.int .i64 (20 + ((((l[i]'(by omega)) % 18446744073709551616) / 40) % 3))), (.int .u32 0)])), (kSlU [3, 7] infoE ([(⟨((i : Int) + 1), (((l[i]'(by omega)) % 18446744073709551616) % 4), ((((l[i]'(by omega)) % 18446744073709551616) / 4) % 10), (20 + ((((l[i]'(by omega)) % 18446744073709551616) / 40) % 3)), 0⟩ : Info)])), kAny, (kEq (.agg #[(.int .i64 ((i : Int) + 1)), (.int .i64 (((l[i]'(by omega)) % 18446744073709551616) % 4)), (.int .i64 ((((l[i]'(by omega)) % 18446744073709551616) / 4) % 10)), (.int .i64 (20 + ((((l[i]'(by omega)) % 18446744073709551616) / 40) % 3))), (.int .u32 0)])), kAny, (kEq vp), kAny, kAny, kAny] := ⟨mEq, mEq, (mSlUs (by decide)), mAny, mEq, mAny, mEq, mAny, mAny, mAny, trivial⟩
      refine cE_regionJ (fun (D : Nat → Bool) (ρ : Env) (w : World) => St w0 w [.blk g12 34 #[(.int .i64 ((i : Int) + 1)), (.int .i64 (((l[i]'(by omega)) % 18446744073709551616) % 4)), (.int .i64 ((((l[i]'(by omega)) % 18446744073709551616) / 4) % 10)), (.int .i64 (20 + ((((l[i]'(by omega)) % 18446744073709551616) / 40) % 3))), (.int .u32 0)], rowT 34 infoE vp ((wantS l i).reverse)] ∧ (D 3 = false → St w0 w [.blk g12 34 #[(.int .i64 ((i : Int) + 1)), (.int .i64 (((l[i]'(by omega)) % 18446744073709551616) % 4)), (.int .i64 ((((l[i]'(by omega)) % 18446744073709551616) / 4) % 10)), (.int .i64 (20 + ((((l[i]'(by omega)) % 18446744073709551616) / 40) % 3))), (.int .u32 0)], rowT 34 infoE vo (wantS l i), rowT 34 infoE vp ((wantS l i).reverse)]) ∧ (D 3 = true → D 7 = false → St w0 w [rowT 34 infoE (ρ 45) (wantS l (i + 1)), .blk g12 34 #[(.int .i64 ((i : Int) + 1)), (.int .i64 (((l[i]'(by omega)) % 18446744073709551616) % 4)), (.int .i64 ((((l[i]'(by omega)) % 18446744073709551616) / 4) % 10)), (.int .i64 (20 + ((((l[i]'(by omega)) % 18446744073709551616) / 40) % 3))), (.int .u32 0)], rowT 34 infoE vp ((wantS l i).reverse)]) ∧ (D 7 = true → St w0 w [rowT 34 infoE (ρ 49) ((wantS l (i + 1)).reverse), rowT 34 infoE (ρ 45) (wantS l (i + 1)), .blk g12 34 #[(.int .i64 ((i : Int) + 1)), (.int .i64 (((l[i]'(by omega)) % 18446744073709551616) % 4)), (.int .i64 ((((l[i]'(by omega)) % 18446744073709551616) / 4) % 10)), (.int .i64 (20 + ((((l[i]'(by omega)) % 18446744073709551616) / 40) % 3))), (.int .u32 0)], rowT 34 infoE vp ((wantS l i).reverse)]) ∧ (D 3 = false → D 5 = true → St w0 w [rowT 34 infoE (ρ 47) ([(⟨((i : Int) + 1), (((l[i]'(by omega)) % 18446744073709551616) % 4), ((((l[i]'(by omega)) % 18446744073709551616) / 4) % 10), (20 + ((((l[i]'(by omega)) % 18446744073709551616) / 40) % 3)), 0⟩ : Info)]), .blk g12 34 #[(.int .i64 ((i : Int) + 1)), (.int .i64 (((l[i]'(by omega)) % 18446744073709551616) % 4)), (.int .i64 ((((l[i]'(by omega)) % 18446744073709551616) / 4) % 10)), (.int .i64 (20 + ((((l[i]'(by omega)) % 18446744073709551616) / 40) % 3))), (.int .u32 0)], rowT 34 infoE vo (wantS l i), rowT 34 infoE vp ((wantS l i).reverse)]) ∧ (D 3 = true → D 7 = false → D 5 = true → St w0 w [rowT 34 infoE (ρ 47) ([(⟨((i : Int) + 1), (((l[i]'(by omega)) % 18446744073709551616) % 4), ((((l[i]'(by omega)) % 18446744073709551616) / 4) % 10), (20 + ((((l[i]'(by omega)) % 18446744073709551616) / 40) % 3)), 0⟩ : Info)]), rowT 34 infoE (ρ 45) (wantS l (i + 1)), .blk g12 34 #[(.int .i64 ((i : Int) + 1)), (.int .i64 (((l[i]'(by omega)) % 18446744073709551616) % 4)), (.int .i64 ((((l[i]'(by omega)) % 18446744073709551616) / 4) % 10)), (.int .i64 (20 + ((((l[i]'(by omega)) % 18446744073709551616) / 40) % 3))), (.int .u32 0)], rowT 34 infoE vp ((wantS l i).reverse)]) ∧ (D 8 = true → ρ 3 = ρ 45) ∧ (D 9 = true → ρ 4 = ρ 49)) [[(3, none)], [(7, none)], [(43, some 1)], [(42, some 0), (44, some 2)], [(7, none)], [(46, some 4)], [(4, none)], [(47, some 5), (48, some 6)], [(45, some 3)], [(49, some 7)]] (RofK [(kEq vo), (kEq (.agg #[(.int .i64 ((i : Int) + 1)), (.int .i64 (((l[i]'(by omega)) % 18446744073709551616) % 4)), (.int .i64 ((((l[i]'(by omega)) % 18446744073709551616) / 4) % 10)), (.int .i64 (20 + ((((l[i]'(by omega)) % 18446744073709551616) / 40) % 3))), (.int .u32 0)])), (kSlU [3, 7] infoE ([(⟨((i : Int) + 1), (((l[i]'(by omega)) % 18446744073709551616) % 4), ((((l[i]'(by omega)) % 18446744073709551616) / 4) % 10), (20 + ((((l[i]'(by omega)) % 18446744073709551616) / 40) % 3)), 0⟩ : Info)])), kAny, (kEq (.agg #[(.int .i64 ((i : Int) + 1)), (.int .i64 (((l[i]'(by omega)) % 18446744073709551616) % 4)), (.int .i64 ((((l[i]'(by omega)) % 18446744073709551616) / 4) % 10)), (.int .i64 (20 + ((((l[i]'(by omega)) % 18446744073709551616) / 40) % 3))), (.int .u32 0)])), kAny, (kEq vp), kAny, kAny, kAny]) (by kernel_rfl) rfl (by kernel_rfl) ⟨hst.drewW.sub (.cons_cons _ (.cons _ (.cons_cons _ .slnil))), (fun _ => hst.drewW), (fun h => absurd h Bool.false_ne_true), (fun h => absurd h Bool.false_ne_true), (fun _ h => absurd h Bool.false_ne_true), (fun h => absurd h Bool.false_ne_true), (fun h => absurd h Bool.false_ne_true), (fun h => absurd h Bool.false_ne_true)⟩ ⟨?_, ?_, ?_, ?_, ?_, ?_, ?_, ?_, ?_, ?_, trivial⟩ ?_
      · rintro D24 ρ25 w26 hD27 hE28 hC29 hJ30 hA31 ⟨f3, _⟩
        have hst : St w0 w26 [.blk g12 34 #[(.int .i64 ((i : Int) + 1)), (.int .i64 (((l[i]'(by omega)) % 18446744073709551616) % 4)), (.int .i64 ((((l[i]'(by omega)) % 18446744073709551616) / 4) % 10)), (.int .i64 (20 + ((((l[i]'(by omega)) % 18446744073709551616) / 40) % 3))), (.int .u32 0)], rowT 34 infoE vo (wantS l i), rowT 34 infoE vp ((wantS l i).reverse)] := hJ30.2.1 (not_yet hD27 (fun hm => (hC29 3 0 hm (by kernel_rfl))))
        exact go_plain (op_move vo (f3.trans q1_3) (kN0 (i := 0) hM23 (by decide) (by exact hJ30) (by exact rfl)))
      · rintro D32 ρ33 w34 hD35 hE36 hC37 hJ38 hA39 ⟨f7, _⟩
        have hst : St w0 w34 [.blk g12 34 #[(.int .i64 ((i : Int) + 1)), (.int .i64 (((l[i]'(by omega)) % 18446744073709551616) % 4)), (.int .i64 ((((l[i]'(by omega)) % 18446744073709551616) / 4) % 10)), (.int .i64 (20 + ((((l[i]'(by omega)) % 18446744073709551616) / 40) % 3))), (.int .u32 0)], rowT 34 infoE vo (wantS l i), rowT 34 infoE vp ((wantS l i).reverse)] := hJ38.2.1 (not_yet hD35 (fun hm => (hC37 2 1 (hC37 3 2 hm (by kernel_rfl)) (by kernel_rfl))))
        exact go_plain (op_loadN (cs := [(.int .i64 ((i : Int) + 1)), (.int .i64 (((l[i]'(by omega)) % 18446744073709551616) % 4)), (.int .i64 ((((l[i]'(by omega)) % 18446744073709551616) / 4) % 10)), (.int .i64 (20 + ((((l[i]'(by omega)) % 18446744073709551616) / 40) % 3))), (.int .u32 0)]) Try.isAgg34 Try.sizeOf34 (f7.trans rfl) (Pt.of (hst.cell 0 rfl) rfl) rfl (kN0 (i := 1) hM23 (by decide) (by exact hJ38) (by exact rfl)))
      · rintro D40 ρ41 w42 hD43 hE44 hC45 hJ46 hA47 ⟨f43, _⟩
        have hst : St w0 w42 [.blk g12 34 #[(.int .i64 ((i : Int) + 1)), (.int .i64 (((l[i]'(by omega)) % 18446744073709551616) % 4)), (.int .i64 ((((l[i]'(by omega)) % 18446744073709551616) / 4) % 10)), (.int .i64 (20 + ((((l[i]'(by omega)) % 18446744073709551616) / 40) % 3))), (.int .u32 0)], rowT 34 infoE vo (wantS l i), rowT 34 infoE vp ((wantS l i).reverse)] := hJ46.2.1 (not_yet hD43 (fun hm => (hC45 3 2 hm (by kernel_rfl))))
        have hst := St.start w42
        refine go_plain (op_buildSlice (E := infoE) [(⟨((i : Int) + 1), (((l[i]'(by omega)) % 18446744073709551616) % 4), ((((l[i]'(by omega)) % 18446744073709551616) / 4) % 10), (20 + ((((l[i]'(by omega)) % 18446744073709551616) / 40) % 3)), 0⟩ : Info)] hst Try.underlying22 Try.sizeOf34 Try.zeroValue34 (evp_cons (v := (.agg #[(.int .i64 ((i : Int) + 1)), (.int .i64 (((l[i]'(by omega)) % 18446744073709551616) % 4)), (.int .i64 ((((l[i]'(by omega)) % 18446744073709551616) / 4) % 10)), (.int .i64 (20 + ((((l[i]'(by omega)) % 18446744073709551616) / 40) % 3))), (.int .u32 0)])) f43 evp_nil) (parts_cons rfl parts_nil) rfl (by decide) (fun v48 w49 hst => ?_))
        exact kN (i := 2) hM23 (by decide) hst.below (by exact ⟨(hJ46.1).ext hst.below, (fun x0 => (hJ46.2.1 x0).ext hst.below), (fun x0 x1 => (hJ46.2.2.1 x0 x1).ext hst.below), (fun x0 => (hJ46.2.2.2.1 x0).ext hst.below), (fun x0 x1 => (hJ46.2.2.2.2.1 x0 x1).ext hst.below), (fun x0 x1 x2 => (hJ46.2.2.2.2.2.1 x0 x1 x2).ext hst.below), hJ46.2.2.2.2.2.2.1, hJ46.2.2.2.2.2.2.2⟩) (by exact fun _ => hst.sl 0 rfl)
      · rintro D50 ρ51 w52 hD53 hE54 hC55 hJ56 hA57 ⟨f42, f44, _⟩
        rcases Bool.eq_false_or_eq_true (D50 5) with hX58 | hX58
        · obtain ⟨v59, e60⟩ : ∃ x, ρ51 47 = x := ⟨_, rfl⟩
          have hst : St w0 w52 [rowT 34 infoE v59 ([(⟨((i : Int) + 1), (((l[i]'(by omega)) % 18446744073709551616) % 4), ((((l[i]'(by omega)) % 18446744073709551616) / 4) % 10), (20 + ((((l[i]'(by omega)) % 18446744073709551616) / 40) % 3)), 0⟩ : Info)]), .blk g12 34 #[(.int .i64 ((i : Int) + 1)), (.int .i64 (((l[i]'(by omega)) % 18446744073709551616) % 4)), (.int .i64 ((((l[i]'(by omega)) % 18446744073709551616) / 4) % 10)), (.int .i64 (20 + ((((l[i]'(by omega)) % 18446744073709551616) / 40) % 3))), (.int .u32 0)], rowT 34 infoE vo (wantS l i), rowT 34 infoE vp ((wantS l i).reverse)] := by have h := hJ56.2.2.2.2.1 hD53 hX58; rw [e60] at h; exact h
          obtain ⟨v62, e63⟩ : ∃ x, ρ51 44 = x := ⟨_, rfl⟩
          have hs61 := f44 (by intro m hm; simp only [List.mem_cons, List.not_mem_nil, or_false] at hm; rcases hm with rfl | rfl; exact hD53; exact (not_yet hD53 (fun hm => (hC55 7 3 hm (by kernel_rfl)))))
          replace hs61 : Sl w52 infoE v62 ([(⟨((i : Int) + 1), (((l[i]'(by omega)) % 18446744073709551616) % 4), ((((l[i]'(by omega)) % 18446744073709551616) / 4) % 10), (20 + ((((l[i]'(by omega)) % 18446744073709551616) / 40) % 3)), 0⟩ : Info)]) := e63 ▸ hs61
          refine go_plain (op_append (E := infoE) (xs := (wantS l i)) (ys := [(⟨((i : Int) + 1), (((l[i]'(by omega)) % 18446744073709551616) % 4), ((((l[i]'(by omega)) % 18446744073709551616) / 4) % 10), (20 + ((((l[i]'(by omega)) % 18446744073709551616) / 40) % 3)), 0⟩ : Info)]) (z := (.agg #[(.int .i64 0), (.int .i64 0), (.int .i64 0), (.int .i64 0), (.int .u32 0)])) (bytes := 40) hst 2 rfl Try.underlying22 (by kernel_rfl) rfl f42 e63 hs61 (by first | omega | (simp only [List.length_cons, List.length_nil, List.length_reverse]; omega)) (by first | omega | (simp only [List.length_cons, List.length_nil, List.length_reverse]; omega)) (fun v64 w65 hst => ?_))
          replace hst : St w0 w65 [rowT 34 infoE v59 ([(⟨((i : Int) + 1), (((l[i]'(by omega)) % 18446744073709551616) % 4), ((((l[i]'(by omega)) % 18446744073709551616) / 4) % 10), (20 + ((((l[i]'(by omega)) % 18446744073709551616) / 40) % 3)), 0⟩ : Info)]), .blk g12 34 #[(.int .i64 ((i : Int) + 1)), (.int .i64 (((l[i]'(by omega)) % 18446744073709551616) % 4)), (.int .i64 ((((l[i]'(by omega)) % 18446744073709551616) / 4) % 10)), (.int .i64 (20 + ((((l[i]'(by omega)) % 18446744073709551616) / 40) % 3))), (.int .u32 0)], rowT 34 infoE v64 (wantS l (i + 1)), rowT 34 infoE vp ((wantS l i).reverse)] := by rw [show ((wantS l i) ++ ([(⟨((i : Int) + 1), (((l[i]'(by omega)) % 18446744073709551616) % 4), ((((l[i]'(by omega)) % 18446744073709551616) / 4) % 10), (20 + ((((l[i]'(by omega)) % 18446744073709551616) / 40) % 3)), 0⟩ : Info)])) = (wantS l (i + 1)) from (wantS_snoc (by omega)).symm] at hst; exact hst
          replace hst : St w0 w65 [rowT 34 infoE vp ((wantS l i).reverse), rowT 34 infoE v59 ([(⟨((i : Int) + 1), (((l[i]'(by omega)) % 18446744073709551616) % 4), ((((l[i]'(by omega)) % 18446744073709551616) / 4) % 10), (20 + ((((l[i]'(by omega)) % 18446744073709551616) / 40) % 3)), 0⟩ : Info)]), .blk g12 34 #[(.int .i64 ((i : Int) + 1)), (.int .i64 (((l[i]'(by omega)) % 18446744073709551616) % 4)), (.int .i64 ((((l[i]'(by omega)) % 18446744073709551616) / 4) % 10)), (.int .i64 (20 + ((((l[i]'(by omega)) % 18446744073709551616) / 40) % 3))), (.int .u32 0)], rowT 34 infoE v64 (wantS l (i + 1))] := hst.front 3 rfl
          replace hst : St w0 w65 [.blk g12 34 #[(.int .i64 ((i : Int) + 1)), (.int .i64 (((l[i]'(by omega)) % 18446744073709551616) % 4)), (.int .i64 ((((l[i]'(by omega)) % 18446744073709551616) / 4) % 10)), (.int .i64 (20 + ((((l[i]'(by omega)) % 18446744073709551616) / 40) % 3))), (.int .u32 0)], rowT 34 infoE vp ((wantS l i).reverse), rowT 34 infoE v59 ([(⟨((i : Int) + 1), (((l[i]'(by omega)) % 18446744073709551616) % 4), ((((l[i]'(by omega)) % 18446744073709551616) / 4) % 10), (20 + ((((l[i]'(by omega)) % 18446744073709551616) / 40) % 3)), 0⟩ : Info)]), rowT 34 infoE v64 (wantS l (i + 1))] := hst.front 2 rfl
          replace hst : St w0 w65 [rowT 34 infoE v64 (wantS l (i + 1)), .blk g12 34 #[(.int .i64 ((i : Int) + 1)), (.int .i64 (((l[i]'(by omega)) % 18446744073709551616) % 4)), (.int .i64 ((((l[i]'(by omega)) % 18446744073709551616) / 4) % 10)), (.int .i64 (20 + ((((l[i]'(by omega)) % 18446744073709551616) / 40) % 3))), (.int .u32 0)], rowT 34 infoE vp ((wantS l i).reverse), rowT 34 infoE v59 ([(⟨((i : Int) + 1), (((l[i]'(by omega)) % 18446744073709551616) % 4), ((((l[i]'(by omega)) % 18446744073709551616) / 4) % 10), (20 + ((((l[i]'(by omega)) % 18446744073709551616) / 40) % 3)), 0⟩ : Info)])] := hst.front 3 rfl
          replace hst : St w0 w65 [rowT 34 infoE v59 ([(⟨((i : Int) + 1), (((l[i]'(by omega)) % 18446744073709551616) % 4), ((((l[i]'(by omega)) % 18446744073709551616) / 4) % 10), (20 + ((((l[i]'(by omega)) % 18446744073709551616) / 40) % 3)), 0⟩ : Info)]), rowT 34 infoE v64 (wantS l (i + 1)), .blk g12 34 #[(.int .i64 ((i : Int) + 1)), (.int .i64 (((l[i]'(by omega)) % 18446744073709551616) % 4)), (.int .i64 ((((l[i]'(by omega)) % 18446744073709551616) / 4) % 10)), (.int .i64 (20 + ((((l[i]'(by omega)) % 18446744073709551616) / 40) % 3))), (.int .u32 0)], rowT 34 infoE vp ((wantS l i).reverse)] := hst.front 3 rfl
          have hI66 : stabIXs 3 [] D50 0 [(kEq vo), (kEq (.agg #[(.int .i64 ((i : Int) + 1)), (.int .i64 (((l[i]'(by omega)) % 18446744073709551616) % 4)), (.int .i64 ((((l[i]'(by omega)) % 18446744073709551616) / 4) % 10)), (.int .i64 (20 + ((((l[i]'(by omega)) % 18446744073709551616) / 40) % 3))), (.int .u32 0)])), (kSlU [3, 7] infoE ([(⟨((i : Int) + 1), (((l[i]'(by omega)) % 18446744073709551616) % 4), ((((l[i]'(by omega)) % 18446744073709551616) / 4) % 10), (20 + ((((l[i]'(by omega)) % 18446744073709551616) / 40) % 3)), 0⟩ : Info)])), kAny, (kEq (.agg #[(.int .i64 ((i : Int) + 1)), (.int .i64 (((l[i]'(by omega)) % 18446744073709551616) % 4)), (.int .i64 ((((l[i]'(by omega)) % 18446744073709551616) / 4) % 10)), (.int .i64 (20 + ((((l[i]'(by omega)) % 18446744073709551616) / 40) % 3))), (.int .u32 0)])), kAny, (kEq vp), kAny, kAny, kAny] := ⟨Or.inr (Or.inr (Or.inr iEq)), Or.inr (Or.inr (Or.inr iEq)), Or.inr (Or.inr (Or.inr (iSlU (by decide)))), Or.inl rfl, Or.inr (Or.inr (Or.inr iEq)), Or.inr (Or.inr (Or.inr iAny)), Or.inr (Or.inr (Or.inr iEq)), Or.inr (Or.inr (Or.inl (not_yet hD53 (fun hm => (hC55 7 3 hm (by kernel_rfl)))))), Or.inr (Or.inr (Or.inl (not_yet hD53 (fun hm => (hC55 8 3 hm (by kernel_rfl)))))), Or.inr (Or.inr (Or.inl (not_yet hD53 (fun hm => (hC55 9 3 hm (by kernel_rfl)))))), trivial⟩
          refine ⟨by exact ⟨hst.sub (.cons _ (.cons _ (.cons_cons _ (.cons_cons _ .slnil)))), (fun y0 => absurd y0 (fun h => Bool.noConfusion h)), (fun y0 y1 => hst.sub (.cons _ (.cons_cons _ (.cons_cons _ (.cons_cons _ .slnil))))), (fun y0 => absurd (show D50 7 = true from y0) (by rw [(not_yet hD53 (fun hm => (hC55 7 3 hm (by kernel_rfl))))]; decide)), (fun y0 _ => absurd y0 (fun h => Bool.noConfusion h)), (fun y0 y1 _ => (by have h := hst.sub (.cons_cons _ (.cons_cons _ (.cons_cons _ (.cons_cons _ .slnil)))); rw [← e60] at h; exact h)), (fun h => absurd (show D50 8 = true from h) (by rw [(not_yet hD53 (fun hm => (hC55 8 3 hm (by kernel_rfl))))]; decide)), hJ56.2.2.2.2.2.2.2⟩, by exact trivial, kX [] hI66 (fun j d hj => nomatch hj)⟩
        have hst : St w0 w52 [.blk g12 34 #[(.int .i64 ((i : Int) + 1)), (.int .i64 (((l[i]'(by omega)) % 18446744073709551616) % 4)), (.int .i64 ((((l[i]'(by omega)) % 18446744073709551616) / 4) % 10)), (.int .i64 (20 + ((((l[i]'(by omega)) % 18446744073709551616) / 40) % 3))), (.int .u32 0)], rowT 34 infoE vo (wantS l i), rowT 34 infoE vp ((wantS l i).reverse)] := hJ56.2.1 hD53
        obtain ⟨v68, e69⟩ : ∃ x, ρ51 44 = x := ⟨_, rfl⟩
        have hs67 := f44 (by intro m hm; simp only [List.mem_cons, List.not_mem_nil, or_false] at hm; rcases hm with rfl | rfl; exact hD53; exact (not_yet hD53 (fun hm => (hC55 7 3 hm (by kernel_rfl)))))
        replace hs67 : Sl w52 infoE v68 ([(⟨((i : Int) + 1), (((l[i]'(by omega)) % 18446744073709551616) % 4), ((((l[i]'(by omega)) % 18446744073709551616) / 4) % 10), (20 + ((((l[i]'(by omega)) % 18446744073709551616) / 40) % 3)), 0⟩ : Info)]) := e69 ▸ hs67
        refine go_plain (op_append (E := infoE) (xs := (wantS l i)) (ys := [(⟨((i : Int) + 1), (((l[i]'(by omega)) % 18446744073709551616) % 4), ((((l[i]'(by omega)) % 18446744073709551616) / 4) % 10), (20 + ((((l[i]'(by omega)) % 18446744073709551616) / 40) % 3)), 0⟩ : Info)]) (z := (.agg #[(.int .i64 0), (.int .i64 0), (.int .i64 0), (.int .i64 0), (.int .u32 0)])) (bytes := 40) hst 1 rfl Try.underlying22 (by kernel_rfl) rfl f42 e69 hs67 (by first | omega | (simp only [List.length_cons, List.length_nil, List.length_reverse]; omega)) (by first | omega | (simp only [List.length_cons, List.length_nil, List.length_reverse]; omega)) (fun v70 w71 hst => ?_))
        replace hst : St w0 w71 [.blk g12 34 #[(.int .i64 ((i : Int) + 1)), (.int .i64 (((l[i]'(by omega)) % 18446744073709551616) % 4)), (.int .i64 ((((l[i]'(by omega)) % 18446744073709551616) / 4) % 10)), (.int .i64 (20 + ((((l[i]'(by omega)) % 18446744073709551616) / 40) % 3))), (.int .u32 0)], rowT 34 infoE v70 (wantS l (i + 1)), rowT 34 infoE vp ((wantS l i).reverse)] := by rw [show ((wantS l i) ++ ([(⟨((i : Int) + 1), (((l[i]'(by omega)) % 18446744073709551616) % 4), ((((l[i]'(by omega)) % 18446744073709551616) / 4) % 10), (20 + ((((l[i]'(by omega)) % 18446744073709551616) / 40) % 3)), 0⟩ : Info)])) = (wantS l (i + 1)) from (wantS_snoc (by omega)).symm] at hst; exact hst
        replace hst : St w0 w71 [rowT 34 infoE vp ((wantS l i).reverse), .blk g12 34 #[(.int .i64 ((i : Int) + 1)), (.int .i64 (((l[i]'(by omega)) % 18446744073709551616) % 4)), (.int .i64 ((((l[i]'(by omega)) % 18446744073709551616) / 4) % 10)), (.int .i64 (20 + ((((l[i]'(by omega)) % 18446744073709551616) / 40) % 3))), (.int .u32 0)], rowT 34 infoE v70 (wantS l (i + 1))] := hst.front 2 rfl
        replace hst : St w0 w71 [.blk g12 34 #[(.int .i64 ((i : Int) + 1)), (.int .i64 (((l[i]'(by omega)) % 18446744073709551616) % 4)), (.int .i64 ((((l[i]'(by omega)) % 18446744073709551616) / 4) % 10)), (.int .i64 (20 + ((((l[i]'(by omega)) % 18446744073709551616) / 40) % 3))), (.int .u32 0)], rowT 34 infoE vp ((wantS l i).reverse), rowT 34 infoE v70 (wantS l (i + 1))] := hst.front 1 rfl
        replace hst : St w0 w71 [rowT 34 infoE v70 (wantS l (i + 1)), .blk g12 34 #[(.int .i64 ((i : Int) + 1)), (.int .i64 (((l[i]'(by omega)) % 18446744073709551616) % 4)), (.int .i64 ((((l[i]'(by omega)) % 18446744073709551616) / 4) % 10)), (.int .i64 (20 + ((((l[i]'(by omega)) % 18446744073709551616) / 40) % 3))), (.int .u32 0)], rowT 34 infoE vp ((wantS l i).reverse)] := hst.front 2 rfl
        have hI72 : stabIXs 3 [] D50 0 [(kEq vo), (kEq (.agg #[(.int .i64 ((i : Int) + 1)), (.int .i64 (((l[i]'(by omega)) % 18446744073709551616) % 4)), (.int .i64 ((((l[i]'(by omega)) % 18446744073709551616) / 4) % 10)), (.int .i64 (20 + ((((l[i]'(by omega)) % 18446744073709551616) / 40) % 3))), (.int .u32 0)])), (kSlU [3, 7] infoE ([(⟨((i : Int) + 1), (((l[i]'(by omega)) % 18446744073709551616) % 4), ((((l[i]'(by omega)) % 18446744073709551616) / 4) % 10), (20 + ((((l[i]'(by omega)) % 18446744073709551616) / 40) % 3)), 0⟩ : Info)])), kAny, (kEq (.agg #[(.int .i64 ((i : Int) + 1)), (.int .i64 (((l[i]'(by omega)) % 18446744073709551616) % 4)), (.int .i64 ((((l[i]'(by omega)) % 18446744073709551616) / 4) % 10)), (.int .i64 (20 + ((((l[i]'(by omega)) % 18446744073709551616) / 40) % 3))), (.int .u32 0)])), kAny, (kEq vp), kAny, kAny, kAny] := ⟨Or.inr (Or.inr (Or.inr iEq)), Or.inr (Or.inr (Or.inr iEq)), Or.inr (Or.inr (Or.inr (iSlU (by decide)))), Or.inl rfl, Or.inr (Or.inr (Or.inr iEq)), Or.inr (Or.inr (Or.inl hX58)), Or.inr (Or.inr (Or.inr iEq)), Or.inr (Or.inr (Or.inl (not_yet hD53 (fun hm => (hC55 7 3 hm (by kernel_rfl)))))), Or.inr (Or.inr (Or.inl (not_yet hD53 (fun hm => (hC55 8 3 hm (by kernel_rfl)))))), Or.inr (Or.inr (Or.inl (not_yet hD53 (fun hm => (hC55 9 3 hm (by kernel_rfl)))))), trivial⟩
        refine ⟨by exact ⟨hst.sub (.cons _ (.cons_cons _ (.cons_cons _ .slnil))), (fun y0 => absurd y0 (fun h => Bool.noConfusion h)), (fun y0 y1 => hst.sub (.cons_cons _ (.cons_cons _ (.cons_cons _ .slnil)))), (fun y0 => absurd (show D50 7 = true from y0) (by rw [(not_yet hD53 (fun hm => (hC55 7 3 hm (by kernel_rfl))))]; decide)), (fun y0 _ => absurd y0 (fun h => Bool.noConfusion h)), (fun y0 y1 hx => absurd (show D50 5 = true from hx) (by rw [hX58]; decide)), (fun h => absurd (show D50 8 = true from h) (by rw [(not_yet hD53 (fun hm => (hC55 8 3 hm (by kernel_rfl))))]; decide)), hJ56.2.2.2.2.2.2.2⟩, by exact trivial, kX [] hI72 (fun j d hj => nomatch hj)⟩
      · rintro D73 ρ74 w75 hD76 hE77 hC78 hJ79 hA80 ⟨f7, _⟩
        have hst := hJ79.1
        exact go_plain (op_loadN (cs := [(.int .i64 ((i : Int) + 1)), (.int .i64 (((l[i]'(by omega)) % 18446744073709551616) % 4)), (.int .i64 ((((l[i]'(by omega)) % 18446744073709551616) / 4) % 10)), (.int .i64 (20 + ((((l[i]'(by omega)) % 18446744073709551616) / 40) % 3))), (.int .u32 0)]) Try.isAgg34 Try.sizeOf34 (f7.trans rfl) (Pt.of (hst.cell 0 rfl) rfl) rfl (kN0 (i := 4) hM23 (by decide) (by exact hJ79) (by exact rfl)))
      · rintro D81 ρ82 w83 hD84 hE85 hC86 hJ87 hA88 ⟨f46, _⟩
        have hst := St.start w83
        refine go_plain (op_buildSlice (E := infoE) [(⟨((i : Int) + 1), (((l[i]'(by omega)) % 18446744073709551616) % 4), ((((l[i]'(by omega)) % 18446744073709551616) / 4) % 10), (20 + ((((l[i]'(by omega)) % 18446744073709551616) / 40) % 3)), 0⟩ : Info)] hst Try.underlying22 Try.sizeOf34 Try.zeroValue34 (evp_cons (v := (.agg #[(.int .i64 ((i : Int) + 1)), (.int .i64 (((l[i]'(by omega)) % 18446744073709551616) % 4)), (.int .i64 ((((l[i]'(by omega)) % 18446744073709551616) / 4) % 10)), (.int .i64 (20 + ((((l[i]'(by omega)) % 18446744073709551616) / 40) % 3))), (.int .u32 0)])) f46 evp_nil) (parts_cons rfl parts_nil) rfl (by decide) (fun v89 w90 hst => ?_))
        exact kN (i := 5) hM23 (by decide) hst.below (by exact ⟨(hJ87.1).ext hst.below, (fun x0 => (hJ87.2.1 x0).ext hst.below), (fun x0 x1 => (hJ87.2.2.1 x0 x1).ext hst.below), (fun x0 => (hJ87.2.2.2.1 x0).ext hst.below), (fun y0 _ => (hJ87.2.1 y0).call hst), (fun y0 y1 _ => (hJ87.2.2.1 y0 y1).call hst), hJ87.2.2.2.2.2.2.1, hJ87.2.2.2.2.2.2.2⟩) (by exact trivial)
      · rintro D91 ρ92 w93 hD94 hE95 hC96 hJ97 hA98 ⟨f4, _⟩
        have hst := hJ97.1
        exact go_plain (op_move vp (f4.trans q1_4) (kN0 (i := 6) hM23 (by decide) (by exact hJ97) (by exact rfl)))
      · rintro D99 ρ100 w101 hD102 hE103 hC104 hJ105 hA106 ⟨f47, f48, _⟩
        obtain ⟨v107, e108⟩ : ∃ x, ρ100 45 = x := ⟨_, rfl⟩
        obtain ⟨v109, e110⟩ : ∃ x, ρ100 47 = x := ⟨_, rfl⟩
        have hst : St w0 w101 [rowT 34 infoE v109 ([(⟨((i : Int) + 1), (((l[i]'(by omega)) % 18446744073709551616) % 4), ((((l[i]'(by omega)) % 18446744073709551616) / 4) % 10), (20 + ((((l[i]'(by omega)) % 18446744073709551616) / 40) % 3)), 0⟩ : Info)]), rowT 34 infoE v107 (wantS l (i + 1)), .blk g12 34 #[(.int .i64 ((i : Int) + 1)), (.int .i64 (((l[i]'(by omega)) % 18446744073709551616) % 4)), (.int .i64 ((((l[i]'(by omega)) % 18446744073709551616) / 4) % 10)), (.int .i64 (20 + ((((l[i]'(by omega)) % 18446744073709551616) / 40) % 3))), (.int .u32 0)], rowT 34 infoE vp ((wantS l i).reverse)] := by have h := hJ105.2.2.2.2.2.1 (hE103 3 (by kernel_rfl)) hD102 (hE103 5 (by kernel_rfl)); rw [e108, e110] at h; exact h
        refine go_plain (op_append (E := infoE) (xs := [(⟨((i : Int) + 1), (((l[i]'(by omega)) % 18446744073709551616) % 4), ((((l[i]'(by omega)) % 18446744073709551616) / 4) % 10), (20 + ((((l[i]'(by omega)) % 18446744073709551616) / 40) % 3)), 0⟩ : Info)]) (ys := ((wantS l i).reverse)) (z := (.agg #[(.int .i64 0), (.int .i64 0), (.int .i64 0), (.int .i64 0), (.int .u32 0)])) (bytes := 40) hst 0 rfl Try.underlying22 (by kernel_rfl) rfl e110 f48 (hst.sl 3 rfl) (by first | omega | (simp only [List.length_cons, List.length_nil, List.length_reverse]; omega)) (by first | omega | (simp only [List.length_cons, List.length_nil, List.length_reverse]; omega)) (fun v111 w112 hst => ?_))
        replace hst : St w0 w112 [rowT 34 infoE v111 ((wantS l (i + 1)).reverse), rowT 34 infoE v107 (wantS l (i + 1)), .blk g12 34 #[(.int .i64 ((i : Int) + 1)), (.int .i64 (((l[i]'(by omega)) % 18446744073709551616) % 4)), (.int .i64 ((((l[i]'(by omega)) % 18446744073709551616) / 4) % 10)), (.int .i64 (20 + ((((l[i]'(by omega)) % 18446744073709551616) / 40) % 3))), (.int .u32 0)], rowT 34 infoE vp ((wantS l i).reverse)] := by rw [show (([(⟨((i : Int) + 1), (((l[i]'(by omega)) % 18446744073709551616) % 4), ((((l[i]'(by omega)) % 18446744073709551616) / 4) % 10), (20 + ((((l[i]'(by omega)) % 18446744073709551616) / 40) % 3)), 0⟩ : Info)]) ++ ((wantS l i).reverse)) = ((wantS l (i + 1)).reverse) from (wantS_rev (by omega)).symm] at hst; exact hst
        have hI113 : stabIXs 7 [] D99 0 [(kEq vo), (kEq (.agg #[(.int .i64 ((i : Int) + 1)), (.int .i64 (((l[i]'(by omega)) % 18446744073709551616) % 4)), (.int .i64 ((((l[i]'(by omega)) % 18446744073709551616) / 4) % 10)), (.int .i64 (20 + ((((l[i]'(by omega)) % 18446744073709551616) / 40) % 3))), (.int .u32 0)])), (kSlU [3, 7] infoE ([(⟨((i : Int) + 1), (((l[i]'(by omega)) % 18446744073709551616) % 4), ((((l[i]'(by omega)) % 18446744073709551616) / 4) % 10), (20 + ((((l[i]'(by omega)) % 18446744073709551616) / 40) % 3)), 0⟩ : Info)])), kAny, (kEq (.agg #[(.int .i64 ((i : Int) + 1)), (.int .i64 (((l[i]'(by omega)) % 18446744073709551616) % 4)), (.int .i64 ((((l[i]'(by omega)) % 18446744073709551616) / 4) % 10)), (.int .i64 (20 + ((((l[i]'(by omega)) % 18446744073709551616) / 40) % 3))), (.int .u32 0)])), kAny, (kEq vp), kAny, kAny, kAny] := ⟨Or.inr (Or.inr (Or.inr iEq)), Or.inr (Or.inr (Or.inr iEq)), Or.inr (Or.inr (Or.inr (iSlU (by decide)))), Or.inr (Or.inr (Or.inr iAny)), Or.inr (Or.inr (Or.inr iEq)), Or.inr (Or.inr (Or.inr iAny)), Or.inr (Or.inr (Or.inr iEq)), Or.inl rfl, Or.inr (Or.inr (Or.inl (not_yet hD102 (fun hm => (hC104 8 7 hm (by kernel_rfl)))))), Or.inr (Or.inr (Or.inl (not_yet hD102 (fun hm => (hC104 9 7 hm (by kernel_rfl)))))), trivial⟩
        refine ⟨by exact ⟨hst.sub (.cons _ (.cons _ (.cons_cons _ (.cons_cons _ .slnil)))), (fun y0 => absurd (show D99 3 = false from y0) (by rw [(hE103 3 (by kernel_rfl))]; decide)), (fun y0 y1 => absurd y1 (fun h => Bool.noConfusion h)), (fun y0 => (by have h := hst.sub (.cons_cons _ (.cons_cons _ (.cons_cons _ (.cons_cons _ .slnil)))); rw [← e108] at h; exact h)), (fun y0 _ => absurd (show D99 3 = false from y0) (by rw [(hE103 3 (by kernel_rfl))]; decide)), (fun y0 y1 _ => absurd y1 (fun h => Bool.noConfusion h)), hJ105.2.2.2.2.2.2.1, (fun h => absurd (show D99 9 = true from h) (by rw [(not_yet hD102 (fun hm => (hC104 9 7 hm (by kernel_rfl))))]; decide))⟩, by exact trivial, kX [] hI113 (fun j d hj => nomatch hj)⟩
      · rintro D114 ρ115 w116 hD117 hE118 hC119 hJ120 hA121 ⟨f45, _⟩
        exact go_plain (op_assign _ rfl (kN0 (i := 8) hM23 (by decide) (by exact ⟨hJ120.1, hJ120.2.1, hJ120.2.2.1, hJ120.2.2.2.1, hJ120.2.2.2.2.1, hJ120.2.2.2.2.2.1, (fun _ => rfl), hJ120.2.2.2.2.2.2.2⟩) (by exact trivial)))
      · rintro D122 ρ123 w124 hD125 hE126 hC127 hJ128 hA129 ⟨f49, _⟩
        exact go_plain (op_assign _ rfl (kN0 (i := 9) hM23 (by decide) (by exact ⟨hJ128.1, hJ128.2.1, hJ128.2.2.1, hJ128.2.2.2.1, hJ128.2.2.2.2.1, hJ128.2.2.2.2.2.1, hJ128.2.2.2.2.2.2.1, (fun _ => rfl)⟩) (by exact trivial)))
      intro ρ130 w131 Dw131 hallw131 hJw131 hRw131 hkw131
      obtain ⟨v132, uw131_45⟩ : ∃ x, ρ130 45 = x := ⟨_, rfl⟩
      obtain ⟨v133, uw131_49⟩ : ∃ x, ρ130 49 = x := ⟨_, rfl⟩
      have hst : St w0 w131 [rowT 34 infoE v133 ((wantS l (i + 1)).reverse), rowT 34 infoE v132 (wantS l (i + 1)), .blk g12 34 #[(.int .i64 ((i : Int) + 1)), (.int .i64 (((l[i]'(by omega)) % 18446744073709551616) % 4)), (.int .i64 ((((l[i]'(by omega)) % 18446744073709551616) / 4) % 10)), (.int .i64 (20 + ((((l[i]'(by omega)) % 18446744073709551616) / 40) % 3))), (.int .u32 0)], rowT 34 infoE vp ((wantS l i).reverse)] := by have h := hJw131.2.2.2.1 (hallw131 7 (show 7 < 10 from by decide)); rw [uw131_45, uw131_49] at h; exact h
      have uw131_3 : ρ130 3 = v132 := (hJw131.2.2.2.2.2.2.1 (hallw131 8 (show 8 < 10 from by decide))).trans uw131_45
      have uw131_4 : ρ130 4 = v133 := (hJw131.2.2.2.2.2.2.2 (hallw131 9 (show 9 < 10 from by decide))).trans uw131_49
      have uw131_0 : ρ130 0 = v_l := (hkw131 0 rfl).trans q1_0
      have uw131_2 : ρ130 2 = (.bool false) := (hkw131 2 rfl).trans q1_2
      have uw131_5 : ρ130 5 = (.int .i64 (i : Int)) := (hkw131 5 rfl).trans q1_5
      have uw131_12 : ρ130 12 = (.int .i64 (i : Int)) := (hkw131 12 rfl).trans rfl
      have uw131_13 : ρ130 13 = v_l := (hkw131 13 rfl).trans rfl
      have uw131_14 : ρ130 14 = (.int .i64 (l.length : Int)) := (hkw131 14 rfl).trans rfl
      have uw131_15 : ρ130 15 = (.bool (decide ((i : Int) < (l.length : Int)))) := (hkw131 15 rfl).trans rfl
      have uw131_16 : ρ130 16 = (.bool (decide ((i : Int) < (l.length : Int)))) := (hkw131 16 rfl).trans rfl
      have uw131_17 : ρ130 17 = (.int .i64 (i : Int)) := (hkw131 17 rfl).trans rfl
      have uw131_18 : ρ130 18 = (.bool (decide ((i : Int) < 20))) := (hkw131 18 rfl).trans rfl
      have uw131_19 : ρ130 19 = (.bool (decide ((i : Int) < 20))) := (hkw131 19 rfl).trans rfl
      have uw131_22 : ρ130 22 = v_l := (hkw131 22 rfl).trans rfl
      have uw131_23 : ρ130 23 = (.int .i64 (i : Int)) := (hkw131 23 rfl).trans rfl
      have uw131_24 : ρ130 24 = (.pointer (some ⟨a9, o10, none⟩)) := (hkw131 24 rfl).trans rfl
      have uw131_25 : ρ130 25 = (.int .i64 (l[i]'(by omega))) := (hkw131 25 rfl).trans rfl
      have uw131_26 : ρ130 26 = (.int .u64 ((l[i]'(by omega)) % 18446744073709551616)) := (hkw131 26 rfl).trans rfl
      have uw131_6 : ρ130 6 = (.int .u64 ((l[i]'(by omega)) % 18446744073709551616)) := (hkw131 6 rfl).trans rfl
      have uw131_27 : ρ130 27 = (.int .i64 (i : Int)) := (hkw131 27 rfl).trans rfl
      have uw131_28 : ρ130 28 = (.int .i64 ((i : Int) + 1)) := (hkw131 28 rfl).trans rfl
      have uw131_29 : ρ130 29 = (.int .u64 ((l[i]'(by omega)) % 18446744073709551616)) := (hkw131 29 rfl).trans rfl
      have uw131_30 : ρ130 30 = (.int .u64 (((l[i]'(by omega)) % 18446744073709551616) % 4)) := (hkw131 30 rfl).trans rfl
      have uw131_31 : ρ130 31 = (.int .i64 (((l[i]'(by omega)) % 18446744073709551616) % 4)) := (hkw131 31 rfl).trans rfl
      have uw131_32 : ρ130 32 = (.int .u64 ((l[i]'(by omega)) % 18446744073709551616)) := (hkw131 32 rfl).trans rfl
      have uw131_33 : ρ130 33 = (.int .u64 (((l[i]'(by omega)) % 18446744073709551616) / 4)) := (hkw131 33 rfl).trans rfl
      have uw131_34 : ρ130 34 = (.int .u64 ((((l[i]'(by omega)) % 18446744073709551616) / 4) % 10)) := (hkw131 34 rfl).trans rfl
      have uw131_35 : ρ130 35 = (.int .i64 ((((l[i]'(by omega)) % 18446744073709551616) / 4) % 10)) := (hkw131 35 rfl).trans rfl
      have uw131_36 : ρ130 36 = (.int .u64 ((l[i]'(by omega)) % 18446744073709551616)) := (hkw131 36 rfl).trans rfl
      have uw131_37 : ρ130 37 = (.int .u64 (((l[i]'(by omega)) % 18446744073709551616) / 40)) := (hkw131 37 rfl).trans rfl
      have uw131_38 : ρ130 38 = (.int .u64 ((((l[i]'(by omega)) % 18446744073709551616) / 40) % 3)) := (hkw131 38 rfl).trans rfl
      have uw131_39 : ρ130 39 = (.int .i64 ((((l[i]'(by omega)) % 18446744073709551616) / 40) % 3)) := (hkw131 39 rfl).trans rfl
      have uw131_40 : ρ130 40 = (.int .i64 (20 + ((((l[i]'(by omega)) % 18446744073709551616) / 40) % 3))) := (hkw131 40 rfl).trans rfl
      have uw131_41 : ρ130 41 = (.agg #[(.int .i64 ((i : Int) + 1)), (.int .i64 (((l[i]'(by omega)) % 18446744073709551616) % 4)), (.int .i64 ((((l[i]'(by omega)) % 18446744073709551616) / 4) % 10)), (.int .i64 (20 + ((((l[i]'(by omega)) % 18446744073709551616) / 40) % 3))), (.int .u32 0)]) := (hkw131 41 rfl).trans rfl
      have uw131_7 : ρ130 7 = (.pointer (some ⟨g12, 0, none⟩)) := (hkw131 7 rfl).trans rfl
      refine block_n (then_n ?_)
      refine cE_region rfl ?_
      refine s_cons (op_move (.int .i64 (i : Int)) uw131_5 ?_)
      refine s_cons (op_add (k := .i64) (a := (i : Int)) (b := 1) ((i : Int) + 1) rfl rfl (xi64 (by omega) (by omega)) ?_)
      refine s_cons (op_assign (.int .i64 ((i : Int) + 1)) rfl ?_)
      refine s_nil ?_
      refine then_n ?_
      replace hst : St w0 w131 [rowT 34 infoE v132 (wantS l (i + 1)), rowT 34 infoE v133 ((wantS l (i + 1)).reverse), .blk g12 34 #[(.int .i64 ((i : Int) + 1)), (.int .i64 (((l[i]'(by omega)) % 18446744073709551616) % 4)), (.int .i64 ((((l[i]'(by omega)) % 18446744073709551616) / 4) % 10)), (.int .i64 (20 + ((((l[i]'(by omega)) % 18446744073709551616) / 40) % 3))), (.int .u32 0)], rowT 34 infoE vp ((wantS l i).reverse)] := hst.front 1 rfl
      exact ⟨_, ⟨v132, v133, (i + 1), rfl, uw131_0, uw131_2, uw131_3, uw131_4, (congrArg (Value.int .i64) (show ((i : Int) + 1) = _ from by omega)), (hst.sub (.cons_cons _ (.cons_cons _ (.cons _ (.cons _ .slnil))))), (by omega), (by omega)⟩, (by simp only [id]; omega)⟩
    have c134 : ¬ ((i : Int) < 20) := of_decide_eq_false b7
    refine cE_cond false (congrArg Value.bool b7) (fun h => by cases h) (fun _ => ?_)
    refine cE_exit ?_
    refine then_x (then_x (block_hit (then_n ?_)))
    refine cE_seq ?_
    refine cE_region rfl ?_
    refine s_cons (op_move vo q1_3 ?_)
    refine s_cons (op_call Try.call9 (evs_cons (v := vo) rfl evs_nil) (c_roll (w0 := w4) (v_l := vo) (l := (wantS l i)) (h_l := (hst.sl 0 rfl)) (hl := (wantS_ok hi (by omega)))) ?_)
    rintro _ w135 ⟨rfl, hcall⟩
    refine ⟨_, rfl, ?_⟩
    have hst : St w0 w135 [rowT 34 infoE vo (wantS l i), rowT 34 infoE vp ((wantS l i).reverse)] := hst.call hcall
    refine s_cons (op_move (.tuple #[(.int .i64 ((rollI (wantS l i)).1)), (.int .i64 ((rollI (wantS l i)).2))]) rfl ?_)
    refine s_cons (op_extract (.int .i64 ((rollI (wantS l i)).1)) rfl rfl ?_)
    refine s_cons (op_extract (.int .i64 ((rollI (wantS l i)).2)) rfl rfl ?_)
    refine s_cons (op_assign (.int .i64 ((rollI (wantS l i)).1)) rfl ?_)
    refine s_cons (op_assign (.int .i64 ((rollI (wantS l i)).2)) rfl ?_)
    refine s_nil ?_
    refine then_n ?_
    refine cE_seq ?_
    refine cE_region rfl ?_
    refine s_cons (op_move vp q1_4 ?_)
    refine s_cons (op_call Try.call9 (evs_cons (v := vp) rfl evs_nil) (c_roll (w0 := w135) (v_l := vp) (l := ((wantS l i).reverse)) (h_l := (hst.sl 1 rfl)) (hl := (rev_ok (wantS_ok hi (by omega))))) ?_)
    rintro _ w136 ⟨rfl, hcall⟩
    refine ⟨_, rfl, ?_⟩
    have hst : St w0 w136 [rowT 34 infoE vo (wantS l i), rowT 34 infoE vp ((wantS l i).reverse)] := hst.call hcall
    refine s_cons (op_move (.tuple #[(.int .i64 ((rollI ((wantS l i).reverse)).1)), (.int .i64 ((rollI ((wantS l i).reverse)).2))]) rfl ?_)
    refine s_cons (op_extract (.int .i64 ((rollI ((wantS l i).reverse)).1)) rfl rfl ?_)
    refine s_cons (op_extract (.int .i64 ((rollI ((wantS l i).reverse)).2)) rfl rfl ?_)
    refine s_cons (op_assign (.int .i64 ((rollI ((wantS l i).reverse)).1)) rfl ?_)
    refine s_cons (op_assign (.int .i64 ((rollI ((wantS l i).reverse)).2)) rfl ?_)
    refine s_nil ?_
    refine then_n ?_
    refine cE_seq ?_
    refine cE_region rfl ?_
    refine s_cons (op_call Try.call7 evs_nil (c_told20 (w0 := w136)) ?_)
    rintro _ w137 ⟨rfl, hcall⟩
    refine ⟨_, rfl, ?_⟩
    have hst : St w0 w137 [rowT 34 infoE vo (wantS l i), rowT 34 infoE vp ((wantS l i).reverse)] := hst.call hcall
    refine s_cons (op_move (.bool true) rfl ?_)
    refine s_yes 61 rfl rfl (op_move vo q1_3 ?_)
    refine s_yes 61 rfl rfl (op_call Try.call13 (evs_cons (v := vo) rfl (evs_cons (v := (.slice none 0 0)) rfl evs_nil)) (c_next (w0 := w137) (v_l := vo) (l := (wantS l i)) (h_l := (hst.sl 0 rfl)) (v_r := (.slice none 0 0)) (r := []) (h_r := (Sl.nil infoE _)) (hll := (by omega)) (hrl := (Nat.zero_le _))) ?_)
    rintro _ w138 ⟨rfl, hcall⟩
    refine ⟨_, rfl, ?_⟩
    have hst : St w0 w138 [rowT 34 infoE vo (wantS l i), rowT 34 infoE vp ((wantS l i).reverse)] := hst.call hcall
    refine s_yes 61 rfl rfl (op_move vp q1_4 ?_)
    refine s_yes 61 rfl rfl (op_call Try.call13 (evs_cons (v := vp) rfl (evs_cons (v := (.slice none 0 0)) rfl evs_nil)) (c_next (w0 := w138) (v_l := vp) (l := ((wantS l i).reverse)) (h_l := (hst.sl 1 rfl)) (v_r := (.slice none 0 0)) (r := []) (h_r := (Sl.nil infoE _)) (hll := (by omega)) (hrl := (Nat.zero_le _))) ?_)
    rintro _ w139 ⟨rfl, hcall⟩
    refine ⟨_, rfl, ?_⟩
    have hst : St w0 w139 [rowT 34 infoE vo (wantS l i), rowT 34 infoE vp ((wantS l i).reverse)] := hst.call hcall
    refine s_yes 61 rfl rfl (op_eql (k := .i64) (a := (nextI (wantS l i) ([]))) (b := (nextI ((wantS l i).reverse) ([]))) rfl rfl ?_)
    refine s_cons (op_pick_t (.bool (decide ((nextI (wantS l i) ([])) = (nextI ((wantS l i).reverse) ([]))))) rfl rfl ?_)
    refine s_cons (op_move (.bool (decide ((nextI (wantS l i) ([])) = (nextI ((wantS l i).reverse) ([]))))) rfl ?_)
    refine s_yes 68 rfl (congrArg Value.bool (show (decide ((nextI (wantS l i) ([])) = (nextI ((wantS l i).reverse) ([])))) = true from (decide_eq_true (next_perm _ (rev_perm _))))) (op_move (.int .i64 ((rollI (wantS l i)).1)) rfl ?_)
    refine s_yes 68 rfl (congrArg Value.bool (show (decide ((nextI (wantS l i) ([])) = (nextI ((wantS l i).reverse) ([])))) = true from (decide_eq_true (next_perm _ (rev_perm _))))) (op_move (.int .i64 ((rollI ((wantS l i).reverse)).1)) rfl ?_)
    refine s_yes 68 rfl (congrArg Value.bool (show (decide ((nextI (wantS l i) ([])) = (nextI ((wantS l i).reverse) ([])))) = true from (decide_eq_true (next_perm _ (rev_perm _))))) (op_eql (k := .i64) (a := (rollI (wantS l i)).1) (b := (rollI ((wantS l i).reverse)).1) rfl rfl ?_)
    refine s_cons (op_pick_t (.bool (decide (((rollI (wantS l i)).1) = ((rollI ((wantS l i).reverse)).1)))) (congrArg Value.bool (show (decide ((nextI (wantS l i) ([])) = (nextI ((wantS l i).reverse) ([])))) = true from (decide_eq_true (next_perm _ (rev_perm _))))) rfl ?_)
    refine s_cons (op_move (.bool (decide (((rollI (wantS l i)).1) = ((rollI ((wantS l i).reverse)).1)))) rfl ?_)
    refine s_yes 73 rfl (congrArg Value.bool (show (decide (((rollI (wantS l i)).1) = ((rollI ((wantS l i).reverse)).1))) = true from (decide_eq_true (congrArg Prod.fst (roll_perm (rev_perm _)))))) (op_move (.int .i64 ((rollI (wantS l i)).2)) rfl ?_)
    refine s_yes 73 rfl (congrArg Value.bool (show (decide (((rollI (wantS l i)).1) = ((rollI ((wantS l i).reverse)).1))) = true from (decide_eq_true (congrArg Prod.fst (roll_perm (rev_perm _)))))) (op_move (.int .i64 ((rollI ((wantS l i).reverse)).2)) rfl ?_)
    refine s_yes 73 rfl (congrArg Value.bool (show (decide (((rollI (wantS l i)).1) = ((rollI ((wantS l i).reverse)).1))) = true from (decide_eq_true (congrArg Prod.fst (roll_perm (rev_perm _)))))) (op_eql (k := .i64) (a := (rollI (wantS l i)).2) (b := (rollI ((wantS l i).reverse)).2) rfl rfl ?_)
    refine s_cons (op_pick_t (.bool (decide (((rollI (wantS l i)).2) = ((rollI ((wantS l i).reverse)).2)))) (congrArg Value.bool (show (decide (((rollI (wantS l i)).1) = ((rollI ((wantS l i).reverse)).1))) = true from (decide_eq_true (congrArg Prod.fst (roll_perm (rev_perm _)))))) rfl ?_)
    refine s_cons (op_move (.bool (decide (((rollI (wantS l i)).2) = ((rollI ((wantS l i).reverse)).2)))) rfl ?_)
    refine s_yes 78 rfl (congrArg Value.bool (show (decide (((rollI (wantS l i)).2) = ((rollI ((wantS l i).reverse)).2))) = true from (decide_eq_true (congrArg Prod.snd (roll_perm (rev_perm _)))))) (op_move vo q1_3 ?_)
    refine s_yes 78 rfl (congrArg Value.bool (show (decide (((rollI (wantS l i)).2) = ((rollI ((wantS l i).reverse)).2))) = true from (decide_eq_true (congrArg Prod.snd (roll_perm (rev_perm _)))))) (op_call Try.call12 (evs_cons (v := vo) rfl (evs_cons (v := (.slice none 0 0)) rfl evs_nil)) (c_bodies (w0 := w139) (v_l := vo) (l := (wantS l i)) (h_l := (hst.sl 0 rfl)) (v_r := (.slice none 0 0)) (r := []) (h_r := (Sl.nil infoE _)) (hll := (by omega)) (hrl := (Nat.zero_le _))) ?_)
    rintro _ w141 ⟨r140, rfl, hcall⟩
    refine ⟨_, rfl, ?_⟩
    have hst : St w0 w141 [rowT 3 (intE .i64) r140 (bodies (wantS l i) ([])), rowT 34 infoE vo (wantS l i), rowT 34 infoE vp ((wantS l i).reverse)] := hst.call hcall
    refine s_yes 78 rfl (congrArg Value.bool (show (decide (((rollI (wantS l i)).2) = ((rollI ((wantS l i).reverse)).2))) = true from (decide_eq_true (congrArg Prod.snd (roll_perm (rev_perm _)))))) (op_move vp q1_4 ?_)
    refine s_yes 78 rfl (congrArg Value.bool (show (decide (((rollI (wantS l i)).2) = ((rollI ((wantS l i).reverse)).2))) = true from (decide_eq_true (congrArg Prod.snd (roll_perm (rev_perm _)))))) (op_call Try.call12 (evs_cons (v := vp) rfl (evs_cons (v := (.slice none 0 0)) rfl evs_nil)) (c_bodies (w0 := w141) (v_l := vp) (l := ((wantS l i).reverse)) (h_l := (hst.sl 2 rfl)) (v_r := (.slice none 0 0)) (r := []) (h_r := (Sl.nil infoE _)) (hll := (by omega)) (hrl := (Nat.zero_le _))) ?_)
    rintro _ w143 ⟨r142, rfl, hcall⟩
    refine ⟨_, rfl, ?_⟩
    have hst : St w0 w143 [rowT 3 (intE .i64) r142 (bodies ((wantS l i).reverse) ([])), rowT 3 (intE .i64) r140 (bodies (wantS l i) ([])), rowT 34 infoE vo (wantS l i), rowT 34 infoE vp ((wantS l i).reverse)] := hst.call hcall
    refine s_yes 78 rfl (congrArg Value.bool (show (decide (((rollI (wantS l i)).2) = ((rollI ((wantS l i).reverse)).2))) = true from (decide_eq_true (congrArg Prod.snd (roll_perm (rev_perm _)))))) (op_call Try.call11 (evs_cons (v := r140) rfl (evs_cons (v := r142) rfl evs_nil)) (c_Ints (w0 := w143) (v_a := r140) (a := (bodies (wantS l i) ([]))) (h_a := (hst.sl 1 rfl)) (v_b := r142) (b := (bodies ((wantS l i).reverse) ([]))) (h_b := (hst.sl 0 rfl))) ?_)
    rintro _ w144 ⟨rfl, hcall⟩
    refine ⟨_, rfl, ?_⟩
    have hst : St w0 w144 [rowT 3 (intE .i64) r142 (bodies ((wantS l i).reverse) ([])), rowT 3 (intE .i64) r140 (bodies (wantS l i) ([])), rowT 34 infoE vo (wantS l i), rowT 34 infoE vp ((wantS l i).reverse)] := hst.call hcall
    refine s_cons (op_pick_t (.bool (decide ((bodies (wantS l i) ([])) = (bodies ((wantS l i).reverse) ([]))))) (congrArg Value.bool (show (decide (((rollI (wantS l i)).2) = ((rollI ((wantS l i).reverse)).2))) = true from (decide_eq_true (congrArg Prod.snd (roll_perm (rev_perm _)))))) rfl ?_)
    refine s_cons (op_assign (.bool (decide ((bodies (wantS l i) ([])) = (bodies ((wantS l i).reverse) ([]))))) rfl ?_)
    refine s_nil ?_
    refine then_n ?_
    refine cE_ret ?_
    refine post_r _ (res1 (v := (.bool true)) (congrArg Value.bool (show (decide ((bodies (wantS l i) ([])) = (bodies ((wantS l i).reverse) ([])))) = true from (decide_eq_true (bodies_perm _ (rev_perm _)))))) ?_
    exact ⟨rfl, hst.bare⟩
  have c145 : ¬ ((i : Int) < (l.length : Int)) := of_decide_eq_false b5
  refine s_no 16 rfl (congrArg Value.bool b5) ?_
  refine s_no 16 rfl (congrArg Value.bool b5) ?_
  refine s_cons (op_pick_f (.bool false) (congrArg Value.bool b5) rfl ?_)
  refine s_nil ?_
  refine then_n ?_
  refine cE_cond false rfl (fun h => by cases h) (fun _ => ?_)
  refine cE_exit ?_
  refine then_x (then_x (block_hit (then_n ?_)))
  refine cE_seq ?_
  refine cE_region rfl ?_
  refine s_cons (op_move vo q1_3 ?_)
  refine s_cons (op_call Try.call9 (evs_cons (v := vo) rfl evs_nil) (c_roll (w0 := w4) (v_l := vo) (l := (wantS l i)) (h_l := (hst.sl 0 rfl)) (hl := (wantS_ok hi (by omega)))) ?_)
  rintro _ w146 ⟨rfl, hcall⟩
  refine ⟨_, rfl, ?_⟩
  have hst : St w0 w146 [rowT 34 infoE vo (wantS l i), rowT 34 infoE vp ((wantS l i).reverse)] := hst.call hcall
  refine s_cons (op_move (.tuple #[(.int .i64 ((rollI (wantS l i)).1)), (.int .i64 ((rollI (wantS l i)).2))]) rfl ?_)
  refine s_cons (op_extract (.int .i64 ((rollI (wantS l i)).1)) rfl rfl ?_)
  refine s_cons (op_extract (.int .i64 ((rollI (wantS l i)).2)) rfl rfl ?_)
  refine s_cons (op_assign (.int .i64 ((rollI (wantS l i)).1)) rfl ?_)
  refine s_cons (op_assign (.int .i64 ((rollI (wantS l i)).2)) rfl ?_)
  refine s_nil ?_
  refine then_n ?_
  refine cE_seq ?_
  refine cE_region rfl ?_
  refine s_cons (op_move vp q1_4 ?_)
  refine s_cons (op_call Try.call9 (evs_cons (v := vp) rfl evs_nil) (c_roll (w0 := w146) (v_l := vp) (l := ((wantS l i).reverse)) (h_l := (hst.sl 1 rfl)) (hl := (rev_ok (wantS_ok hi (by omega))))) ?_)
  rintro _ w147 ⟨rfl, hcall⟩
  refine ⟨_, rfl, ?_⟩
  have hst : St w0 w147 [rowT 34 infoE vo (wantS l i), rowT 34 infoE vp ((wantS l i).reverse)] := hst.call hcall
  refine s_cons (op_move (.tuple #[(.int .i64 ((rollI ((wantS l i).reverse)).1)), (.int .i64 ((rollI ((wantS l i).reverse)).2))]) rfl ?_)
  refine s_cons (op_extract (.int .i64 ((rollI ((wantS l i).reverse)).1)) rfl rfl ?_)
  refine s_cons (op_extract (.int .i64 ((rollI ((wantS l i).reverse)).2)) rfl rfl ?_)
  refine s_cons (op_assign (.int .i64 ((rollI ((wantS l i).reverse)).1)) rfl ?_)
  refine s_cons (op_assign (.int .i64 ((rollI ((wantS l i).reverse)).2)) rfl ?_)
  refine s_nil ?_
  refine then_n ?_
  refine cE_seq ?_
  refine cE_region rfl ?_
  refine s_cons (op_call Try.call7 evs_nil (c_told20 (w0 := w147)) ?_)
  rintro _ w148 ⟨rfl, hcall⟩
  refine ⟨_, rfl, ?_⟩
  have hst : St w0 w148 [rowT 34 infoE vo (wantS l i), rowT 34 infoE vp ((wantS l i).reverse)] := hst.call hcall
  refine s_cons (op_move (.bool true) rfl ?_)
  refine s_yes 61 rfl rfl (op_move vo q1_3 ?_)
  refine s_yes 61 rfl rfl (op_call Try.call13 (evs_cons (v := vo) rfl (evs_cons (v := (.slice none 0 0)) rfl evs_nil)) (c_next (w0 := w148) (v_l := vo) (l := (wantS l i)) (h_l := (hst.sl 0 rfl)) (v_r := (.slice none 0 0)) (r := []) (h_r := (Sl.nil infoE _)) (hll := (by omega)) (hrl := (Nat.zero_le _))) ?_)
  rintro _ w149 ⟨rfl, hcall⟩
  refine ⟨_, rfl, ?_⟩
  have hst : St w0 w149 [rowT 34 infoE vo (wantS l i), rowT 34 infoE vp ((wantS l i).reverse)] := hst.call hcall
  refine s_yes 61 rfl rfl (op_move vp q1_4 ?_)
  refine s_yes 61 rfl rfl (op_call Try.call13 (evs_cons (v := vp) rfl (evs_cons (v := (.slice none 0 0)) rfl evs_nil)) (c_next (w0 := w149) (v_l := vp) (l := ((wantS l i).reverse)) (h_l := (hst.sl 1 rfl)) (v_r := (.slice none 0 0)) (r := []) (h_r := (Sl.nil infoE _)) (hll := (by omega)) (hrl := (Nat.zero_le _))) ?_)
  rintro _ w150 ⟨rfl, hcall⟩
  refine ⟨_, rfl, ?_⟩
  have hst : St w0 w150 [rowT 34 infoE vo (wantS l i), rowT 34 infoE vp ((wantS l i).reverse)] := hst.call hcall
  refine s_yes 61 rfl rfl (op_eql (k := .i64) (a := (nextI (wantS l i) ([]))) (b := (nextI ((wantS l i).reverse) ([]))) rfl rfl ?_)
  refine s_cons (op_pick_t (.bool (decide ((nextI (wantS l i) ([])) = (nextI ((wantS l i).reverse) ([]))))) rfl rfl ?_)
  refine s_cons (op_move (.bool (decide ((nextI (wantS l i) ([])) = (nextI ((wantS l i).reverse) ([]))))) rfl ?_)
  refine s_yes 68 rfl (congrArg Value.bool (show (decide ((nextI (wantS l i) ([])) = (nextI ((wantS l i).reverse) ([])))) = true from (decide_eq_true (next_perm _ (rev_perm _))))) (op_move (.int .i64 ((rollI (wantS l i)).1)) rfl ?_)
  refine s_yes 68 rfl (congrArg Value.bool (show (decide ((nextI (wantS l i) ([])) = (nextI ((wantS l i).reverse) ([])))) = true from (decide_eq_true (next_perm _ (rev_perm _))))) (op_move (.int .i64 ((rollI ((wantS l i).reverse)).1)) rfl ?_)
  refine s_yes 68 rfl (congrArg Value.bool (show (decide ((nextI (wantS l i) ([])) = (nextI ((wantS l i).reverse) ([])))) = true from (decide_eq_true (next_perm _ (rev_perm _))))) (op_eql (k := .i64) (a := (rollI (wantS l i)).1) (b := (rollI ((wantS l i).reverse)).1) rfl rfl ?_)
  refine s_cons (op_pick_t (.bool (decide (((rollI (wantS l i)).1) = ((rollI ((wantS l i).reverse)).1)))) (congrArg Value.bool (show (decide ((nextI (wantS l i) ([])) = (nextI ((wantS l i).reverse) ([])))) = true from (decide_eq_true (next_perm _ (rev_perm _))))) rfl ?_)
  refine s_cons (op_move (.bool (decide (((rollI (wantS l i)).1) = ((rollI ((wantS l i).reverse)).1)))) rfl ?_)
  refine s_yes 73 rfl (congrArg Value.bool (show (decide (((rollI (wantS l i)).1) = ((rollI ((wantS l i).reverse)).1))) = true from (decide_eq_true (congrArg Prod.fst (roll_perm (rev_perm _)))))) (op_move (.int .i64 ((rollI (wantS l i)).2)) rfl ?_)
  refine s_yes 73 rfl (congrArg Value.bool (show (decide (((rollI (wantS l i)).1) = ((rollI ((wantS l i).reverse)).1))) = true from (decide_eq_true (congrArg Prod.fst (roll_perm (rev_perm _)))))) (op_move (.int .i64 ((rollI ((wantS l i).reverse)).2)) rfl ?_)
  refine s_yes 73 rfl (congrArg Value.bool (show (decide (((rollI (wantS l i)).1) = ((rollI ((wantS l i).reverse)).1))) = true from (decide_eq_true (congrArg Prod.fst (roll_perm (rev_perm _)))))) (op_eql (k := .i64) (a := (rollI (wantS l i)).2) (b := (rollI ((wantS l i).reverse)).2) rfl rfl ?_)
  refine s_cons (op_pick_t (.bool (decide (((rollI (wantS l i)).2) = ((rollI ((wantS l i).reverse)).2)))) (congrArg Value.bool (show (decide (((rollI (wantS l i)).1) = ((rollI ((wantS l i).reverse)).1))) = true from (decide_eq_true (congrArg Prod.fst (roll_perm (rev_perm _)))))) rfl ?_)
  refine s_cons (op_move (.bool (decide (((rollI (wantS l i)).2) = ((rollI ((wantS l i).reverse)).2)))) rfl ?_)
  refine s_yes 78 rfl (congrArg Value.bool (show (decide (((rollI (wantS l i)).2) = ((rollI ((wantS l i).reverse)).2))) = true from (decide_eq_true (congrArg Prod.snd (roll_perm (rev_perm _)))))) (op_move vo q1_3 ?_)
  refine s_yes 78 rfl (congrArg Value.bool (show (decide (((rollI (wantS l i)).2) = ((rollI ((wantS l i).reverse)).2))) = true from (decide_eq_true (congrArg Prod.snd (roll_perm (rev_perm _)))))) (op_call Try.call12 (evs_cons (v := vo) rfl (evs_cons (v := (.slice none 0 0)) rfl evs_nil)) (c_bodies (w0 := w150) (v_l := vo) (l := (wantS l i)) (h_l := (hst.sl 0 rfl)) (v_r := (.slice none 0 0)) (r := []) (h_r := (Sl.nil infoE _)) (hll := (by omega)) (hrl := (Nat.zero_le _))) ?_)
  rintro _ w152 ⟨r151, rfl, hcall⟩
  refine ⟨_, rfl, ?_⟩
  have hst : St w0 w152 [rowT 3 (intE .i64) r151 (bodies (wantS l i) ([])), rowT 34 infoE vo (wantS l i), rowT 34 infoE vp ((wantS l i).reverse)] := hst.call hcall
  refine s_yes 78 rfl (congrArg Value.bool (show (decide (((rollI (wantS l i)).2) = ((rollI ((wantS l i).reverse)).2))) = true from (decide_eq_true (congrArg Prod.snd (roll_perm (rev_perm _)))))) (op_move vp q1_4 ?_)
  refine s_yes 78 rfl (congrArg Value.bool (show (decide (((rollI (wantS l i)).2) = ((rollI ((wantS l i).reverse)).2))) = true from (decide_eq_true (congrArg Prod.snd (roll_perm (rev_perm _)))))) (op_call Try.call12 (evs_cons (v := vp) rfl (evs_cons (v := (.slice none 0 0)) rfl evs_nil)) (c_bodies (w0 := w152) (v_l := vp) (l := ((wantS l i).reverse)) (h_l := (hst.sl 2 rfl)) (v_r := (.slice none 0 0)) (r := []) (h_r := (Sl.nil infoE _)) (hll := (by omega)) (hrl := (Nat.zero_le _))) ?_)
  rintro _ w154 ⟨r153, rfl, hcall⟩
  refine ⟨_, rfl, ?_⟩
  have hst : St w0 w154 [rowT 3 (intE .i64) r153 (bodies ((wantS l i).reverse) ([])), rowT 3 (intE .i64) r151 (bodies (wantS l i) ([])), rowT 34 infoE vo (wantS l i), rowT 34 infoE vp ((wantS l i).reverse)] := hst.call hcall
  refine s_yes 78 rfl (congrArg Value.bool (show (decide (((rollI (wantS l i)).2) = ((rollI ((wantS l i).reverse)).2))) = true from (decide_eq_true (congrArg Prod.snd (roll_perm (rev_perm _)))))) (op_call Try.call11 (evs_cons (v := r151) rfl (evs_cons (v := r153) rfl evs_nil)) (c_Ints (w0 := w154) (v_a := r151) (a := (bodies (wantS l i) ([]))) (h_a := (hst.sl 1 rfl)) (v_b := r153) (b := (bodies ((wantS l i).reverse) ([]))) (h_b := (hst.sl 0 rfl))) ?_)
  rintro _ w155 ⟨rfl, hcall⟩
  refine ⟨_, rfl, ?_⟩
  have hst : St w0 w155 [rowT 3 (intE .i64) r153 (bodies ((wantS l i).reverse) ([])), rowT 3 (intE .i64) r151 (bodies (wantS l i) ([])), rowT 34 infoE vo (wantS l i), rowT 34 infoE vp ((wantS l i).reverse)] := hst.call hcall
  refine s_cons (op_pick_t (.bool (decide ((bodies (wantS l i) ([])) = (bodies ((wantS l i).reverse) ([]))))) (congrArg Value.bool (show (decide (((rollI (wantS l i)).2) = ((rollI ((wantS l i).reverse)).2))) = true from (decide_eq_true (congrArg Prod.snd (roll_perm (rev_perm _)))))) rfl ?_)
  refine s_cons (op_assign (.bool (decide ((bodies (wantS l i) ([])) = (bodies ((wantS l i).reverse) ([]))))) rfl ?_)
  refine s_nil ?_
  refine then_n ?_
  refine cE_ret ?_
  refine post_r _ (res1 (v := (.bool true)) (congrArg Value.bool (show (decide ((bodies (wantS l i) ([])) = (bodies ((wantS l i).reverse) ([])))) = true from (decide_eq_true (bodies_perm _ (rev_perm _)))))) ?_
  exact ⟨rfl, hst.bare⟩

end Go.Proofs.Ytadnedoecbfojaa
