/- twinkeeplaw20.OrderComes -/
import Derived.Test.YtadnedoecbfojaaW40
import Derived.Test.YtadnedoecbfojaaW33
import Derived.Test.YtadnedoecbfojaaW36
import Derived.Test.YtadnedoecbfojaaW9
namespace Go.Proofs.Ytadnedoecbfojaa
open Go.RowKit

set_option maxHeartbeats 4000000 in
theorem c_OrderComes (w0 : World) (v_l : Value) (l : List Int) (h_l : Sl w0 (intE .i64) v_l l) (hl : ∀ v ∈ l, i64R v) :
    Calls Try.prog 4 #[v_l] w0 fun e w' => e = .returned (.bool true) ∧ St w0 w' [] := by
  refine calls_E (n := 93) (ts := [2]) Try.func4 rfl rfl rfl (by simp) ?_
  have hst := St.start w0
  refine cE_seq ?_
  refine cE_region rfl ?_
  refine s_cons (op_assign (.bool false) rfl ?_)
  refine s_nil ?_
  refine then_n ?_
  refine cE_seq ?_
  refine cE_region rfl ?_
  refine s_cons (op_assign (.slice none 0 0) rfl ?_)
  refine s_cons (op_assign (.slice none 0 0) rfl ?_)
  refine s_nil ?_
  refine then_n ?_
  refine cE_seq ?_
  refine cE_seq ?_
  refine cE_region rfl ?_
  refine s_cons (op_assign (.int .i64 0) rfl ?_)
  refine s_nil ?_
  refine then_n ?_
  refine cE_block ?_
  replace hst : St w0 w0 [rowT 34 infoE (.slice none 0 0) ([])] := hst.nilRow 34 infoE
  refine cE_loop (fun (m : Nat) (ρ : Env) (w : World) => ∃ (vo : Value) (i : Nat), m = l.length - i ∧ ρ 0 = v_l ∧ ρ 2 = (.bool false) ∧ ρ 4 = (.slice none 0 0) ∧ ρ 3 = vo ∧ ρ 5 = (.int .i64 (i : Int)) ∧ St w0 w [rowT 34 infoE vo (wantC l i)] ∧ (i ≤ l.length) ∧ (i ≤ 30)) id _ ⟨(.slice none 0 0), 0, rfl, rfl, rfl, rfl, rfl, (congrArg (Value.int .i64) (show 0 = _ from by omega)), (by have h := hst; first | exact h | (refine (?_ : St _ _ _); simpa using h)), (by omega), (by omega)⟩ ?_
  rintro m2 ρ3 w4 ⟨vo, i, hm2, q1_0, q1_2, q1_4, q1_3, q1_5, hst, hi, hi3⟩
  have hwl := wantC_len (l := l) hi
  have hlen := h_l.len
  refine cE_seq ?_
  refine cE_seq ?_
  refine cE_region rfl ?_
  refine s_cons (op_move (.int .i64 (i : Int)) q1_5 ?_)
  refine s_cons (op_move v_l q1_0 ?_)
  refine s_cons (op_len (E := (intE .i64)) (xs := l) Try.underlying24 rfl h_l ?_)
  refine s_cons (op_lss (k := .i64) (a := (i : Int)) (b := (l.length : Int)) rfl rfl ?_)
  refine s_cons (op_move (.bool (decide ((i : Int) < (l.length : Int)))) rfl ?_)
  rcases Bool.eq_false_or_eq_true (decide ((i : Int) < (l.length : Int))) with b5 | b5
  · have c6 : (i : Int) < (l.length : Int) := of_decide_eq_true b5
    refine s_yes 14 rfl (congrArg Value.bool b5) (op_move (.int .i64 (i : Int)) q1_5 ?_)
    refine s_yes 14 rfl (congrArg Value.bool b5) (op_lss (k := .i64) (a := (i : Int)) (b := 30) rfl rfl ?_)
    refine s_cons (op_pick_t (.bool (decide ((i : Int) < 30))) (congrArg Value.bool b5) rfl ?_)
    refine s_nil ?_
    refine then_n ?_
    rcases Bool.eq_false_or_eq_true (decide ((i : Int) < 30)) with b7 | b7
    · have c8 : (i : Int) < 30 := of_decide_eq_true b7
      refine cE_cond true (congrArg Value.bool b7) (fun _ => ?_) (fun h => by cases h)
      refine cE_skip ?_
      refine then_n ?_
      refine cE_seq ?_
      refine cE_block ?_
      refine cE_seq ?_
      refine cE_region rfl ?_
      refine s_cons (op_move v_l q1_0 ?_)
      refine s_cons (op_move (.int .i64 (i : Int)) q1_5 ?_)
      refine s_cons (op_indexAddrN (E := (intE .i64)) (xs := l) i Try.underlying24 Try.sizeOf3 rfl h_l rfl (by omega) (by omega) (fun a9 o10 p11 => ?_))
      have hr := hl (l[i]'(by omega)) (List.getElem_mem _)
      refine s_cons (op_load1 (u := (.int .i64 (l[i]'(by omega)))) Try.isAgg3 rfl (p11.below hst.below) ?_)
      refine s_cons (op_conv (k := .i64) (a := (l[i]'(by omega))) ((l[i]'(by omega)) % 18446744073709551616) Try.underlying31 (by rw [Try.underlying3]; rfl) rfl (IntKind.wrap_u64 _) ?_)
      refine s_cons (op_assign (.int .u64 ((l[i]'(by omega)) % 18446744073709551616)) rfl ?_)
      refine s_nil ?_
      refine then_n ?_
      refine cE_region rfl ?_
      refine s_cons (op_move vo q1_3 ?_)
      refine s_cons (op_move (.int .i64 (i : Int)) q1_5 ?_)
      refine s_cons (op_add (k := .i64) (a := (i : Int)) (b := 1) ((i : Int) + 1) rfl rfl (xi64 (by omega) (by omega)) ?_)
      refine s_cons (op_move (.int .u64 ((l[i]'(by omega)) % 18446744073709551616)) rfl ?_)
      refine s_cons (op_rem (k := .u64) (a := ((l[i]'(by omega)) % 18446744073709551616)) (b := 4) (((l[i]'(by omega)) % 18446744073709551616) % 4) rfl rfl (by omega) (tmod_nn (by omega)) ?_)
      refine s_cons (op_conv (k := .u64) (a := (((l[i]'(by omega)) % 18446744073709551616) % 4)) (((l[i]'(by omega)) % 18446744073709551616) % 4) Try.underlying3 (by rw [Try.underlying31]; rfl) rfl (xi64 (by omega) (by omega)) ?_)
      refine s_cons (op_move (.int .u64 ((l[i]'(by omega)) % 18446744073709551616)) rfl ?_)
      refine s_cons (op_quo (k := .u64) (a := ((l[i]'(by omega)) % 18446744073709551616)) (b := 4) (((l[i]'(by omega)) % 18446744073709551616) / 4) rfl rfl (by omega) (quo_x (by omega) (by omega) (xu64 (by omega) (by omega))) ?_)
      refine s_cons (op_rem (k := .u64) (a := (((l[i]'(by omega)) % 18446744073709551616) / 4)) (b := 50) ((((l[i]'(by omega)) % 18446744073709551616) / 4) % 50) rfl rfl (by omega) (tmod_nn (by omega)) ?_)
      refine s_cons (op_conv (k := .u64) (a := ((((l[i]'(by omega)) % 18446744073709551616) / 4) % 50)) ((((l[i]'(by omega)) % 18446744073709551616) / 4) % 50) Try.underlying2 (by rw [Try.underlying31]; rfl) rfl (xi64 (by omega) (by omega)) ?_)
      refine s_cons (op_build (r := (.agg #[(.int .i64 ((i : Int) + 1)), (.int .i64 (((l[i]'(by omega)) % 18446744073709551616) % 4)), (.int .i64 ((((l[i]'(by omega)) % 18446744073709551616) / 4) % 50)), (.int .i64 60), (.int .u32 0)])) (evp_cons (v := (.int .i64 ((i : Int) + 1))) rfl (evp_cons (v := (.int .i64 (((l[i]'(by omega)) % 18446744073709551616) % 4))) rfl (evp_cons (v := (.int .i64 ((((l[i]'(by omega)) % 18446744073709551616) / 4) % 50))) rfl (evp_cons (v := (.int .i64 60)) rfl evp_nil)))) (by simp [Instr.build, Instr.fill, Value.cells, Try.runUnderlying34, Try.zeroValue34]) ?_)
      refine s_cons (op_buildSlice (E := infoE) [(⟨((i : Int) + 1), (((l[i]'(by omega)) % 18446744073709551616) % 4), ((((l[i]'(by omega)) % 18446744073709551616) / 4) % 50), 60, 0⟩ : Info)] hst Try.underlying22 Try.sizeOf34 Try.zeroValue34 (evp_cons (v := (.agg #[(.int .i64 ((i : Int) + 1)), (.int .i64 (((l[i]'(by omega)) % 18446744073709551616) % 4)), (.int .i64 ((((l[i]'(by omega)) % 18446744073709551616) / 4) % 50)), (.int .i64 60), (.int .u32 0)])) rfl evp_nil) (parts_cons rfl parts_nil) rfl (by decide) (fun v12 w13 hst => ?_))
      replace hst : St w0 w13 [rowT 34 infoE v12 ([(⟨((i : Int) + 1), (((l[i]'(by omega)) % 18446744073709551616) % 4), ((((l[i]'(by omega)) % 18446744073709551616) / 4) % 50), 60, 0⟩ : Info)]), rowT 34 infoE vo (wantC l i)] := hst
      refine s_cons (op_append (E := infoE) (xs := (wantC l i)) (ys := [(⟨((i : Int) + 1), (((l[i]'(by omega)) % 18446744073709551616) % 4), ((((l[i]'(by omega)) % 18446744073709551616) / 4) % 50), 60, 0⟩ : Info)]) (z := (.agg #[(.int .i64 0), (.int .i64 0), (.int .i64 0), (.int .i64 0), (.int .u32 0)])) (bytes := 40) hst 1 rfl Try.underlying22 (by kernel_rfl) rfl rfl rfl (hst.sl 0 rfl) (by first | omega | (simp only [List.length_cons, List.length_nil]; omega)) (by first | omega | (simp only [List.length_cons, List.length_nil]; omega)) (fun v14 w15 hst => ?_))
      replace hst : St w0 w15 [rowT 34 infoE v12 ([(⟨((i : Int) + 1), (((l[i]'(by omega)) % 18446744073709551616) % 4), ((((l[i]'(by omega)) % 18446744073709551616) / 4) % 50), 60, 0⟩ : Info)]), rowT 34 infoE v14 (wantC l (i + 1))] := by rw [show ((wantC l i) ++ ([(⟨((i : Int) + 1), (((l[i]'(by omega)) % 18446744073709551616) % 4), ((((l[i]'(by omega)) % 18446744073709551616) / 4) % 50), 60, 0⟩ : Info)])) = (wantC l (i + 1)) from (wantC_snoc (by omega)).symm] at hst; exact hst
      refine s_cons (op_assign v14 rfl ?_)
      refine s_nil ?_
      refine block_n (then_n ?_)
      refine cE_region rfl ?_
      refine s_cons (op_move (.int .i64 (i : Int)) q1_5 ?_)
      refine s_cons (op_add (k := .i64) (a := (i : Int)) (b := 1) ((i : Int) + 1) rfl rfl (xi64 (by omega) (by omega)) ?_)
      refine s_cons (op_assign (.int .i64 ((i : Int) + 1)) rfl ?_)
      refine s_nil ?_
      refine then_n ?_
      exact ⟨_, ⟨v14, (i + 1), rfl, q1_0, q1_2, q1_4, rfl, (congrArg (Value.int .i64) (show ((i : Int) + 1) = _ from by omega)), (hst.sub (.cons _ (.cons_cons _ .slnil))), (by omega), (by omega)⟩, (by simp only [id]; omega)⟩
    have c16 : ¬ ((i : Int) < 30) := of_decide_eq_false b7
    refine cE_cond false (congrArg Value.bool b7) (fun h => by cases h) (fun _ => ?_)
    refine cE_exit ?_
    refine then_x (then_x (block_hit (then_n ?_)))
    refine cE_seq ?_
    refine cE_region rfl ?_
    refine s_cons (op_assign (.int .i64 3) rfl ?_)
    refine s_nil ?_
    refine then_n ?_
    refine cE_seq ?_
    refine cE_seq ?_
    refine cE_region rfl ?_
    refine s_cons (op_assign (.int .i64 0) rfl ?_)
    refine s_nil ?_
    refine then_n ?_
    refine cE_block ?_
    replace hst : St w0 w4 [rowT 34 infoE (.slice none 0 0) ([]), rowT 34 infoE vo (wantC l i)] := hst.nilRow 34 infoE
    refine cE_loop (fun (m : Nat) (ρ : Env) (w : World) => ∃ (vh : Value) (j : Nat), m = (wantC l i).length - j ∧ ρ 0 = v_l ∧ ρ 3 = vo ∧ ρ 5 = (.int .i64 (i : Int)) ∧ ρ 4 = vh ∧ ρ 8 = (.int .i64 (j : Int)) ∧ ρ 7 = (.int .i64 (lastT (ordI (wantC l i)) j)) ∧ St w0 w [rowT 34 infoE vh ((ordI (wantC l i)).take j), rowT 34 infoE vo (wantC l i)] ∧ (j ≤ (wantC l i).length)) id _ ⟨(.slice none 0 0), 0, rfl, q1_0, q1_3, q1_5, q1_4, (congrArg (Value.int .i64) (show 0 = _ from by omega)), (congrArg (Value.int .i64) (show 3 = _ from by first | rfl | exact hat.trans hlt.symm)), (by have h := hst; first | exact h | (refine (?_ : St _ _ _); simpa using h)), (by omega)⟩ ?_
    rintro m18 ρ19 w20 ⟨vh, j, hm18, q17_0, q17_3, q17_5, q17_4, q17_8, q17_7, hst, hj⟩
    have hql : (ordI (wantC l i)).length = (wantC l i).length := ord_len _
    have htl : ((ordI (wantC l i)).take j).length ≤ (wantC l i).length := by rw [List.length_take]; omega
    refine cE_seq ?_
    refine cE_seq ?_
    refine cE_region rfl ?_
    refine s_cons (op_move (.int .i64 (j : Int)) q17_8 ?_)
    refine s_cons (op_move vo q17_3 ?_)
    refine s_cons (op_len (E := infoE) (xs := (wantC l i)) Try.underlying22 rfl (hst.sl 1 rfl) ?_)
    refine s_cons (op_lss (k := .i64) (a := (j : Int)) (b := ((wantC l i).length : Int)) rfl rfl ?_)
    refine s_nil ?_
    refine then_n ?_
    rcases Bool.eq_false_or_eq_true (decide ((j : Int) < ((wantC l i).length : Int))) with b21 | b21
    · have c22 : (j : Int) < ((wantC l i).length : Int) := of_decide_eq_true b21
      refine cE_cond true (congrArg Value.bool b21) (fun _ => ?_) (fun h => by cases h)
      refine cE_skip ?_
      refine then_n ?_
      refine cE_seq ?_
      refine cE_block ?_
      refine cE_seq ?_
      refine cE_region rfl ?_
      refine s_cons (op_move vo q17_3 ?_)
      refine s_cons (op_move vh q17_4 ?_)
      refine s_cons (op_call Try.call13 (evs_cons (v := vo) rfl (evs_cons (v := vh) rfl evs_nil)) (c_next (w0 := w20) (v_l := vo) (l := (wantC l i)) (h_l := (hst.sl 1 rfl)) (v_r := vh) (r := ((ordI (wantC l i)).take j)) (h_r := (hst.sl 0 rfl)) (hll := (by omega)) (hrl := (by omega))) ?_)
      rintro _ w23 ⟨rfl, hcall⟩
      refine ⟨_, rfl, ?_⟩
      have hst : St w0 w23 [rowT 34 infoE vh ((ordI (wantC l i)).take j), rowT 34 infoE vo (wantC l i)] := hst.call hcall
      refine s_cons (op_assign (.int .i64 (nextI (wantC l i) ((ordI (wantC l i)).take j))) rfl ?_)
      refine s_nil ?_
      refine then_n ?_
      refine cE_seq ?_
      refine cE_seq ?_
      obtain ⟨x, hx, hnx, hid1, hid2, htr, hlt, htk, hlx, hwx⟩ := comes_step (l := l) (i := i) (j := j) hi (by omega)
      have hwx2 := wantC_get ⟨hlx, hwx⟩ hnx
      obtain ⟨hlx2, hwx2⟩ := hwx2
      have hat := congrArg Info.Tier hwx2
      refine cE_region rfl ?_
      refine s_cons (op_move (.int .i64 (nextI (wantC l i) ((ordI (wantC l i)).take j))) rfl ?_)
      refine s_cons (op_lss (k := .i64) (a := (nextI (wantC l i) ((ordI (wantC l i)).take j))) (b := 1) rfl rfl ?_)
      refine s_cons (op_move (.bool (decide ((nextI (wantC l i) ((ordI (wantC l i)).take j)) < 1))) rfl ?_)
      refine s_yes 49 rfl (congrArg Value.bool (show (decide ((nextI (wantC l i) ((ordI (wantC l i)).take j)) < 1)) = false from (decide_eq_false (by omega)))) (op_move (.int .i64 (nextI (wantC l i) ((ordI (wantC l i)).take j))) rfl ?_)
      refine s_yes 49 rfl (congrArg Value.bool (show (decide ((nextI (wantC l i) ((ordI (wantC l i)).take j)) < 1)) = false from (decide_eq_false (by omega)))) (op_move vo q17_3 ?_)
      refine s_yes 49 rfl (congrArg Value.bool (show (decide ((nextI (wantC l i) ((ordI (wantC l i)).take j)) < 1)) = false from (decide_eq_false (by omega)))) (op_len (E := infoE) (xs := (wantC l i)) Try.underlying22 rfl (hst.sl 1 rfl) ?_)
      refine s_yes 49 rfl (congrArg Value.bool (show (decide ((nextI (wantC l i) ((ordI (wantC l i)).take j)) < 1)) = false from (decide_eq_false (by omega)))) (op_gtr (k := .i64) (a := (nextI (wantC l i) ((ordI (wantC l i)).take j))) (b := ((wantC l i).length : Int)) rfl rfl ?_)
      refine s_cons (op_pick_f (.bool (decide (((wantC l i).length : Int) < (nextI (wantC l i) ((ordI (wantC l i)).take j))))) (congrArg Value.bool (show (decide ((nextI (wantC l i) ((ordI (wantC l i)).take j)) < 1)) = false from (decide_eq_false (by omega)))) rfl ?_)
      refine s_cons (op_move (.bool (decide (((wantC l i).length : Int) < (nextI (wantC l i) ((ordI (wantC l i)).take j))))) rfl ?_)
      refine s_yes 55 rfl (congrArg Value.bool (show (decide (((wantC l i).length : Int) < (nextI (wantC l i) ((ordI (wantC l i)).take j)))) = false from (decide_eq_false (by omega)))) (op_move vo q17_3 ?_)
      refine s_yes 55 rfl (congrArg Value.bool (show (decide (((wantC l i).length : Int) < (nextI (wantC l i) ((ordI (wantC l i)).take j)))) = false from (decide_eq_false (by omega)))) (op_move (.int .i64 (nextI (wantC l i) ((ordI (wantC l i)).take j))) rfl ?_)
      refine s_yes 55 rfl (congrArg Value.bool (show (decide (((wantC l i).length : Int) < (nextI (wantC l i) ((ordI (wantC l i)).take j)))) = false from (decide_eq_false (by omega)))) (op_sub (k := .i64) (a := (nextI (wantC l i) ((ordI (wantC l i)).take j))) (b := 1) ((nextI (wantC l i) ((ordI (wantC l i)).take j)) - 1) rfl rfl (xi64 (by omega) (by omega)) ?_)
      refine s_yes 55 rfl (congrArg Value.bool (show (decide (((wantC l i).length : Int) < (nextI (wantC l i) ((ordI (wantC l i)).take j)))) = false from (decide_eq_false (by omega)))) (op_indexAddrN (E := infoE) (xs := (wantC l i)) (Int.toNat ((nextI (wantC l i) ((ordI (wantC l i)).take j)) - 1)) Try.underlying22 Try.sizeOf34 rfl (hst.sl 1 rfl) rfl (by omega) (by omega) (fun a24 o25 p26 => ?_))
      refine s_yes 55 rfl (congrArg Value.bool (show (decide (((wantC l i).length : Int) < (nextI (wantC l i) ((ordI (wantC l i)).take j)))) = false from (decide_eq_false (by omega)))) (op_fieldAddr (s := 0) Try.underlying34 rfl rfl Try.sizeOf3 rfl ?_)
      refine s_yes 55 rfl (congrArg Value.bool (show (decide (((wantC l i).length : Int) < (nextI (wantC l i) ((ordI (wantC l i)).take j)))) = false from (decide_eq_false (by omega)))) (op_load1 (u := (.int .i64 (((wantC l i)[(Int.toNat ((nextI (wantC l i) ((ordI (wantC l i)).take j)) - 1))]'(by omega)).Tier))) Try.isAgg3 rfl (p26.drop 1) ?_)
      refine s_yes 55 rfl (congrArg Value.bool (show (decide (((wantC l i).length : Int) < (nextI (wantC l i) ((ordI (wantC l i)).take j)))) = false from (decide_eq_false (by omega)))) (op_move (.int .i64 (lastT (ordI (wantC l i)) j)) q17_7 ?_)
      refine s_yes 55 rfl (congrArg Value.bool (show (decide (((wantC l i).length : Int) < (nextI (wantC l i) ((ordI (wantC l i)).take j)))) = false from (decide_eq_false (by omega)))) (op_gtr (k := .i64) (a := ((wantC l i)[(Int.toNat ((nextI (wantC l i) ((ordI (wantC l i)).take j)) - 1))]'(by omega)).Tier) (b := (lastT (ordI (wantC l i)) j)) rfl rfl ?_)
      refine s_cons (op_pick_f (.bool (decide ((lastT (ordI (wantC l i)) j) < (((wantC l i)[(Int.toNat ((nextI (wantC l i) ((ordI (wantC l i)).take j)) - 1))]'(by omega)).Tier)))) (congrArg Value.bool (show (decide (((wantC l i).length : Int) < (nextI (wantC l i) ((ordI (wantC l i)).take j)))) = false from (decide_eq_false (by omega)))) rfl ?_)
      refine s_nil ?_
      refine then_n ?_
      refine cE_cond false (congrArg Value.bool (show (decide ((lastT (ordI (wantC l i)) j) < (((wantC l i)[(Int.toNat ((nextI (wantC l i) ((ordI (wantC l i)).take j)) - 1))]'(by omega)).Tier))) = false from (decide_eq_false (by omega)))) (fun h => by cases h) (fun _ => ?_)
      refine cE_skip ?_
      refine then_n ?_
      refine cE_seq ?_
      refine cE_region rfl ?_
      refine s_cons (op_move vo q17_3 ?_)
      refine s_cons (op_move (.int .i64 (nextI (wantC l i) ((ordI (wantC l i)).take j))) rfl ?_)
      refine s_cons (op_sub (k := .i64) (a := (nextI (wantC l i) ((ordI (wantC l i)).take j))) (b := 1) ((nextI (wantC l i) ((ordI (wantC l i)).take j)) - 1) rfl rfl (xi64 (by omega) (by omega)) ?_)
      refine s_cons (op_indexAddrN (E := infoE) (xs := (wantC l i)) (Int.toNat ((nextI (wantC l i) ((ordI (wantC l i)).take j)) - 1)) Try.underlying22 Try.sizeOf34 rfl (hst.sl 1 rfl) rfl (by omega) (by omega) (fun a27 o28 p29 => ?_))
      refine s_cons (op_fieldAddr (s := 0) Try.underlying34 rfl rfl Try.sizeOf3 rfl ?_)
      refine s_cons (op_load1 (u := (.int .i64 (((wantC l i)[(Int.toNat ((nextI (wantC l i) ((ordI (wantC l i)).take j)) - 1))]'(by omega)).Tier))) Try.isAgg3 rfl (p29.drop 1) ?_)
      refine s_cons (op_assign (.int .i64 (((wantC l i)[(Int.toNat ((nextI (wantC l i) ((ordI (wantC l i)).take j)) - 1))]'(by omega)).Tier)) rfl ?_)
      refine s_nil ?_
      refine then_n ?_
      refine cE_region rfl ?_
      refine s_cons (op_move vh q17_4 ?_)
      refine s_cons (op_move vo q17_3 ?_)
      refine s_cons (op_move (.int .i64 (nextI (wantC l i) ((ordI (wantC l i)).take j))) rfl ?_)
      refine s_cons (op_sub (k := .i64) (a := (nextI (wantC l i) ((ordI (wantC l i)).take j))) (b := 1) ((nextI (wantC l i) ((ordI (wantC l i)).take j)) - 1) rfl rfl (xi64 (by omega) (by omega)) ?_)
      refine s_cons (op_indexAddrN (E := infoE) (xs := (wantC l i)) (Int.toNat ((nextI (wantC l i) ((ordI (wantC l i)).take j)) - 1)) Try.underlying22 Try.sizeOf34 rfl (hst.sl 1 rfl) rfl (by omega) (by omega) (fun a30 o31 p32 => ?_))
      refine s_cons (op_loadN (cs := [(.int .i64 (((wantC l i)[(Int.toNat ((nextI (wantC l i) ((ordI (wantC l i)).take j)) - 1))]'(by omega)).Id)), (.int .i64 (((wantC l i)[(Int.toNat ((nextI (wantC l i) ((ordI (wantC l i)).take j)) - 1))]'(by omega)).Tier)), (.int .i64 (((wantC l i)[(Int.toNat ((nextI (wantC l i) ((ordI (wantC l i)).take j)) - 1))]'(by omega)).From)), (.int .i64 (((wantC l i)[(Int.toNat ((nextI (wantC l i) ((ordI (wantC l i)).take j)) - 1))]'(by omega)).To)), (.int .u32 (((wantC l i)[(Int.toNat ((nextI (wantC l i) ((ordI (wantC l i)).take j)) - 1))]'(by omega)).Sum))]) Try.isAgg34 Try.sizeOf34 rfl (Pt.of p32 rfl) rfl ?_)
      refine s_cons (op_buildSlice (E := infoE) [((wantC l i)[(Int.toNat ((nextI (wantC l i) ((ordI (wantC l i)).take j)) - 1))]'(by omega))] hst Try.underlying22 Try.sizeOf34 Try.zeroValue34 (evp_cons (v := (.agg #[(.int .i64 (((wantC l i)[(Int.toNat ((nextI (wantC l i) ((ordI (wantC l i)).take j)) - 1))]'(by omega)).Id)), (.int .i64 (((wantC l i)[(Int.toNat ((nextI (wantC l i) ((ordI (wantC l i)).take j)) - 1))]'(by omega)).Tier)), (.int .i64 (((wantC l i)[(Int.toNat ((nextI (wantC l i) ((ordI (wantC l i)).take j)) - 1))]'(by omega)).From)), (.int .i64 (((wantC l i)[(Int.toNat ((nextI (wantC l i) ((ordI (wantC l i)).take j)) - 1))]'(by omega)).To)), (.int .u32 (((wantC l i)[(Int.toNat ((nextI (wantC l i) ((ordI (wantC l i)).take j)) - 1))]'(by omega)).Sum))])) rfl evp_nil) (parts_cons rfl parts_nil) rfl (by decide) (fun v33 w34 hst => ?_))
      replace hst : St w0 w34 [rowT 34 infoE v33 ([((wantC l i)[(Int.toNat ((nextI (wantC l i) ((ordI (wantC l i)).take j)) - 1))]'(by omega))]), rowT 34 infoE vh ((ordI (wantC l i)).take j), rowT 34 infoE vo (wantC l i)] := hst
      refine s_cons (op_append (E := infoE) (xs := ((ordI (wantC l i)).take j)) (ys := [((wantC l i)[(Int.toNat ((nextI (wantC l i) ((ordI (wantC l i)).take j)) - 1))]'(by omega))]) (z := (.agg #[(.int .i64 0), (.int .i64 0), (.int .i64 0), (.int .i64 0), (.int .u32 0)])) (bytes := 40) hst 1 rfl Try.underlying22 (by kernel_rfl) rfl rfl rfl (hst.sl 0 rfl) (by first | (simp only [List.length_take, List.length_cons, List.length_nil]; omega) | omega) (by first | (simp only [List.length_take, List.length_cons, List.length_nil]; omega) | omega) (fun v35 w36 hst => ?_))
      replace hst : St w0 w36 [rowT 34 infoE v33 ([((wantC l i)[(Int.toNat ((nextI (wantC l i) ((ordI (wantC l i)).take j)) - 1))]'(by omega))]), rowT 34 infoE v35 ((ordI (wantC l i)).take (j + 1)), rowT 34 infoE vo (wantC l i)] := by rw [show (((ordI (wantC l i)).take j) ++ ([((wantC l i)[(Int.toNat ((nextI (wantC l i) ((ordI (wantC l i)).take j)) - 1))]'(by omega))])) = ((ordI (wantC l i)).take (j + 1)) from (by rw [htk]; congr 2)] at hst; exact hst
      refine s_cons (op_assign v35 rfl ?_)
      refine s_nil ?_
      refine block_n (then_n ?_)
      refine cE_region rfl ?_
      refine s_cons (op_move (.int .i64 (j : Int)) q17_8 ?_)
      refine s_cons (op_add (k := .i64) (a := (j : Int)) (b := 1) ((j : Int) + 1) rfl rfl (xi64 (by omega) (by omega)) ?_)
      refine s_cons (op_assign (.int .i64 ((j : Int) + 1)) rfl ?_)
      refine s_nil ?_
      refine then_n ?_
      exact ⟨_, ⟨v35, (j + 1), rfl, q17_0, q17_3, q17_5, rfl, (congrArg (Value.int .i64) (show ((j : Int) + 1) = _ from by omega)), (congrArg (Value.int .i64) (show ((wantC l i)[(Int.toNat ((nextI (wantC l i) ((ordI (wantC l i)).take j)) - 1))]'(by omega)).Tier = _ from by first | rfl | exact hat.trans hlt.symm)), (hst.sub (.cons _ (.cons_cons _ (.cons_cons _ .slnil)))), (by omega)⟩, (by simp only [id]; omega)⟩
    have c37 : ¬ ((j : Int) < ((wantC l i).length : Int)) := of_decide_eq_false b21
    refine cE_cond false (congrArg Value.bool b21) (fun h => by cases h) (fun _ => ?_)
    refine cE_exit ?_
    refine then_x (then_x (block_hit (then_n ?_)))
    refine cE_seq ?_
    obtain ⟨he1, he2⟩ := comes_end (l := l) (i := i) (j := j) hi (by omega)
    refine cE_region rfl ?_
    refine s_cons (op_call Try.call7 evs_nil (c_told20 (w0 := w20)) ?_)
    rintro _ w38 ⟨rfl, hcall⟩
    refine ⟨_, rfl, ?_⟩
    have hst : St w0 w38 [rowT 34 infoE vh ((ordI (wantC l i)).take j), rowT 34 infoE vo (wantC l i)] := hst.call hcall
    refine s_cons (op_move (.bool true) rfl ?_)
    refine s_yes 80 rfl rfl (op_move vo q17_3 ?_)
    refine s_yes 80 rfl rfl (op_move vh q17_4 ?_)
    refine s_yes 80 rfl rfl (op_call Try.call13 (evs_cons (v := vo) rfl (evs_cons (v := vh) rfl evs_nil)) (c_next (w0 := w38) (v_l := vo) (l := (wantC l i)) (h_l := (hst.sl 1 rfl)) (v_r := vh) (r := ((ordI (wantC l i)).take j)) (h_r := (hst.sl 0 rfl)) (hll := (by omega)) (hrl := (by omega))) ?_)
    rintro _ w39 ⟨rfl, hcall⟩
    refine ⟨_, rfl, ?_⟩
    have hst : St w0 w39 [rowT 34 infoE vh ((ordI (wantC l i)).take j), rowT 34 infoE vo (wantC l i)] := hst.call hcall
    refine s_yes 80 rfl rfl (op_eql (k := .i64) (a := (nextI (wantC l i) ((ordI (wantC l i)).take j))) (b := (-1)) rfl rfl ?_)
    refine s_cons (op_pick_t (.bool (decide ((nextI (wantC l i) ((ordI (wantC l i)).take j)) = (-1)))) rfl rfl ?_)
    refine s_cons (op_move (.bool (decide ((nextI (wantC l i) ((ordI (wantC l i)).take j)) = (-1)))) rfl ?_)
    refine s_yes 86 rfl (congrArg Value.bool (show (decide ((nextI (wantC l i) ((ordI (wantC l i)).take j)) = (-1))) = true from (decide_eq_true (by omega)))) (op_move vo q17_3 ?_)
    refine s_yes 86 rfl (congrArg Value.bool (show (decide ((nextI (wantC l i) ((ordI (wantC l i)).take j)) = (-1))) = true from (decide_eq_true (by omega)))) (op_move vh q17_4 ?_)
    refine s_yes 86 rfl (congrArg Value.bool (show (decide ((nextI (wantC l i) ((ordI (wantC l i)).take j)) = (-1))) = true from (decide_eq_true (by omega)))) (op_call Try.call12 (evs_cons (v := vo) rfl (evs_cons (v := vh) rfl evs_nil)) (c_bodies (w0 := w39) (v_l := vo) (l := (wantC l i)) (h_l := (hst.sl 1 rfl)) (v_r := vh) (r := ((ordI (wantC l i)).take j)) (h_r := (hst.sl 0 rfl)) (hll := (by omega)) (hrl := (by omega))) ?_)
    rintro _ w41 ⟨r40, rfl, hcall⟩
    refine ⟨_, rfl, ?_⟩
    have hst : St w0 w41 [rowT 3 (intE .i64) r40 (bodies (wantC l i) ((ordI (wantC l i)).take j)), rowT 34 infoE vh ((ordI (wantC l i)).take j), rowT 34 infoE vo (wantC l i)] := hst.call hcall
    refine s_yes 86 rfl (congrArg Value.bool (show (decide ((nextI (wantC l i) ((ordI (wantC l i)).take j)) = (-1))) = true from (decide_eq_true (by omega)))) (op_len (E := (intE .i64)) (xs := (bodies (wantC l i) ((ordI (wantC l i)).take j))) Try.underlying24 rfl (hst.sl 0 rfl) ?_)
    refine s_yes 86 rfl (congrArg Value.bool (show (decide ((nextI (wantC l i) ((ordI (wantC l i)).take j)) = (-1))) = true from (decide_eq_true (by omega)))) (op_eql (k := .i64) (a := ((bodies (wantC l i) ((ordI (wantC l i)).take j)).length : Int)) (b := 0) rfl rfl ?_)
    refine s_cons (op_pick_t (.bool (decide (((bodies (wantC l i) ((ordI (wantC l i)).take j)).length : Int) = 0))) (congrArg Value.bool (show (decide ((nextI (wantC l i) ((ordI (wantC l i)).take j)) = (-1))) = true from (decide_eq_true (by omega)))) rfl ?_)
    refine s_cons (op_assign (.bool (decide (((bodies (wantC l i) ((ordI (wantC l i)).take j)).length : Int) = 0))) rfl ?_)
    refine s_nil ?_
    refine then_n ?_
    refine cE_ret ?_
    refine post_r _ (res1 (v := (.bool true)) (congrArg Value.bool (show (decide (((bodies (wantC l i) ((ordI (wantC l i)).take j)).length : Int) = 0)) = true from (decide_eq_true (by omega))))) ?_
    exact ⟨rfl, hst.bare⟩
  have c42 : ¬ ((i : Int) < (l.length : Int)) := of_decide_eq_false b5
  refine s_no 14 rfl (congrArg Value.bool b5) ?_
  refine s_no 14 rfl (congrArg Value.bool b5) ?_
  refine s_cons (op_pick_f (.bool false) (congrArg Value.bool b5) rfl ?_)
  refine s_nil ?_
  refine then_n ?_
  refine cE_cond false rfl (fun h => by cases h) (fun _ => ?_)
  refine cE_exit ?_
  refine then_x (then_x (block_hit (then_n ?_)))
  refine cE_seq ?_
  refine cE_region rfl ?_
  refine s_cons (op_assign (.int .i64 3) rfl ?_)
  refine s_nil ?_
  refine then_n ?_
  refine cE_seq ?_
  refine cE_seq ?_
  refine cE_region rfl ?_
  refine s_cons (op_assign (.int .i64 0) rfl ?_)
  refine s_nil ?_
  refine then_n ?_
  refine cE_block ?_
  replace hst : St w0 w4 [rowT 34 infoE (.slice none 0 0) ([]), rowT 34 infoE vo (wantC l i)] := hst.nilRow 34 infoE
  refine cE_loop (fun (m : Nat) (ρ : Env) (w : World) => ∃ (vh : Value) (j : Nat), m = (wantC l i).length - j ∧ ρ 0 = v_l ∧ ρ 3 = vo ∧ ρ 5 = (.int .i64 (i : Int)) ∧ ρ 4 = vh ∧ ρ 8 = (.int .i64 (j : Int)) ∧ ρ 7 = (.int .i64 (lastT (ordI (wantC l i)) j)) ∧ St w0 w [rowT 34 infoE vh ((ordI (wantC l i)).take j), rowT 34 infoE vo (wantC l i)] ∧ (j ≤ (wantC l i).length)) id _ ⟨(.slice none 0 0), 0, rfl, q1_0, q1_3, q1_5, q1_4, (congrArg (Value.int .i64) (show 0 = _ from by omega)), (congrArg (Value.int .i64) (show 3 = _ from by first | rfl | exact hat.trans hlt.symm)), (by have h := hst; first | exact h | (refine (?_ : St _ _ _); simpa using h)), (by omega)⟩ ?_
  rintro m44 ρ45 w46 ⟨vh, j, hm44, q43_0, q43_3, q43_5, q43_4, q43_8, q43_7, hst, hj⟩
  have hql : (ordI (wantC l i)).length = (wantC l i).length := ord_len _
  have htl : ((ordI (wantC l i)).take j).length ≤ (wantC l i).length := by rw [List.length_take]; omega
  refine cE_seq ?_
  refine cE_seq ?_
  refine cE_region rfl ?_
  refine s_cons (op_move (.int .i64 (j : Int)) q43_8 ?_)
  refine s_cons (op_move vo q43_3 ?_)
  refine s_cons (op_len (E := infoE) (xs := (wantC l i)) Try.underlying22 rfl (hst.sl 1 rfl) ?_)
  refine s_cons (op_lss (k := .i64) (a := (j : Int)) (b := ((wantC l i).length : Int)) rfl rfl ?_)
  refine s_nil ?_
  refine then_n ?_
  rcases Bool.eq_false_or_eq_true (decide ((j : Int) < ((wantC l i).length : Int))) with b47 | b47
  · have c48 : (j : Int) < ((wantC l i).length : Int) := of_decide_eq_true b47
    refine cE_cond true (congrArg Value.bool b47) (fun _ => ?_) (fun h => by cases h)
    refine cE_skip ?_
    refine then_n ?_
    refine cE_seq ?_
    refine cE_block ?_
    refine cE_seq ?_
    refine cE_region rfl ?_
    refine s_cons (op_move vo q43_3 ?_)
    refine s_cons (op_move vh q43_4 ?_)
    refine s_cons (op_call Try.call13 (evs_cons (v := vo) rfl (evs_cons (v := vh) rfl evs_nil)) (c_next (w0 := w46) (v_l := vo) (l := (wantC l i)) (h_l := (hst.sl 1 rfl)) (v_r := vh) (r := ((ordI (wantC l i)).take j)) (h_r := (hst.sl 0 rfl)) (hll := (by omega)) (hrl := (by omega))) ?_)
    rintro _ w49 ⟨rfl, hcall⟩
    refine ⟨_, rfl, ?_⟩
    have hst : St w0 w49 [rowT 34 infoE vh ((ordI (wantC l i)).take j), rowT 34 infoE vo (wantC l i)] := hst.call hcall
    refine s_cons (op_assign (.int .i64 (nextI (wantC l i) ((ordI (wantC l i)).take j))) rfl ?_)
    refine s_nil ?_
    refine then_n ?_
    refine cE_seq ?_
    refine cE_seq ?_
    obtain ⟨x, hx, hnx, hid1, hid2, htr, hlt, htk, hlx, hwx⟩ := comes_step (l := l) (i := i) (j := j) hi (by omega)
    have hwx2 := wantC_get ⟨hlx, hwx⟩ hnx
    obtain ⟨hlx2, hwx2⟩ := hwx2
    have hat := congrArg Info.Tier hwx2
    refine cE_region rfl ?_
    refine s_cons (op_move (.int .i64 (nextI (wantC l i) ((ordI (wantC l i)).take j))) rfl ?_)
    refine s_cons (op_lss (k := .i64) (a := (nextI (wantC l i) ((ordI (wantC l i)).take j))) (b := 1) rfl rfl ?_)
    refine s_cons (op_move (.bool (decide ((nextI (wantC l i) ((ordI (wantC l i)).take j)) < 1))) rfl ?_)
    refine s_yes 49 rfl (congrArg Value.bool (show (decide ((nextI (wantC l i) ((ordI (wantC l i)).take j)) < 1)) = false from (decide_eq_false (by omega)))) (op_move (.int .i64 (nextI (wantC l i) ((ordI (wantC l i)).take j))) rfl ?_)
    refine s_yes 49 rfl (congrArg Value.bool (show (decide ((nextI (wantC l i) ((ordI (wantC l i)).take j)) < 1)) = false from (decide_eq_false (by omega)))) (op_move vo q43_3 ?_)
    refine s_yes 49 rfl (congrArg Value.bool (show (decide ((nextI (wantC l i) ((ordI (wantC l i)).take j)) < 1)) = false from (decide_eq_false (by omega)))) (op_len (E := infoE) (xs := (wantC l i)) Try.underlying22 rfl (hst.sl 1 rfl) ?_)
    refine s_yes 49 rfl (congrArg Value.bool (show (decide ((nextI (wantC l i) ((ordI (wantC l i)).take j)) < 1)) = false from (decide_eq_false (by omega)))) (op_gtr (k := .i64) (a := (nextI (wantC l i) ((ordI (wantC l i)).take j))) (b := ((wantC l i).length : Int)) rfl rfl ?_)
    refine s_cons (op_pick_f (.bool (decide (((wantC l i).length : Int) < (nextI (wantC l i) ((ordI (wantC l i)).take j))))) (congrArg Value.bool (show (decide ((nextI (wantC l i) ((ordI (wantC l i)).take j)) < 1)) = false from (decide_eq_false (by omega)))) rfl ?_)
    refine s_cons (op_move (.bool (decide (((wantC l i).length : Int) < (nextI (wantC l i) ((ordI (wantC l i)).take j))))) rfl ?_)
    refine s_yes 55 rfl (congrArg Value.bool (show (decide (((wantC l i).length : Int) < (nextI (wantC l i) ((ordI (wantC l i)).take j)))) = false from (decide_eq_false (by omega)))) (op_move vo q43_3 ?_)
    refine s_yes 55 rfl (congrArg Value.bool (show (decide (((wantC l i).length : Int) < (nextI (wantC l i) ((ordI (wantC l i)).take j)))) = false from (decide_eq_false (by omega)))) (op_move (.int .i64 (nextI (wantC l i) ((ordI (wantC l i)).take j))) rfl ?_)
    refine s_yes 55 rfl (congrArg Value.bool (show (decide (((wantC l i).length : Int) < (nextI (wantC l i) ((ordI (wantC l i)).take j)))) = false from (decide_eq_false (by omega)))) (op_sub (k := .i64) (a := (nextI (wantC l i) ((ordI (wantC l i)).take j))) (b := 1) ((nextI (wantC l i) ((ordI (wantC l i)).take j)) - 1) rfl rfl (xi64 (by omega) (by omega)) ?_)
    refine s_yes 55 rfl (congrArg Value.bool (show (decide (((wantC l i).length : Int) < (nextI (wantC l i) ((ordI (wantC l i)).take j)))) = false from (decide_eq_false (by omega)))) (op_indexAddrN (E := infoE) (xs := (wantC l i)) (Int.toNat ((nextI (wantC l i) ((ordI (wantC l i)).take j)) - 1)) Try.underlying22 Try.sizeOf34 rfl (hst.sl 1 rfl) rfl (by omega) (by omega) (fun a50 o51 p52 => ?_))
    refine s_yes 55 rfl (congrArg Value.bool (show (decide (((wantC l i).length : Int) < (nextI (wantC l i) ((ordI (wantC l i)).take j)))) = false from (decide_eq_false (by omega)))) (op_fieldAddr (s := 0) Try.underlying34 rfl rfl Try.sizeOf3 rfl ?_)
    refine s_yes 55 rfl (congrArg Value.bool (show (decide (((wantC l i).length : Int) < (nextI (wantC l i) ((ordI (wantC l i)).take j)))) = false from (decide_eq_false (by omega)))) (op_load1 (u := (.int .i64 (((wantC l i)[(Int.toNat ((nextI (wantC l i) ((ordI (wantC l i)).take j)) - 1))]'(by omega)).Tier))) Try.isAgg3 rfl (p52.drop 1) ?_)
    refine s_yes 55 rfl (congrArg Value.bool (show (decide (((wantC l i).length : Int) < (nextI (wantC l i) ((ordI (wantC l i)).take j)))) = false from (decide_eq_false (by omega)))) (op_move (.int .i64 (lastT (ordI (wantC l i)) j)) q43_7 ?_)
    refine s_yes 55 rfl (congrArg Value.bool (show (decide (((wantC l i).length : Int) < (nextI (wantC l i) ((ordI (wantC l i)).take j)))) = false from (decide_eq_false (by omega)))) (op_gtr (k := .i64) (a := ((wantC l i)[(Int.toNat ((nextI (wantC l i) ((ordI (wantC l i)).take j)) - 1))]'(by omega)).Tier) (b := (lastT (ordI (wantC l i)) j)) rfl rfl ?_)
    refine s_cons (op_pick_f (.bool (decide ((lastT (ordI (wantC l i)) j) < (((wantC l i)[(Int.toNat ((nextI (wantC l i) ((ordI (wantC l i)).take j)) - 1))]'(by omega)).Tier)))) (congrArg Value.bool (show (decide (((wantC l i).length : Int) < (nextI (wantC l i) ((ordI (wantC l i)).take j)))) = false from (decide_eq_false (by omega)))) rfl ?_)
    refine s_nil ?_
    refine then_n ?_
    refine cE_cond false (congrArg Value.bool (show (decide ((lastT (ordI (wantC l i)) j) < (((wantC l i)[(Int.toNat ((nextI (wantC l i) ((ordI (wantC l i)).take j)) - 1))]'(by omega)).Tier))) = false from (decide_eq_false (by omega)))) (fun h => by cases h) (fun _ => ?_)
    refine cE_skip ?_
    refine then_n ?_
    refine cE_seq ?_
    refine cE_region rfl ?_
    refine s_cons (op_move vo q43_3 ?_)
    refine s_cons (op_move (.int .i64 (nextI (wantC l i) ((ordI (wantC l i)).take j))) rfl ?_)
    refine s_cons (op_sub (k := .i64) (a := (nextI (wantC l i) ((ordI (wantC l i)).take j))) (b := 1) ((nextI (wantC l i) ((ordI (wantC l i)).take j)) - 1) rfl rfl (xi64 (by omega) (by omega)) ?_)
    refine s_cons (op_indexAddrN (E := infoE) (xs := (wantC l i)) (Int.toNat ((nextI (wantC l i) ((ordI (wantC l i)).take j)) - 1)) Try.underlying22 Try.sizeOf34 rfl (hst.sl 1 rfl) rfl (by omega) (by omega) (fun a53 o54 p55 => ?_))
    refine s_cons (op_fieldAddr (s := 0) Try.underlying34 rfl rfl Try.sizeOf3 rfl ?_)
    refine s_cons (op_load1 (u := (.int .i64 (((wantC l i)[(Int.toNat ((nextI (wantC l i) ((ordI (wantC l i)).take j)) - 1))]'(by omega)).Tier))) Try.isAgg3 rfl (p55.drop 1) ?_)
    refine s_cons (op_assign (.int .i64 (((wantC l i)[(Int.toNat ((nextI (wantC l i) ((ordI (wantC l i)).take j)) - 1))]'(by omega)).Tier)) rfl ?_)
    refine s_nil ?_
    refine then_n ?_
    refine cE_region rfl ?_
    refine s_cons (op_move vh q43_4 ?_)
    refine s_cons (op_move vo q43_3 ?_)
    refine s_cons (op_move (.int .i64 (nextI (wantC l i) ((ordI (wantC l i)).take j))) rfl ?_)
    refine s_cons (op_sub (k := .i64) (a := (nextI (wantC l i) ((ordI (wantC l i)).take j))) (b := 1) ((nextI (wantC l i) ((ordI (wantC l i)).take j)) - 1) rfl rfl (xi64 (by omega) (by omega)) ?_)
    refine s_cons (op_indexAddrN (E := infoE) (xs := (wantC l i)) (Int.toNat ((nextI (wantC l i) ((ordI (wantC l i)).take j)) - 1)) Try.underlying22 Try.sizeOf34 rfl (hst.sl 1 rfl) rfl (by omega) (by omega) (fun a56 o57 p58 => ?_))
    refine s_cons (op_loadN (cs := [(.int .i64 (((wantC l i)[(Int.toNat ((nextI (wantC l i) ((ordI (wantC l i)).take j)) - 1))]'(by omega)).Id)), (.int .i64 (((wantC l i)[(Int.toNat ((nextI (wantC l i) ((ordI (wantC l i)).take j)) - 1))]'(by omega)).Tier)), (.int .i64 (((wantC l i)[(Int.toNat ((nextI (wantC l i) ((ordI (wantC l i)).take j)) - 1))]'(by omega)).From)), (.int .i64 (((wantC l i)[(Int.toNat ((nextI (wantC l i) ((ordI (wantC l i)).take j)) - 1))]'(by omega)).To)), (.int .u32 (((wantC l i)[(Int.toNat ((nextI (wantC l i) ((ordI (wantC l i)).take j)) - 1))]'(by omega)).Sum))]) Try.isAgg34 Try.sizeOf34 rfl (Pt.of p58 rfl) rfl ?_)
    refine s_cons (op_buildSlice (E := infoE) [((wantC l i)[(Int.toNat ((nextI (wantC l i) ((ordI (wantC l i)).take j)) - 1))]'(by omega))] hst Try.underlying22 Try.sizeOf34 Try.zeroValue34 (evp_cons (v := (.agg #[(.int .i64 (((wantC l i)[(Int.toNat ((nextI (wantC l i) ((ordI (wantC l i)).take j)) - 1))]'(by omega)).Id)), (.int .i64 (((wantC l i)[(Int.toNat ((nextI (wantC l i) ((ordI (wantC l i)).take j)) - 1))]'(by omega)).Tier)), (.int .i64 (((wantC l i)[(Int.toNat ((nextI (wantC l i) ((ordI (wantC l i)).take j)) - 1))]'(by omega)).From)), (.int .i64 (((wantC l i)[(Int.toNat ((nextI (wantC l i) ((ordI (wantC l i)).take j)) - 1))]'(by omega)).To)), (.int .u32 (((wantC l i)[(Int.toNat ((nextI (wantC l i) ((ordI (wantC l i)).take j)) - 1))]'(by omega)).Sum))])) rfl evp_nil) (parts_cons rfl parts_nil) rfl (by decide) (fun v59 w60 hst => ?_))
    replace hst : St w0 w60 [rowT 34 infoE v59 ([((wantC l i)[(Int.toNat ((nextI (wantC l i) ((ordI (wantC l i)).take j)) - 1))]'(by omega))]), rowT 34 infoE vh ((ordI (wantC l i)).take j), rowT 34 infoE vo (wantC l i)] := hst
    refine s_cons (op_append (E := infoE) (xs := ((ordI (wantC l i)).take j)) (ys := [((wantC l i)[(Int.toNat ((nextI (wantC l i) ((ordI (wantC l i)).take j)) - 1))]'(by omega))]) (z := (.agg #[(.int .i64 0), (.int .i64 0), (.int .i64 0), (.int .i64 0), (.int .u32 0)])) (bytes := 40) hst 1 rfl Try.underlying22 (by kernel_rfl) rfl rfl rfl (hst.sl 0 rfl) (by first | (simp only [List.length_take, List.length_cons, List.length_nil]; omega) | omega) (by first | (simp only [List.length_take, List.length_cons, List.length_nil]; omega) | omega) (fun v61 w62 hst => ?_))
    replace hst : St w0 w62 [rowT 34 infoE v59 ([((wantC l i)[(Int.toNat ((nextI (wantC l i) ((ordI (wantC l i)).take j)) - 1))]'(by omega))]), rowT 34 infoE v61 ((ordI (wantC l i)).take (j + 1)), rowT 34 infoE vo (wantC l i)] := by rw [show (((ordI (wantC l i)).take j) ++ ([((wantC l i)[(Int.toNat ((nextI (wantC l i) ((ordI (wantC l i)).take j)) - 1))]'(by omega))])) = ((ordI (wantC l i)).take (j + 1)) from (by rw [htk]; congr 2)] at hst; exact hst
    refine s_cons (op_assign v61 rfl ?_)
    refine s_nil ?_
    refine block_n (then_n ?_)
    refine cE_region rfl ?_
    refine s_cons (op_move (.int .i64 (j : Int)) q43_8 ?_)
    refine s_cons (op_add (k := .i64) (a := (j : Int)) (b := 1) ((j : Int) + 1) rfl rfl (xi64 (by omega) (by omega)) ?_)
    refine s_cons (op_assign (.int .i64 ((j : Int) + 1)) rfl ?_)
    refine s_nil ?_
    refine then_n ?_
    exact ⟨_, ⟨v61, (j + 1), rfl, q43_0, q43_3, q43_5, rfl, (congrArg (Value.int .i64) (show ((j : Int) + 1) = _ from by omega)), (congrArg (Value.int .i64) (show ((wantC l i)[(Int.toNat ((nextI (wantC l i) ((ordI (wantC l i)).take j)) - 1))]'(by omega)).Tier = _ from by first | rfl | exact hat.trans hlt.symm)), (hst.sub (.cons _ (.cons_cons _ (.cons_cons _ .slnil)))), (by omega)⟩, (by simp only [id]; omega)⟩
  have c63 : ¬ ((j : Int) < ((wantC l i).length : Int)) := of_decide_eq_false b47
  refine cE_cond false (congrArg Value.bool b47) (fun h => by cases h) (fun _ => ?_)
  refine cE_exit ?_
  refine then_x (then_x (block_hit (then_n ?_)))
  refine cE_seq ?_
  obtain ⟨he1, he2⟩ := comes_end (l := l) (i := i) (j := j) hi (by omega)
  refine cE_region rfl ?_
  refine s_cons (op_call Try.call7 evs_nil (c_told20 (w0 := w46)) ?_)
  rintro _ w64 ⟨rfl, hcall⟩
  refine ⟨_, rfl, ?_⟩
  have hst : St w0 w64 [rowT 34 infoE vh ((ordI (wantC l i)).take j), rowT 34 infoE vo (wantC l i)] := hst.call hcall
  refine s_cons (op_move (.bool true) rfl ?_)
  refine s_yes 80 rfl rfl (op_move vo q43_3 ?_)
  refine s_yes 80 rfl rfl (op_move vh q43_4 ?_)
  refine s_yes 80 rfl rfl (op_call Try.call13 (evs_cons (v := vo) rfl (evs_cons (v := vh) rfl evs_nil)) (c_next (w0 := w64) (v_l := vo) (l := (wantC l i)) (h_l := (hst.sl 1 rfl)) (v_r := vh) (r := ((ordI (wantC l i)).take j)) (h_r := (hst.sl 0 rfl)) (hll := (by omega)) (hrl := (by omega))) ?_)
  rintro _ w65 ⟨rfl, hcall⟩
  refine ⟨_, rfl, ?_⟩
  have hst : St w0 w65 [rowT 34 infoE vh ((ordI (wantC l i)).take j), rowT 34 infoE vo (wantC l i)] := hst.call hcall
  refine s_yes 80 rfl rfl (op_eql (k := .i64) (a := (nextI (wantC l i) ((ordI (wantC l i)).take j))) (b := (-1)) rfl rfl ?_)
  refine s_cons (op_pick_t (.bool (decide ((nextI (wantC l i) ((ordI (wantC l i)).take j)) = (-1)))) rfl rfl ?_)
  refine s_cons (op_move (.bool (decide ((nextI (wantC l i) ((ordI (wantC l i)).take j)) = (-1)))) rfl ?_)
  refine s_yes 86 rfl (congrArg Value.bool (show (decide ((nextI (wantC l i) ((ordI (wantC l i)).take j)) = (-1))) = true from (decide_eq_true (by omega)))) (op_move vo q43_3 ?_)
  refine s_yes 86 rfl (congrArg Value.bool (show (decide ((nextI (wantC l i) ((ordI (wantC l i)).take j)) = (-1))) = true from (decide_eq_true (by omega)))) (op_move vh q43_4 ?_)
  refine s_yes 86 rfl (congrArg Value.bool (show (decide ((nextI (wantC l i) ((ordI (wantC l i)).take j)) = (-1))) = true from (decide_eq_true (by omega)))) (op_call Try.call12 (evs_cons (v := vo) rfl (evs_cons (v := vh) rfl evs_nil)) (c_bodies (w0 := w65) (v_l := vo) (l := (wantC l i)) (h_l := (hst.sl 1 rfl)) (v_r := vh) (r := ((ordI (wantC l i)).take j)) (h_r := (hst.sl 0 rfl)) (hll := (by omega)) (hrl := (by omega))) ?_)
  rintro _ w67 ⟨r66, rfl, hcall⟩
  refine ⟨_, rfl, ?_⟩
  have hst : St w0 w67 [rowT 3 (intE .i64) r66 (bodies (wantC l i) ((ordI (wantC l i)).take j)), rowT 34 infoE vh ((ordI (wantC l i)).take j), rowT 34 infoE vo (wantC l i)] := hst.call hcall
  refine s_yes 86 rfl (congrArg Value.bool (show (decide ((nextI (wantC l i) ((ordI (wantC l i)).take j)) = (-1))) = true from (decide_eq_true (by omega)))) (op_len (E := (intE .i64)) (xs := (bodies (wantC l i) ((ordI (wantC l i)).take j))) Try.underlying24 rfl (hst.sl 0 rfl) ?_)
  refine s_yes 86 rfl (congrArg Value.bool (show (decide ((nextI (wantC l i) ((ordI (wantC l i)).take j)) = (-1))) = true from (decide_eq_true (by omega)))) (op_eql (k := .i64) (a := ((bodies (wantC l i) ((ordI (wantC l i)).take j)).length : Int)) (b := 0) rfl rfl ?_)
  refine s_cons (op_pick_t (.bool (decide (((bodies (wantC l i) ((ordI (wantC l i)).take j)).length : Int) = 0))) (congrArg Value.bool (show (decide ((nextI (wantC l i) ((ordI (wantC l i)).take j)) = (-1))) = true from (decide_eq_true (by omega)))) rfl ?_)
  refine s_cons (op_assign (.bool (decide (((bodies (wantC l i) ((ordI (wantC l i)).take j)).length : Int) = 0))) rfl ?_)
  refine s_nil ?_
  refine then_n ?_
  refine cE_ret ?_
  refine post_r _ (res1 (v := (.bool true)) (congrArg Value.bool (show (decide (((bodies (wantC l i) ((ordI (wantC l i)).take j)).length : Int) = 0)) = true from (decide_eq_true (by omega))))) ?_
  exact ⟨rfl, hst.bare⟩

end Go.Proofs.Ytadnedoecbfojaa
