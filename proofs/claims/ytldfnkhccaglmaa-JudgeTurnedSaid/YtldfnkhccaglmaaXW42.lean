/- twinkeeplaw22.Row -/
import Derived.Test.YtldfnkhccaglmaaXW41
import Derived.Test.YtldfnkhccaglmaaXLA
import Derived.Test.YtldfnkhccaglmaaXW36
namespace Go.Proofs.Ytldfnkhccaglmaa
open Go.RowKit

set_option maxRecDepth 8000 in
set_option maxHeartbeats 8000000 in
theorem c_Row (w0 : World) (n : Int) (v_steps : Value) (steps : List Int) (h_steps : Sl w0 (intE .i64) v_steps steps) (v_values : Value) (values : List Int) (h_values : Sl w0 (intE .i64) v_values values) (mask : Int) (hv : ∀ v ∈ values, i64R v) (hs : ∀ v ∈ steps, i64R v) (n0 : -9223372036854775808 ≤ n) (mask0 : -9223372036854775808 ≤ mask) (n1 : n ≤ 9223372036854775807) (mask1 : mask ≤ 9223372036854775807) :
  Calls Try.prog 18 #[(iV n), v_steps, v_values, (iV mask)] w0 fun e w' => ∃ (vl : Value), ∃ (va : Value), ∃ (ys : List Seg), ∃ (fr : List Item), e = .returned (.tuple #[vl, va]) ∧ St w0 w' (rowT 76 segE vl ys :: rowT 51 sampE va ((rowM steps values mask (1 + (n % 18446744073709551616 % 4).toNat)).all) :: fr) ∧ ys.map Seg.d = (rowM steps values mask (1 + (n % 18446744073709551616 % 4).toNat)).l ∧ Frz 51 29 fr ys := by
 have hslen := h_steps.len
 refine calls_E (n := 106) (ts := [8, 9]) Try.func18 rfl rfl rfl (by simp) ?_
 have hst := St.start w0
 refine cE_seq (cE_region rfl (s_cons (op_assign nS rfl (s_cons (op_assign nS rfl (s_nil (then_n (cE_seq (cE_region rfl (s_cons (op_assign nS rfl (s_nil (then_n (cE_seq (cE_region rfl (s_cons (op_assign nS rfl (s_nil (then_n (cE_seq (cE_region rfl (s_cons (op_assign (iV 0) rfl (s_nil (then_n (cE_seq (cE_seq (cE_region rfl (s_cons (op_assign (iV 0) rfl (s_nil (then_n ?_))))))))))))))))))))))))))))))))
 refine cE_block ?_
 replace hst := hst.nilRow 76 segE
 replace hst := hst.nilRow 51 sampE
 refine cE_loop (fun (m : Nat) (ρ : Env) (w : World) => ∃ (vl : Value) (va : Value) (ys : List Seg) (fr : List Item) (i : Nat), m = 5 - i ∧ ρ 0 = (iV n) ∧ ρ 1 = v_steps ∧ ρ 2 = v_values ∧ ρ 3 = (iV mask) ∧ ρ 8 = nS ∧ ρ 9 = nS ∧ ρ 10 = vl ∧ ρ 11 = va ∧ ρ 12 = (iV ((rowM steps values mask i).to)) ∧ ρ 13 = (iV (i : Int)) ∧ St w0 w (rowT 51 sampE va ((rowM steps values mask i).all) :: rowT 76 segE vl ys :: fr) ∧ ((i : Int) ≤ 1 + n % 18446744073709551616 % 4) ∧ (ys.map Seg.d = (rowM steps values mask i).l) ∧ (Frz 51 29 fr ys)) id _ ⟨nS, nS, [], [], 0, rfl, rfl, rfl, rfl, rfl, rfl, rfl, rfl, rfl, (congrArg iV (show 0 = _ from (by rfl))), (congrArg iV (show 0 = _ from by omega)), (by have h := hst; exact h), (by omega), (by rfl), (by exact Frz.nil)⟩ ?_
 rintro m2 ρ3 w4 ⟨vl, va, ys, fr, i, hm2, q1_0, q1_1, q1_2, q1_3, q1_8, q1_9, q1_10, q1_11, q1_12, q1_13, hst, hi, hys, hF⟩
 have hto := rowM_to steps values mask (i := i) (by omega)
 refine cE_seq (cE_seq (cE_region rfl (s_cons (op_move (iV (i : Int)) q1_13 (s_cons (op_move (iV n) q1_0 (s_cons (op_conv (k := .i64) (a := n) (n % 18446744073709551616) Try.underlying47 (by rw [Try.underlying3]; rfl) rfl (IntKind.wrap_u64 _) (s_cons (op_rem (k := .u64) (a := (n % 18446744073709551616)) (b := 4) ((n % 18446744073709551616) % 4) rfl rfl (by omega) (tmod_nn (by omega)) ?_))))))))))
 refine s_cons (op_conv (k := .u64) (a := ((n % 18446744073709551616) % 4)) ((n % 18446744073709551616) % 4) Try.underlying3 (by rw [Try.underlying47]; rfl) rfl (xi64 (by omega) (by omega)) (s_cons (op_add (k := .i64) (a := 1) (b := ((n % 18446744073709551616) % 4)) (1 + ((n % 18446744073709551616) % 4)) rfl rfl (xi64 (by omega) (by omega)) (s_cons (op_lss (k := .i64) (a := (i : Int)) (b := (1 + ((n % 18446744073709551616) % 4))) rfl rfl ?_)))))
 refine s_nil (then_n ?_)
 rcases Bool.eq_false_or_eq_true (decide ((i : Int) < (1 + ((n % 18446744073709551616) % 4)))) with b5 | b5
 ·have c6 := of_decide_eq_true b5
  refine cE_cond true (congrArg Value.bool b5) (fun _ => ?_) (fun h => by cases h)
  refine cE_skip (then_n (cE_seq (cE_block (cE_seq (cE_region rfl (s_cons (op_assign nS rfl (s_nil (then_n (cE_seq (cE_seq (cE_region rfl (s_cons (op_assign (iV 0) rfl (s_nil (then_n (cE_block ?_)))))))))))))))))
  replace hst := hst.nilRow 3 (intE .i64)
  refine cE_loop (fun (m : Nat) (ρ : Env) (w : World) => ∃ (vf : Value) (j : Nat), m = 5 - j ∧ ρ 0 = (iV n) ∧ ρ 1 = v_steps ∧ ρ 2 = v_values ∧ ρ 3 = (iV mask) ∧ ρ 8 = nS ∧ ρ 9 = nS ∧ ρ 10 = vl ∧ ρ 11 = va ∧ ρ 12 = (iV ((rowM steps values mask i).to)) ∧ ρ 13 = (iV (i : Int)) ∧ ρ 14 = vf ∧ ρ 15 = (iV (j : Int)) ∧ St w0 w (rowT 3 (intE .i64) vf ((steps.drop (5 * i)).take j) :: rowT 51 sampE va ((rowM steps values mask i).all) :: rowT 76 segE vl ys :: fr) ∧ (j ≤ 5)) id _ ⟨nS, 0, rfl, q1_0, q1_1, q1_2, q1_3, q1_8, q1_9, q1_10, q1_11, q1_12, q1_13, rfl, (congrArg iV (show 0 = _ from by omega)), (by have h := hst; exact h), (by omega)⟩ ?_
  rintro m8 ρ9 w10 ⟨vf, j, hm8, q7_0, q7_1, q7_2, q7_3, q7_8, q7_9, q7_10, q7_11, q7_12, q7_13, q7_14, q7_15, hst, hj⟩
  refine cE_seq (cE_seq (cE_region rfl (s_cons (op_move (iV (j : Int)) q7_15 (s_cons (op_lss (k := .i64) (a := (j : Int)) (b := 5) rfl rfl (s_nil (then_n ?_))))))))
  rcases Bool.eq_false_or_eq_true (decide ((j : Int) < 5)) with b11 | b11
  ·have c12 := of_decide_eq_true b11
   refine cE_cond true (congrArg Value.bool b11) (fun _ => ?_) (fun h => by cases h)
   refine cE_skip (then_n (cE_seq (cE_block (cE_seq (cE_region rfl (s_cons (op_move (iV (i : Int)) q7_13 (s_cons (op_mul (k := .i64) (a := 5) (b := (i : Int)) ((5 * i : Nat) : Int) rfl rfl ((xi64 (by omega) (by omega)).trans (by omega)) (s_cons (op_move (iV (j : Int)) q7_15 (s_cons (op_add (k := .i64) (a := ((5 * i : Nat) : Int)) (b := (j : Int)) ((5 * i + j : Nat) : Int) rfl rfl ((xi64 (by omega) (by omega)).trans (by omega)) ?_)))))))))))))
   refine s_cons (op_move v_steps q7_1 (s_cons (op_len (E := (intE .i64)) (xs := steps) Try.underlying42 rfl h_steps (s_cons (op_lss (k := .i64) (a := ((5 * i + j : Nat) : Int)) (b := (steps.length : Int)) rfl rfl (s_nil (then_n ?_)))))))
   rcases Bool.eq_false_or_eq_true (decide (((5 * i + j : Nat) : Int) < (steps.length : Int))) with b13 | b13
   ·have c14 := of_decide_eq_true b13
    refine cE_cond true (congrArg Value.bool b13) (fun _ => ?_) (fun h => by cases h)
    refine cE_region rfl (s_cons (op_move vf q7_14 (s_cons (op_move v_steps q7_1 (s_cons (op_move (iV (i : Int)) q7_13 (s_cons (op_mul (k := .i64) (a := 5) (b := (i : Int)) ((5 * i : Nat) : Int) rfl rfl ((xi64 (by omega) (by omega)).trans (by omega)) (s_cons (op_move (iV (j : Int)) q7_15 (s_cons (op_add (k := .i64) (a := ((5 * i : Nat) : Int)) (b := (j : Int)) ((5 * i + j : Nat) : Int) rfl rfl ((xi64 (by omega) (by omega)).trans (by omega)) ?_))))))))))))
    refine s_cons (op_indexAddrN (E := (intE .i64)) (xs := steps) (5 * i + j : Nat) Try.underlying42 Try.sizeOf3 rfl h_steps rfl (by omega) (by omega) (fun a15 o16 p17 => ?_))
    refine s_cons (op_load1 (u := (iV (steps[(5 * i + j : Nat)]'(by omega)))) Try.isAgg3 rfl (p17.below hst.below) (s_cons (op_buildSlice (E := (intE .i64)) [(steps[(5 * i + j : Nat)]'(by omega))] hst Try.underlying42 Try.sizeOf3 Try.zeroValue3 (evp_cons (v := (iV (steps[(5 * i + j : Nat)]'(by omega)))) rfl evp_nil) (parts_cons rfl parts_nil) rfl (by decide) (fun v18 w19 hst => ?_))))
    refine s_cons (op_append (E := (intE .i64)) (xs := ((steps.drop (5 * i)).take j)) (ys := [(steps[(5 * i + j : Nat)]'(by omega))]) (z := (iV 0)) (bytes := 8) hst 1 rfl Try.underlying42 (by kernel_rfl) rfl rfl rfl (hst.sl 0 rfl) (by (simp only [List.length_take, List.length_drop, List.length_cons, List.length_nil]; omega)) (by (simp only [List.length_take, List.length_drop, List.length_cons, List.length_nil]; omega)) (fun v20 w21 hst => ?_))
    replace hst : St w0 w21 (rowT 3 (intE .i64) v18 ([(steps[(5 * i + j : Nat)]'(by omega))]) :: rowT 3 (intE .i64) v20 ((steps.drop (5 * i)).take (j + 1)) :: rowT 51 sampE va ((rowM steps values mask i).all) :: rowT 76 segE vl ys :: fr) := by rw [show (((steps.drop (5 * i)).take j) ++ ([(steps[(5 * i + j : Nat)]'(by omega))])) = ((steps.drop (5 * i)).take (j + 1)) from (five_snoc (by omega) (by omega))] at hst; exact hst
    refine s_cons (op_assign v20 rfl (s_nil (block_n (then_n (cE_region rfl (s_cons (op_move (iV (j : Int)) q7_15 (s_cons (op_add (k := .i64) (a := (j : Int)) (b := 1) ((j : Int) + 1) rfl rfl (xi64 (by omega) (by omega)) (s_cons (op_assign (iV ((j : Int) + 1)) rfl (s_nil (then_n ?_)))))))))))))
    exact ⟨_, ⟨v20, (j + 1), rfl, q7_0, q7_1, q7_2, q7_3, q7_8, q7_9, q7_10, q7_11, q7_12, q7_13, rfl, (congrArg iV (show ((j : Int) + 1) = _ from by omega)), (hst.sub (.cons _ (.cons_cons _ (.cons_cons _ (.cons_cons _ (List.Sublist.refl _)))))), (by omega)⟩, (by simp only [id]; omega)⟩
   have c22 := of_decide_eq_false b13
   refine cE_cond false (congrArg Value.bool b13) (fun h => by cases h) (fun _ => ?_)
   refine cE_skip (block_n (then_n ?_))
   replace hst : St w0 w10 (rowT 3 (intE .i64) vf ((steps.drop (5 * i)).take (j + 1)) :: rowT 51 sampE va ((rowM steps values mask i).all) :: rowT 76 segE vl ys :: fr) := by rw [(five_same (j := j) (i := i) (steps := steps) (by omega))] at hst; exact hst
   refine cE_region rfl (s_cons (op_move (iV (j : Int)) q7_15 (s_cons (op_add (k := .i64) (a := (j : Int)) (b := 1) ((j : Int) + 1) rfl rfl (xi64 (by omega) (by omega)) (s_cons (op_assign (iV ((j : Int) + 1)) rfl (s_nil (then_n ?_))))))))
   exact ⟨_, ⟨vf, (j + 1), rfl, q7_0, q7_1, q7_2, q7_3, q7_8, q7_9, q7_10, q7_11, q7_12, q7_13, q7_14, (congrArg iV (show ((j : Int) + 1) = _ from by omega)), hst, (by omega)⟩, (by simp only [id]; omega)⟩
  have c23 := of_decide_eq_false b11
  refine cE_cond false (congrArg Value.bool b11) (fun h => by cases h) (fun _ => ?_)
  refine cE_exit (then_x (then_x (block_hit (then_n (cE_seq ?_)))))
  replace hst : St w0 w10 (rowT 3 (intE .i64) vf (fiveOf steps i) :: rowT 51 sampE va ((rowM steps values mask i).all) :: rowT 76 segE vl ys :: fr) := by rw [(show (steps.drop (5 * i)).take j = fiveOf steps i from by rw [show j = 5 by omega]; rfl)] at hst; exact hst
  refine cE_region rfl (s_cons (op_move (iV (i : Int)) q7_13 (s_cons (op_mul (k := .i64) (a := 10) (b := (i : Int)) (10 * (i : Int)) rfl rfl (xi64 (by omega) (by omega)) (s_cons (op_move (iV ((rowM steps values mask i).to)) q7_12 (s_cons (op_move vf q7_14 (s_cons (op_move v_values q7_2 (s_cons (op_call Try.call34 (evs_cons (v := (iV (10 * (i : Int)))) rfl (evs_cons (v := (iV ((rowM steps values mask i).to))) rfl (evs_cons (v := vf) rfl (evs_cons (v := v_values) rfl evs_nil)))) (c_Make (w0 := w10) (nid := (10 * (i : Int))) (fr := (rowM steps values mask i).to) (v_steps := vf) (steps := (fiveOf steps i)) (h_steps := (hst.sl 0 rfl)) (v_values := v_values) (values := values) (h_values := (h_values.below hst.below)) (hv := hv) (hs := (five_ok hs)) (hf0 := (by omega)) (hf1 := (by omega)) (hsl := (Nat.le_trans (five_len _ _) (by decide))) (nid0 := (by omega)) (nid1 := (by omega))) ?_))))))))))))
  rintro _ w25 ⟨r24, rfl, hcall, Make_hd⟩
  refine ⟨_, rfl, ?_⟩
  have hst := hst.call hcall
  refine s_cons (op_alloc (cs := #[(iV 0), (iV 0), (iV 0), (iV 0), nS, nS]) hst Try.zeroValue76 rfl (fun g26 w27 hst _ => ?_))
  refine s_cons0 (op_storeAll hst 0 rfl Try.sizeOf76 rfl rfl rfl rfl (oneL_all (l := [(iV r24.d.Id), (iV r24.d.Tier), (iV r24.d.From), (iV r24.d.To), r24.sv.1, r24.av.1]) ⟨rfl, rfl, rfl, rfl, r24.sv.2, r24.av.2, trivial⟩) (fun w28 hst => ?_))
  refine s_nil (then_n (cE_seq ?_))
  have hml := make_len Make_hd
  have hral := rowM_all steps values mask (i := i) (by omega)
  refine cE_region rfl (s_cons (op_move va q7_11 (s_cons (op_fieldAddr (s := 0) Try.underlying76 rfl rfl Try.sizeOf23 rfl (s_cons (op_load1 (u := r24.sv.1) Try.isAgg23 rfl ((hst.cell 0 rfl).drop 4) (s_cons (op_append (E := sampE) (xs := (rowM steps values mask i).all) (ys := r24.d.Samples) (z := (.agg #[(iV 0), (iV 0)])) (bytes := 16) hst 4 rfl Try.underlying23 (by kernel_rfl) rfl rfl rfl (hst.sl 1 rfl) (by omega) (by omega) (fun v29 w30 hst => ?_)))))))))
  replace hst : St w0 w30 (.blk g26 76 #[(iV r24.d.Id), (iV r24.d.Tier), (iV r24.d.From), (iV r24.d.To), r24.sv.1, r24.av.1] :: rowT 51 sampE r24.sv.1 r24.d.Samples :: rowT 29 aggE r24.av.1 r24.d.Aggs :: rowT 3 (intE .i64) vf (fiveOf steps i) :: rowT 51 sampE v29 ((rowM steps values mask i).all ++ (mk0 steps values i (rowM steps values mask i).to).Samples) :: rowT 76 segE vl ys :: fr) := by rw [show (((rowM steps values mask i).all) ++ r24.d.Samples) = ((rowM steps values mask i).all ++ (mk0 steps values i (rowM steps values mask i).to).Samples) from (by rw [Make_hd]; rfl)] at hst; exact hst
  refine s_cons (op_assign v29 rfl (s_nil (then_n (cE_seq (cE_region rfl (s_cons (op_move (iV mask) q7_3 (s_cons (op_move (iV (i : Int)) q7_13 (s_cons (op_mul (k := .i64) (a := 4) (b := (i : Int)) (4 * (i : Int)) rfl rfl (xi64 (by omega) (by omega)) (s_cons (op_conv (k := .i64) (a := (4 * (i : Int))) (4 * (i : Int)) Try.underlying47 (by rw [Try.underlying3]; rfl) rfl (xu64 (by omega) (by omega)) ?_)))))))))))))
  refine s_cons (op_shr (k := .i64) (k' := .u64) (a := mask) (b := (4 * (i : Int))) (mask / 2 ^ (4 * i)) rfl rfl (by omega) (by simp [IntKind.bits]; try omega) (by rw [show (4 * (i : Int)).toNat = 4 * i by omega]) ?_)
  obtain ⟨mm, hmm⟩ : ∃ x : Int, x = mask / 2 ^ (4 * i) % 16 := ⟨_, rfl⟩
  have hmr : 0 ≤ mm ∧ mm < 16 := by omega
  refine s_cons (op_and (k := .i64) (a := (mask / 2 ^ (4 * i))) (b := 15) mm rfl rfl ((and15 _).trans hmm.symm) (s_cons (op_assign (iV mm) rfl (s_nil (then_n (cE_seq (cE_seq ?_)))))))
  replace hst := hst.front 2 rfl
  replace hst := hst.front 2 rfl
  replace hst := hst.front 5 rfl
  replace hst := hst.front 5 rfl
  replace hst := hst.front 5 rfl
  replace hst := hst.front 5 rfl
  obtain ⟨fr31, ef32⟩ : ∃ x : List Item, x = (rowT 51 sampE r24.sv.1 r24.d.Samples :: rowT 29 aggE r24.av.1 r24.d.Aggs :: fr) := ⟨_, rfl⟩
  replace hst : St w0 w30 (.blk g26 76 #[(iV r24.d.Id), (iV r24.d.Tier), (iV r24.d.From), (iV r24.d.To), r24.sv.1, r24.av.1] :: rowT 3 (intE .i64) vf (fiveOf steps i) :: rowT 51 sampE v29 ((rowM steps values mask i).all ++ (mk0 steps values i (rowM steps values mask i).to).Samples) :: rowT 76 segE vl ys :: fr31) := by rw [ef32]; exact hst
  have hG : Frz 51 29 fr31 (r24 :: ys) := (Frz.mono hF (fun x h => by rw [ef32]; exact List.mem_cons_of_mem _ (List.mem_cons_of_mem _ h))).cons (by rw [ef32]; exact List.mem_cons_self ..) (by rw [ef32]; exact List.mem_cons_of_mem _ (List.mem_cons_self ..))
  refine cE_region rfl (s_cons (op_assign (iV 0) rfl (s_nil (then_n (cE_block ?_)))))
  replace hst := hst.front 2 rfl
  replace hst := hst.front 1 rfl
  replace hst := hst.front 3 rfl
  refine cE_loop (fun (m : Nat) (ρ : Env) (w : World) => ∃ (vm : Value) (zs : List Seg) (sg : Seg) (fq : List Item) (k : Nat), m = 4 - k ∧ ρ 0 = (iV n) ∧ ρ 1 = v_steps ∧ ρ 2 = v_values ∧ ρ 3 = (iV mask) ∧ ρ 8 = nS ∧ ρ 9 = nS ∧ ρ 11 = v29 ∧ ρ 12 = (iV ((rowM steps values mask i).to)) ∧ ρ 13 = (iV (i : Int)) ∧ ρ 14 = vf ∧ ρ 15 = (iV (j : Int)) ∧ ρ 16 = (.pointer (some ⟨g26, 0, none⟩)) ∧ ρ 17 = (iV mm) ∧ ρ 10 = vm ∧ ρ 18 = (iV (k : Int)) ∧ St w0 w (rowT 76 segE vm zs :: .blk g26 76 #[(iV sg.d.Id), (iV sg.d.Tier), (iV sg.d.From), (iV sg.d.To), sg.sv.1, sg.av.1] :: rowT 51 sampE v29 ((rowM steps values mask i).all ++ (mk0 steps values i (rowM steps values mask i).to).Samples) :: fq) ∧ (k ≤ 4) ∧ (zs.map Seg.d = (rowM steps values mask i).l ++ tiersM mask (mk0 steps values i (rowM steps values mask i).to) i k) ∧ (sg.d = upS (mk0 steps values i (rowM steps values mask i).to) i (min k 3)) ∧ sg.d.ok ∧ (Frz 51 29 fq (sg :: zs))) id _ ⟨vl, ys, r24, fr31, 0, rfl, q7_0, q7_1, q7_2, q7_3, q7_8, q7_9, rfl, q7_12, q7_13, q7_14, q7_15, rfl, rfl, q7_10, (congrArg iV (show 0 = _ from by omega)), (hst.sub (.cons_cons _ (.cons_cons _ (.cons_cons _ (.cons _ (List.Sublist.refl _)))))), (by omega), (by exact hys.trans (List.append_nil _).symm), (by exact Make_hd), (by exact Make_hd ▸ make_ok (by omega) (by omega) hv), (by assumption)⟩ ?_
  rintro m34 ρ35 w36 ⟨vm, zs, sg, fq, k, hm34, q33_0, q33_1, q33_2, q33_3, q33_8, q33_9, q33_11, q33_12, q33_13, q33_14, q33_15, q33_16, q33_17, q33_10, q33_18, hst, hk, hz, hsg, hok, hG⟩
  have hzl : zs.length ≤ 4 * i + k := row_zl hz
  refine cE_seq (cE_seq (cE_region rfl (s_cons (op_move (iV (k : Int)) q33_18 (s_cons (op_lss (k := .i64) (a := (k : Int)) (b := 4) rfl rfl (s_nil (then_n ?_))))))))
  rcases Bool.eq_false_or_eq_true (decide ((k : Int) < 4)) with b37 | b37
  ·have c38 := of_decide_eq_true b37
   refine cE_cond true (congrArg Value.bool b37) (fun _ => ?_) (fun h => by cases h)
   refine cE_skip (then_n (cE_seq (cE_block (cE_seq (cE_seq (cE_region rfl (s_cons (op_move (iV mm) q33_17 (s_cons (op_move (iV (k : Int)) q33_18 (s_cons (op_conv (k := .i64) (a := (k : Int)) (k : Int) Try.underlying47 (by rw [Try.underlying3]; rfl) rfl (xu64 (by omega) (by omega)) (s_cons (op_shr (k := .i64) (k' := .u64) (a := mm) (b := (k : Int)) (mm / 2 ^ k) rfl rfl (by omega) (by simp [IntKind.bits]; try omega) (by rw [Int.toNat_natCast]) ?_))))))))))))))
   obtain ⟨mb, hmb⟩ : ∃ x : Int, x = mm / 2 ^ k % 2 := ⟨_, rfl⟩
   refine s_cons (op_and (k := .i64) (a := (mm / 2 ^ k)) (b := 1) mb rfl rfl ((and1 _).trans hmb.symm) (s_cons (op_eql (k := .i64) (a := mb) (b := 1) rfl rfl (s_cons (op_move (.bool (decide (mb = 1))) rfl (s_lz 75 rfl (gA_f rfl) (Rlz (!(decide (mb = 1))) (iV mm) w36) ?_ (fun hc39 => rlz_f hc39) ?_))))))
   ·intro hc39
    refine op_move (iV mm) q33_17 ?_
    exact rlz_t hc39
   rintro _ _ ⟨rfl, rfl⟩
   refine s_lz 75 rfl (gA_f rfl) (Rlz (!(decide (mb = 1))) (.bool (decide (mm = 0))) w36) ?_ (fun hc40 => rlz_f hc40) ?_
   ·intro hc40
    refine op_eql (k := .i64) (a := mm) (b := 0) (gt (congrArg (! ·) (not_t hc40))) rfl ?_
    exact rlz_t hc40
   rintro _ _ ⟨rfl, rfl⟩
   refine s_lz 75 rfl (gA_f rfl) (Rlz (!(decide (mb = 1))) (.bool (decide (mm = 0))) w36) ?_ (fun hc41 => rlz_f hc41) ?_
   ·intro hc41
    refine op_move (.bool (decide (mm = 0))) (gt (congrArg (! ·) (not_t hc41))) ?_
    exact rlz_t hc41
   rintro _ _ ⟨rfl, rfl⟩
   obtain ⟨g42, hg43⟩ : ∃ x : Bool, x = ((!(decide (mb = 1))) && (decide (mm = 0))) := ⟨_, rfl⟩
   refine s_lz 78 rfl ((gB_t rfl).trans hg43.symm) (Rlz g42 (iV (k : Int)) w36) ?_ (fun hc44 => rlz_f hc44) ?_
   ·intro hc44
    refine op_move (iV (k : Int)) q33_18 ?_
    exact rlz_t hc44
   rintro _ _ ⟨rfl, rfl⟩
   refine s_lz 78 rfl ((gB_t rfl).trans hg43.symm) (Rlz g42 (.bool (decide ((k : Int) = 0))) w36) ?_ (fun hc45 => rlz_f hc45) ?_
   ·intro hc45
    refine op_eql (k := .i64) (a := (k : Int)) (b := 0) (gt hc45) rfl ?_
    exact rlz_t hc45
   rintro _ _ ⟨rfl, rfl⟩
   obtain ⟨g48, hg49⟩ : ∃ x : Bool, x = ((decide (mm = 0)) && (decide ((k : Int) = 0))) := ⟨_, rfl⟩
   refine s_lz 75 rfl (gA_f rfl) (Rlz (!(decide (mb = 1))) (.bool g48) w36) ?_ (fun hc46 => rlz_f hc46) ?_
   ·intro hc46
    refine op_pick_and (gt (congrArg (! ·) (not_t hc46))) rfl (fun hp => (hg43.trans (and_i (congrArg (! ·) (not_t hc46)) hp))) rfl ?_
    exact rlz_n hg49 hc46
   rintro _ _ ⟨rfl, rfl⟩
   obtain ⟨g47, hg48⟩ : ∃ x : Bool, x = ((decide (mb = 1)) || g48) := ⟨_, rfl⟩
   refine s_cons (op_pick_or rfl rfl rfl (fun hp => (congrArg (! ·) hp)) (s_nil (then_n ?_)))
   rcases Bool.eq_false_or_eq_true g47 with b49 | b49
   ·have c50 : (mb = 1) ∨ ((mm = 0) ∧ ((k : Int) = 0)) := (pi_or pi_dec (pi_name hg49 (pi_and pi_dec pi_dec))).1 (hg48.symm.trans b49)
    refine cE_cond true ((congrArg Value.bool hg48.symm).trans (congrArg Value.bool b49)) (fun _ => ?_) (fun h => by cases h)
    have hb : bitM mask i k = true := by unfold bitM; rw [← hmm, ← hmb]; simp only [Bool.or_eq_true, Bool.and_eq_true, decide_eq_true_eq]; omega
    refine cE_region rfl (s_cons (op_move vm q33_10 (s_cons (op_loadN (cs := [(iV sg.d.Id), (iV sg.d.Tier), (iV sg.d.From), (iV sg.d.To), sg.sv.1, sg.av.1]) Try.isAgg76 Try.sizeOf76 q33_16 (Pt.of (hst.cell 1 rfl) rfl) rfl (s_cons (op_buildSlice (E := segE) [sg] hst Try.underlying44 Try.sizeOf76 Try.zeroValue76 (evp_cons (v := (.agg #[(iV sg.d.Id), (iV sg.d.Tier), (iV sg.d.From), (iV sg.d.To), sg.sv.1, sg.av.1])) rfl evp_nil) (parts_cons rfl parts_nil) rfl (by decide) (fun v51 w52 hst => ?_)))))))
    refine s_cons (op_append (E := segE) (xs := zs) (ys := [sg]) (z := (.agg #[(iV 0), (iV 0), (iV 0), (iV 0), nS, nS])) (bytes := 80) hst 1 rfl Try.underlying44 (by kernel_rfl) rfl rfl rfl (hst.sl 0 rfl) (by (simp only [List.length_cons, List.length_nil]; omega)) (by (simp only [List.length_cons, List.length_nil]; omega)) (fun v53 w54 hst => ?_))
    refine s_cons (op_assign v53 rfl (s_nil (then_n (cE_seq (cE_region rfl (s_cons (op_move (iV (k : Int)) q33_18 (s_cons (op_lss (k := .i64) (a := (k : Int)) (b := 3) rfl rfl (s_nil (then_n ?_)))))))))))
    rcases Bool.eq_false_or_eq_true (decide ((k : Int) < 3)) with b55 | b55
    ·have c56 := of_decide_eq_true b55
     refine cE_cond true (congrArg Value.bool b55) (fun _ => ?_) (fun h => by cases h)
     refine cE_region rfl (s_cons (op_loadN (cs := [(iV sg.d.Id), (iV sg.d.Tier), (iV sg.d.From), (iV sg.d.To), sg.sv.1, sg.av.1]) Try.isAgg76 Try.sizeOf76 q33_16 (Pt.of (hst.cell 2 rfl) rfl) rfl (s_cons (op_buildSlice (E := segE) [sg] hst Try.underlying44 Try.sizeOf76 Try.zeroValue76 (evp_cons (v := (.agg #[(iV sg.d.Id), (iV sg.d.Tier), (iV sg.d.From), (iV sg.d.To), sg.sv.1, sg.av.1])) rfl evp_nil) (parts_cons rfl parts_nil) rfl (by decide) (fun v57 w58 hst => ?_)))))
     refine s_cons (op_move (iV (i : Int)) q33_13 (s_cons (op_mul (k := .i64) (a := 10) (b := (i : Int)) (10 * (i : Int)) rfl rfl (xi64 (by omega) (by omega)) (s_cons (op_move (iV (k : Int)) q33_18 (s_cons (op_add (k := .i64) (a := (10 * (i : Int))) (b := (k : Int)) ((10 * (i : Int)) + (k : Int)) rfl rfl (xi64 (by omega) (by omega)) (s_cons (op_add (k := .i64) (a := ((10 * (i : Int)) + (k : Int))) (b := 2) (((10 * (i : Int)) + (k : Int)) + 2) rfl rfl (xi64 (by omega) (by omega)) ?_)))))))))
     refine s_cons (op_move (iV (k : Int)) q33_18 (s_cons (op_add (k := .i64) (a := (k : Int)) (b := 1) ((k : Int) + 1) rfl rfl (xi64 (by omega) (by omega)) (s_cons (op_call Try.call35 (evs_cons (v := v57) rfl (evs_cons (v := (iV (((10 * (i : Int)) + (k : Int)) + 2))) rfl (evs_cons (v := (iV ((k : Int) + 1))) rfl evs_nil))) (c_rRoll (w0 := w58) (v_l := v57) (l := [sg]) (h_l := (hst.sl 0 rfl)) (nid := (((10 * (i : Int)) + (k : Int)) + 2)) (k := ((k : Int) + 1)) (hsg := (segsIn_one ⟨(hst.slm 5 rfl (hG _ (List.mem_cons_self ..)).1), (hst.slm 5 rfl (hG _ (List.mem_cons_self ..)).2)⟩)) (hso := (ok_one hok)) (hl1 := rfl) (nid0 := (by omega)) (k0 := (by omega)) (nid1 := (by omega)) (k1 := (by omega))) ?_)))))
     rintro _ w60 ⟨r59, rfl, hcall, rRoll_hd⟩
     refine ⟨_, rfl, ?_⟩
     have hst := hst.call hcall
     refine s_cons (op_move (.tuple #[(.agg #[(iV r59.d.Id), (iV r59.d.Tier), (iV r59.d.From), (iV r59.d.To), r59.sv.1, r59.av.1]), (iV ((rollS (gd ([sg]) 0).d (((10 * (i : Int)) + (k : Int)) + 2) ((k : Int) + 1)).2))]) rfl (s_cons (op_extract (.agg #[(iV r59.d.Id), (iV r59.d.Tier), (iV r59.d.From), (iV r59.d.To), r59.sv.1, r59.av.1]) rfl rfl (s_cons (op_extract (iV ((rollS (gd ([sg]) 0).d (((10 * (i : Int)) + (k : Int)) + 2) ((k : Int) + 1)).2)) rfl rfl ?_)))))
     refine s_cons0 (op_storeAll hst 5 rfl Try.sizeOf76 q33_16 rfl rfl rfl (oneL_all (l := [(iV r59.d.Id), (iV r59.d.Tier), (iV r59.d.From), (iV r59.d.To), r59.sv.1, r59.av.1]) ⟨rfl, rfl, rfl, rfl, r59.sv.2, r59.av.2, trivial⟩) (fun w61 hst => ?_))
     refine s_nil (block_n (then_n ?_))
     replace hst := hst.front 1 rfl
     replace hst := hst.front 1 rfl
     replace hst := hst.front 6 rfl
     replace hst := hst.front 6 rfl
     replace hst := hst.front 6 rfl
     replace hst := hst.front 6 rfl
     replace hst := hst.front 6 rfl
     obtain ⟨fr62, ef63⟩ : ∃ x : List Item, x = (rowT 51 sampE r59.sv.1 r59.d.Samples :: rowT 29 aggE r59.av.1 r59.d.Aggs :: fq) := ⟨_, rfl⟩
     replace hst : St w0 w61 (rowT 76 segE v57 ([sg]) :: rowT 76 segE v51 ([sg]) :: rowT 76 segE v53 (zs ++ ([sg])) :: .blk g26 76 #[(iV r59.d.Id), (iV r59.d.Tier), (iV r59.d.From), (iV r59.d.To), r59.sv.1, r59.av.1] :: rowT 51 sampE v29 ((rowM steps values mask i).all ++ (mk0 steps values i (rowM steps values mask i).to).Samples) :: fr62) := by rw [ef63]; exact hst
     have hG : Frz 51 29 fr62 (r59 :: (zs ++ ([sg]))) := (Frz.mono (hG.sub (by exact zs_in)) (fun x h => by rw [ef63]; exact List.mem_cons_of_mem _ (List.mem_cons_of_mem _ h))).cons (by rw [ef63]; exact List.mem_cons_self ..) (by rw [ef63]; exact List.mem_cons_of_mem _ (List.mem_cons_self ..))
     refine cE_region rfl (s_cons (op_move (iV (k : Int)) q33_18 (s_cons (op_add (k := .i64) (a := (k : Int)) (b := 1) ((k : Int) + 1) rfl rfl (xi64 (by omega) (by omega)) (s_cons (op_assign (iV ((k : Int) + 1)) rfl (s_nil (then_n ?_))))))))
     exact ⟨_, ⟨v53, (zs ++ ([sg])), r59, fr62, (k + 1), rfl, q33_0, q33_1, q33_2, q33_3, q33_8, q33_9, q33_11, q33_12, q33_13, q33_14, q33_15, q33_16, q33_17, rfl, (congrArg iV (show ((k : Int) + 1) = _ from by omega)), (hst.sub (.cons _ (.cons _ (.cons_cons _ (.cons_cons _ (.cons_cons _ (List.Sublist.refl _))))))), (by omega), (by exact tiers_yes hz hsg (by omega) hb), (by exact up_step hsg rRoll_hd (by omega)), (by exact rRoll_hd ▸ roll_okD hok (by omega) (by omega) (by omega) (by omega)), (by assumption)⟩, (by simp only [id]; omega)⟩
    have c64 := of_decide_eq_false b55
    refine cE_cond false (congrArg Value.bool b55) (fun h => by cases h) (fun _ => ?_)
    refine cE_skip (block_n (then_n (cE_region rfl (s_cons (op_move (iV (k : Int)) q33_18 (s_cons (op_add (k := .i64) (a := (k : Int)) (b := 1) ((k : Int) + 1) rfl rfl (xi64 (by omega) (by omega)) (s_cons (op_assign (iV ((k : Int) + 1)) rfl (s_nil (then_n ?_)))))))))))
    exact ⟨_, ⟨v53, (zs ++ ([sg])), sg, fq, (k + 1), rfl, q33_0, q33_1, q33_2, q33_3, q33_8, q33_9, q33_11, q33_12, q33_13, q33_14, q33_15, q33_16, q33_17, rfl, (congrArg iV (show ((k : Int) + 1) = _ from by omega)), (hst.sub (.cons _ (.cons_cons _ (.cons_cons _ (.cons_cons _ (List.Sublist.refl _)))))), (by omega), (by exact tiers_yes hz hsg (by omega) hb), (by exact up_same hsg (by omega)), (by exact hok), (by exact hG.sub zs_in2)⟩, (by simp only [id]; omega)⟩
   have c65 : ¬ (mb = 1) := of_decide_eq_false (or_l (hg48.symm.trans b49))
   have c66 : ¬ ((mm = 0) ∧ ((k : Int) = 0)) := pi_f (pi_and pi_dec pi_dec) (hg49.symm.trans (or_r (hg48.symm.trans b49)))
   refine cE_cond false ((congrArg Value.bool hg48.symm).trans (congrArg Value.bool b49)) (fun h => by cases h) (fun _ => ?_)
   refine cE_skip (then_n (cE_seq ?_))
   have hb : bitM mask i k = false := by unfold bitM; rw [← hmm, ← hmb]; simp only [Bool.or_eq_false_iff, Bool.and_eq_false_iff, decide_eq_false_iff_not]; omega
   refine cE_region rfl (s_cons (op_move (iV (k : Int)) q33_18 (s_cons (op_lss (k := .i64) (a := (k : Int)) (b := 3) rfl rfl (s_nil (then_n ?_))))))
   rcases Bool.eq_false_or_eq_true (decide ((k : Int) < 3)) with b67 | b67
   ·have c68 := of_decide_eq_true b67
    refine cE_cond true (congrArg Value.bool b67) (fun _ => ?_) (fun h => by cases h)
    refine cE_region rfl (s_cons (op_loadN (cs := [(iV sg.d.Id), (iV sg.d.Tier), (iV sg.d.From), (iV sg.d.To), sg.sv.1, sg.av.1]) Try.isAgg76 Try.sizeOf76 q33_16 (Pt.of (hst.cell 1 rfl) rfl) rfl (s_cons (op_buildSlice (E := segE) [sg] hst Try.underlying44 Try.sizeOf76 Try.zeroValue76 (evp_cons (v := (.agg #[(iV sg.d.Id), (iV sg.d.Tier), (iV sg.d.From), (iV sg.d.To), sg.sv.1, sg.av.1])) rfl evp_nil) (parts_cons rfl parts_nil) rfl (by decide) (fun v69 w70 hst => ?_)))))
    refine s_cons (op_move (iV (i : Int)) q33_13 (s_cons (op_mul (k := .i64) (a := 10) (b := (i : Int)) (10 * (i : Int)) rfl rfl (xi64 (by omega) (by omega)) (s_cons (op_move (iV (k : Int)) q33_18 (s_cons (op_add (k := .i64) (a := (10 * (i : Int))) (b := (k : Int)) ((10 * (i : Int)) + (k : Int)) rfl rfl (xi64 (by omega) (by omega)) (s_cons (op_add (k := .i64) (a := ((10 * (i : Int)) + (k : Int))) (b := 2) (((10 * (i : Int)) + (k : Int)) + 2) rfl rfl (xi64 (by omega) (by omega)) ?_)))))))))
    refine s_cons (op_move (iV (k : Int)) q33_18 (s_cons (op_add (k := .i64) (a := (k : Int)) (b := 1) ((k : Int) + 1) rfl rfl (xi64 (by omega) (by omega)) (s_cons (op_call Try.call35 (evs_cons (v := v69) rfl (evs_cons (v := (iV (((10 * (i : Int)) + (k : Int)) + 2))) rfl (evs_cons (v := (iV ((k : Int) + 1))) rfl evs_nil))) (c_rRoll (w0 := w70) (v_l := v69) (l := [sg]) (h_l := (hst.sl 0 rfl)) (nid := (((10 * (i : Int)) + (k : Int)) + 2)) (k := ((k : Int) + 1)) (hsg := (segsIn_one ⟨(hst.slm 4 rfl (hG _ (List.mem_cons_self ..)).1), (hst.slm 4 rfl (hG _ (List.mem_cons_self ..)).2)⟩)) (hso := (ok_one hok)) (hl1 := rfl) (nid0 := (by omega)) (k0 := (by omega)) (nid1 := (by omega)) (k1 := (by omega))) ?_)))))
    rintro _ w72 ⟨r71, rfl, hcall, rRoll_hd⟩
    refine ⟨_, rfl, ?_⟩
    have hst := hst.call hcall
    refine s_cons (op_move (.tuple #[(.agg #[(iV r71.d.Id), (iV r71.d.Tier), (iV r71.d.From), (iV r71.d.To), r71.sv.1, r71.av.1]), (iV ((rollS (gd ([sg]) 0).d (((10 * (i : Int)) + (k : Int)) + 2) ((k : Int) + 1)).2))]) rfl (s_cons (op_extract (.agg #[(iV r71.d.Id), (iV r71.d.Tier), (iV r71.d.From), (iV r71.d.To), r71.sv.1, r71.av.1]) rfl rfl (s_cons (op_extract (iV ((rollS (gd ([sg]) 0).d (((10 * (i : Int)) + (k : Int)) + 2) ((k : Int) + 1)).2)) rfl rfl ?_)))))
    refine s_cons0 (op_storeAll hst 4 rfl Try.sizeOf76 q33_16 rfl rfl rfl (oneL_all (l := [(iV r71.d.Id), (iV r71.d.Tier), (iV r71.d.From), (iV r71.d.To), r71.sv.1, r71.av.1]) ⟨rfl, rfl, rfl, rfl, r71.sv.2, r71.av.2, trivial⟩) (fun w73 hst => ?_))
    refine s_nil (block_n (then_n ?_))
    replace hst := hst.front 1 rfl
    replace hst := hst.front 1 rfl
    replace hst := hst.front 5 rfl
    replace hst := hst.front 5 rfl
    replace hst := hst.front 5 rfl
    replace hst := hst.front 5 rfl
    obtain ⟨fr74, ef75⟩ : ∃ x : List Item, x = (rowT 51 sampE r71.sv.1 r71.d.Samples :: rowT 29 aggE r71.av.1 r71.d.Aggs :: fq) := ⟨_, rfl⟩
    replace hst : St w0 w73 (rowT 76 segE v69 ([sg]) :: rowT 76 segE vm zs :: .blk g26 76 #[(iV r71.d.Id), (iV r71.d.Tier), (iV r71.d.From), (iV r71.d.To), r71.sv.1, r71.av.1] :: rowT 51 sampE v29 ((rowM steps values mask i).all ++ (mk0 steps values i (rowM steps values mask i).to).Samples) :: fr74) := by rw [ef75]; exact hst
    have hG : Frz 51 29 fr74 (r71 :: zs) := (Frz.mono (hG.sub (by exact fun x h => List.mem_cons_of_mem _ h)) (fun x h => by rw [ef75]; exact List.mem_cons_of_mem _ (List.mem_cons_of_mem _ h))).cons (by rw [ef75]; exact List.mem_cons_self ..) (by rw [ef75]; exact List.mem_cons_of_mem _ (List.mem_cons_self ..))
    refine cE_region rfl (s_cons (op_move (iV (k : Int)) q33_18 (s_cons (op_add (k := .i64) (a := (k : Int)) (b := 1) ((k : Int) + 1) rfl rfl (xi64 (by omega) (by omega)) (s_cons (op_assign (iV ((k : Int) + 1)) rfl (s_nil (then_n ?_))))))))
    exact ⟨_, ⟨vm, zs, r71, fr74, (k + 1), rfl, q33_0, q33_1, q33_2, q33_3, q33_8, q33_9, q33_11, q33_12, q33_13, q33_14, q33_15, q33_16, q33_17, q33_10, (congrArg iV (show ((k : Int) + 1) = _ from by omega)), (hst.sub (.cons _ (.cons_cons _ (.cons_cons _ (.cons_cons _ (List.Sublist.refl _)))))), (by omega), (by exact tiers_no hz hb), (by exact up_step hsg rRoll_hd (by omega)), (by exact rRoll_hd ▸ roll_okD hok (by omega) (by omega) (by omega) (by omega)), (by assumption)⟩, (by simp only [id]; omega)⟩
   have c76 := of_decide_eq_false b67
   refine cE_cond false (congrArg Value.bool b67) (fun h => by cases h) (fun _ => ?_)
   refine cE_skip (block_n (then_n (cE_region rfl (s_cons (op_move (iV (k : Int)) q33_18 (s_cons (op_add (k := .i64) (a := (k : Int)) (b := 1) ((k : Int) + 1) rfl rfl (xi64 (by omega) (by omega)) (s_cons (op_assign (iV ((k : Int) + 1)) rfl (s_nil (then_n ?_)))))))))))
   exact ⟨_, ⟨vm, zs, sg, fq, (k + 1), rfl, q33_0, q33_1, q33_2, q33_3, q33_8, q33_9, q33_11, q33_12, q33_13, q33_14, q33_15, q33_16, q33_17, q33_10, (congrArg iV (show ((k : Int) + 1) = _ from by omega)), hst, (by omega), (by exact tiers_no hz hb), (by exact up_same hsg (by omega)), (by exact hok), (by assumption)⟩, (by simp only [id]; omega)⟩
  have c77 := of_decide_eq_false b37
  refine cE_cond false (congrArg Value.bool b37) (fun h => by cases h) (fun _ => ?_)
  refine cE_exit (then_x (then_x (block_hit (then_n ?_))))
  have hs3 : sg.d = upS (mk0 steps values i (rowM steps values mask i).to) i 3 := by rw [hsg, show min k 3 = 3 by omega]
  refine cE_region rfl (s_cons (op_fieldAddr (s := 0) Try.underlying76 rfl rfl Try.sizeOf2 q33_16 (s_cons (op_load1 (u := (iV sg.d.To)) Try.isAgg2 rfl ((hst.cell 1 rfl).drop 3) (s_cons (op_assign (iV sg.d.To) rfl (s_nil (block_n (then_n ?_)))))))))
  replace hst : St w0 w36 (rowT 76 segE vm zs :: .blk g26 76 #[(iV sg.d.Id), (iV sg.d.Tier), (iV sg.d.From), (iV sg.d.To), sg.sv.1, sg.av.1] :: rowT 51 sampE v29 ((rowM steps values mask (i + 1)).all) :: fq) := by rw [(show (rowM steps values mask i).all ++ (mk0 steps values i (rowM steps values mask i).to).Samples = (rowM steps values mask (i + 1)).all from rfl)] at hst; exact hst
  refine cE_region rfl (s_cons (op_move (iV (i : Int)) q33_13 (s_cons (op_add (k := .i64) (a := (i : Int)) (b := 1) ((i : Int) + 1) rfl rfl (xi64 (by omega) (by omega)) (s_cons (op_assign (iV ((i : Int) + 1)) rfl (s_nil (then_n ?_))))))))
  replace hst := hst.front 2 rfl
  exact ⟨_, ⟨vm, v29, zs, fq, (i + 1), rfl, q33_0, q33_1, q33_2, q33_3, q33_8, q33_9, q33_10, q33_11, (congrArg iV (show sg.d.To = _ from (by (rw [hs3]; rfl)))), (congrArg iV (show ((i : Int) + 1) = _ from by omega)), (hst.sub (.cons_cons _ (.cons_cons _ (.cons _ (List.Sublist.refl _))))), (by omega), (by exact row_next hz (by omega)), (by exact hG.sub (fun x h => List.mem_cons_of_mem _ h))⟩, (by simp only [id]; omega)⟩
 have c78 := of_decide_eq_false b5
 refine cE_cond false (congrArg Value.bool b5) (fun h => by cases h) (fun _ => ?_)
 refine cE_exit (then_x (then_x (block_hit (then_n (cE_seq ?_)))))
 have hiN : i = (1 + (n % 18446744073709551616 % 4).toNat) := by omega
 refine cE_region rfl (s_cons (op_move vl q1_10 (s_cons (op_move va q1_11 (s_cons (op_assign vl rfl (s_cons (op_assign va rfl (s_nil (then_n (cE_ret (post_r _ (res2 (v := vl) rfl (x := va) rfl) ?_))))))))))))
 have e79 : (rowM steps values mask i).all = (rowM steps values mask (1 + (n % 18446744073709551616 % 4).toNat)).all := by rw [hiN]
 replace hst : St w0 w4 (rowT 51 sampE va ((rowM steps values mask (1 + (n % 18446744073709551616 % 4).toNat)).all) :: rowT 76 segE vl ys :: fr) := by rw [congrArg (fun l => rowT 51 sampE va l) e79] at hst; exact hst
 replace hst := hst.front 1 rfl
 exact ⟨vl, va, ys, fr, rfl, hst.sub (.cons_cons _ (.cons_cons _ (List.Sublist.refl _))), (by rw [hys, hiN]), hF⟩

end Go.Proofs.Ytldfnkhccaglmaa
