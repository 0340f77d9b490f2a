/- api.Info] -/
import Derived.Test.YtadnedoecbfojaaOP
import Derived.Test.YtadnedoecbfojaaW28
import Derived.Test.YtadnedoecbfojaaW20
namespace Go.Proofs.Ytadnedoecbfojaa
open Go.RowKit

set_option maxHeartbeats 4000000 in
theorem c_stable {w0 w : World} {L : List Item} (v_xs : Value) (xs : List Info) (n : Nat) (hn : n ≤ xs.length) (hxl : xs.length ≤ 1000000000) (hst : St w0 w (rowT 34 infoE v_xs xs :: L)) :
    Calls Try.prog 28 #[v_xs, (.int .i64 (n : Int)), (.func (.func 24) #[] #[])] w fun e w' => ∃ (qs : List Info), e = .returned (.tuple #[]) ∧ St w0 w' (rowT 34 infoE v_xs qs :: L) ∧ Turned xs qs 0 n ∧ SrtR qs 0 n := by
  refine calls_E (n := 63) (ts := []) Try.func28 rfl rfl rfl (by simp) ?_
  refine cE_seq ?_
  refine cE_region rfl ?_
  refine s_cons (op_assign (.int .i64 20) rfl ?_)
  refine s_nil ?_
  refine then_n ?_
  refine cE_seq ?_
  refine cE_region rfl ?_
  refine s_cons (op_move (.int .i64 20) rfl ?_)
  refine s_cons (op_assign (.int .i64 0) rfl ?_)
  refine s_cons (op_assign (.int .i64 20) rfl ?_)
  refine s_nil ?_
  refine then_n ?_
  refine cE_seq ?_
  refine cE_block ?_
  refine cE_loop (fun (m : Nat) (ρ : Env) (w : World) => ∃ (ys : List Info) (a : Nat), m = n + 20 - a ∧ ρ 1 = (.int .i64 (n : Int)) ∧ ρ 2 = (.func (.func 24) #[] #[]) ∧ ρ 6 = (.int .i64 20) ∧ ρ 0 = v_xs ∧ ρ 7 = (.int .i64 (a : Int)) ∧ ρ 8 = (.int .i64 ((a : Int) + 20)) ∧ St w0 w (rowT 34 infoE v_xs ys :: L) ∧ (a ≤ n) ∧ (Turned xs ys 0 n) ∧ (To ys 20 a)) id _ ⟨xs, 0, rfl, rfl, rfl, rfl, rfl, (congrArg (Value.int .i64) (show 0 = _ from by omega)), (congrArg (Value.int .i64) (show 20 = _ from by omega)), hst, (by omega), (by first | exact turned_refl _ _ _ | exact hT | exact turned_trans hT (turned_wide (by assumption) (by omega) (by omega))), (by first | exact To.nil | exact to_step hTo (by assumption) (by assumption))⟩ ?_
  rintro m2 ρ3 w4 ⟨ys, a, hm2, q1_1, q1_2, q1_6, q1_0, q1_7, q1_8, hst, ha, hT, hTo⟩
  have hyl := hT.1
  refine cE_seq ?_
  refine cE_seq ?_
  refine cE_region rfl ?_
  refine s_cons (op_move (.int .i64 ((a : Int) + 20)) q1_8 ?_)
  refine s_cons (op_move (.int .i64 (n : Int)) q1_1 ?_)
  refine s_cons (op_leq (k := .i64) (a := ((a : Int) + 20)) (b := (n : Int)) rfl rfl ?_)
  refine s_nil ?_
  refine then_n ?_
  rcases Bool.eq_false_or_eq_true (decide (((a : Int) + 20) ≤ (n : Int))) with b5 | b5
  · have c6 : ((a : Int) + 20) ≤ (n : Int) := of_decide_eq_true b5
    refine cE_cond true (congrArg Value.bool b5) (fun _ => ?_) (fun h => by cases h)
    refine cE_skip ?_
    refine then_n ?_
    refine cE_block ?_
    refine cE_seq ?_
    refine cE_region rfl ?_
    refine s_cons (op_move v_xs q1_0 ?_)
    refine s_cons (op_move (.int .i64 (a : Int)) q1_7 ?_)
    refine s_cons (op_move (.int .i64 ((a : Int) + 20)) q1_8 ?_)
    refine s_cons (op_move (.func (.func 24) #[] #[]) q1_2 ?_)
    refine s_cons (op_call Try.call29 (evs_cons (v := v_xs) rfl (evs_cons (v := (.int .i64 (a : Int))) rfl (evs_cons (v := (.int .i64 ((a : Int) + 20))) rfl (evs_cons (v := (.func (.func 24) #[] #[])) rfl evs_nil)))) (c_insertion (v_xs := v_xs) (xs := ys) (a := (a : Int)) (b := ((a : Int) + 20)) (an := a) (bn := (a + 20)) (ha := (by omega)) (hb := (by omega)) (hab := (by omega)) (hbl := (by omega)) (hxl := (by omega)) (hst := hst)) ?_)
    rintro _ w10 ⟨r7, rfl, hcall, x8, x9⟩
    refine ⟨_, rfl, ?_⟩
    have hst : St w0 w10 (rowT 34 infoE v_xs r7 :: L) := hcall
    refine s_nil ?_
    refine then_n ?_
    refine cE_seq ?_
    refine cE_region rfl ?_
    refine s_cons (op_move (.int .i64 ((a : Int) + 20)) q1_8 ?_)
    refine s_cons (op_assign (.int .i64 ((a : Int) + 20)) rfl ?_)
    refine s_nil ?_
    refine then_n ?_
    refine cE_region rfl ?_
    refine s_cons (op_move (.int .i64 ((a : Int) + 20)) q1_8 ?_)
    refine s_cons (op_move (.int .i64 20) q1_6 ?_)
    refine s_cons (op_add (k := .i64) (a := ((a : Int) + 20)) (b := 20) (((a : Int) + 20) + 20) rfl rfl (xi64 (by omega) (by omega)) ?_)
    refine s_cons (op_assign (.int .i64 (((a : Int) + 20) + 20)) rfl ?_)
    refine s_nil ?_
    refine block_n (then_n ?_)
    exact ⟨_, ⟨r7, (a + 20), rfl, q1_1, q1_2, q1_6, q1_0, (congrArg (Value.int .i64) (show ((a : Int) + 20) = _ from by omega)), (congrArg (Value.int .i64) (show (((a : Int) + 20) + 20) = _ from by omega)), hst, (by omega), (by first | exact turned_refl _ _ _ | exact hT | exact turned_trans hT (turned_wide (by assumption) (by omega) (by omega))), (by first | exact To.nil | exact to_step hTo (by assumption) (by assumption))⟩, (by simp only [id]; omega)⟩
  have c11 : ¬ (((a : Int) + 20) ≤ (n : Int)) := of_decide_eq_false b5
  refine cE_cond false (congrArg Value.bool b5) (fun h => by cases h) (fun _ => ?_)
  refine cE_exit ?_
  refine then_x (then_x (block_hit (then_n ?_)))
  refine cE_seq ?_
  refine cE_region rfl ?_
  refine s_cons (op_move v_xs q1_0 ?_)
  refine s_cons (op_move (.int .i64 (a : Int)) q1_7 ?_)
  refine s_cons (op_move (.int .i64 (n : Int)) q1_1 ?_)
  refine s_cons (op_move (.func (.func 24) #[] #[]) q1_2 ?_)
  refine s_cons (op_call Try.call29 (evs_cons (v := v_xs) rfl (evs_cons (v := (.int .i64 (a : Int))) rfl (evs_cons (v := (.int .i64 (n : Int))) rfl (evs_cons (v := (.func (.func 24) #[] #[])) rfl evs_nil)))) (c_insertion (v_xs := v_xs) (xs := ys) (a := (a : Int)) (b := (n : Int)) (an := a) (bn := n) (ha := (by omega)) (hb := (by omega)) (hab := (by omega)) (hbl := (by omega)) (hxl := (by omega)) (hst := hst)) ?_)
  rintro _ w15 ⟨r12, rfl, hcall, x13, x14⟩
  refine ⟨_, rfl, ?_⟩
  have hst : St w0 w15 (rowT 34 infoE v_xs r12 :: L) := hcall
  refine s_nil ?_
  refine then_n ?_
  refine cE_block ?_
  refine cE_loop (fun (m : Nat) (ρ : Env) (w : World) => ∃ (ys : List Info) (B : Nat), m = n - B ∧ ρ 1 = (.int .i64 (n : Int)) ∧ ρ 2 = (.func (.func 24) #[] #[]) ∧ ρ 0 = v_xs ∧ ρ 6 = (.int .i64 (B : Int)) ∧ St w0 w (rowT 34 infoE v_xs ys :: L) ∧ (0 < B) ∧ (B ≤ 2000000000) ∧ (Turned xs ys 0 n) ∧ (Fr ys B n 0)) id _ ⟨r12, 20, rfl, q1_1, q1_2, q1_0, (q1_6.trans (congrArg (Value.int .i64) (show 20 = _ from by omega))), hst, (by omega), (by omega), (by first | exact turned_trans hT (turned_wide (by assumption) (by omega) (by omega)) | exact turned_trans hT2 (turned_wide (by assumption) (by omega) (by omega)) | exact hT2), (by first | exact to_all hTo (by omega) (by omega) (by assumption) (by assumption) | exact fr_wide (hTo.turned (by assumption) (Nat.le_refl _)) (by omega) (by omega) (by assumption) | exact fr_wide hTo (by omega) (by omega) (fr_end1 hF2 (by omega)))⟩ ?_
  rintro m17 ρ18 w19 ⟨ys, B, hm17, q16_1, q16_2, q16_0, q16_6, hst, hB, hB2, hT, hF⟩
  have hyl := hT.1
  refine cE_seq ?_
  refine cE_seq ?_
  refine cE_region rfl ?_
  refine s_cons (op_move (.int .i64 (B : Int)) q16_6 ?_)
  refine s_cons (op_move (.int .i64 (n : Int)) q16_1 ?_)
  refine s_cons (op_lss (k := .i64) (a := (B : Int)) (b := (n : Int)) rfl rfl ?_)
  refine s_nil ?_
  refine then_n ?_
  rcases Bool.eq_false_or_eq_true (decide ((B : Int) < (n : Int))) with b20 | b20
  · have c21 : (B : Int) < (n : Int) := of_decide_eq_true b20
    refine cE_cond true (congrArg Value.bool b20) (fun _ => ?_) (fun h => by cases h)
    refine cE_skip ?_
    refine then_n ?_
    refine cE_block ?_
    refine cE_seq ?_
    refine cE_region rfl ?_
    refine s_cons (op_move (.int .i64 (B : Int)) q16_6 ?_)
    refine s_cons (op_mul (k := .i64) (a := 2) (b := (B : Int)) (2 * (B : Int)) rfl rfl (xi64 (by omega) (by omega)) ?_)
    refine s_cons (op_assign (.int .i64 0) rfl ?_)
    refine s_cons (op_assign (.int .i64 (2 * (B : Int))) rfl ?_)
    refine s_nil ?_
    refine then_n ?_
    refine cE_seq ?_
    refine cE_block ?_
    refine cE_loop (fun (m : Nat) (ρ : Env) (w : World) => ∃ (zs : List Info) (a : Nat), m = n + 2 * B - a ∧ ρ 1 = (.int .i64 (n : Int)) ∧ ρ 2 = (.func (.func 24) #[] #[]) ∧ ρ 6 = (.int .i64 (B : Int)) ∧ ρ 0 = v_xs ∧ ρ 7 = (.int .i64 (a : Int)) ∧ ρ 8 = (.int .i64 ((a + 2 * B : Nat) : Int)) ∧ St w0 w (rowT 34 infoE v_xs zs :: L) ∧ (a ≤ n) ∧ (Turned xs zs 0 n) ∧ (To zs (2 * B) a) ∧ (Fr zs B n a)) id _ ⟨ys, 0, rfl, q16_1, q16_2, q16_6, q16_0, (congrArg (Value.int .i64) (show 0 = _ from by omega)), (congrArg (Value.int .i64) (show (2 * (B : Int)) = _ from by omega)), hst, (by omega), (by first | exact hT | exact turned_trans hT2 (turned_wide (by assumption) (by omega) (by omega))), (by first | exact To.nil | exact to_step hTo (by assumption) (by assumption)), (by first | exact hF | exact fr_step hF2 hB (by omega) (by assumption))⟩ ?_
    rintro m23 ρ24 w25 ⟨zs, a, hm23, q22_1, q22_2, q22_6, q22_0, q22_7, q22_8, hst, ha, hT2, hTo, hF2⟩
    have hzl := hT2.1
    refine cE_seq ?_
    refine cE_seq ?_
    refine cE_region rfl ?_
    refine s_cons (op_move (.int .i64 ((a + 2 * B : Nat) : Int)) q22_8 ?_)
    refine s_cons (op_move (.int .i64 (n : Int)) q22_1 ?_)
    refine s_cons (op_leq (k := .i64) (a := ((a + 2 * B : Nat) : Int)) (b := (n : Int)) rfl rfl ?_)
    refine s_nil ?_
    refine then_n ?_
    rcases Bool.eq_false_or_eq_true (decide (((a + 2 * B : Nat) : Int) ≤ (n : Int))) with b26 | b26
    · have c27 : ((a + 2 * B : Nat) : Int) ≤ (n : Int) := of_decide_eq_true b26
      refine cE_cond true (congrArg Value.bool b26) (fun _ => ?_) (fun h => by cases h)
      refine cE_skip ?_
      refine then_n ?_
      refine cE_block ?_
      refine cE_seq ?_
      refine cE_region rfl ?_
      refine s_cons (op_move v_xs q22_0 ?_)
      refine s_cons (op_move (.int .i64 (a : Int)) q22_7 ?_)
      refine s_cons (op_move (.int .i64 (a : Int)) q22_7 ?_)
      refine s_cons (op_move (.int .i64 (B : Int)) q22_6 ?_)
      refine s_cons (op_add (k := .i64) (a := (a : Int)) (b := (B : Int)) ((a + B : Nat) : Int) rfl rfl (by rw [IntKind.wrap_i64]; omega) ?_)
      refine s_cons (op_move (.int .i64 ((a + 2 * B : Nat) : Int)) q22_8 ?_)
      refine s_cons (op_move (.func (.func 24) #[] #[]) q22_2 ?_)
      refine s_cons (op_call Try.call30 (evs_cons (v := v_xs) rfl (evs_cons (v := (.int .i64 (a : Int))) rfl (evs_cons (v := (.int .i64 ((a + B : Nat) : Int))) rfl (evs_cons (v := (.int .i64 ((a + 2 * B : Nat) : Int))) rfl (evs_cons (v := (.func (.func 24) #[] #[])) rfl evs_nil))))) (c_symMerge (v_xs := v_xs) (xs := zs) (an := a) (mn := (a + B : Nat)) (bn := (a + 2 * B : Nat)) (ham := (by omega)) (hmb := (by omega)) (hbl := (by omega)) (hxl := (by omega)) (hS1 := (fr_two hF2 hB (by omega)).1) (hS2 := (fr_two hF2 hB (by omega)).2.1) (hst := hst)) ?_)
      rintro _ w31 ⟨r28, rfl, hcall, x29, x30⟩
      refine ⟨_, rfl, ?_⟩
      have hst : St w0 w31 (rowT 34 infoE v_xs r28 :: L) := hcall
      refine s_nil ?_
      refine then_n ?_
      refine cE_seq ?_
      refine cE_region rfl ?_
      refine s_cons (op_move (.int .i64 ((a + 2 * B : Nat) : Int)) q22_8 ?_)
      refine s_cons (op_assign (.int .i64 ((a + 2 * B : Nat) : Int)) rfl ?_)
      refine s_nil ?_
      refine then_n ?_
      refine cE_region rfl ?_
      refine s_cons (op_move (.int .i64 ((a + 2 * B : Nat) : Int)) q22_8 ?_)
      refine s_cons (op_move (.int .i64 (B : Int)) q22_6 ?_)
      refine s_cons (op_mul (k := .i64) (a := 2) (b := (B : Int)) (2 * (B : Int)) rfl rfl (xi64 (by omega) (by omega)) ?_)
      refine s_cons (op_add (k := .i64) (a := ((a + 2 * B : Nat) : Int)) (b := (2 * (B : Int))) (((a + 2 * B : Nat) : Int) + (2 * (B : Int))) rfl rfl (xi64 (by omega) (by omega)) ?_)
      refine s_cons (op_assign (.int .i64 (((a + 2 * B : Nat) : Int) + (2 * (B : Int)))) rfl ?_)
      refine s_nil ?_
      refine block_n (then_n ?_)
      exact ⟨_, ⟨r28, (a + 2 * B), rfl, q22_1, q22_2, q22_6, q22_0, (congrArg (Value.int .i64) (show ((a + 2 * B : Nat) : Int) = _ from by omega)), (congrArg (Value.int .i64) (show (((a + 2 * B : Nat) : Int) + (2 * (B : Int))) = _ from by omega)), hst, (by omega), (by first | exact hT | exact turned_trans hT2 (turned_wide (by assumption) (by omega) (by omega))), (by first | exact To.nil | exact to_step hTo (by assumption) (by assumption)), (by first | exact hF | exact fr_step hF2 hB (by omega) (by assumption))⟩, (by simp only [id]; omega)⟩
    have c32 : ¬ (((a + 2 * B : Nat) : Int) ≤ (n : Int)) := of_decide_eq_false b26
    refine cE_cond false (congrArg Value.bool b26) (fun h => by cases h) (fun _ => ?_)
    refine cE_exit ?_
    refine then_x (then_x (block_hit (then_n ?_)))
    refine cE_seq ?_
    refine cE_seq ?_
    refine cE_region rfl ?_
    refine s_cons (op_move (.int .i64 (a : Int)) q22_7 ?_)
    refine s_cons (op_move (.int .i64 (B : Int)) q22_6 ?_)
    refine s_cons (op_add (k := .i64) (a := (a : Int)) (b := (B : Int)) ((a + B : Nat) : Int) rfl rfl (by rw [IntKind.wrap_i64]; omega) ?_)
    refine s_cons (op_assign (.int .i64 ((a + B : Nat) : Int)) rfl ?_)
    refine s_nil ?_
    refine then_n ?_
    refine cE_seq ?_
    refine cE_region rfl ?_
    refine s_cons (op_move (.int .i64 ((a + B : Nat) : Int)) rfl ?_)
    refine s_cons (op_move (.int .i64 (n : Int)) q22_1 ?_)
    refine s_cons (op_lss (k := .i64) (a := ((a + B : Nat) : Int)) (b := (n : Int)) rfl rfl ?_)
    refine s_nil ?_
    refine then_n ?_
    rcases Bool.eq_false_or_eq_true (decide (((a + B : Nat) : Int) < (n : Int))) with b33 | b33
    · have c34 : ((a + B : Nat) : Int) < (n : Int) := of_decide_eq_true b33
      refine cE_cond true (congrArg Value.bool b33) (fun _ => ?_) (fun h => by cases h)
      refine cE_region rfl ?_
      refine s_cons (op_move v_xs q22_0 ?_)
      refine s_cons (op_move (.int .i64 (a : Int)) q22_7 ?_)
      refine s_cons (op_move (.int .i64 ((a + B : Nat) : Int)) rfl ?_)
      refine s_cons (op_move (.int .i64 (n : Int)) q22_1 ?_)
      refine s_cons (op_move (.func (.func 24) #[] #[]) q22_2 ?_)
      refine s_cons (op_call Try.call30 (evs_cons (v := v_xs) rfl (evs_cons (v := (.int .i64 (a : Int))) rfl (evs_cons (v := (.int .i64 ((a + B : Nat) : Int))) rfl (evs_cons (v := (.int .i64 (n : Int))) rfl (evs_cons (v := (.func (.func 24) #[] #[])) rfl evs_nil))))) (c_symMerge (v_xs := v_xs) (xs := zs) (an := a) (mn := (a + B : Nat)) (bn := n) (ham := (by omega)) (hmb := (by omega)) (hbl := (by omega)) (hxl := (by omega)) (hS1 := (fr_end2 hF2 (by omega) (by omega)).1) (hS2 := (fr_end2 hF2 (by omega) (by omega)).2) (hst := hst)) ?_)
      rintro _ w38 ⟨r35, rfl, hcall, x36, x37⟩
      refine ⟨_, rfl, ?_⟩
      have hst : St w0 w38 (rowT 34 infoE v_xs r35 :: L) := hcall
      refine s_nil ?_
      refine then_n ?_
      refine cE_region rfl ?_
      refine s_cons (op_move (.int .i64 (B : Int)) q22_6 ?_)
      refine s_cons (op_mul (k := .i64) (a := (B : Int)) (b := 2) ((B : Int) * 2) rfl rfl (xi64 (by omega) (by omega)) ?_)
      refine s_cons (op_assign (.int .i64 ((B : Int) * 2)) rfl ?_)
      refine s_nil ?_
      refine block_n (then_n ?_)
      exact ⟨_, ⟨r35, (2 * B), rfl, q22_1, q22_2, q22_0, (congrArg (Value.int .i64) (show ((B : Int) * 2) = _ from by omega)), hst, (by omega), (by omega), (by first | exact turned_trans hT (turned_wide (by assumption) (by omega) (by omega)) | exact turned_trans hT2 (turned_wide (by assumption) (by omega) (by omega)) | exact hT2), (by first | exact to_all hTo (by omega) (by omega) (by assumption) (by assumption) | exact fr_wide (hTo.turned (by assumption) (Nat.le_refl _)) (by omega) (by omega) (by assumption) | exact fr_wide hTo (by omega) (by omega) (fr_end1 hF2 (by omega)))⟩, (by simp only [id]; omega)⟩
    have c39 : ¬ (((a + B : Nat) : Int) < (n : Int)) := of_decide_eq_false b33
    refine cE_cond false (congrArg Value.bool b33) (fun h => by cases h) (fun _ => ?_)
    refine cE_skip ?_
    refine then_n ?_
    refine cE_region rfl ?_
    refine s_cons (op_move (.int .i64 (B : Int)) q22_6 ?_)
    refine s_cons (op_mul (k := .i64) (a := (B : Int)) (b := 2) ((B : Int) * 2) rfl rfl (xi64 (by omega) (by omega)) ?_)
    refine s_cons (op_assign (.int .i64 ((B : Int) * 2)) rfl ?_)
    refine s_nil ?_
    refine block_n (then_n ?_)
    exact ⟨_, ⟨zs, (2 * B), rfl, q22_1, q22_2, q22_0, (congrArg (Value.int .i64) (show ((B : Int) * 2) = _ from by omega)), hst, (by omega), (by omega), (by first | exact turned_trans hT (turned_wide (by assumption) (by omega) (by omega)) | exact turned_trans hT2 (turned_wide (by assumption) (by omega) (by omega)) | exact hT2), (by first | exact to_all hTo (by omega) (by omega) (by assumption) (by assumption) | exact fr_wide (hTo.turned (by assumption) (Nat.le_refl _)) (by omega) (by omega) (by assumption) | exact fr_wide hTo (by omega) (by omega) (fr_end1 hF2 (by omega)))⟩, (by simp only [id]; omega)⟩
  have c40 : ¬ ((B : Int) < (n : Int)) := of_decide_eq_false b20
  refine cE_cond false (congrArg Value.bool b20) (fun h => by cases h) (fun _ => ?_)
  refine cE_exit ?_
  refine then_x (then_x (block_hit ?_))
  refine post_n (.tuple #[]) rfl ?_
  exact ⟨ys, rfl, hst.sub (.cons_cons _ (List.Sublist.refl _)), hT, (fr_done hF (by omega))⟩

end Go.Proofs.Ytadnedoecbfojaa
