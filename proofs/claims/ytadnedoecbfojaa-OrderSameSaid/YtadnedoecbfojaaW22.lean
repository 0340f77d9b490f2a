/- api.Info] -/
import Derived.Test.YtadnedoecbfojaaW21
namespace Go.Proofs.Ytadnedoecbfojaa
open Go.RowKit

set_option maxHeartbeats 4000000 in
theorem c_rotate {w0 w : World} {L : List Item} (v_xs : Value) (xs : List Info) (a : Int) (mid : Int) (b : Int) (an : Nat) (mn : Nat) (bn : Nat) (ha : a = (an : Int)) (hm : mid = (mn : Int)) (hb : b = (bn : Int)) (ham : an < mn) (hmb : mn < bn) (hbl : bn ≤ xs.length) (hxl : xs.length ≤ 1000000000) (hst : St w0 w (rowT 34 infoE v_xs xs :: L)) :
    Calls Try.prog 31 #[v_xs, (.int .i64 a), (.int .i64 mid), (.int .i64 b), (.func (.func 24) #[] #[])] w fun e w' => ∃ (qs : List Info), e = .returned (.tuple #[]) ∧ St w0 w' (rowT 34 infoE v_xs qs :: L) ∧ RotR xs qs an mn bn ∧ Turned xs qs an bn := by
  refine calls_E (n := 58) (ts := []) Try.func31 rfl rfl rfl (by simp) ?_
  refine cE_seq ?_
  refine cE_region rfl ?_
  refine s_cons (op_move (.int .i64 mid) rfl ?_)
  refine s_cons (op_move (.int .i64 a) rfl ?_)
  refine s_cons (op_sub (k := .i64) (a := mid) (b := a) (mid - a) rfl rfl (xi64 (by omega) (by omega)) ?_)
  refine s_cons (op_assign (.int .i64 (mid - a)) rfl ?_)
  refine s_nil ?_
  refine then_n ?_
  refine cE_seq ?_
  refine cE_region rfl ?_
  refine s_cons (op_move (.int .i64 b) rfl ?_)
  refine s_cons (op_move (.int .i64 mid) rfl ?_)
  refine s_cons (op_sub (k := .i64) (a := b) (b := mid) (b - mid) rfl rfl (xi64 (by omega) (by omega)) ?_)
  refine s_cons (op_assign (.int .i64 (b - mid)) rfl ?_)
  refine s_nil ?_
  refine then_n ?_
  refine cE_seq ?_
  refine cE_block ?_
  refine cE_loop (fun (m : Nat) (ρ : Env) (w : World) => ∃ (ys : List Info) (i : Nat) (j : Nat), m = i + j ∧ ρ 1 = (.int .i64 a) ∧ ρ 2 = (.int .i64 mid) ∧ ρ 3 = (.int .i64 b) ∧ ρ 4 = (.func (.func 24) #[] #[]) ∧ ρ 0 = v_xs ∧ ρ 10 = (.int .i64 (i : Int)) ∧ ρ 11 = (.int .i64 (j : Int)) ∧ St w0 w (rowT 34 infoE v_xs ys :: L) ∧ (0 < i ∧ an + i ≤ mn) ∧ (0 < j ∧ mn + j ≤ bn) ∧ (Turned xs ys an bn) ∧ (∀ zs, RotR ys zs (mn - i) mn (mn + j) → RotR xs zs an mn bn)) id _ ⟨xs, (mn - an), (bn - mn), rfl, rfl, rfl, rfl, rfl, rfl, (congrArg (Value.int .i64) (show (mid - a) = _ from by omega)), (congrArg (Value.int .i64) (show (b - mid) = _ from by omega)), hst, (by omega), (by omega), (by first | exact turned_refl _ _ _ | exact turned_trans hT (turned_wide (by assumption) (by omega) (by omega))), (by first | exact rot_init (by omega) (by omega) | exact fun zs h => hR zs (rot_big (by omega) (by omega) (by omega) (by assumption) (rot_cast (by omega) h)) | exact fun zs h => hR zs (rot_small (by omega) (by omega) (by omega) (by assumption) h))⟩ ?_
  rintro m2 ρ3 w4 ⟨ys, i, j, hm2, q1_1, q1_2, q1_3, q1_4, q1_0, q1_10, q1_11, hst, hi, hj, hT, hR⟩
  have hyl := hT.1
  refine cE_seq ?_
  refine cE_seq ?_
  refine cE_region rfl ?_
  refine s_cons (op_move (.int .i64 (i : Int)) q1_10 ?_)
  refine s_cons (op_move (.int .i64 (j : Int)) q1_11 ?_)
  refine s_cons (op_neq (k := .i64) (a := (i : Int)) (b := (j : Int)) rfl rfl ?_)
  refine s_nil ?_
  refine then_n ?_
  rcases Bool.eq_false_or_eq_true (decide ((i : Int) = (j : Int))) with b5 | b5
  · have c6 : (i : Int) = (j : Int) := of_decide_eq_true b5
    refine cE_cond false (congrArg Value.bool (congrArg (! ·) b5)) (fun h => by cases h) (fun _ => ?_)
    refine cE_exit ?_
    refine then_x (then_x (block_hit (then_n ?_)))
    refine cE_region rfl ?_
    refine s_cons (op_move v_xs q1_0 ?_)
    refine s_cons (op_move (.int .i64 mid) q1_2 ?_)
    refine s_cons (op_move (.int .i64 (i : Int)) q1_10 ?_)
    refine s_cons (op_sub (k := .i64) (a := mid) (b := (i : Int)) (mid - (i : Int)) rfl rfl (xi64 (by omega) (by omega)) ?_)
    refine s_cons (op_move (.int .i64 mid) q1_2 ?_)
    refine s_cons (op_move (.int .i64 (i : Int)) q1_10 ?_)
    refine s_cons (op_move (.func (.func 24) #[] #[]) q1_4 ?_)
    refine s_cons (op_call Try.call32 (evs_cons (v := v_xs) rfl (evs_cons (v := (.int .i64 (mid - (i : Int)))) rfl (evs_cons (v := (.int .i64 mid)) rfl (evs_cons (v := (.int .i64 (i : Int))) rfl (evs_cons (v := (.func (.func 24) #[] #[])) rfl evs_nil))))) (c_swapRange (v_xs := v_xs) (xs := ys) (a := (mid - (i : Int))) (b := mid) (n := (i : Int)) (an := (mn - i)) (bn := mn) (nn := i) (ha := (by omega)) (hb := (by omega)) (hn := (by omega)) (hab := (by omega)) (hbl := (by omega)) (hxl := (by omega)) (hst := hst)) ?_)
    rintro _ w10 ⟨r7, rfl, hcall, x8, x9⟩
    refine ⟨_, rfl, ?_⟩
    have hst : St w0 w10 (rowT 34 infoE v_xs r7 :: L) := hcall
    refine s_nil ?_
    refine post_n (.tuple #[]) rfl ?_
    exact ⟨r7, rfl, hst.sub (.cons_cons _ (List.Sublist.refl _)), (hR _ (rot_fin (by omega) (by omega) (by assumption))), (turned_trans hT (turned_wide (by assumption) (by omega) (by omega)))⟩
  have c11 : ¬ ((i : Int) = (j : Int)) := of_decide_eq_false b5
  refine cE_cond true (congrArg Value.bool (congrArg (! ·) b5)) (fun _ => ?_) (fun h => by cases h)
  refine cE_skip ?_
  refine then_n ?_
  refine cE_block ?_
  refine cE_seq ?_
  refine cE_region rfl ?_
  refine s_cons (op_move (.int .i64 (i : Int)) q1_10 ?_)
  refine s_cons (op_move (.int .i64 (j : Int)) q1_11 ?_)
  refine s_cons (op_gtr (k := .i64) (a := (i : Int)) (b := (j : Int)) rfl rfl ?_)
  refine s_nil ?_
  refine then_n ?_
  rcases Bool.eq_false_or_eq_true (decide ((j : Int) < (i : Int))) with b12 | b12
  · have c13 : (j : Int) < (i : Int) := of_decide_eq_true b12
    refine cE_cond true (congrArg Value.bool b12) (fun _ => ?_) (fun h => by cases h)
    refine cE_seq ?_
    refine cE_region rfl ?_
    refine s_cons (op_move v_xs q1_0 ?_)
    refine s_cons (op_move (.int .i64 mid) q1_2 ?_)
    refine s_cons (op_move (.int .i64 (i : Int)) q1_10 ?_)
    refine s_cons (op_sub (k := .i64) (a := mid) (b := (i : Int)) (mid - (i : Int)) rfl rfl (xi64 (by omega) (by omega)) ?_)
    refine s_cons (op_move (.int .i64 mid) q1_2 ?_)
    refine s_cons (op_move (.int .i64 (j : Int)) q1_11 ?_)
    refine s_cons (op_move (.func (.func 24) #[] #[]) q1_4 ?_)
    refine s_cons (op_call Try.call32 (evs_cons (v := v_xs) rfl (evs_cons (v := (.int .i64 (mid - (i : Int)))) rfl (evs_cons (v := (.int .i64 mid)) rfl (evs_cons (v := (.int .i64 (j : Int))) rfl (evs_cons (v := (.func (.func 24) #[] #[])) rfl evs_nil))))) (c_swapRange (v_xs := v_xs) (xs := ys) (a := (mid - (i : Int))) (b := mid) (n := (j : Int)) (an := (mn - i)) (bn := mn) (nn := j) (ha := (by omega)) (hb := (by omega)) (hn := (by omega)) (hab := (by omega)) (hbl := (by omega)) (hxl := (by omega)) (hst := hst)) ?_)
    rintro _ w17 ⟨r14, rfl, hcall, x15, x16⟩
    refine ⟨_, rfl, ?_⟩
    have hst : St w0 w17 (rowT 34 infoE v_xs r14 :: L) := hcall
    refine s_nil ?_
    refine then_n ?_
    refine cE_region rfl ?_
    refine s_cons (op_move (.int .i64 (i : Int)) q1_10 ?_)
    refine s_cons (op_move (.int .i64 (j : Int)) q1_11 ?_)
    refine s_cons (op_sub (k := .i64) (a := (i : Int)) (b := (j : Int)) ((i : Int) - (j : Int)) rfl rfl (xi64 (by omega) (by omega)) ?_)
    refine s_cons (op_assign (.int .i64 ((i : Int) - (j : Int))) rfl ?_)
    refine s_nil ?_
    refine block_n (then_n ?_)
    exact ⟨_, ⟨r14, (i - j), j, rfl, q1_1, q1_2, q1_3, q1_4, q1_0, (congrArg (Value.int .i64) (show ((i : Int) - (j : Int)) = _ from by omega)), q1_11, hst, (by omega), (by omega), (by first | exact turned_refl _ _ _ | exact turned_trans hT (turned_wide (by assumption) (by omega) (by omega))), (by first | exact rot_init (by omega) (by omega) | exact fun zs h => hR zs (rot_big (by omega) (by omega) (by omega) (by assumption) (rot_cast (by omega) h)) | exact fun zs h => hR zs (rot_small (by omega) (by omega) (by omega) (by assumption) h))⟩, (by simp only [id]; omega)⟩
  have c18 : ¬ ((j : Int) < (i : Int)) := of_decide_eq_false b12
  refine cE_cond false (congrArg Value.bool b12) (fun h => by cases h) (fun _ => ?_)
  refine cE_seq ?_
  refine cE_region rfl ?_
  refine s_cons (op_move v_xs q1_0 ?_)
  refine s_cons (op_move (.int .i64 mid) q1_2 ?_)
  refine s_cons (op_move (.int .i64 (i : Int)) q1_10 ?_)
  refine s_cons (op_sub (k := .i64) (a := mid) (b := (i : Int)) (mid - (i : Int)) rfl rfl (xi64 (by omega) (by omega)) ?_)
  refine s_cons (op_move (.int .i64 mid) q1_2 ?_)
  refine s_cons (op_move (.int .i64 (j : Int)) q1_11 ?_)
  refine s_cons (op_add (k := .i64) (a := mid) (b := (j : Int)) (mid + (j : Int)) rfl rfl (xi64 (by omega) (by omega)) ?_)
  refine s_cons (op_move (.int .i64 (i : Int)) q1_10 ?_)
  refine s_cons (op_sub (k := .i64) (a := (mid + (j : Int))) (b := (i : Int)) ((mid + (j : Int)) - (i : Int)) rfl rfl (xi64 (by omega) (by omega)) ?_)
  refine s_cons (op_move (.int .i64 (i : Int)) q1_10 ?_)
  refine s_cons (op_move (.func (.func 24) #[] #[]) q1_4 ?_)
  refine s_cons (op_call Try.call32 (evs_cons (v := v_xs) rfl (evs_cons (v := (.int .i64 (mid - (i : Int)))) rfl (evs_cons (v := (.int .i64 ((mid + (j : Int)) - (i : Int)))) rfl (evs_cons (v := (.int .i64 (i : Int))) rfl (evs_cons (v := (.func (.func 24) #[] #[])) rfl evs_nil))))) (c_swapRange (v_xs := v_xs) (xs := ys) (a := (mid - (i : Int))) (b := ((mid + (j : Int)) - (i : Int))) (n := (i : Int)) (an := (mn - i)) (bn := (mn + j - i)) (nn := i) (ha := (by omega)) (hb := (by omega)) (hn := (by omega)) (hab := (by omega)) (hbl := (by omega)) (hxl := (by omega)) (hst := hst)) ?_)
  rintro _ w22 ⟨r19, rfl, hcall, x20, x21⟩
  refine ⟨_, rfl, ?_⟩
  have hst : St w0 w22 (rowT 34 infoE v_xs r19 :: L) := hcall
  refine s_nil ?_
  refine then_n ?_
  refine cE_region rfl ?_
  refine s_cons (op_move (.int .i64 (j : Int)) q1_11 ?_)
  refine s_cons (op_move (.int .i64 (i : Int)) q1_10 ?_)
  refine s_cons (op_sub (k := .i64) (a := (j : Int)) (b := (i : Int)) ((j : Int) - (i : Int)) rfl rfl (xi64 (by omega) (by omega)) ?_)
  refine s_cons (op_assign (.int .i64 ((j : Int) - (i : Int))) rfl ?_)
  refine s_nil ?_
  refine block_n (then_n ?_)
  exact ⟨_, ⟨r19, i, (j - i), rfl, q1_1, q1_2, q1_3, q1_4, q1_0, q1_10, (congrArg (Value.int .i64) (show ((j : Int) - (i : Int)) = _ from by omega)), hst, (by omega), (by omega), (by first | exact turned_refl _ _ _ | exact turned_trans hT (turned_wide (by assumption) (by omega) (by omega))), (by first | exact rot_init (by omega) (by omega) | exact fun zs h => hR zs (rot_big (by omega) (by omega) (by omega) (by assumption) (rot_cast (by omega) h)) | exact fun zs h => hR zs (rot_small (by omega) (by omega) (by omega) (by assumption) h))⟩, (by simp only [id]; omega)⟩

end Go.Proofs.Ytadnedoecbfojaa
