/- api.Info] -/
import Derived.Test.YtadnedoecbfojaaON
import Derived.Test.YtadnedoecbfojaaW22
namespace Go.Proofs.Ytadnedoecbfojaa
open Go.RowKit

set_option maxHeartbeats 4000000 in
theorem c_symMerge_rec : ∀ (N : Nat) (w0 w : World) (L : List Item) (v_xs : Value) (xs : List Info) (an : Nat) (mn : Nat) (bn : Nat) (ham : an < mn) (hmb : mn < bn) (hbl : bn ≤ xs.length) (hxl : xs.length ≤ 1000000000) (hS1 : SrtR xs an mn) (hS2 : SrtR xs mn bn) (hst : St w0 w (rowT 34 infoE v_xs xs :: L)) (hN : bn - an = N),
    Calls Try.prog 30 #[v_xs, (.int .i64 (an : Int)), (.int .i64 (mn : Int)), (.int .i64 (bn : Int)), (.func (.func 24) #[] #[])] w fun e w' => ∃ (qs : List Info), e = .returned (.tuple #[]) ∧ St w0 w' (rowT 34 infoE v_xs qs :: L) ∧ Turned xs qs an bn ∧ SrtR qs an bn := by
  intro N
  refine Nat.strongRecOn N ?_
  clear N
  intro N ih w0 w L v_xs xs an mn bn ham hmb hbl hxl hS1 hS2 hst hN
  refine calls_E (n := 220) (ts := []) Try.func30 rfl rfl rfl (by simp) ?_
  refine cE_seq ?_
  refine cE_seq ?_
  refine cE_region rfl ?_
  refine s_cons (op_move (.int .i64 (mn : Int)) rfl ?_)
  refine s_cons (op_move (.int .i64 (an : Int)) rfl ?_)
  refine s_cons (op_sub (k := .i64) (a := (mn : Int)) (b := (an : Int)) ((mn : Int) - (an : Int)) rfl rfl (xi64 (by omega) (by omega)) ?_)
  refine s_cons (op_eql (k := .i64) (a := ((mn : Int) - (an : Int))) (b := 1) rfl rfl ?_)
  refine s_nil ?_
  refine then_n ?_
  rcases Bool.eq_false_or_eq_true (decide (((mn : Int) - (an : Int)) = 1)) with b1 | b1
  · have c2 : ((mn : Int) - (an : Int)) = 1 := of_decide_eq_true b1
    refine cE_cond true (congrArg Value.bool b1) (fun _ => ?_) (fun h => by cases h)
    refine cE_seq ?_
    refine cE_region rfl ?_
    refine s_cons (op_move (.int .i64 (mn : Int)) rfl ?_)
    refine s_cons (op_assign (.int .i64 (mn : Int)) rfl ?_)
    refine s_nil ?_
    refine then_n ?_
    refine cE_seq ?_
    refine cE_region rfl ?_
    refine s_cons (op_move (.int .i64 (bn : Int)) rfl ?_)
    refine s_cons (op_assign (.int .i64 (bn : Int)) rfl ?_)
    refine s_nil ?_
    refine then_n ?_
    refine cE_seq ?_
    refine cE_block ?_
    refine cE_loop (fun (m : Nat) (ρ : Env) (w : World) => ∃ (i : Nat) (j : Nat), m = j - i ∧ ρ 0 = v_xs ∧ ρ 1 = (.int .i64 (an : Int)) ∧ ρ 2 = (.int .i64 (mn : Int)) ∧ ρ 3 = (.int .i64 (bn : Int)) ∧ ρ 4 = (.func (.func 24) #[] #[]) ∧ ρ 10 = (.int .i64 (i : Int)) ∧ ρ 11 = (.int .i64 (j : Int)) ∧ St w0 w (rowT 34 infoE v_xs xs :: L) ∧ (mn ≤ i ∧ i ≤ j ∧ j ≤ bn) ∧ (i = mn ∨ AhI xs (i - 1) an) ∧ (j = bn ∨ LeI xs an j)) id _ ⟨mn, bn, rfl, rfl, rfl, rfl, rfl, rfl, rfl, rfl, hst, (by omega), (by first | exact Or.inl rfl | exact hL | exact Or.inr (ahI_at (by assumption) (by omega) rfl)), (by first | exact Or.inl rfl | exact hR | exact Or.inr (leI_at (by assumption) rfl rfl))⟩ ?_
    rintro m4 ρ5 w6 ⟨i, j, hm4, q3_0, q3_1, q3_2, q3_3, q3_4, q3_10, q3_11, hst, hb, hL, hR⟩
    refine cE_seq ?_
    refine cE_seq ?_
    refine cE_region rfl ?_
    refine s_cons (op_move (.int .i64 (i : Int)) q3_10 ?_)
    refine s_cons (op_move (.int .i64 (j : Int)) q3_11 ?_)
    refine s_cons (op_lss (k := .i64) (a := (i : Int)) (b := (j : Int)) rfl rfl ?_)
    refine s_nil ?_
    refine then_n ?_
    rcases Bool.eq_false_or_eq_true (decide ((i : Int) < (j : Int))) with b7 | b7
    · have c8 : (i : Int) < (j : Int) := of_decide_eq_true b7
      refine cE_cond true (congrArg Value.bool b7) (fun _ => ?_) (fun h => by cases h)
      refine cE_skip ?_
      refine then_n ?_
      refine cE_block ?_
      refine cE_seq ?_
      refine cE_region rfl ?_
      refine s_cons (op_move (.int .i64 (i : Int)) q3_10 ?_)
      refine s_cons (op_move (.int .i64 (j : Int)) q3_11 ?_)
      refine s_cons (op_add (k := .i64) (a := (i : Int)) (b := (j : Int)) ((i : Int) + (j : Int)) rfl rfl (xi64 (by omega) (by omega)) ?_)
      refine s_cons (op_conv (k := .i64) (a := ((i : Int) + (j : Int))) ((i : Int) + (j : Int)) Try.underlying31 (by rw [Try.underlying3]; rfl) rfl (xu64 (by omega) (by omega)) ?_)
      obtain ⟨h, hh⟩ : ∃ x : Nat, x = (i + j) / 2 := ⟨_, rfl⟩
      refine s_cons (op_shr (k := .u64) (k' := .u64) (a := ((i : Int) + (j : Int))) (b := 1) (h : Int) rfl rfl (by omega) (by simp [IntKind.bits]; try omega) (half_eq hh) ?_)
      refine s_cons (op_conv (k := .u64) (a := (h : Int)) (h : Int) Try.underlying3 (by rw [Try.underlying31]; rfl) rfl (xi64 (by omega) (by omega)) ?_)
      refine s_cons (op_assign (.int .i64 (h : Int)) rfl ?_)
      refine s_nil ?_
      refine then_n ?_
      refine cE_seq ?_
      refine cE_regionL hst [[(4, none)], [(0, none)], [(12, none)], [(41, some 1), (42, some 2)], [(43, some 3)], [(0, none)], [(1, none)], [(45, some 5), (46, some 6)], [(47, some 7)], [(40, some 0), (44, some 4), (48, some 8)], [(49, some 9)]] [(rEq (.func (.func 24) #[] #[])), (rEq v_xs), (rEq (.int .i64 (h : Int))), (rPt [(.int .i64 ((xs[h]'(by first | omega | (simp only [List.length_set]; omega))).Id)), (.int .i64 ((xs[h]'(by first | omega | (simp only [List.length_set]; omega))).Tier)), (.int .i64 ((xs[h]'(by first | omega | (simp only [List.length_set]; omega))).From)), (.int .i64 ((xs[h]'(by first | omega | (simp only [List.length_set]; omega))).To)), (.int .u32 ((xs[h]'(by first | omega | (simp only [List.length_set]; omega))).Sum))]), (rEq (.agg #[(.int .i64 ((xs[h]'(by first | omega | (simp only [List.length_set]; omega))).Id)), (.int .i64 ((xs[h]'(by first | omega | (simp only [List.length_set]; omega))).Tier)), (.int .i64 ((xs[h]'(by first | omega | (simp only [List.length_set]; omega))).From)), (.int .i64 ((xs[h]'(by first | omega | (simp only [List.length_set]; omega))).To)), (.int .u32 ((xs[h]'(by first | omega | (simp only [List.length_set]; omega))).Sum))])), (rEq v_xs), (rEq (.int .i64 (an : Int))), (rPt [(.int .i64 ((xs[an]'(by first | omega | (simp only [List.length_set]; omega))).Id)), (.int .i64 ((xs[an]'(by first | omega | (simp only [List.length_set]; omega))).Tier)), (.int .i64 ((xs[an]'(by first | omega | (simp only [List.length_set]; omega))).From)), (.int .i64 ((xs[an]'(by first | omega | (simp only [List.length_set]; omega))).To)), (.int .u32 ((xs[an]'(by first | omega | (simp only [List.length_set]; omega))).Sum))]), (rEq (.agg #[(.int .i64 ((xs[an]'(by first | omega | (simp only [List.length_set]; omega))).Id)), (.int .i64 ((xs[an]'(by first | omega | (simp only [List.length_set]; omega))).Tier)), (.int .i64 ((xs[an]'(by first | omega | (simp only [List.length_set]; omega))).From)), (.int .i64 ((xs[an]'(by first | omega | (simp only [List.length_set]; omega))).To)), (.int .u32 ((xs[an]'(by first | omega | (simp only [List.length_set]; omega))).Sum))])), (rEq (.int .i64 (cmpB (xs[h]'(by first | omega | (simp only [List.length_set]; omega))) (xs[an]'(by first | omega | (simp only [List.length_set]; omega)))))), (rEq (.bool (decide ((cmpB (xs[h]'(by first | omega | (simp only [List.length_set]; omega))) (xs[an]'(by first | omega | (simp only [List.length_set]; omega)))) < 0))))] (by kernel_rfl) rfl (by kernel_rfl) ⟨sEq, sEq, sEq, sPt, sEq, sEq, sEq, sPt, sEq, sEq, sEq, trivial⟩ ⟨?_, ?_, ?_, ?_, ?_, ?_, ?_, ?_, ?_, ?_, ?_, trivial⟩ ?_
      · rintro ρ16 w17 hj18 ⟨f4, _⟩
        have hst := hj18.2
        exact go_plain (op_move (.func (.func 24) #[] #[]) (f4.trans q3_4) (kS hj18 rfl))
      · rintro ρ19 w20 hj21 ⟨f0, _⟩
        have hst := hj21.2
        exact go_plain (op_move v_xs (f0.trans q3_0) (kS hj21 rfl))
      · rintro ρ22 w23 hj24 ⟨f12, _⟩
        have hst := hj24.2
        exact go_plain (op_move (.int .i64 (h : Int)) (f12.trans rfl) (kS hj24 rfl))
      · rintro ρ25 w26 hj27 ⟨f41, f42, _⟩
        have hst := hj27.2
        refine go_plain (op_indexAddrN (E := infoE) (xs := xs) h Try.underlying22 Try.sizeOf34 f41 (hst.sl 0 rfl) f42 (by omega) (by first | omega | (simp only [List.length_set]; omega)) (fun a28 o29 p30 => ?_))
        exact kS hj27 ⟨_, _, rfl, p30⟩
      · rintro ρ31 w32 hj33 ⟨f43, _⟩
        have hst := hj33.2
        obtain ⟨a34, o35, e36, p37⟩ := f43
        exact go_plain (op_loadN (cs := [(.int .i64 ((xs[h]'(by first | omega | (simp only [List.length_set]; omega))).Id)), (.int .i64 ((xs[h]'(by first | omega | (simp only [List.length_set]; omega))).Tier)), (.int .i64 ((xs[h]'(by first | omega | (simp only [List.length_set]; omega))).From)), (.int .i64 ((xs[h]'(by first | omega | (simp only [List.length_set]; omega))).To)), (.int .u32 ((xs[h]'(by first | omega | (simp only [List.length_set]; omega))).Sum))]) Try.isAgg34 Try.sizeOf34 e36 (Pt.of p37 rfl) rfl (kS hj33 rfl))
      · rintro ρ38 w39 hj40 ⟨f0, _⟩
        have hst := hj40.2
        exact go_plain (op_move v_xs (f0.trans q3_0) (kS hj40 rfl))
      · rintro ρ41 w42 hj43 ⟨f1, _⟩
        have hst := hj43.2
        exact go_plain (op_move (.int .i64 (an : Int)) (f1.trans q3_1) (kS hj43 rfl))
      · rintro ρ44 w45 hj46 ⟨f45, f46, _⟩
        have hst := hj46.2
        refine go_plain (op_indexAddrN (E := infoE) (xs := xs) an Try.underlying22 Try.sizeOf34 f45 (hst.sl 0 rfl) f46 (by omega) (by first | omega | (simp only [List.length_set]; omega)) (fun a47 o48 p49 => ?_))
        exact kS hj46 ⟨_, _, rfl, p49⟩
      · rintro ρ50 w51 hj52 ⟨f47, _⟩
        have hst := hj52.2
        obtain ⟨a53, o54, e55, p56⟩ := f47
        exact go_plain (op_loadN (cs := [(.int .i64 ((xs[an]'(by first | omega | (simp only [List.length_set]; omega))).Id)), (.int .i64 ((xs[an]'(by first | omega | (simp only [List.length_set]; omega))).Tier)), (.int .i64 ((xs[an]'(by first | omega | (simp only [List.length_set]; omega))).From)), (.int .i64 ((xs[an]'(by first | omega | (simp only [List.length_set]; omega))).To)), (.int .u32 ((xs[an]'(by first | omega | (simp only [List.length_set]; omega))).Sum))]) Try.isAgg34 Try.sizeOf34 e55 (Pt.of p56 rfl) rfl (kS hj52 rfl))
      · rintro ρ57 w58 hj59 ⟨f40, f44, f48, _⟩
        have hst := hj59.2
        refine go_plain (op_callv (cs := []) Try.call24 f40 (evs_cons (v := (.agg #[(.int .i64 ((xs[h]'(by first | omega | (simp only [List.length_set]; omega))).Id)), (.int .i64 ((xs[h]'(by first | omega | (simp only [List.length_set]; omega))).Tier)), (.int .i64 ((xs[h]'(by first | omega | (simp only [List.length_set]; omega))).From)), (.int .i64 ((xs[h]'(by first | omega | (simp only [List.length_set]; omega))).To)), (.int .u32 ((xs[h]'(by first | omega | (simp only [List.length_set]; omega))).Sum))])) f44 (evs_cons (v := (.agg #[(.int .i64 ((xs[an]'(by first | omega | (simp only [List.length_set]; omega))).Id)), (.int .i64 ((xs[an]'(by first | omega | (simp only [List.length_set]; omega))).Tier)), (.int .i64 ((xs[an]'(by first | omega | (simp only [List.length_set]; omega))).From)), (.int .i64 ((xs[an]'(by first | omega | (simp only [List.length_set]; omega))).To)), (.int .u32 ((xs[an]'(by first | omega | (simp only [List.length_set]; omega))).Sum))])) f48 evs_nil)) (c_cmpB (w0 := w58) (a := (xs[h]'(by first | omega | (simp only [List.length_set]; omega)))) (b := (xs[an]'(by first | omega | (simp only [List.length_set]; omega))))) ?_)
        rintro _ w60 ⟨rfl, hcall⟩
        refine ⟨_, rfl, ?_⟩
        exact kD hj59 hcall rfl
      · rintro ρ61 w62 hj63 ⟨f49, _⟩
        have hst := hj63.2
        exact go_plain (op_lss (k := .i64) (a := (cmpB (xs[h]'(by first | omega | (simp only [List.length_set]; omega))) (xs[an]'(by first | omega | (simp only [List.length_set]; omega))))) (b := 0) f49 rfl (kS hj63 rfl))
      intro ρ64 w65 hbw65 hst hRw65 hkw65
      have uw65_0 : ρ64 0 = v_xs := (hkw65 0 rfl).trans q3_0
      have uw65_1 : ρ64 1 = (.int .i64 (an : Int)) := (hkw65 1 rfl).trans q3_1
      have uw65_2 : ρ64 2 = (.int .i64 (mn : Int)) := (hkw65 2 rfl).trans q3_2
      have uw65_3 : ρ64 3 = (.int .i64 (bn : Int)) := (hkw65 3 rfl).trans q3_3
      have uw65_4 : ρ64 4 = (.func (.func 24) #[] #[]) := (hkw65 4 rfl).trans q3_4
      have uw65_10 : ρ64 10 = (.int .i64 (i : Int)) := (hkw65 10 rfl).trans q3_10
      have uw65_11 : ρ64 11 = (.int .i64 (j : Int)) := (hkw65 11 rfl).trans q3_11
      have uw65_31 : ρ64 31 = (.int .i64 (i : Int)) := (hkw65 31 rfl).trans rfl
      have uw65_32 : ρ64 32 = (.int .i64 (j : Int)) := (hkw65 32 rfl).trans rfl
      have uw65_33 : ρ64 33 = (.bool (decide ((i : Int) < (j : Int)))) := (hkw65 33 rfl).trans rfl
      have uw65_34 : ρ64 34 = (.int .i64 (i : Int)) := (hkw65 34 rfl).trans rfl
      have uw65_35 : ρ64 35 = (.int .i64 (j : Int)) := (hkw65 35 rfl).trans rfl
      have uw65_36 : ρ64 36 = (.int .i64 ((i : Int) + (j : Int))) := (hkw65 36 rfl).trans rfl
      have uw65_37 : ρ64 37 = (.int .u64 ((i : Int) + (j : Int))) := (hkw65 37 rfl).trans rfl
      have uw65_38 : ρ64 38 = (.int .u64 (h : Int)) := (hkw65 38 rfl).trans rfl
      have uw65_39 : ρ64 39 = (.int .i64 (h : Int)) := (hkw65 39 rfl).trans rfl
      have uw65_12 : ρ64 12 = (.int .i64 (h : Int)) := (hkw65 12 rfl).trans rfl
      have uw65_50 : ρ64 50 = (.bool (decide ((cmpB (xs[h]'(by first | omega | (simp only [List.length_set]; omega))) (xs[an]'(by first | omega | (simp only [List.length_set]; omega)))) < 0))) := hRw65 10 50 rfl
      refine then_n ?_
      rcases Bool.eq_false_or_eq_true (decide ((cmpB (xs[h]'(by first | omega | (simp only [List.length_set]; omega))) (xs[an]'(by first | omega | (simp only [List.length_set]; omega)))) < 0)) with b66 | b66
      · have c67 : (cmpB (xs[h]'(by first | omega | (simp only [List.length_set]; omega))) (xs[an]'(by first | omega | (simp only [List.length_set]; omega)))) < 0 := of_decide_eq_true b66
        refine cE_cond true (uw65_50.trans (congrArg Value.bool b66)) (fun _ => ?_) (fun h => by cases h)
        refine cE_region rfl ?_
        refine s_cons (op_move (.int .i64 (h : Int)) uw65_12 ?_)
        refine s_cons (op_add (k := .i64) (a := (h : Int)) (b := 1) ((h : Int) + 1) rfl rfl (xi64 (by omega) (by omega)) ?_)
        refine s_cons (op_assign (.int .i64 ((h : Int) + 1)) rfl ?_)
        refine s_nil ?_
        refine block_n (then_n ?_)
        exact ⟨_, ⟨(h + 1), j, rfl, uw65_0, uw65_1, uw65_2, uw65_3, uw65_4, (congrArg (Value.int .i64) (show ((h : Int) + 1) = _ from by omega)), uw65_11, hst, (by omega), (by first | exact Or.inl rfl | exact hL | exact Or.inr (ahI_at (by assumption) (by omega) rfl)), (by first | exact Or.inl rfl | exact hR | exact Or.inr (leI_at (by assumption) rfl rfl))⟩, (by simp only [id]; omega)⟩
      have c68 : ¬ ((cmpB (xs[h]'(by first | omega | (simp only [List.length_set]; omega))) (xs[an]'(by first | omega | (simp only [List.length_set]; omega)))) < 0) := of_decide_eq_false b66
      refine cE_cond false (uw65_50.trans (congrArg Value.bool b66)) (fun h => by cases h) (fun _ => ?_)
      refine cE_region rfl ?_
      refine s_cons (op_move (.int .i64 (h : Int)) uw65_12 ?_)
      refine s_cons (op_assign (.int .i64 (h : Int)) rfl ?_)
      refine s_nil ?_
      refine block_n (then_n ?_)
      exact ⟨_, ⟨i, h, rfl, uw65_0, uw65_1, uw65_2, uw65_3, uw65_4, uw65_10, rfl, hst, (by omega), (by first | exact Or.inl rfl | exact hL | exact Or.inr (ahI_at (by assumption) (by omega) rfl)), (by first | exact Or.inl rfl | exact hR | exact Or.inr (leI_at (by assumption) rfl rfl))⟩, (by simp only [id]; omega)⟩
    have c69 : ¬ ((i : Int) < (j : Int)) := of_decide_eq_false b7
    refine cE_cond false (congrArg Value.bool b7) (fun h => by cases h) (fun _ => ?_)
    refine cE_exit ?_
    refine then_x (then_x (block_hit (then_n ?_)))
    refine cE_seq ?_
    refine cE_seq ?_
    refine cE_region rfl ?_
    refine s_cons (op_move (.int .i64 (an : Int)) q3_1 ?_)
    refine s_cons (op_assign (.int .i64 (an : Int)) rfl ?_)
    refine s_nil ?_
    refine then_n ?_
    refine cE_block ?_
    refine cE_loop (fun (m : Nat) (ρ : Env) (w : World) => ∃ (ys : List Info) (k : Nat), m = i - k ∧ ρ 1 = (.int .i64 (an : Int)) ∧ ρ 2 = (.int .i64 (mn : Int)) ∧ ρ 3 = (.int .i64 (bn : Int)) ∧ ρ 4 = (.func (.func 24) #[] #[]) ∧ ρ 10 = (.int .i64 (i : Int)) ∧ ρ 11 = (.int .i64 (j : Int)) ∧ ρ 0 = v_xs ∧ ρ 13 = (.int .i64 (k : Int)) ∧ St w0 w (rowT 34 infoE v_xs ys :: L) ∧ (an ≤ k ∧ k < i) ∧ (Turned xs ys an bn) ∧ (Way ys an bn k i)) id _ ⟨xs, an, rfl, q3_1, q3_2, q3_3, q3_4, q3_10, q3_11, q3_0, rfl, hst, (by omega), (by first | exact turned_refl _ _ _ | exact turned_trans hT (swp_turned (by omega) (by omega) ⟨by omega, by omega⟩ ⟨by omega, by omega⟩)), (by first | exact way_up (by omega) hS2 (by omega) (by omega) (by omega) hL (or_at2 hR (by omega)) | exact way_swap hW (by omega) (by omega) (by omega) (by omega) (by omega))⟩ ?_
    rintro m71 ρ72 w73 ⟨ys, k, hm71, q70_1, q70_2, q70_3, q70_4, q70_10, q70_11, q70_0, q70_13, hst, hk, hT, hW⟩
    have hyl := hT.1
    refine cE_seq ?_
    refine cE_seq ?_
    refine cE_region rfl ?_
    refine s_cons (op_move (.int .i64 (k : Int)) q70_13 ?_)
    refine s_cons (op_move (.int .i64 (i : Int)) q70_10 ?_)
    refine s_cons (op_sub (k := .i64) (a := (i : Int)) (b := 1) ((i : Int) - 1) rfl rfl (xi64 (by omega) (by omega)) ?_)
    refine s_cons (op_lss (k := .i64) (a := (k : Int)) (b := ((i : Int) - 1)) rfl rfl ?_)
    refine s_nil ?_
    refine then_n ?_
    rcases Bool.eq_false_or_eq_true (decide ((k : Int) < ((i : Int) - 1))) with b74 | b74
    · have c75 : (k : Int) < ((i : Int) - 1) := of_decide_eq_true b74
      refine cE_cond true (congrArg Value.bool b74) (fun _ => ?_) (fun h => by cases h)
      refine cE_skip ?_
      refine then_n ?_
      refine cE_seq ?_
      refine cE_block ?_
      have hM94 : stabML [15, 17] [(kEq v_xs), (kEq (.int .i64 (k : Int))), (kEq v_xs), (kEq (.int .i64 (k : Int))), (kEq (.int .i64 ((k : Int) + 1))), (kEq v_xs), (kEq (.int .i64 (k : Int))), (kEq (.int .i64 ((k : Int) + 1))), (kPtU [15, 17] [(.int .i64 ((ys[(k + 1)]'(by first | omega | (simp only [List.length_set]; omega))).Id)), (.int .i64 ((ys[(k + 1)]'(by first | omega | (simp only [List.length_set]; omega))).Tier)), (.int .i64 ((ys[(k + 1)]'(by first | omega | (simp only [List.length_set]; omega))).From)), (.int .i64 ((ys[(k + 1)]'(by first | omega | (simp only [List.length_set]; omega))).To)), (.int .u32 ((ys[(k + 1)]'(by first | omega | (simp only [List.length_set]; omega))).Sum))]), (kEq (.agg #[(.int .i64 ((ys[(k + 1)]'(by first | omega | (simp only [List.length_set]; omega))).Id)), (.int .i64 ((ys[(k + 1)]'(by first | omega | (simp only [List.length_set]; omega))).Tier)), (.int .i64 ((ys[(k + 1)]'(by first | omega | (simp only [List.length_set]; omega))).From)), (.int .i64 ((ys[(k + 1)]'(by first | omega | (simp only [List.length_set]; omega))).To)), (.int .u32 ((ys[(k + 1)]'(by first | omega | (simp only [List.length_set]; omega))).Sum))])), (kEq v_xs), (kEq (.int .i64 (k : Int))), (kPtU [15, 17] [(.int .i64 ((ys[k]'(by first | omega | (simp only [List.length_set]; omega))).Id)), (.int .i64 ((ys[k]'(by first | omega | (simp only [List.length_set]; omega))).Tier)), (.int .i64 ((ys[k]'(by first | omega | (simp only [List.length_set]; omega))).From)), (.int .i64 ((ys[k]'(by first | omega | (simp only [List.length_set]; omega))).To)), (.int .u32 ((ys[k]'(by first | omega | (simp only [List.length_set]; omega))).Sum))]), (kEq (.agg #[(.int .i64 ((ys[k]'(by first | omega | (simp only [List.length_set]; omega))).Id)), (.int .i64 ((ys[k]'(by first | omega | (simp only [List.length_set]; omega))).Tier)), (.int .i64 ((ys[k]'(by first | omega | (simp only [List.length_set]; omega))).From)), (.int .i64 ((ys[k]'(by first | omega | (simp only [List.length_set]; omega))).To)), (.int .u32 ((ys[k]'(by first | omega | (simp only [List.length_set]; omega))).Sum))])), (kRow v_xs (k * infoE.size)), kAny, (kRow v_xs ((k + 1) * infoE.size)), kAny] := ⟨mEq, mEq, mEq, mEq, mEq, mEq, mEq, mEq, (mPtUs (by decide)), mEq, mEq, mEq, (mPtUs (by decide)), mEq, mRow, mAny, mRow, mAny, trivial⟩
      refine cE_regionK (fun (D : Nat → Bool) (w : World) => St w0 w L ∧ (D 15 = false → St w0 w (rowT 34 infoE v_xs ys :: L)) ∧ (D 15 = true → D 17 = false → St w0 w (rowT 34 infoE v_xs (ys.set (k) (ys[(k + 1)]'(by first | omega | (simp only [List.length_set]; omega)))) :: L)) ∧ (D 17 = true → St w0 w (rowT 34 infoE v_xs ((ys.set (k) (ys[(k + 1)]'(by first | omega | (simp only [List.length_set]; omega)))).set ((k + 1)) (ys[k]'(by first | omega | (simp only [List.length_set]; omega)))) :: L))) [[(0, none)], [(13, none)], [(0, none)], [(13, none)], [(64, some 3)], [(0, none)], [(13, none)], [(67, some 6)], [(66, some 5), (68, some 7)], [(69, some 8)], [(0, none)], [(13, none)], [(71, some 10), (72, some 11)], [(73, some 12)], [(61, some 0), (62, some 1)], [(75, some 14), (70, some 9)], [(63, some 2), (65, some 4)], [(76, some 16), (74, some 13)]] (RofK [(kEq v_xs), (kEq (.int .i64 (k : Int))), (kEq v_xs), (kEq (.int .i64 (k : Int))), (kEq (.int .i64 ((k : Int) + 1))), (kEq v_xs), (kEq (.int .i64 (k : Int))), (kEq (.int .i64 ((k : Int) + 1))), (kPtU [15, 17] [(.int .i64 ((ys[(k + 1)]'(by first | omega | (simp only [List.length_set]; omega))).Id)), (.int .i64 ((ys[(k + 1)]'(by first | omega | (simp only [List.length_set]; omega))).Tier)), (.int .i64 ((ys[(k + 1)]'(by first | omega | (simp only [List.length_set]; omega))).From)), (.int .i64 ((ys[(k + 1)]'(by first | omega | (simp only [List.length_set]; omega))).To)), (.int .u32 ((ys[(k + 1)]'(by first | omega | (simp only [List.length_set]; omega))).Sum))]), (kEq (.agg #[(.int .i64 ((ys[(k + 1)]'(by first | omega | (simp only [List.length_set]; omega))).Id)), (.int .i64 ((ys[(k + 1)]'(by first | omega | (simp only [List.length_set]; omega))).Tier)), (.int .i64 ((ys[(k + 1)]'(by first | omega | (simp only [List.length_set]; omega))).From)), (.int .i64 ((ys[(k + 1)]'(by first | omega | (simp only [List.length_set]; omega))).To)), (.int .u32 ((ys[(k + 1)]'(by first | omega | (simp only [List.length_set]; omega))).Sum))])), (kEq v_xs), (kEq (.int .i64 (k : Int))), (kPtU [15, 17] [(.int .i64 ((ys[k]'(by first | omega | (simp only [List.length_set]; omega))).Id)), (.int .i64 ((ys[k]'(by first | omega | (simp only [List.length_set]; omega))).Tier)), (.int .i64 ((ys[k]'(by first | omega | (simp only [List.length_set]; omega))).From)), (.int .i64 ((ys[k]'(by first | omega | (simp only [List.length_set]; omega))).To)), (.int .u32 ((ys[k]'(by first | omega | (simp only [List.length_set]; omega))).Sum))]), (kEq (.agg #[(.int .i64 ((ys[k]'(by first | omega | (simp only [List.length_set]; omega))).Id)), (.int .i64 ((ys[k]'(by first | omega | (simp only [List.length_set]; omega))).Tier)), (.int .i64 ((ys[k]'(by first | omega | (simp only [List.length_set]; omega))).From)), (.int .i64 ((ys[k]'(by first | omega | (simp only [List.length_set]; omega))).To)), (.int .u32 ((ys[k]'(by first | omega | (simp only [List.length_set]; omega))).Sum))])), (kRow v_xs (k * infoE.size)), kAny, (kRow v_xs ((k + 1) * infoE.size)), kAny]) (by kernel_rfl) rfl (by kernel_rfl) ⟨hst.drewW.sub (.cons _ (List.Sublist.refl _)), (fun _ => hst.drewW), (fun h => absurd h Bool.false_ne_true), (fun h => absurd h Bool.false_ne_true)⟩ ⟨?_, ?_, ?_, ?_, ?_, ?_, ?_, ?_, ?_, ?_, ?_, ?_, ?_, ?_, ?_, ?_, ?_, ?_, trivial⟩ ?_
      · rintro D96 ρ97 w98 hD99 hE100 hC101 hJ102 hA103 ⟨f0, _⟩
        have hst := hJ102.2.1 (not_yet hD99 (fun hm => (hC101 15 0 hm (by kernel_rfl))))
        replace hst : St w0 w98 (rowT 34 infoE v_xs ys :: L) := hst
        exact go_plain (op_move v_xs (f0.trans q70_0) (kN0 (i := 0) hM94 (by decide) (by exact hJ102) (by exact rfl)))
      · rintro D104 ρ105 w106 hD107 hE108 hC109 hJ110 hA111 ⟨f13, _⟩
        have hst := hJ110.2.1 (not_yet hD107 (fun hm => (hC109 15 1 hm (by kernel_rfl))))
        replace hst : St w0 w106 (rowT 34 infoE v_xs ys :: L) := hst
        exact go_plain (op_move (.int .i64 (k : Int)) (f13.trans q70_13) (kN0 (i := 1) hM94 (by decide) (by exact hJ110) (by exact rfl)))
      · rintro D112 ρ113 w114 hD115 hE116 hC117 hJ118 hA119 ⟨f0, _⟩
        have hst := hJ118.1
        exact go_plain (op_move v_xs (f0.trans q70_0) (kN0 (i := 2) hM94 (by decide) (by exact hJ118) (by exact rfl)))
      · rintro D120 ρ121 w122 hD123 hE124 hC125 hJ126 hA127 ⟨f13, _⟩
        have hst := hJ126.1
        exact go_plain (op_move (.int .i64 (k : Int)) (f13.trans q70_13) (kN0 (i := 3) hM94 (by decide) (by exact hJ126) (by exact rfl)))
      · rintro D128 ρ129 w130 hD131 hE132 hC133 hJ134 hA135 ⟨f64, _⟩
        have hst := hJ134.1
        exact go_plain (op_add (k := .i64) (a := (k : Int)) (b := 1) ((k : Int) + 1) f64 rfl (xi64 (by omega) (by omega)) (kN0 (i := 4) hM94 (by decide) (by exact hJ134) (by exact rfl)))
      · rintro D136 ρ137 w138 hD139 hE140 hC141 hJ142 hA143 ⟨f0, _⟩
        have hst := hJ142.2.1 (not_yet hD139 (fun hm => (hC141 15 5 hm (by kernel_rfl))))
        replace hst : St w0 w138 (rowT 34 infoE v_xs ys :: L) := hst
        exact go_plain (op_move v_xs (f0.trans q70_0) (kN0 (i := 5) hM94 (by decide) (by exact hJ142) (by exact rfl)))
      · rintro D144 ρ145 w146 hD147 hE148 hC149 hJ150 hA151 ⟨f13, _⟩
        have hst := hJ150.2.1 (not_yet hD147 (fun hm => (hC149 15 6 hm (by kernel_rfl))))
        replace hst : St w0 w146 (rowT 34 infoE v_xs ys :: L) := hst
        exact go_plain (op_move (.int .i64 (k : Int)) (f13.trans q70_13) (kN0 (i := 6) hM94 (by decide) (by exact hJ150) (by exact rfl)))
      · rintro D152 ρ153 w154 hD155 hE156 hC157 hJ158 hA159 ⟨f67, _⟩
        have hst := hJ158.2.1 (not_yet hD155 (fun hm => (hC157 15 7 hm (by kernel_rfl))))
        replace hst : St w0 w154 (rowT 34 infoE v_xs ys :: L) := hst
        exact go_plain (op_add (k := .i64) (a := (k : Int)) (b := 1) ((k : Int) + 1) f67 rfl (xi64 (by omega) (by omega)) (kN0 (i := 7) hM94 (by decide) (by exact hJ158) (by exact rfl)))
      · rintro D160 ρ161 w162 hD163 hE164 hC165 hJ166 hA167 ⟨f66, f68, _⟩
        have hst := hJ166.2.1 (not_yet hD163 (fun hm => (hC165 15 8 hm (by kernel_rfl))))
        replace hst : St w0 w162 (rowT 34 infoE v_xs ys :: L) := hst
        refine go_plain (op_indexAddrN (E := infoE) (xs := ys) (k + 1) Try.underlying22 Try.sizeOf34 f66 (hst.sl 0 rfl) f68 (by omega) (by first | omega | (simp only [List.length_set]; omega)) (fun a168 o169 p170 => ?_))
        exact (kN0 (i := 8) hM94 (by decide) (by exact hJ166) (by exact ⟨_, _, rfl, fun _ => p170⟩))
      · rintro D171 ρ172 w173 hD174 hE175 hC176 hJ177 hA178 ⟨f69, _⟩
        have hst := hJ177.2.1 (not_yet hD174 (fun hm => (hC176 15 9 hm (by kernel_rfl))))
        replace hst : St w0 w173 (rowT 34 infoE v_xs ys :: L) := hst
        obtain ⟨a179, o180, e181, p182⟩ := f69
        have p182 := p182 (by intro m hm; simp only [List.mem_cons, List.not_mem_nil, or_false] at hm; rcases hm with rfl | rfl; exact (not_yet hD174 (fun hm => (hC176 15 9 hm (by kernel_rfl)))); exact (not_yet hD174 (fun hm => (hC176 17 9 hm (by kernel_rfl)))))
        exact go_plain (op_loadN (cs := [(.int .i64 ((ys[(k + 1)]'(by first | omega | (simp only [List.length_set]; omega))).Id)), (.int .i64 ((ys[(k + 1)]'(by first | omega | (simp only [List.length_set]; omega))).Tier)), (.int .i64 ((ys[(k + 1)]'(by first | omega | (simp only [List.length_set]; omega))).From)), (.int .i64 ((ys[(k + 1)]'(by first | omega | (simp only [List.length_set]; omega))).To)), (.int .u32 ((ys[(k + 1)]'(by first | omega | (simp only [List.length_set]; omega))).Sum))]) Try.isAgg34 Try.sizeOf34 e181 (Pt.of p182 rfl) rfl (kN0 (i := 9) hM94 (by decide) (by exact hJ177) (by exact rfl)))
      · rintro D183 ρ184 w185 hD186 hE187 hC188 hJ189 hA190 ⟨f0, _⟩
        have hst := hJ189.2.1 (not_yet hD186 (fun hm => (hC188 12 10 (hC188 13 12 (hC188 15 13 hm (by kernel_rfl)) (by kernel_rfl)) (by kernel_rfl))))
        replace hst : St w0 w185 (rowT 34 infoE v_xs ys :: L) := hst
        exact go_plain (op_move v_xs (f0.trans q70_0) (kN0 (i := 10) hM94 (by decide) (by exact hJ189) (by exact rfl)))
      · rintro D191 ρ192 w193 hD194 hE195 hC196 hJ197 hA198 ⟨f13, _⟩
        have hst := hJ197.2.1 (not_yet hD194 (fun hm => (hC196 12 11 (hC196 13 12 (hC196 15 13 hm (by kernel_rfl)) (by kernel_rfl)) (by kernel_rfl))))
        replace hst : St w0 w193 (rowT 34 infoE v_xs ys :: L) := hst
        exact go_plain (op_move (.int .i64 (k : Int)) (f13.trans q70_13) (kN0 (i := 11) hM94 (by decide) (by exact hJ197) (by exact rfl)))
      · rintro D199 ρ200 w201 hD202 hE203 hC204 hJ205 hA206 ⟨f71, f72, _⟩
        have hst := hJ205.2.1 (not_yet hD202 (fun hm => (hC204 13 12 (hC204 15 13 hm (by kernel_rfl)) (by kernel_rfl))))
        replace hst : St w0 w201 (rowT 34 infoE v_xs ys :: L) := hst
        refine go_plain (op_indexAddrN (E := infoE) (xs := ys) k Try.underlying22 Try.sizeOf34 f71 (hst.sl 0 rfl) f72 (by omega) (by first | omega | (simp only [List.length_set]; omega)) (fun a207 o208 p209 => ?_))
        exact (kN0 (i := 12) hM94 (by decide) (by exact hJ205) (by exact ⟨_, _, rfl, fun _ => p209⟩))
      · rintro D210 ρ211 w212 hD213 hE214 hC215 hJ216 hA217 ⟨f73, _⟩
        have hst := hJ216.2.1 (not_yet hD213 (fun hm => (hC215 15 13 hm (by kernel_rfl))))
        replace hst : St w0 w212 (rowT 34 infoE v_xs ys :: L) := hst
        obtain ⟨a218, o219, e220, p221⟩ := f73
        have p221 := p221 (by intro m hm; simp only [List.mem_cons, List.not_mem_nil, or_false] at hm; rcases hm with rfl | rfl; exact (not_yet hD213 (fun hm => (hC215 15 13 hm (by kernel_rfl)))); exact (not_yet hD213 (fun hm => (hC215 17 13 hm (by kernel_rfl)))))
        exact go_plain (op_loadN (cs := [(.int .i64 ((ys[k]'(by first | omega | (simp only [List.length_set]; omega))).Id)), (.int .i64 ((ys[k]'(by first | omega | (simp only [List.length_set]; omega))).Tier)), (.int .i64 ((ys[k]'(by first | omega | (simp only [List.length_set]; omega))).From)), (.int .i64 ((ys[k]'(by first | omega | (simp only [List.length_set]; omega))).To)), (.int .u32 ((ys[k]'(by first | omega | (simp only [List.length_set]; omega))).Sum))]) Try.isAgg34 Try.sizeOf34 e220 (Pt.of p221 rfl) rfl (kN0 (i := 13) hM94 (by decide) (by exact hJ216) (by exact rfl)))
      · rintro D222 ρ223 w224 hD225 hE226 hC227 hJ228 hA229 ⟨f61, f62, _⟩
        have hst := hJ228.2.1 (not_yet hD225 (fun hm => (hC227 15 14 hm (by kernel_rfl))))
        replace hst : St w0 w224 (rowT 34 infoE v_xs ys :: L) := hst
        refine go_plain (op_indexRowN hst 0 rfl k Try.underlying22 Try.sizeOf34 f61 f62 (by omega) (by first | omega | (simp only [List.length_set]; omega)) (fun g234 hb233 p232 => ?_))
        exact (kN0 (i := 14) hM94 (by decide) (by exact hJ228) (by exact ⟨_, hb233, rfl⟩))
      · rintro D235 ρ236 w237 hD238 hE239 hC240 hJ241 hA242 ⟨f75, f70, _⟩
        have hst := hJ241.2.1 hD238
        replace hst : St w0 w237 (rowT 34 infoE v_xs ys :: L) := hst
        obtain ⟨g243, hb245, e244⟩ := f75
        refine go_plain (op_storeRowN (y := (ys[(k + 1)]'(by first | omega | (simp only [List.length_set]; omega)))) hst 0 rfl hb245 Try.sizeOf34 e244 f70 (k) rfl (by first | omega | (simp only [List.length_set]; omega)) rfl (fun w246 hst => ?_))
        replace hst : St w0 w246 (rowT 34 infoE v_xs (ys.set (k) (ys[(k + 1)]'(by first | omega | (simp only [List.length_set]; omega)))) :: L) := hst
        have hI247 : stabIXs 15 [] D235 0 [(kEq v_xs), (kEq (.int .i64 (k : Int))), (kEq v_xs), (kEq (.int .i64 (k : Int))), (kEq (.int .i64 ((k : Int) + 1))), (kEq v_xs), (kEq (.int .i64 (k : Int))), (kEq (.int .i64 ((k : Int) + 1))), (kPtU [15, 17] [(.int .i64 ((ys[(k + 1)]'(by first | omega | (simp only [List.length_set]; omega))).Id)), (.int .i64 ((ys[(k + 1)]'(by first | omega | (simp only [List.length_set]; omega))).Tier)), (.int .i64 ((ys[(k + 1)]'(by first | omega | (simp only [List.length_set]; omega))).From)), (.int .i64 ((ys[(k + 1)]'(by first | omega | (simp only [List.length_set]; omega))).To)), (.int .u32 ((ys[(k + 1)]'(by first | omega | (simp only [List.length_set]; omega))).Sum))]), (kEq (.agg #[(.int .i64 ((ys[(k + 1)]'(by first | omega | (simp only [List.length_set]; omega))).Id)), (.int .i64 ((ys[(k + 1)]'(by first | omega | (simp only [List.length_set]; omega))).Tier)), (.int .i64 ((ys[(k + 1)]'(by first | omega | (simp only [List.length_set]; omega))).From)), (.int .i64 ((ys[(k + 1)]'(by first | omega | (simp only [List.length_set]; omega))).To)), (.int .u32 ((ys[(k + 1)]'(by first | omega | (simp only [List.length_set]; omega))).Sum))])), (kEq v_xs), (kEq (.int .i64 (k : Int))), (kPtU [15, 17] [(.int .i64 ((ys[k]'(by first | omega | (simp only [List.length_set]; omega))).Id)), (.int .i64 ((ys[k]'(by first | omega | (simp only [List.length_set]; omega))).Tier)), (.int .i64 ((ys[k]'(by first | omega | (simp only [List.length_set]; omega))).From)), (.int .i64 ((ys[k]'(by first | omega | (simp only [List.length_set]; omega))).To)), (.int .u32 ((ys[k]'(by first | omega | (simp only [List.length_set]; omega))).Sum))]), (kEq (.agg #[(.int .i64 ((ys[k]'(by first | omega | (simp only [List.length_set]; omega))).Id)), (.int .i64 ((ys[k]'(by first | omega | (simp only [List.length_set]; omega))).Tier)), (.int .i64 ((ys[k]'(by first | omega | (simp only [List.length_set]; omega))).From)), (.int .i64 ((ys[k]'(by first | omega | (simp only [List.length_set]; omega))).To)), (.int .u32 ((ys[k]'(by first | omega | (simp only [List.length_set]; omega))).Sum))])), (kRow v_xs (k * infoE.size)), kAny, (kRow v_xs ((k + 1) * infoE.size)), kAny] := ⟨Or.inr (Or.inr (Or.inr iEq)), Or.inr (Or.inr (Or.inr iEq)), Or.inr (Or.inr (Or.inr iEq)), Or.inr (Or.inr (Or.inr iEq)), Or.inr (Or.inr (Or.inr iEq)), Or.inr (Or.inr (Or.inr iEq)), Or.inr (Or.inr (Or.inr iEq)), Or.inr (Or.inr (Or.inr iEq)), Or.inr (Or.inr (Or.inr (iPtU (by decide)))), Or.inr (Or.inr (Or.inr iEq)), Or.inr (Or.inr (Or.inr iEq)), Or.inr (Or.inr (Or.inr iEq)), Or.inr (Or.inr (Or.inr (iPtU (by decide)))), Or.inr (Or.inr (Or.inr iEq)), Or.inr (Or.inr (Or.inr iRow)), Or.inl rfl, Or.inr (Or.inr (Or.inl (not_yet hD238 (fun hm => (hC240 16 15 hm (by kernel_rfl)))))), Or.inr (Or.inr (Or.inl (not_yet hD238 (fun hm => (hC240 17 15 hm (by kernel_rfl)))))), trivial⟩
        refine ⟨by exact ⟨hst.sub (.cons _ (List.Sublist.refl _)), (fun y0 => absurd y0 (fun h => Bool.noConfusion h)), (fun y0 y1 => hst.sub (.cons_cons _ (List.Sublist.refl _))), (fun y0 => absurd (show D235 17 = true from y0) (by rw [(not_yet hD238 (fun hm => (hC240 17 15 hm (by kernel_rfl))))]; decide))⟩, by exact trivial, kX [] hI247 ?_⟩
        intro j d hj; cases hj
      · rintro D248 ρ249 w250 hD251 hE252 hC253 hJ254 hA255 ⟨f63, f65, _⟩
        have hst := hJ254.2.2.1 (hE252 15 (by kernel_rfl)) (not_yet hD251 (fun hm => (hC253 17 16 hm (by kernel_rfl))))
        replace hst : St w0 w250 (rowT 34 infoE v_xs (ys.set (k) (ys[(k + 1)]'(by first | omega | (simp only [List.length_set]; omega)))) :: L) := hst
        refine go_plain (op_indexRowN hst 0 rfl (k + 1) Try.underlying22 Try.sizeOf34 f63 f65 (by omega) (by first | omega | (simp only [List.length_set]; omega)) (fun g260 hb259 p258 => ?_))
        exact (kN0 (i := 16) hM94 (by decide) (by exact hJ254) (by exact ⟨_, hb259, rfl⟩))
      · rintro D261 ρ262 w263 hD264 hE265 hC266 hJ267 hA268 ⟨f76, f74, _⟩
        have hst := hJ267.2.2.1 (hE265 15 (by kernel_rfl)) hD264
        replace hst : St w0 w263 (rowT 34 infoE v_xs (ys.set (k) (ys[(k + 1)]'(by first | omega | (simp only [List.length_set]; omega)))) :: L) := hst
        obtain ⟨g269, hb271, e270⟩ := f76
        refine go_plain (op_storeRowN (y := (ys[k]'(by first | omega | (simp only [List.length_set]; omega)))) hst 0 rfl hb271 Try.sizeOf34 e270 f74 ((k + 1)) rfl (by first | omega | (simp only [List.length_set]; omega)) rfl (fun w272 hst => ?_))
        replace hst : St w0 w272 (rowT 34 infoE v_xs ((ys.set (k) (ys[(k + 1)]'(by first | omega | (simp only [List.length_set]; omega)))).set ((k + 1)) (ys[k]'(by first | omega | (simp only [List.length_set]; omega)))) :: L) := hst
        have hI273 : stabIXs 17 [] D261 0 [(kEq v_xs), (kEq (.int .i64 (k : Int))), (kEq v_xs), (kEq (.int .i64 (k : Int))), (kEq (.int .i64 ((k : Int) + 1))), (kEq v_xs), (kEq (.int .i64 (k : Int))), (kEq (.int .i64 ((k : Int) + 1))), (kPtU [15, 17] [(.int .i64 ((ys[(k + 1)]'(by first | omega | (simp only [List.length_set]; omega))).Id)), (.int .i64 ((ys[(k + 1)]'(by first | omega | (simp only [List.length_set]; omega))).Tier)), (.int .i64 ((ys[(k + 1)]'(by first | omega | (simp only [List.length_set]; omega))).From)), (.int .i64 ((ys[(k + 1)]'(by first | omega | (simp only [List.length_set]; omega))).To)), (.int .u32 ((ys[(k + 1)]'(by first | omega | (simp only [List.length_set]; omega))).Sum))]), (kEq (.agg #[(.int .i64 ((ys[(k + 1)]'(by first | omega | (simp only [List.length_set]; omega))).Id)), (.int .i64 ((ys[(k + 1)]'(by first | omega | (simp only [List.length_set]; omega))).Tier)), (.int .i64 ((ys[(k + 1)]'(by first | omega | (simp only [List.length_set]; omega))).From)), (.int .i64 ((ys[(k + 1)]'(by first | omega | (simp only [List.length_set]; omega))).To)), (.int .u32 ((ys[(k + 1)]'(by first | omega | (simp only [List.length_set]; omega))).Sum))])), (kEq v_xs), (kEq (.int .i64 (k : Int))), (kPtU [15, 17] [(.int .i64 ((ys[k]'(by first | omega | (simp only [List.length_set]; omega))).Id)), (.int .i64 ((ys[k]'(by first | omega | (simp only [List.length_set]; omega))).Tier)), (.int .i64 ((ys[k]'(by first | omega | (simp only [List.length_set]; omega))).From)), (.int .i64 ((ys[k]'(by first | omega | (simp only [List.length_set]; omega))).To)), (.int .u32 ((ys[k]'(by first | omega | (simp only [List.length_set]; omega))).Sum))]), (kEq (.agg #[(.int .i64 ((ys[k]'(by first | omega | (simp only [List.length_set]; omega))).Id)), (.int .i64 ((ys[k]'(by first | omega | (simp only [List.length_set]; omega))).Tier)), (.int .i64 ((ys[k]'(by first | omega | (simp only [List.length_set]; omega))).From)), (.int .i64 ((ys[k]'(by first | omega | (simp only [List.length_set]; omega))).To)), (.int .u32 ((ys[k]'(by first | omega | (simp only [List.length_set]; omega))).Sum))])), (kRow v_xs (k * infoE.size)), kAny, (kRow v_xs ((k + 1) * infoE.size)), kAny] := ⟨Or.inr (Or.inr (Or.inr iEq)), Or.inr (Or.inr (Or.inr iEq)), Or.inr (Or.inr (Or.inr iEq)), Or.inr (Or.inr (Or.inr iEq)), Or.inr (Or.inr (Or.inr iEq)), Or.inr (Or.inr (Or.inr iEq)), Or.inr (Or.inr (Or.inr iEq)), Or.inr (Or.inr (Or.inr iEq)), Or.inr (Or.inr (Or.inr (iPtU (by decide)))), Or.inr (Or.inr (Or.inr iEq)), Or.inr (Or.inr (Or.inr iEq)), Or.inr (Or.inr (Or.inr iEq)), Or.inr (Or.inr (Or.inr (iPtU (by decide)))), Or.inr (Or.inr (Or.inr iEq)), Or.inr (Or.inr (Or.inr iRow)), Or.inr (Or.inr (Or.inr iAny)), Or.inr (Or.inr (Or.inr iRow)), Or.inl rfl, trivial⟩
        refine ⟨by exact ⟨hst.sub (.cons _ (List.Sublist.refl _)), (fun y0 => absurd (show D261 15 = false from y0) (by rw [(hE265 15 (by kernel_rfl))]; decide)), (fun y0 y1 => absurd y1 (fun h => Bool.noConfusion h)), (fun y0 => hst.sub (.cons_cons _ (List.Sublist.refl _)))⟩, by exact trivial, kX [] hI273 ?_⟩
        intro j d hj; cases hj
      intro ρ274 w275 Dw275 hallw275 hJw275 hRw275 hkw275
      have hst : St w0 w275 (rowT 34 infoE v_xs ((ys.set (k) (ys[(k + 1)]'(by first | omega | (simp only [List.length_set]; omega)))).set ((k + 1)) (ys[k]'(by first | omega | (simp only [List.length_set]; omega)))) :: L) := hJw275.2.2.2 (hallw275 17 (show 17 < 18 from by decide))
      have uw275_1 : ρ274 1 = (.int .i64 (an : Int)) := (hkw275 1 rfl).trans q70_1
      have uw275_2 : ρ274 2 = (.int .i64 (mn : Int)) := (hkw275 2 rfl).trans q70_2
      have uw275_3 : ρ274 3 = (.int .i64 (bn : Int)) := (hkw275 3 rfl).trans q70_3
      have uw275_4 : ρ274 4 = (.func (.func 24) #[] #[]) := (hkw275 4 rfl).trans q70_4
      have uw275_10 : ρ274 10 = (.int .i64 (i : Int)) := (hkw275 10 rfl).trans q70_10
      have uw275_11 : ρ274 11 = (.int .i64 (j : Int)) := (hkw275 11 rfl).trans q70_11
      have uw275_0 : ρ274 0 = v_xs := (hkw275 0 rfl).trans q70_0
      have uw275_13 : ρ274 13 = (.int .i64 (k : Int)) := (hkw275 13 rfl).trans q70_13
      have uw275_55 : ρ274 55 = (.int .i64 (k : Int)) := (hkw275 55 rfl).trans rfl
      have uw275_56 : ρ274 56 = (.int .i64 (i : Int)) := (hkw275 56 rfl).trans rfl
      have uw275_57 : ρ274 57 = (.int .i64 ((i : Int) - 1)) := (hkw275 57 rfl).trans rfl
      have uw275_58 : ρ274 58 = (.bool (decide ((k : Int) < ((i : Int) - 1)))) := (hkw275 58 rfl).trans rfl
      refine block_n (then_n ?_)
      refine cE_region rfl ?_
      refine s_cons (op_move (.int .i64 (k : Int)) uw275_13 ?_)
      refine s_cons (op_add (k := .i64) (a := (k : Int)) (b := 1) ((k : Int) + 1) rfl rfl (xi64 (by omega) (by omega)) ?_)
      refine s_cons (op_assign (.int .i64 ((k : Int) + 1)) rfl ?_)
      refine s_nil ?_
      refine then_n ?_
      exact ⟨_, ⟨((ys.set (k) (ys[(k + 1)]'(by first | omega | (simp only [List.length_set]; omega)))).set ((k + 1)) (ys[k]'(by first | omega | (simp only [List.length_set]; omega)))), (k + 1), rfl, uw275_1, uw275_2, uw275_3, uw275_4, uw275_10, uw275_11, uw275_0, (congrArg (Value.int .i64) (show ((k : Int) + 1) = _ from by omega)), hst, (by omega), (by first | exact turned_refl _ _ _ | exact turned_trans hT (swp_turned (by omega) (by omega) ⟨by omega, by omega⟩ ⟨by omega, by omega⟩)), (by first | exact way_up (by omega) hS2 (by omega) (by omega) (by omega) hL (or_at2 hR (by omega)) | exact way_swap hW (by omega) (by omega) (by omega) (by omega) (by omega))⟩, (by simp only [id]; omega)⟩
    have c276 : ¬ ((k : Int) < ((i : Int) - 1)) := of_decide_eq_false b74
    refine cE_cond false (congrArg Value.bool b74) (fun h => by cases h) (fun _ => ?_)
    refine cE_exit ?_
    refine then_x (then_x (block_hit (then_n ?_)))
    refine cE_ret ?_
    refine then_r ?_
    refine post_r (.tuple #[]) rfl ?_
    exact ⟨ys, rfl, hst.sub (.cons_cons _ (List.Sublist.refl _)), (by first | exact hT | exact turned_trans hT (turned_wide (by assumption) (by omega) (by omega))), (by first | exact way_end hW (by omega) | exact merged hZ.1 hZ.2.2.2 (by assumption) (by assumption) | exact merged hZ.1 hZ.2.2.2 (turned_refl _ _ _) (halves_right2 hZ (by omega) (by omega) (by omega)))⟩
  have c277 : ¬ (((mn : Int) - (an : Int)) = 1) := of_decide_eq_false b1
  refine cE_cond false (congrArg Value.bool b1) (fun h => by cases h) (fun _ => ?_)
  refine cE_skip ?_
  refine then_n ?_
  refine cE_seq ?_
  refine cE_seq ?_
  refine cE_region rfl ?_
  refine s_cons (op_move (.int .i64 (bn : Int)) rfl ?_)
  refine s_cons (op_move (.int .i64 (mn : Int)) rfl ?_)
  refine s_cons (op_sub (k := .i64) (a := (bn : Int)) (b := (mn : Int)) ((bn : Int) - (mn : Int)) rfl rfl (xi64 (by omega) (by omega)) ?_)
  refine s_cons (op_eql (k := .i64) (a := ((bn : Int) - (mn : Int))) (b := 1) rfl rfl ?_)
  refine s_nil ?_
  refine then_n ?_
  rcases Bool.eq_false_or_eq_true (decide (((bn : Int) - (mn : Int)) = 1)) with b278 | b278
  · have c279 : ((bn : Int) - (mn : Int)) = 1 := of_decide_eq_true b278
    refine cE_cond true (congrArg Value.bool b278) (fun _ => ?_) (fun h => by cases h)
    refine cE_seq ?_
    refine cE_region rfl ?_
    refine s_cons (op_move (.int .i64 (an : Int)) rfl ?_)
    refine s_cons (op_assign (.int .i64 (an : Int)) rfl ?_)
    refine s_nil ?_
    refine then_n ?_
    refine cE_seq ?_
    refine cE_region rfl ?_
    refine s_cons (op_move (.int .i64 (mn : Int)) rfl ?_)
    refine s_cons (op_assign (.int .i64 (mn : Int)) rfl ?_)
    refine s_nil ?_
    refine then_n ?_
    refine cE_seq ?_
    refine cE_block ?_
    refine cE_loop (fun (m : Nat) (ρ : Env) (w : World) => ∃ (i : Nat) (j : Nat), m = j - i ∧ ρ 0 = v_xs ∧ ρ 1 = (.int .i64 (an : Int)) ∧ ρ 2 = (.int .i64 (mn : Int)) ∧ ρ 3 = (.int .i64 (bn : Int)) ∧ ρ 4 = (.func (.func 24) #[] #[]) ∧ ρ 14 = (.int .i64 (i : Int)) ∧ ρ 15 = (.int .i64 (j : Int)) ∧ St w0 w (rowT 34 infoE v_xs xs :: L) ∧ (an ≤ i ∧ i ≤ j ∧ j ≤ mn) ∧ (i = an ∨ LeI xs (i - 1) mn) ∧ (j = mn ∨ AhI xs mn j)) id _ ⟨an, mn, rfl, rfl, rfl, rfl, rfl, rfl, rfl, rfl, hst, (by omega), (by first | exact Or.inl rfl | exact hL | exact Or.inr (leI_at (by assumption) (by omega) rfl)), (by first | exact Or.inl rfl | exact hR | exact Or.inr (ahI_at (by assumption) rfl rfl))⟩ ?_
    rintro m281 ρ282 w283 ⟨i, j, hm281, q280_0, q280_1, q280_2, q280_3, q280_4, q280_14, q280_15, hst, hb, hL, hR⟩
    refine cE_seq ?_
    refine cE_seq ?_
    refine cE_region rfl ?_
    refine s_cons (op_move (.int .i64 (i : Int)) q280_14 ?_)
    refine s_cons (op_move (.int .i64 (j : Int)) q280_15 ?_)
    refine s_cons (op_lss (k := .i64) (a := (i : Int)) (b := (j : Int)) rfl rfl ?_)
    refine s_nil ?_
    refine then_n ?_
    rcases Bool.eq_false_or_eq_true (decide ((i : Int) < (j : Int))) with b284 | b284
    · have c285 : (i : Int) < (j : Int) := of_decide_eq_true b284
      refine cE_cond true (congrArg Value.bool b284) (fun _ => ?_) (fun h => by cases h)
      refine cE_skip ?_
      refine then_n ?_
      refine cE_block ?_
      refine cE_seq ?_
      refine cE_region rfl ?_
      refine s_cons (op_move (.int .i64 (i : Int)) q280_14 ?_)
      refine s_cons (op_move (.int .i64 (j : Int)) q280_15 ?_)
      refine s_cons (op_add (k := .i64) (a := (i : Int)) (b := (j : Int)) ((i : Int) + (j : Int)) rfl rfl (xi64 (by omega) (by omega)) ?_)
      refine s_cons (op_conv (k := .i64) (a := ((i : Int) + (j : Int))) ((i : Int) + (j : Int)) Try.underlying31 (by rw [Try.underlying3]; rfl) rfl (xu64 (by omega) (by omega)) ?_)
      obtain ⟨h, hh⟩ : ∃ x : Nat, x = (i + j) / 2 := ⟨_, rfl⟩
      refine s_cons (op_shr (k := .u64) (k' := .u64) (a := ((i : Int) + (j : Int))) (b := 1) (h : Int) rfl rfl (by omega) (by simp [IntKind.bits]; try omega) (half_eq hh) ?_)
      refine s_cons (op_conv (k := .u64) (a := (h : Int)) (h : Int) Try.underlying3 (by rw [Try.underlying31]; rfl) rfl (xi64 (by omega) (by omega)) ?_)
      refine s_cons (op_assign (.int .i64 (h : Int)) rfl ?_)
      refine s_nil ?_
      refine then_n ?_
      refine cE_seq ?_
      refine cE_regionL hst [[(4, none)], [(0, none)], [(2, none)], [(93, some 1), (94, some 2)], [(95, some 3)], [(0, none)], [(16, none)], [(97, some 5), (98, some 6)], [(99, some 7)], [(92, some 0), (96, some 4), (100, some 8)], [(101, some 9)], [(102, some 10)]] [(rEq (.func (.func 24) #[] #[])), (rEq v_xs), (rEq (.int .i64 (mn : Int))), (rPt [(.int .i64 ((xs[mn]'(by first | omega | (simp only [List.length_set]; omega))).Id)), (.int .i64 ((xs[mn]'(by first | omega | (simp only [List.length_set]; omega))).Tier)), (.int .i64 ((xs[mn]'(by first | omega | (simp only [List.length_set]; omega))).From)), (.int .i64 ((xs[mn]'(by first | omega | (simp only [List.length_set]; omega))).To)), (.int .u32 ((xs[mn]'(by first | omega | (simp only [List.length_set]; omega))).Sum))]), (rEq (.agg #[(.int .i64 ((xs[mn]'(by first | omega | (simp only [List.length_set]; omega))).Id)), (.int .i64 ((xs[mn]'(by first | omega | (simp only [List.length_set]; omega))).Tier)), (.int .i64 ((xs[mn]'(by first | omega | (simp only [List.length_set]; omega))).From)), (.int .i64 ((xs[mn]'(by first | omega | (simp only [List.length_set]; omega))).To)), (.int .u32 ((xs[mn]'(by first | omega | (simp only [List.length_set]; omega))).Sum))])), (rEq v_xs), (rEq (.int .i64 (h : Int))), (rPt [(.int .i64 ((xs[h]'(by first | omega | (simp only [List.length_set]; omega))).Id)), (.int .i64 ((xs[h]'(by first | omega | (simp only [List.length_set]; omega))).Tier)), (.int .i64 ((xs[h]'(by first | omega | (simp only [List.length_set]; omega))).From)), (.int .i64 ((xs[h]'(by first | omega | (simp only [List.length_set]; omega))).To)), (.int .u32 ((xs[h]'(by first | omega | (simp only [List.length_set]; omega))).Sum))]), (rEq (.agg #[(.int .i64 ((xs[h]'(by first | omega | (simp only [List.length_set]; omega))).Id)), (.int .i64 ((xs[h]'(by first | omega | (simp only [List.length_set]; omega))).Tier)), (.int .i64 ((xs[h]'(by first | omega | (simp only [List.length_set]; omega))).From)), (.int .i64 ((xs[h]'(by first | omega | (simp only [List.length_set]; omega))).To)), (.int .u32 ((xs[h]'(by first | omega | (simp only [List.length_set]; omega))).Sum))])), (rEq (.int .i64 (cmpB (xs[mn]'(by first | omega | (simp only [List.length_set]; omega))) (xs[h]'(by first | omega | (simp only [List.length_set]; omega)))))), (rEq (.bool (decide ((cmpB (xs[mn]'(by first | omega | (simp only [List.length_set]; omega))) (xs[h]'(by first | omega | (simp only [List.length_set]; omega)))) < 0)))), (rEq (.bool (!(decide ((cmpB (xs[mn]'(by first | omega | (simp only [List.length_set]; omega))) (xs[h]'(by first | omega | (simp only [List.length_set]; omega)))) < 0)))))] (by kernel_rfl) rfl (by kernel_rfl) ⟨sEq, sEq, sEq, sPt, sEq, sEq, sEq, sPt, sEq, sEq, sEq, sEq, trivial⟩ ⟨?_, ?_, ?_, ?_, ?_, ?_, ?_, ?_, ?_, ?_, ?_, ?_, trivial⟩ ?_
      · rintro ρ293 w294 hj295 ⟨f4, _⟩
        have hst := hj295.2
        exact go_plain (op_move (.func (.func 24) #[] #[]) (f4.trans q280_4) (kS hj295 rfl))
      · rintro ρ296 w297 hj298 ⟨f0, _⟩
        have hst := hj298.2
        exact go_plain (op_move v_xs (f0.trans q280_0) (kS hj298 rfl))
      · rintro ρ299 w300 hj301 ⟨f2, _⟩
        have hst := hj301.2
        exact go_plain (op_move (.int .i64 (mn : Int)) (f2.trans q280_2) (kS hj301 rfl))
      · rintro ρ302 w303 hj304 ⟨f93, f94, _⟩
        have hst := hj304.2
        refine go_plain (op_indexAddrN (E := infoE) (xs := xs) mn Try.underlying22 Try.sizeOf34 f93 (hst.sl 0 rfl) f94 (by omega) (by first | omega | (simp only [List.length_set]; omega)) (fun a305 o306 p307 => ?_))
        exact kS hj304 ⟨_, _, rfl, p307⟩
      · rintro ρ308 w309 hj310 ⟨f95, _⟩
        have hst := hj310.2
        obtain ⟨a311, o312, e313, p314⟩ := f95
        exact go_plain (op_loadN (cs := [(.int .i64 ((xs[mn]'(by first | omega | (simp only [List.length_set]; omega))).Id)), (.int .i64 ((xs[mn]'(by first | omega | (simp only [List.length_set]; omega))).Tier)), (.int .i64 ((xs[mn]'(by first | omega | (simp only [List.length_set]; omega))).From)), (.int .i64 ((xs[mn]'(by first | omega | (simp only [List.length_set]; omega))).To)), (.int .u32 ((xs[mn]'(by first | omega | (simp only [List.length_set]; omega))).Sum))]) Try.isAgg34 Try.sizeOf34 e313 (Pt.of p314 rfl) rfl (kS hj310 rfl))
      · rintro ρ315 w316 hj317 ⟨f0, _⟩
        have hst := hj317.2
        exact go_plain (op_move v_xs (f0.trans q280_0) (kS hj317 rfl))
      · rintro ρ318 w319 hj320 ⟨f16, _⟩
        have hst := hj320.2
        exact go_plain (op_move (.int .i64 (h : Int)) (f16.trans rfl) (kS hj320 rfl))
      · rintro ρ321 w322 hj323 ⟨f97, f98, _⟩
        have hst := hj323.2
        refine go_plain (op_indexAddrN (E := infoE) (xs := xs) h Try.underlying22 Try.sizeOf34 f97 (hst.sl 0 rfl) f98 (by omega) (by first | omega | (simp only [List.length_set]; omega)) (fun a324 o325 p326 => ?_))
        exact kS hj323 ⟨_, _, rfl, p326⟩
      · rintro ρ327 w328 hj329 ⟨f99, _⟩
        have hst := hj329.2
        obtain ⟨a330, o331, e332, p333⟩ := f99
        exact go_plain (op_loadN (cs := [(.int .i64 ((xs[h]'(by first | omega | (simp only [List.length_set]; omega))).Id)), (.int .i64 ((xs[h]'(by first | omega | (simp only [List.length_set]; omega))).Tier)), (.int .i64 ((xs[h]'(by first | omega | (simp only [List.length_set]; omega))).From)), (.int .i64 ((xs[h]'(by first | omega | (simp only [List.length_set]; omega))).To)), (.int .u32 ((xs[h]'(by first | omega | (simp only [List.length_set]; omega))).Sum))]) Try.isAgg34 Try.sizeOf34 e332 (Pt.of p333 rfl) rfl (kS hj329 rfl))
      · rintro ρ334 w335 hj336 ⟨f92, f96, f100, _⟩
        have hst := hj336.2
        refine go_plain (op_callv (cs := []) Try.call24 f92 (evs_cons (v := (.agg #[(.int .i64 ((xs[mn]'(by first | omega | (simp only [List.length_set]; omega))).Id)), (.int .i64 ((xs[mn]'(by first | omega | (simp only [List.length_set]; omega))).Tier)), (.int .i64 ((xs[mn]'(by first | omega | (simp only [List.length_set]; omega))).From)), (.int .i64 ((xs[mn]'(by first | omega | (simp only [List.length_set]; omega))).To)), (.int .u32 ((xs[mn]'(by first | omega | (simp only [List.length_set]; omega))).Sum))])) f96 (evs_cons (v := (.agg #[(.int .i64 ((xs[h]'(by first | omega | (simp only [List.length_set]; omega))).Id)), (.int .i64 ((xs[h]'(by first | omega | (simp only [List.length_set]; omega))).Tier)), (.int .i64 ((xs[h]'(by first | omega | (simp only [List.length_set]; omega))).From)), (.int .i64 ((xs[h]'(by first | omega | (simp only [List.length_set]; omega))).To)), (.int .u32 ((xs[h]'(by first | omega | (simp only [List.length_set]; omega))).Sum))])) f100 evs_nil)) (c_cmpB (w0 := w335) (a := (xs[mn]'(by first | omega | (simp only [List.length_set]; omega)))) (b := (xs[h]'(by first | omega | (simp only [List.length_set]; omega))))) ?_)
        rintro _ w337 ⟨rfl, hcall⟩
        refine ⟨_, rfl, ?_⟩
        exact kD hj336 hcall rfl
      · rintro ρ338 w339 hj340 ⟨f101, _⟩
        have hst := hj340.2
        exact go_plain (op_lss (k := .i64) (a := (cmpB (xs[mn]'(by first | omega | (simp only [List.length_set]; omega))) (xs[h]'(by first | omega | (simp only [List.length_set]; omega))))) (b := 0) f101 rfl (kS hj340 rfl))
      · rintro ρ341 w342 hj343 ⟨f102, _⟩
        have hst := hj343.2
        exact go_plain (op_not (b := decide ((cmpB (xs[mn]'(by first | omega | (simp only [List.length_set]; omega))) (xs[h]'(by first | omega | (simp only [List.length_set]; omega)))) < 0)) f102 (kS hj343 rfl))
      intro ρ344 w345 hbw345 hst hRw345 hkw345
      have uw345_0 : ρ344 0 = v_xs := (hkw345 0 rfl).trans q280_0
      have uw345_1 : ρ344 1 = (.int .i64 (an : Int)) := (hkw345 1 rfl).trans q280_1
      have uw345_2 : ρ344 2 = (.int .i64 (mn : Int)) := (hkw345 2 rfl).trans q280_2
      have uw345_3 : ρ344 3 = (.int .i64 (bn : Int)) := (hkw345 3 rfl).trans q280_3
      have uw345_4 : ρ344 4 = (.func (.func 24) #[] #[]) := (hkw345 4 rfl).trans q280_4
      have uw345_14 : ρ344 14 = (.int .i64 (i : Int)) := (hkw345 14 rfl).trans q280_14
      have uw345_15 : ρ344 15 = (.int .i64 (j : Int)) := (hkw345 15 rfl).trans q280_15
      have uw345_83 : ρ344 83 = (.int .i64 (i : Int)) := (hkw345 83 rfl).trans rfl
      have uw345_84 : ρ344 84 = (.int .i64 (j : Int)) := (hkw345 84 rfl).trans rfl
      have uw345_85 : ρ344 85 = (.bool (decide ((i : Int) < (j : Int)))) := (hkw345 85 rfl).trans rfl
      have uw345_86 : ρ344 86 = (.int .i64 (i : Int)) := (hkw345 86 rfl).trans rfl
      have uw345_87 : ρ344 87 = (.int .i64 (j : Int)) := (hkw345 87 rfl).trans rfl
      have uw345_88 : ρ344 88 = (.int .i64 ((i : Int) + (j : Int))) := (hkw345 88 rfl).trans rfl
      have uw345_89 : ρ344 89 = (.int .u64 ((i : Int) + (j : Int))) := (hkw345 89 rfl).trans rfl
      have uw345_90 : ρ344 90 = (.int .u64 (h : Int)) := (hkw345 90 rfl).trans rfl
      have uw345_91 : ρ344 91 = (.int .i64 (h : Int)) := (hkw345 91 rfl).trans rfl
      have uw345_16 : ρ344 16 = (.int .i64 (h : Int)) := (hkw345 16 rfl).trans rfl
      have uw345_103 : ρ344 103 = (.bool (!(decide ((cmpB (xs[mn]'(by first | omega | (simp only [List.length_set]; omega))) (xs[h]'(by first | omega | (simp only [List.length_set]; omega)))) < 0)))) := hRw345 11 103 rfl
      refine then_n ?_
      rcases Bool.eq_false_or_eq_true (decide ((cmpB (xs[mn]'(by first | omega | (simp only [List.length_set]; omega))) (xs[h]'(by first | omega | (simp only [List.length_set]; omega)))) < 0)) with b346 | b346
      · have c347 : (cmpB (xs[mn]'(by first | omega | (simp only [List.length_set]; omega))) (xs[h]'(by first | omega | (simp only [List.length_set]; omega)))) < 0 := of_decide_eq_true b346
        refine cE_cond false (uw345_103.trans (congrArg Value.bool (congrArg (! ·) b346))) (fun h => by cases h) (fun _ => ?_)
        refine cE_region rfl ?_
        refine s_cons (op_move (.int .i64 (h : Int)) uw345_16 ?_)
        refine s_cons (op_assign (.int .i64 (h : Int)) rfl ?_)
        refine s_nil ?_
        refine block_n (then_n ?_)
        exact ⟨_, ⟨i, h, rfl, uw345_0, uw345_1, uw345_2, uw345_3, uw345_4, uw345_14, rfl, hst, (by omega), (by first | exact Or.inl rfl | exact hL | exact Or.inr (leI_at (by assumption) (by omega) rfl)), (by first | exact Or.inl rfl | exact hR | exact Or.inr (ahI_at (by assumption) rfl rfl))⟩, (by simp only [id]; omega)⟩
      have c348 : ¬ ((cmpB (xs[mn]'(by first | omega | (simp only [List.length_set]; omega))) (xs[h]'(by first | omega | (simp only [List.length_set]; omega)))) < 0) := of_decide_eq_false b346
      refine cE_cond true (uw345_103.trans (congrArg Value.bool (congrArg (! ·) b346))) (fun _ => ?_) (fun h => by cases h)
      refine cE_region rfl ?_
      refine s_cons (op_move (.int .i64 (h : Int)) uw345_16 ?_)
      refine s_cons (op_add (k := .i64) (a := (h : Int)) (b := 1) ((h : Int) + 1) rfl rfl (xi64 (by omega) (by omega)) ?_)
      refine s_cons (op_assign (.int .i64 ((h : Int) + 1)) rfl ?_)
      refine s_nil ?_
      refine block_n (then_n ?_)
      exact ⟨_, ⟨(h + 1), j, rfl, uw345_0, uw345_1, uw345_2, uw345_3, uw345_4, (congrArg (Value.int .i64) (show ((h : Int) + 1) = _ from by omega)), uw345_15, hst, (by omega), (by first | exact Or.inl rfl | exact hL | exact Or.inr (leI_at (by assumption) (by omega) rfl)), (by first | exact Or.inl rfl | exact hR | exact Or.inr (ahI_at (by assumption) rfl rfl))⟩, (by simp only [id]; omega)⟩
    have c349 : ¬ ((i : Int) < (j : Int)) := of_decide_eq_false b284
    refine cE_cond false (congrArg Value.bool b284) (fun h => by cases h) (fun _ => ?_)
    refine cE_exit ?_
    refine then_x (then_x (block_hit (then_n ?_)))
    refine cE_seq ?_
    refine cE_seq ?_
    refine cE_region rfl ?_
    refine s_cons (op_move (.int .i64 (mn : Int)) q280_2 ?_)
    refine s_cons (op_assign (.int .i64 (mn : Int)) rfl ?_)
    refine s_nil ?_
    refine then_n ?_
    refine cE_block ?_
    refine cE_loop (fun (m : Nat) (ρ : Env) (w : World) => ∃ (ys : List Info) (k : Nat), m = k ∧ ρ 1 = (.int .i64 (an : Int)) ∧ ρ 2 = (.int .i64 (mn : Int)) ∧ ρ 3 = (.int .i64 (bn : Int)) ∧ ρ 4 = (.func (.func 24) #[] #[]) ∧ ρ 14 = (.int .i64 (i : Int)) ∧ ρ 15 = (.int .i64 (j : Int)) ∧ ρ 0 = v_xs ∧ ρ 17 = (.int .i64 (k : Int)) ∧ St w0 w (rowT 34 infoE v_xs ys :: L) ∧ (i ≤ k ∧ k ≤ mn) ∧ (Turned xs ys an bn) ∧ (Way ys an bn k i)) id _ ⟨xs, mn, rfl, q280_1, q280_2, q280_3, q280_4, q280_14, q280_15, q280_0, rfl, hst, (by omega), (by first | exact turned_refl _ _ _ | exact turned_trans hT (swp_turned (by omega) (by omega) ⟨by omega, by omega⟩ ⟨by omega, by omega⟩)), (by first | exact way_down (by omega) hS1 (by omega) (by omega) (by omega) hL (or_at2 hR (by omega)) | exact way_swap hW (by omega) (by omega) (by omega) (by omega) (by omega))⟩ ?_
    rintro m351 ρ352 w353 ⟨ys, k, hm351, q350_1, q350_2, q350_3, q350_4, q350_14, q350_15, q350_0, q350_17, hst, hk, hT, hW⟩
    have hyl := hT.1
    refine cE_seq ?_
    refine cE_seq ?_
    refine cE_region rfl ?_
    refine s_cons (op_move (.int .i64 (k : Int)) q350_17 ?_)
    refine s_cons (op_move (.int .i64 (i : Int)) q350_14 ?_)
    refine s_cons (op_gtr (k := .i64) (a := (k : Int)) (b := (i : Int)) rfl rfl ?_)
    refine s_nil ?_
    refine then_n ?_
    rcases Bool.eq_false_or_eq_true (decide ((i : Int) < (k : Int))) with b354 | b354
    · have c355 : (i : Int) < (k : Int) := of_decide_eq_true b354
      refine cE_cond true (congrArg Value.bool b354) (fun _ => ?_) (fun h => by cases h)
      refine cE_skip ?_
      refine then_n ?_
      refine cE_seq ?_
      refine cE_block ?_
      have hM374 : stabML [15, 17] [(kEq v_xs), (kEq (.int .i64 (k : Int))), (kEq v_xs), (kEq (.int .i64 (k : Int))), (kEq (.int .i64 ((k : Int) - 1))), (kEq v_xs), (kEq (.int .i64 (k : Int))), (kEq (.int .i64 ((k : Int) - 1))), (kPtU [15, 17] [(.int .i64 ((ys[(k - 1)]'(by first | omega | (simp only [List.length_set]; omega))).Id)), (.int .i64 ((ys[(k - 1)]'(by first | omega | (simp only [List.length_set]; omega))).Tier)), (.int .i64 ((ys[(k - 1)]'(by first | omega | (simp only [List.length_set]; omega))).From)), (.int .i64 ((ys[(k - 1)]'(by first | omega | (simp only [List.length_set]; omega))).To)), (.int .u32 ((ys[(k - 1)]'(by first | omega | (simp only [List.length_set]; omega))).Sum))]), (kEq (.agg #[(.int .i64 ((ys[(k - 1)]'(by first | omega | (simp only [List.length_set]; omega))).Id)), (.int .i64 ((ys[(k - 1)]'(by first | omega | (simp only [List.length_set]; omega))).Tier)), (.int .i64 ((ys[(k - 1)]'(by first | omega | (simp only [List.length_set]; omega))).From)), (.int .i64 ((ys[(k - 1)]'(by first | omega | (simp only [List.length_set]; omega))).To)), (.int .u32 ((ys[(k - 1)]'(by first | omega | (simp only [List.length_set]; omega))).Sum))])), (kEq v_xs), (kEq (.int .i64 (k : Int))), (kPtU [15, 17] [(.int .i64 ((ys[k]'(by first | omega | (simp only [List.length_set]; omega))).Id)), (.int .i64 ((ys[k]'(by first | omega | (simp only [List.length_set]; omega))).Tier)), (.int .i64 ((ys[k]'(by first | omega | (simp only [List.length_set]; omega))).From)), (.int .i64 ((ys[k]'(by first | omega | (simp only [List.length_set]; omega))).To)), (.int .u32 ((ys[k]'(by first | omega | (simp only [List.length_set]; omega))).Sum))]), (kEq (.agg #[(.int .i64 ((ys[k]'(by first | omega | (simp only [List.length_set]; omega))).Id)), (.int .i64 ((ys[k]'(by first | omega | (simp only [List.length_set]; omega))).Tier)), (.int .i64 ((ys[k]'(by first | omega | (simp only [List.length_set]; omega))).From)), (.int .i64 ((ys[k]'(by first | omega | (simp only [List.length_set]; omega))).To)), (.int .u32 ((ys[k]'(by first | omega | (simp only [List.length_set]; omega))).Sum))])), (kRow v_xs (k * infoE.size)), kAny, (kRow v_xs ((k - 1) * infoE.size)), kAny] := ⟨mEq, mEq, mEq, mEq, mEq, mEq, mEq, mEq, (mPtUs (by decide)), mEq, mEq, mEq, (mPtUs (by decide)), mEq, mRow, mAny, mRow, mAny, trivial⟩
      refine cE_regionK (fun (D : Nat → Bool) (w : World) => St w0 w L ∧ (D 15 = false → St w0 w (rowT 34 infoE v_xs ys :: L)) ∧ (D 15 = true → D 17 = false → St w0 w (rowT 34 infoE v_xs (ys.set (k) (ys[(k - 1)]'(by first | omega | (simp only [List.length_set]; omega)))) :: L)) ∧ (D 17 = true → St w0 w (rowT 34 infoE v_xs ((ys.set (k) (ys[(k - 1)]'(by first | omega | (simp only [List.length_set]; omega)))).set ((k - 1)) (ys[k]'(by first | omega | (simp only [List.length_set]; omega)))) :: L))) [[(0, none)], [(17, none)], [(0, none)], [(17, none)], [(116, some 3)], [(0, none)], [(17, none)], [(119, some 6)], [(118, some 5), (120, some 7)], [(121, some 8)], [(0, none)], [(17, none)], [(123, some 10), (124, some 11)], [(125, some 12)], [(113, some 0), (114, some 1)], [(127, some 14), (122, some 9)], [(115, some 2), (117, some 4)], [(128, some 16), (126, some 13)]] (RofK [(kEq v_xs), (kEq (.int .i64 (k : Int))), (kEq v_xs), (kEq (.int .i64 (k : Int))), (kEq (.int .i64 ((k : Int) - 1))), (kEq v_xs), (kEq (.int .i64 (k : Int))), (kEq (.int .i64 ((k : Int) - 1))), (kPtU [15, 17] [(.int .i64 ((ys[(k - 1)]'(by first | omega | (simp only [List.length_set]; omega))).Id)), (.int .i64 ((ys[(k - 1)]'(by first | omega | (simp only [List.length_set]; omega))).Tier)), (.int .i64 ((ys[(k - 1)]'(by first | omega | (simp only [List.length_set]; omega))).From)), (.int .i64 ((ys[(k - 1)]'(by first | omega | (simp only [List.length_set]; omega))).To)), (.int .u32 ((ys[(k - 1)]'(by first | omega | (simp only [List.length_set]; omega))).Sum))]), (kEq (.agg #[(.int .i64 ((ys[(k - 1)]'(by first | omega | (simp only [List.length_set]; omega))).Id)), (.int .i64 ((ys[(k - 1)]'(by first | omega | (simp only [List.length_set]; omega))).Tier)), (.int .i64 ((ys[(k - 1)]'(by first | omega | (simp only [List.length_set]; omega))).From)), (.int .i64 ((ys[(k - 1)]'(by first | omega | (simp only [List.length_set]; omega))).To)), (.int .u32 ((ys[(k - 1)]'(by first | omega | (simp only [List.length_set]; omega))).Sum))])), (kEq v_xs), (kEq (.int .i64 (k : Int))), (kPtU [15, 17] [(.int .i64 ((ys[k]'(by first | omega | (simp only [List.length_set]; omega))).Id)), (.int .i64 ((ys[k]'(by first | omega | (simp only [List.length_set]; omega))).Tier)), (.int .i64 ((ys[k]'(by first | omega | (simp only [List.length_set]; omega))).From)), (.int .i64 ((ys[k]'(by first | omega | (simp only [List.length_set]; omega))).To)), (.int .u32 ((ys[k]'(by first | omega | (simp only [List.length_set]; omega))).Sum))]), (kEq (.agg #[(.int .i64 ((ys[k]'(by first | omega | (simp only [List.length_set]; omega))).Id)), (.int .i64 ((ys[k]'(by first | omega | (simp only [List.length_set]; omega))).Tier)), (.int .i64 ((ys[k]'(by first | omega | (simp only [List.length_set]; omega))).From)), (.int .i64 ((ys[k]'(by first | omega | (simp only [List.length_set]; omega))).To)), (.int .u32 ((ys[k]'(by first | omega | (simp only [List.length_set]; omega))).Sum))])), (kRow v_xs (k * infoE.size)), kAny, (kRow v_xs ((k - 1) * infoE.size)), kAny]) (by kernel_rfl) rfl (by kernel_rfl) ⟨hst.drewW.sub (.cons _ (List.Sublist.refl _)), (fun _ => hst.drewW), (fun h => absurd h Bool.false_ne_true), (fun h => absurd h Bool.false_ne_true)⟩ ⟨?_, ?_, ?_, ?_, ?_, ?_, ?_, ?_, ?_, ?_, ?_, ?_, ?_, ?_, ?_, ?_, ?_, ?_, trivial⟩ ?_
      · rintro D376 ρ377 w378 hD379 hE380 hC381 hJ382 hA383 ⟨f0, _⟩
        have hst := hJ382.2.1 (not_yet hD379 (fun hm => (hC381 15 0 hm (by kernel_rfl))))
        replace hst : St w0 w378 (rowT 34 infoE v_xs ys :: L) := hst
        exact go_plain (op_move v_xs (f0.trans q350_0) (kN0 (i := 0) hM374 (by decide) (by exact hJ382) (by exact rfl)))
      · rintro D384 ρ385 w386 hD387 hE388 hC389 hJ390 hA391 ⟨f17, _⟩
        have hst := hJ390.2.1 (not_yet hD387 (fun hm => (hC389 15 1 hm (by kernel_rfl))))
        replace hst : St w0 w386 (rowT 34 infoE v_xs ys :: L) := hst
        exact go_plain (op_move (.int .i64 (k : Int)) (f17.trans q350_17) (kN0 (i := 1) hM374 (by decide) (by exact hJ390) (by exact rfl)))
      · rintro D392 ρ393 w394 hD395 hE396 hC397 hJ398 hA399 ⟨f0, _⟩
        have hst := hJ398.1
        exact go_plain (op_move v_xs (f0.trans q350_0) (kN0 (i := 2) hM374 (by decide) (by exact hJ398) (by exact rfl)))
      · rintro D400 ρ401 w402 hD403 hE404 hC405 hJ406 hA407 ⟨f17, _⟩
        have hst := hJ406.1
        exact go_plain (op_move (.int .i64 (k : Int)) (f17.trans q350_17) (kN0 (i := 3) hM374 (by decide) (by exact hJ406) (by exact rfl)))
      · rintro D408 ρ409 w410 hD411 hE412 hC413 hJ414 hA415 ⟨f116, _⟩
        have hst := hJ414.1
        exact go_plain (op_sub (k := .i64) (a := (k : Int)) (b := 1) ((k : Int) - 1) f116 rfl (xi64 (by omega) (by omega)) (kN0 (i := 4) hM374 (by decide) (by exact hJ414) (by exact rfl)))
      · rintro D416 ρ417 w418 hD419 hE420 hC421 hJ422 hA423 ⟨f0, _⟩
        have hst := hJ422.2.1 (not_yet hD419 (fun hm => (hC421 15 5 hm (by kernel_rfl))))
        replace hst : St w0 w418 (rowT 34 infoE v_xs ys :: L) := hst
        exact go_plain (op_move v_xs (f0.trans q350_0) (kN0 (i := 5) hM374 (by decide) (by exact hJ422) (by exact rfl)))
      · rintro D424 ρ425 w426 hD427 hE428 hC429 hJ430 hA431 ⟨f17, _⟩
        have hst := hJ430.2.1 (not_yet hD427 (fun hm => (hC429 15 6 hm (by kernel_rfl))))
        replace hst : St w0 w426 (rowT 34 infoE v_xs ys :: L) := hst
        exact go_plain (op_move (.int .i64 (k : Int)) (f17.trans q350_17) (kN0 (i := 6) hM374 (by decide) (by exact hJ430) (by exact rfl)))
      · rintro D432 ρ433 w434 hD435 hE436 hC437 hJ438 hA439 ⟨f119, _⟩
        have hst := hJ438.2.1 (not_yet hD435 (fun hm => (hC437 15 7 hm (by kernel_rfl))))
        replace hst : St w0 w434 (rowT 34 infoE v_xs ys :: L) := hst
        exact go_plain (op_sub (k := .i64) (a := (k : Int)) (b := 1) ((k : Int) - 1) f119 rfl (xi64 (by omega) (by omega)) (kN0 (i := 7) hM374 (by decide) (by exact hJ438) (by exact rfl)))
      · rintro D440 ρ441 w442 hD443 hE444 hC445 hJ446 hA447 ⟨f118, f120, _⟩
        have hst := hJ446.2.1 (not_yet hD443 (fun hm => (hC445 15 8 hm (by kernel_rfl))))
        replace hst : St w0 w442 (rowT 34 infoE v_xs ys :: L) := hst
        refine go_plain (op_indexAddrN (E := infoE) (xs := ys) (k - 1) Try.underlying22 Try.sizeOf34 f118 (hst.sl 0 rfl) f120 (by omega) (by first | omega | (simp only [List.length_set]; omega)) (fun a448 o449 p450 => ?_))
        exact (kN0 (i := 8) hM374 (by decide) (by exact hJ446) (by exact ⟨_, _, rfl, fun _ => p450⟩))
      · rintro D451 ρ452 w453 hD454 hE455 hC456 hJ457 hA458 ⟨f121, _⟩
        have hst := hJ457.2.1 (not_yet hD454 (fun hm => (hC456 15 9 hm (by kernel_rfl))))
        replace hst : St w0 w453 (rowT 34 infoE v_xs ys :: L) := hst
        obtain ⟨a459, o460, e461, p462⟩ := f121
        have p462 := p462 (by intro m hm; simp only [List.mem_cons, List.not_mem_nil, or_false] at hm; rcases hm with rfl | rfl; exact (not_yet hD454 (fun hm => (hC456 15 9 hm (by kernel_rfl)))); exact (not_yet hD454 (fun hm => (hC456 17 9 hm (by kernel_rfl)))))
        exact go_plain (op_loadN (cs := [(.int .i64 ((ys[(k - 1)]'(by first | omega | (simp only [List.length_set]; omega))).Id)), (.int .i64 ((ys[(k - 1)]'(by first | omega | (simp only [List.length_set]; omega))).Tier)), (.int .i64 ((ys[(k - 1)]'(by first | omega | (simp only [List.length_set]; omega))).From)), (.int .i64 ((ys[(k - 1)]'(by first | omega | (simp only [List.length_set]; omega))).To)), (.int .u32 ((ys[(k - 1)]'(by first | omega | (simp only [List.length_set]; omega))).Sum))]) Try.isAgg34 Try.sizeOf34 e461 (Pt.of p462 rfl) rfl (kN0 (i := 9) hM374 (by decide) (by exact hJ457) (by exact rfl)))
      · rintro D463 ρ464 w465 hD466 hE467 hC468 hJ469 hA470 ⟨f0, _⟩
        have hst := hJ469.2.1 (not_yet hD466 (fun hm => (hC468 12 10 (hC468 13 12 (hC468 15 13 hm (by kernel_rfl)) (by kernel_rfl)) (by kernel_rfl))))
        replace hst : St w0 w465 (rowT 34 infoE v_xs ys :: L) := hst
        exact go_plain (op_move v_xs (f0.trans q350_0) (kN0 (i := 10) hM374 (by decide) (by exact hJ469) (by exact rfl)))
      · rintro D471 ρ472 w473 hD474 hE475 hC476 hJ477 hA478 ⟨f17, _⟩
        have hst := hJ477.2.1 (not_yet hD474 (fun hm => (hC476 12 11 (hC476 13 12 (hC476 15 13 hm (by kernel_rfl)) (by kernel_rfl)) (by kernel_rfl))))
        replace hst : St w0 w473 (rowT 34 infoE v_xs ys :: L) := hst
        exact go_plain (op_move (.int .i64 (k : Int)) (f17.trans q350_17) (kN0 (i := 11) hM374 (by decide) (by exact hJ477) (by exact rfl)))
      · rintro D479 ρ480 w481 hD482 hE483 hC484 hJ485 hA486 ⟨f123, f124, _⟩
        have hst := hJ485.2.1 (not_yet hD482 (fun hm => (hC484 13 12 (hC484 15 13 hm (by kernel_rfl)) (by kernel_rfl))))
        replace hst : St w0 w481 (rowT 34 infoE v_xs ys :: L) := hst
        refine go_plain (op_indexAddrN (E := infoE) (xs := ys) k Try.underlying22 Try.sizeOf34 f123 (hst.sl 0 rfl) f124 (by omega) (by first | omega | (simp only [List.length_set]; omega)) (fun a487 o488 p489 => ?_))
        exact (kN0 (i := 12) hM374 (by decide) (by exact hJ485) (by exact ⟨_, _, rfl, fun _ => p489⟩))
      · rintro D490 ρ491 w492 hD493 hE494 hC495 hJ496 hA497 ⟨f125, _⟩
        have hst := hJ496.2.1 (not_yet hD493 (fun hm => (hC495 15 13 hm (by kernel_rfl))))
        replace hst : St w0 w492 (rowT 34 infoE v_xs ys :: L) := hst
        obtain ⟨a498, o499, e500, p501⟩ := f125
        have p501 := p501 (by intro m hm; simp only [List.mem_cons, List.not_mem_nil, or_false] at hm; rcases hm with rfl | rfl; exact (not_yet hD493 (fun hm => (hC495 15 13 hm (by kernel_rfl)))); exact (not_yet hD493 (fun hm => (hC495 17 13 hm (by kernel_rfl)))))
        exact go_plain (op_loadN (cs := [(.int .i64 ((ys[k]'(by first | omega | (simp only [List.length_set]; omega))).Id)), (.int .i64 ((ys[k]'(by first | omega | (simp only [List.length_set]; omega))).Tier)), (.int .i64 ((ys[k]'(by first | omega | (simp only [List.length_set]; omega))).From)), (.int .i64 ((ys[k]'(by first | omega | (simp only [List.length_set]; omega))).To)), (.int .u32 ((ys[k]'(by first | omega | (simp only [List.length_set]; omega))).Sum))]) Try.isAgg34 Try.sizeOf34 e500 (Pt.of p501 rfl) rfl (kN0 (i := 13) hM374 (by decide) (by exact hJ496) (by exact rfl)))
      · rintro D502 ρ503 w504 hD505 hE506 hC507 hJ508 hA509 ⟨f113, f114, _⟩
        have hst := hJ508.2.1 (not_yet hD505 (fun hm => (hC507 15 14 hm (by kernel_rfl))))
        replace hst : St w0 w504 (rowT 34 infoE v_xs ys :: L) := hst
        refine go_plain (op_indexRowN hst 0 rfl k Try.underlying22 Try.sizeOf34 f113 f114 (by omega) (by first | omega | (simp only [List.length_set]; omega)) (fun g514 hb513 p512 => ?_))
        exact (kN0 (i := 14) hM374 (by decide) (by exact hJ508) (by exact ⟨_, hb513, rfl⟩))
      · rintro D515 ρ516 w517 hD518 hE519 hC520 hJ521 hA522 ⟨f127, f122, _⟩
        have hst := hJ521.2.1 hD518
        replace hst : St w0 w517 (rowT 34 infoE v_xs ys :: L) := hst
        obtain ⟨g523, hb525, e524⟩ := f127
        refine go_plain (op_storeRowN (y := (ys[(k - 1)]'(by first | omega | (simp only [List.length_set]; omega)))) hst 0 rfl hb525 Try.sizeOf34 e524 f122 (k) rfl (by first | omega | (simp only [List.length_set]; omega)) rfl (fun w526 hst => ?_))
        replace hst : St w0 w526 (rowT 34 infoE v_xs (ys.set (k) (ys[(k - 1)]'(by first | omega | (simp only [List.length_set]; omega)))) :: L) := hst
        have hI527 : stabIXs 15 [] D515 0 [(kEq v_xs), (kEq (.int .i64 (k : Int))), (kEq v_xs), (kEq (.int .i64 (k : Int))), (kEq (.int .i64 ((k : Int) - 1))), (kEq v_xs), (kEq (.int .i64 (k : Int))), (kEq (.int .i64 ((k : Int) - 1))), (kPtU [15, 17] [(.int .i64 ((ys[(k - 1)]'(by first | omega | (simp only [List.length_set]; omega))).Id)), (.int .i64 ((ys[(k - 1)]'(by first | omega | (simp only [List.length_set]; omega))).Tier)), (.int .i64 ((ys[(k - 1)]'(by first | omega | (simp only [List.length_set]; omega))).From)), (.int .i64 ((ys[(k - 1)]'(by first | omega | (simp only [List.length_set]; omega))).To)), (.int .u32 ((ys[(k - 1)]'(by first | omega | (simp only [List.length_set]; omega))).Sum))]), (kEq (.agg #[(.int .i64 ((ys[(k - 1)]'(by first | omega | (simp only [List.length_set]; omega))).Id)), (.int .i64 ((ys[(k - 1)]'(by first | omega | (simp only [List.length_set]; omega))).Tier)), (.int .i64 ((ys[(k - 1)]'(by first | omega | (simp only [List.length_set]; omega))).From)), (.int .i64 ((ys[(k - 1)]'(by first | omega | (simp only [List.length_set]; omega))).To)), (.int .u32 ((ys[(k - 1)]'(by first | omega | (simp only [List.length_set]; omega))).Sum))])), (kEq v_xs), (kEq (.int .i64 (k : Int))), (kPtU [15, 17] [(.int .i64 ((ys[k]'(by first | omega | (simp only [List.length_set]; omega))).Id)), (.int .i64 ((ys[k]'(by first | omega | (simp only [List.length_set]; omega))).Tier)), (.int .i64 ((ys[k]'(by first | omega | (simp only [List.length_set]; omega))).From)), (.int .i64 ((ys[k]'(by first | omega | (simp only [List.length_set]; omega))).To)), (.int .u32 ((ys[k]'(by first | omega | (simp only [List.length_set]; omega))).Sum))]), (kEq (.agg #[(.int .i64 ((ys[k]'(by first | omega | (simp only [List.length_set]; omega))).Id)), (.int .i64 ((ys[k]'(by first | omega | (simp only [List.length_set]; omega))).Tier)), (.int .i64 ((ys[k]'(by first | omega | (simp only [List.length_set]; omega))).From)), (.int .i64 ((ys[k]'(by first | omega | (simp only [List.length_set]; omega))).To)), (.int .u32 ((ys[k]'(by first | omega | (simp only [List.length_set]; omega))).Sum))])), (kRow v_xs (k * infoE.size)), kAny, (kRow v_xs ((k - 1) * infoE.size)), kAny] := ⟨Or.inr (Or.inr (Or.inr iEq)), Or.inr (Or.inr (Or.inr iEq)), Or.inr (Or.inr (Or.inr iEq)), Or.inr (Or.inr (Or.inr iEq)), Or.inr (Or.inr (Or.inr iEq)), Or.inr (Or.inr (Or.inr iEq)), Or.inr (Or.inr (Or.inr iEq)), Or.inr (Or.inr (Or.inr iEq)), Or.inr (Or.inr (Or.inr (iPtU (by decide)))), Or.inr (Or.inr (Or.inr iEq)), Or.inr (Or.inr (Or.inr iEq)), Or.inr (Or.inr (Or.inr iEq)), Or.inr (Or.inr (Or.inr (iPtU (by decide)))), Or.inr (Or.inr (Or.inr iEq)), Or.inr (Or.inr (Or.inr iRow)), Or.inl rfl, Or.inr (Or.inr (Or.inl (not_yet hD518 (fun hm => (hC520 16 15 hm (by kernel_rfl)))))), Or.inr (Or.inr (Or.inl (not_yet hD518 (fun hm => (hC520 17 15 hm (by kernel_rfl)))))), trivial⟩
        refine ⟨by exact ⟨hst.sub (.cons _ (List.Sublist.refl _)), (fun y0 => absurd y0 (fun h => Bool.noConfusion h)), (fun y0 y1 => hst.sub (.cons_cons _ (List.Sublist.refl _))), (fun y0 => absurd (show D515 17 = true from y0) (by rw [(not_yet hD518 (fun hm => (hC520 17 15 hm (by kernel_rfl))))]; decide))⟩, by exact trivial, kX [] hI527 ?_⟩
        intro j d hj; cases hj
      · rintro D528 ρ529 w530 hD531 hE532 hC533 hJ534 hA535 ⟨f115, f117, _⟩
        have hst := hJ534.2.2.1 (hE532 15 (by kernel_rfl)) (not_yet hD531 (fun hm => (hC533 17 16 hm (by kernel_rfl))))
        replace hst : St w0 w530 (rowT 34 infoE v_xs (ys.set (k) (ys[(k - 1)]'(by first | omega | (simp only [List.length_set]; omega)))) :: L) := hst
        refine go_plain (op_indexRowN hst 0 rfl (k - 1) Try.underlying22 Try.sizeOf34 f115 f117 (by omega) (by first | omega | (simp only [List.length_set]; omega)) (fun g540 hb539 p538 => ?_))
        exact (kN0 (i := 16) hM374 (by decide) (by exact hJ534) (by exact ⟨_, hb539, rfl⟩))
      · rintro D541 ρ542 w543 hD544 hE545 hC546 hJ547 hA548 ⟨f128, f126, _⟩
        have hst := hJ547.2.2.1 (hE545 15 (by kernel_rfl)) hD544
        replace hst : St w0 w543 (rowT 34 infoE v_xs (ys.set (k) (ys[(k - 1)]'(by first | omega | (simp only [List.length_set]; omega)))) :: L) := hst
        obtain ⟨g549, hb551, e550⟩ := f128
        refine go_plain (op_storeRowN (y := (ys[k]'(by first | omega | (simp only [List.length_set]; omega)))) hst 0 rfl hb551 Try.sizeOf34 e550 f126 ((k - 1)) rfl (by first | omega | (simp only [List.length_set]; omega)) rfl (fun w552 hst => ?_))
        replace hst : St w0 w552 (rowT 34 infoE v_xs ((ys.set (k) (ys[(k - 1)]'(by first | omega | (simp only [List.length_set]; omega)))).set ((k - 1)) (ys[k]'(by first | omega | (simp only [List.length_set]; omega)))) :: L) := hst
        have hI553 : stabIXs 17 [] D541 0 [(kEq v_xs), (kEq (.int .i64 (k : Int))), (kEq v_xs), (kEq (.int .i64 (k : Int))), (kEq (.int .i64 ((k : Int) - 1))), (kEq v_xs), (kEq (.int .i64 (k : Int))), (kEq (.int .i64 ((k : Int) - 1))), (kPtU [15, 17] [(.int .i64 ((ys[(k - 1)]'(by first | omega | (simp only [List.length_set]; omega))).Id)), (.int .i64 ((ys[(k - 1)]'(by first | omega | (simp only [List.length_set]; omega))).Tier)), (.int .i64 ((ys[(k - 1)]'(by first | omega | (simp only [List.length_set]; omega))).From)), (.int .i64 ((ys[(k - 1)]'(by first | omega | (simp only [List.length_set]; omega))).To)), (.int .u32 ((ys[(k - 1)]'(by first | omega | (simp only [List.length_set]; omega))).Sum))]), (kEq (.agg #[(.int .i64 ((ys[(k - 1)]'(by first | omega | (simp only [List.length_set]; omega))).Id)), (.int .i64 ((ys[(k - 1)]'(by first | omega | (simp only [List.length_set]; omega))).Tier)), (.int .i64 ((ys[(k - 1)]'(by first | omega | (simp only [List.length_set]; omega))).From)), (.int .i64 ((ys[(k - 1)]'(by first | omega | (simp only [List.length_set]; omega))).To)), (.int .u32 ((ys[(k - 1)]'(by first | omega | (simp only [List.length_set]; omega))).Sum))])), (kEq v_xs), (kEq (.int .i64 (k : Int))), (kPtU [15, 17] [(.int .i64 ((ys[k]'(by first | omega | (simp only [List.length_set]; omega))).Id)), (.int .i64 ((ys[k]'(by first | omega | (simp only [List.length_set]; omega))).Tier)), (.int .i64 ((ys[k]'(by first | omega | (simp only [List.length_set]; omega))).From)), (.int .i64 ((ys[k]'(by first | omega | (simp only [List.length_set]; omega))).To)), (.int .u32 ((ys[k]'(by first | omega | (simp only [List.length_set]; omega))).Sum))]), (kEq (.agg #[(.int .i64 ((ys[k]'(by first | omega | (simp only [List.length_set]; omega))).Id)), (.int .i64 ((ys[k]'(by first | omega | (simp only [List.length_set]; omega))).Tier)), (.int .i64 ((ys[k]'(by first | omega | (simp only [List.length_set]; omega))).From)), (.int .i64 ((ys[k]'(by first | omega | (simp only [List.length_set]; omega))).To)), (.int .u32 ((ys[k]'(by first | omega | (simp only [List.length_set]; omega))).Sum))])), (kRow v_xs (k * infoE.size)), kAny, (kRow v_xs ((k - 1) * infoE.size)), kAny] := ⟨Or.inr (Or.inr (Or.inr iEq)), Or.inr (Or.inr (Or.inr iEq)), Or.inr (Or.inr (Or.inr iEq)), Or.inr (Or.inr (Or.inr iEq)), Or.inr (Or.inr (Or.inr iEq)), Or.inr (Or.inr (Or.inr iEq)), Or.inr (Or.inr (Or.inr iEq)), Or.inr (Or.inr (Or.inr iEq)), Or.inr (Or.inr (Or.inr (iPtU (by decide)))), Or.inr (Or.inr (Or.inr iEq)), Or.inr (Or.inr (Or.inr iEq)), Or.inr (Or.inr (Or.inr iEq)), Or.inr (Or.inr (Or.inr (iPtU (by decide)))), Or.inr (Or.inr (Or.inr iEq)), Or.inr (Or.inr (Or.inr iRow)), Or.inr (Or.inr (Or.inr iAny)), Or.inr (Or.inr (Or.inr iRow)), Or.inl rfl, trivial⟩
        refine ⟨by exact ⟨hst.sub (.cons _ (List.Sublist.refl _)), (fun y0 => absurd (show D541 15 = false from y0) (by rw [(hE545 15 (by kernel_rfl))]; decide)), (fun y0 y1 => absurd y1 (fun h => Bool.noConfusion h)), (fun y0 => hst.sub (.cons_cons _ (List.Sublist.refl _)))⟩, by exact trivial, kX [] hI553 ?_⟩
        intro j d hj; cases hj
      intro ρ554 w555 Dw555 hallw555 hJw555 hRw555 hkw555
      have hst : St w0 w555 (rowT 34 infoE v_xs ((ys.set (k) (ys[(k - 1)]'(by first | omega | (simp only [List.length_set]; omega)))).set ((k - 1)) (ys[k]'(by first | omega | (simp only [List.length_set]; omega)))) :: L) := hJw555.2.2.2 (hallw555 17 (show 17 < 18 from by decide))
      have uw555_1 : ρ554 1 = (.int .i64 (an : Int)) := (hkw555 1 rfl).trans q350_1
      have uw555_2 : ρ554 2 = (.int .i64 (mn : Int)) := (hkw555 2 rfl).trans q350_2
      have uw555_3 : ρ554 3 = (.int .i64 (bn : Int)) := (hkw555 3 rfl).trans q350_3
      have uw555_4 : ρ554 4 = (.func (.func 24) #[] #[]) := (hkw555 4 rfl).trans q350_4
      have uw555_14 : ρ554 14 = (.int .i64 (i : Int)) := (hkw555 14 rfl).trans q350_14
      have uw555_15 : ρ554 15 = (.int .i64 (j : Int)) := (hkw555 15 rfl).trans q350_15
      have uw555_0 : ρ554 0 = v_xs := (hkw555 0 rfl).trans q350_0
      have uw555_17 : ρ554 17 = (.int .i64 (k : Int)) := (hkw555 17 rfl).trans q350_17
      have uw555_108 : ρ554 108 = (.int .i64 (k : Int)) := (hkw555 108 rfl).trans rfl
      have uw555_109 : ρ554 109 = (.int .i64 (i : Int)) := (hkw555 109 rfl).trans rfl
      have uw555_110 : ρ554 110 = (.bool (decide ((i : Int) < (k : Int)))) := (hkw555 110 rfl).trans rfl
      refine block_n (then_n ?_)
      refine cE_region rfl ?_
      refine s_cons (op_move (.int .i64 (k : Int)) uw555_17 ?_)
      refine s_cons (op_sub (k := .i64) (a := (k : Int)) (b := 1) ((k : Int) - 1) rfl rfl (xi64 (by omega) (by omega)) ?_)
      refine s_cons (op_assign (.int .i64 ((k : Int) - 1)) rfl ?_)
      refine s_nil ?_
      refine then_n ?_
      exact ⟨_, ⟨((ys.set (k) (ys[(k - 1)]'(by first | omega | (simp only [List.length_set]; omega)))).set ((k - 1)) (ys[k]'(by first | omega | (simp only [List.length_set]; omega)))), (k - 1), rfl, uw555_1, uw555_2, uw555_3, uw555_4, uw555_14, uw555_15, uw555_0, (congrArg (Value.int .i64) (show ((k : Int) - 1) = _ from by omega)), hst, (by omega), (by first | exact turned_refl _ _ _ | exact turned_trans hT (swp_turned (by omega) (by omega) ⟨by omega, by omega⟩ ⟨by omega, by omega⟩)), (by first | exact way_down (by omega) hS1 (by omega) (by omega) (by omega) hL (or_at2 hR (by omega)) | exact way_swap hW (by omega) (by omega) (by omega) (by omega) (by omega))⟩, (by simp only [id]; omega)⟩
    have c556 : ¬ ((i : Int) < (k : Int)) := of_decide_eq_false b354
    refine cE_cond false (congrArg Value.bool b354) (fun h => by cases h) (fun _ => ?_)
    refine cE_exit ?_
    refine then_x (then_x (block_hit (then_n ?_)))
    refine cE_ret ?_
    refine then_r ?_
    refine post_r (.tuple #[]) rfl ?_
    exact ⟨ys, rfl, hst.sub (.cons_cons _ (List.Sublist.refl _)), (by first | exact hT | exact turned_trans hT (turned_wide (by assumption) (by omega) (by omega))), (by first | exact way_end hW (by omega) | exact merged hZ.1 hZ.2.2.2 (by assumption) (by assumption) | exact merged hZ.1 hZ.2.2.2 (turned_refl _ _ _) (halves_right2 hZ (by omega) (by omega) (by omega)))⟩
  have c557 : ¬ (((bn : Int) - (mn : Int)) = 1) := of_decide_eq_false b278
  refine cE_cond false (congrArg Value.bool b278) (fun h => by cases h) (fun _ => ?_)
  refine cE_skip ?_
  refine then_n ?_
  refine cE_seq ?_
  refine cE_region rfl ?_
  refine s_cons (op_move (.int .i64 (an : Int)) rfl ?_)
  refine s_cons (op_move (.int .i64 (bn : Int)) rfl ?_)
  refine s_cons (op_add (k := .i64) (a := (an : Int)) (b := (bn : Int)) ((an : Int) + (bn : Int)) rfl rfl (xi64 (by omega) (by omega)) ?_)
  refine s_cons (op_conv (k := .i64) (a := ((an : Int) + (bn : Int))) ((an : Int) + (bn : Int)) Try.underlying31 (by rw [Try.underlying3]; rfl) rfl (xu64 (by omega) (by omega)) ?_)
  obtain ⟨md, hmd⟩ : ∃ x : Nat, x = (an + bn) / 2 := ⟨_, rfl⟩
  refine s_cons (op_shr (k := .u64) (k' := .u64) (a := ((an : Int) + (bn : Int))) (b := 1) (md : Int) rfl rfl (by omega) (by simp [IntKind.bits]; try omega) (half_eq hmd) ?_)
  refine s_cons (op_conv (k := .u64) (a := (md : Int)) (md : Int) Try.underlying3 (by rw [Try.underlying31]; rfl) rfl (xi64 (by omega) (by omega)) ?_)
  refine s_cons (op_assign (.int .i64 (md : Int)) rfl ?_)
  refine s_nil ?_
  refine then_n ?_
  refine cE_seq ?_
  refine cE_region rfl ?_
  refine s_cons (op_move (.int .i64 (md : Int)) rfl ?_)
  refine s_cons (op_move (.int .i64 (mn : Int)) rfl ?_)
  refine s_cons (op_add (k := .i64) (a := (md : Int)) (b := (mn : Int)) ((md : Int) + (mn : Int)) rfl rfl (xi64 (by omega) (by omega)) ?_)
  refine s_cons (op_assign (.int .i64 ((md : Int) + (mn : Int))) rfl ?_)
  refine s_nil ?_
  refine then_n ?_
  refine cE_seq ?_
  refine cE_region rfl ?_
  refine s_cons (op_assign (.int .i64 0) rfl ?_)
  refine s_cons (op_assign (.int .i64 0) rfl ?_)
  refine s_nil ?_
  refine then_n ?_
  refine cE_seq ?_
  refine cE_seq ?_
  refine cE_region rfl ?_
  refine s_cons (op_move (.int .i64 (mn : Int)) rfl ?_)
  refine s_cons (op_move (.int .i64 (md : Int)) rfl ?_)
  refine s_cons (op_gtr (k := .i64) (a := (mn : Int)) (b := (md : Int)) rfl rfl ?_)
  refine s_nil ?_
  refine then_n ?_
  refine cE_join (fun (ρ : Env) (w : World) => ∃ (lo : Nat) (hi : Nat), ρ 0 = v_xs ∧ ρ 1 = (.int .i64 (an : Int)) ∧ ρ 2 = (.int .i64 (mn : Int)) ∧ ρ 3 = (.int .i64 (bn : Int)) ∧ ρ 4 = (.func (.func 24) #[] #[]) ∧ ρ 18 = (.int .i64 (md : Int)) ∧ ρ 19 = (.int .i64 ((md : Int) + (mn : Int))) ∧ ρ 20 = (.int .i64 (lo : Int)) ∧ ρ 21 = (.int .i64 (hi : Int)) ∧ St w0 w (rowT 34 infoE v_xs xs :: L) ∧ (an ≤ lo ∧ lo ≤ hi ∧ hi ≤ mn ∧ hi ≤ md ∧ md + mn ≤ lo + bn ∧ (lo = an ∨ lo + bn = md + mn) ∧ (hi = mn ∨ hi = md))) ?_ ?_
  · rcases Bool.eq_false_or_eq_true (decide ((md : Int) < (mn : Int))) with b558 | b558
    · have c559 : (md : Int) < (mn : Int) := of_decide_eq_true b558
      refine cE_cond true (congrArg Value.bool b558) (fun _ => ?_) (fun h => by cases h)
      refine cE_seq ?_
      refine cE_region rfl ?_
      refine s_cons (op_move (.int .i64 ((md : Int) + (mn : Int))) rfl ?_)
      refine s_cons (op_move (.int .i64 (bn : Int)) rfl ?_)
      refine s_cons (op_sub (k := .i64) (a := ((md : Int) + (mn : Int))) (b := (bn : Int)) (((md : Int) + (mn : Int)) - (bn : Int)) rfl rfl (xi64 (by omega) (by omega)) ?_)
      refine s_cons (op_assign (.int .i64 (((md : Int) + (mn : Int)) - (bn : Int))) rfl ?_)
      refine s_nil ?_
      refine then_n ?_
      refine cE_region rfl ?_
      refine s_cons (op_move (.int .i64 (md : Int)) rfl ?_)
      refine s_cons (op_assign (.int .i64 (md : Int)) rfl ?_)
      refine s_nil ?_
      exact ⟨rfl, (md + mn - bn), md, rfl, rfl, rfl, rfl, rfl, rfl, rfl, (congrArg (Value.int .i64) (show (((md : Int) + (mn : Int)) - (bn : Int)) = _ from by omega)), rfl, hst, (by omega)⟩
    have c560 : ¬ ((md : Int) < (mn : Int)) := of_decide_eq_false b558
    refine cE_cond false (congrArg Value.bool b558) (fun h => by cases h) (fun _ => ?_)
    refine cE_seq ?_
    refine cE_region rfl ?_
    refine s_cons (op_move (.int .i64 (an : Int)) rfl ?_)
    refine s_cons (op_assign (.int .i64 (an : Int)) rfl ?_)
    refine s_nil ?_
    refine then_n ?_
    refine cE_region rfl ?_
    refine s_cons (op_move (.int .i64 (mn : Int)) rfl ?_)
    refine s_cons (op_assign (.int .i64 (mn : Int)) rfl ?_)
    refine s_nil ?_
    exact ⟨rfl, an, mn, rfl, rfl, rfl, rfl, rfl, rfl, rfl, rfl, rfl, hst, (by omega)⟩
  rintro ρ562 w563 ⟨lo, hi, q561_0, q561_1, q561_2, q561_3, q561_4, q561_18, q561_19, q561_20, q561_21, hst, hB⟩
  refine then_n ?_
  refine cE_seq ?_
  refine cE_region rfl ?_
  refine s_cons (op_move (.int .i64 ((md : Int) + (mn : Int))) q561_19 ?_)
  refine s_cons (op_sub (k := .i64) (a := ((md : Int) + (mn : Int))) (b := 1) (((md : Int) + (mn : Int)) - 1) rfl rfl (xi64 (by omega) (by omega)) ?_)
  refine s_cons (op_assign (.int .i64 (((md : Int) + (mn : Int)) - 1)) rfl ?_)
  refine s_nil ?_
  refine then_n ?_
  refine cE_seq ?_
  refine cE_block ?_
  refine cE_loop (fun (m : Nat) (ρ : Env) (w : World) => ∃ (s : Nat) (r : Nat), m = r - s ∧ ρ 0 = v_xs ∧ ρ 1 = (.int .i64 (an : Int)) ∧ ρ 2 = (.int .i64 (mn : Int)) ∧ ρ 3 = (.int .i64 (bn : Int)) ∧ ρ 4 = (.func (.func 24) #[] #[]) ∧ ρ 18 = (.int .i64 (md : Int)) ∧ ρ 19 = (.int .i64 ((md : Int) + (mn : Int))) ∧ ρ 22 = (.int .i64 (((md : Int) + (mn : Int)) - 1)) ∧ ρ 20 = (.int .i64 (s : Int)) ∧ ρ 21 = (.int .i64 (r : Int)) ∧ St w0 w (rowT 34 infoE v_xs xs :: L) ∧ (lo ≤ s ∧ s ≤ r ∧ r ≤ hi) ∧ (s = lo ∨ LeI xs (s - 1) (md + mn - s)) ∧ (r = hi ∨ AhI xs (md + mn - r - 1) r)) id _ ⟨lo, hi, rfl, q561_0, q561_1, q561_2, q561_3, q561_4, q561_18, q561_19, rfl, q561_20, q561_21, hst, (by omega), (by first | exact Or.inl rfl | exact hA | exact Or.inr (leI_at (by assumption) (by omega) (by omega))), (by first | exact Or.inl rfl | exact hB2 | exact Or.inr (ahI_at (by assumption) (by omega) rfl))⟩ ?_
  rintro m565 ρ566 w567 ⟨s, r, hm565, q564_0, q564_1, q564_2, q564_3, q564_4, q564_18, q564_19, q564_22, q564_20, q564_21, hst, hb, hA, hB2⟩
  refine cE_seq ?_
  refine cE_seq ?_
  refine cE_region rfl ?_
  refine s_cons (op_move (.int .i64 (s : Int)) q564_20 ?_)
  refine s_cons (op_move (.int .i64 (r : Int)) q564_21 ?_)
  refine s_cons (op_lss (k := .i64) (a := (s : Int)) (b := (r : Int)) rfl rfl ?_)
  refine s_nil ?_
  refine then_n ?_
  rcases Bool.eq_false_or_eq_true (decide ((s : Int) < (r : Int))) with b568 | b568
  · have c569 : (s : Int) < (r : Int) := of_decide_eq_true b568
    refine cE_cond true (congrArg Value.bool b568) (fun _ => ?_) (fun h => by cases h)
    refine cE_skip ?_
    refine then_n ?_
    refine cE_block ?_
    refine cE_seq ?_
    refine cE_region rfl ?_
    refine s_cons (op_move (.int .i64 (s : Int)) q564_20 ?_)
    refine s_cons (op_move (.int .i64 (r : Int)) q564_21 ?_)
    refine s_cons (op_add (k := .i64) (a := (s : Int)) (b := (r : Int)) ((s : Int) + (r : Int)) rfl rfl (xi64 (by omega) (by omega)) ?_)
    refine s_cons (op_conv (k := .i64) (a := ((s : Int) + (r : Int))) ((s : Int) + (r : Int)) Try.underlying31 (by rw [Try.underlying3]; rfl) rfl (xu64 (by omega) (by omega)) ?_)
    obtain ⟨c, hc⟩ : ∃ x : Nat, x = (s + r) / 2 := ⟨_, rfl⟩
    refine s_cons (op_shr (k := .u64) (k' := .u64) (a := ((s : Int) + (r : Int))) (b := 1) (c : Int) rfl rfl (by omega) (by simp [IntKind.bits]; try omega) (half_eq hc) ?_)
    refine s_cons (op_conv (k := .u64) (a := (c : Int)) (c : Int) Try.underlying3 (by rw [Try.underlying31]; rfl) rfl (xi64 (by omega) (by omega)) ?_)
    refine s_cons (op_assign (.int .i64 (c : Int)) rfl ?_)
    refine s_nil ?_
    refine then_n ?_
    refine cE_seq ?_
    refine cE_regionL hst [[(4, none)], [(0, none)], [(22, none)], [(23, none)], [(160, some 2), (161, some 3)], [(159, some 1), (162, some 4)], [(163, some 5)], [(0, none)], [(23, none)], [(165, some 7), (166, some 8)], [(167, some 9)], [(158, some 0), (164, some 6), (168, some 10)], [(169, some 11)], [(170, some 12)]] [(rEq (.func (.func 24) #[] #[])), (rEq v_xs), (rEq (.int .i64 (((md : Int) + (mn : Int)) - 1))), (rEq (.int .i64 (c : Int))), (rEq (.int .i64 ((md + mn - 1 - c : Nat) : Int))), (rPt [(.int .i64 ((xs[(md + mn - 1 - c : Nat)]'(by first | omega | (simp only [List.length_set]; omega))).Id)), (.int .i64 ((xs[(md + mn - 1 - c : Nat)]'(by first | omega | (simp only [List.length_set]; omega))).Tier)), (.int .i64 ((xs[(md + mn - 1 - c : Nat)]'(by first | omega | (simp only [List.length_set]; omega))).From)), (.int .i64 ((xs[(md + mn - 1 - c : Nat)]'(by first | omega | (simp only [List.length_set]; omega))).To)), (.int .u32 ((xs[(md + mn - 1 - c : Nat)]'(by first | omega | (simp only [List.length_set]; omega))).Sum))]), (rEq (.agg #[(.int .i64 ((xs[(md + mn - 1 - c : Nat)]'(by first | omega | (simp only [List.length_set]; omega))).Id)), (.int .i64 ((xs[(md + mn - 1 - c : Nat)]'(by first | omega | (simp only [List.length_set]; omega))).Tier)), (.int .i64 ((xs[(md + mn - 1 - c : Nat)]'(by first | omega | (simp only [List.length_set]; omega))).From)), (.int .i64 ((xs[(md + mn - 1 - c : Nat)]'(by first | omega | (simp only [List.length_set]; omega))).To)), (.int .u32 ((xs[(md + mn - 1 - c : Nat)]'(by first | omega | (simp only [List.length_set]; omega))).Sum))])), (rEq v_xs), (rEq (.int .i64 (c : Int))), (rPt [(.int .i64 ((xs[c]'(by first | omega | (simp only [List.length_set]; omega))).Id)), (.int .i64 ((xs[c]'(by first | omega | (simp only [List.length_set]; omega))).Tier)), (.int .i64 ((xs[c]'(by first | omega | (simp only [List.length_set]; omega))).From)), (.int .i64 ((xs[c]'(by first | omega | (simp only [List.length_set]; omega))).To)), (.int .u32 ((xs[c]'(by first | omega | (simp only [List.length_set]; omega))).Sum))]), (rEq (.agg #[(.int .i64 ((xs[c]'(by first | omega | (simp only [List.length_set]; omega))).Id)), (.int .i64 ((xs[c]'(by first | omega | (simp only [List.length_set]; omega))).Tier)), (.int .i64 ((xs[c]'(by first | omega | (simp only [List.length_set]; omega))).From)), (.int .i64 ((xs[c]'(by first | omega | (simp only [List.length_set]; omega))).To)), (.int .u32 ((xs[c]'(by first | omega | (simp only [List.length_set]; omega))).Sum))])), (rEq (.int .i64 (cmpB (xs[(md + mn - 1 - c : Nat)]'(by first | omega | (simp only [List.length_set]; omega))) (xs[c]'(by first | omega | (simp only [List.length_set]; omega)))))), (rEq (.bool (decide ((cmpB (xs[(md + mn - 1 - c : Nat)]'(by first | omega | (simp only [List.length_set]; omega))) (xs[c]'(by first | omega | (simp only [List.length_set]; omega)))) < 0)))), (rEq (.bool (!(decide ((cmpB (xs[(md + mn - 1 - c : Nat)]'(by first | omega | (simp only [List.length_set]; omega))) (xs[c]'(by first | omega | (simp only [List.length_set]; omega)))) < 0)))))] (by kernel_rfl) rfl (by kernel_rfl) ⟨sEq, sEq, sEq, sEq, sEq, sPt, sEq, sEq, sEq, sPt, sEq, sEq, sEq, sEq, trivial⟩ ⟨?_, ?_, ?_, ?_, ?_, ?_, ?_, ?_, ?_, ?_, ?_, ?_, ?_, ?_, trivial⟩ ?_
    · rintro ρ577 w578 hj579 ⟨f4, _⟩
      have hst := hj579.2
      exact go_plain (op_move (.func (.func 24) #[] #[]) (f4.trans q564_4) (kS hj579 rfl))
    · rintro ρ580 w581 hj582 ⟨f0, _⟩
      have hst := hj582.2
      exact go_plain (op_move v_xs (f0.trans q564_0) (kS hj582 rfl))
    · rintro ρ583 w584 hj585 ⟨f22, _⟩
      have hst := hj585.2
      exact go_plain (op_move (.int .i64 (((md : Int) + (mn : Int)) - 1)) (f22.trans q564_22) (kS hj585 rfl))
    · rintro ρ586 w587 hj588 ⟨f23, _⟩
      have hst := hj588.2
      exact go_plain (op_move (.int .i64 (c : Int)) (f23.trans rfl) (kS hj588 rfl))
    · rintro ρ589 w590 hj591 ⟨f160, f161, _⟩
      have hst := hj591.2
      exact go_plain (op_sub (k := .i64) (a := (((md : Int) + (mn : Int)) - 1)) (b := (c : Int)) ((md + mn - 1 - c : Nat) : Int) f160 f161 (by rw [IntKind.wrap_i64]; omega) (kS hj591 rfl))
    · rintro ρ592 w593 hj594 ⟨f159, f162, _⟩
      have hst := hj594.2
      refine go_plain (op_indexAddrN (E := infoE) (xs := xs) (md + mn - 1 - c : Nat) Try.underlying22 Try.sizeOf34 f159 (hst.sl 0 rfl) f162 (by omega) (by first | omega | (simp only [List.length_set]; omega)) (fun a595 o596 p597 => ?_))
      exact kS hj594 ⟨_, _, rfl, p597⟩
    · rintro ρ598 w599 hj600 ⟨f163, _⟩
      have hst := hj600.2
      obtain ⟨a601, o602, e603, p604⟩ := f163
      exact go_plain (op_loadN (cs := [(.int .i64 ((xs[(md + mn - 1 - c : Nat)]'(by first | omega | (simp only [List.length_set]; omega))).Id)), (.int .i64 ((xs[(md + mn - 1 - c : Nat)]'(by first | omega | (simp only [List.length_set]; omega))).Tier)), (.int .i64 ((xs[(md + mn - 1 - c : Nat)]'(by first | omega | (simp only [List.length_set]; omega))).From)), (.int .i64 ((xs[(md + mn - 1 - c : Nat)]'(by first | omega | (simp only [List.length_set]; omega))).To)), (.int .u32 ((xs[(md + mn - 1 - c : Nat)]'(by first | omega | (simp only [List.length_set]; omega))).Sum))]) Try.isAgg34 Try.sizeOf34 e603 (Pt.of p604 rfl) rfl (kS hj600 rfl))
    · rintro ρ605 w606 hj607 ⟨f0, _⟩
      have hst := hj607.2
      exact go_plain (op_move v_xs (f0.trans q564_0) (kS hj607 rfl))
    · rintro ρ608 w609 hj610 ⟨f23, _⟩
      have hst := hj610.2
      exact go_plain (op_move (.int .i64 (c : Int)) (f23.trans rfl) (kS hj610 rfl))
    · rintro ρ611 w612 hj613 ⟨f165, f166, _⟩
      have hst := hj613.2
      refine go_plain (op_indexAddrN (E := infoE) (xs := xs) c Try.underlying22 Try.sizeOf34 f165 (hst.sl 0 rfl) f166 (by omega) (by first | omega | (simp only [List.length_set]; omega)) (fun a614 o615 p616 => ?_))
      exact kS hj613 ⟨_, _, rfl, p616⟩
    · rintro ρ617 w618 hj619 ⟨f167, _⟩
      have hst := hj619.2
      obtain ⟨a620, o621, e622, p623⟩ := f167
      exact go_plain (op_loadN (cs := [(.int .i64 ((xs[c]'(by first | omega | (simp only [List.length_set]; omega))).Id)), (.int .i64 ((xs[c]'(by first | omega | (simp only [List.length_set]; omega))).Tier)), (.int .i64 ((xs[c]'(by first | omega | (simp only [List.length_set]; omega))).From)), (.int .i64 ((xs[c]'(by first | omega | (simp only [List.length_set]; omega))).To)), (.int .u32 ((xs[c]'(by first | omega | (simp only [List.length_set]; omega))).Sum))]) Try.isAgg34 Try.sizeOf34 e622 (Pt.of p623 rfl) rfl (kS hj619 rfl))
    · rintro ρ624 w625 hj626 ⟨f158, f164, f168, _⟩
      have hst := hj626.2
      refine go_plain (op_callv (cs := []) Try.call24 f158 (evs_cons (v := (.agg #[(.int .i64 ((xs[(md + mn - 1 - c : Nat)]'(by first | omega | (simp only [List.length_set]; omega))).Id)), (.int .i64 ((xs[(md + mn - 1 - c : Nat)]'(by first | omega | (simp only [List.length_set]; omega))).Tier)), (.int .i64 ((xs[(md + mn - 1 - c : Nat)]'(by first | omega | (simp only [List.length_set]; omega))).From)), (.int .i64 ((xs[(md + mn - 1 - c : Nat)]'(by first | omega | (simp only [List.length_set]; omega))).To)), (.int .u32 ((xs[(md + mn - 1 - c : Nat)]'(by first | omega | (simp only [List.length_set]; omega))).Sum))])) f164 (evs_cons (v := (.agg #[(.int .i64 ((xs[c]'(by first | omega | (simp only [List.length_set]; omega))).Id)), (.int .i64 ((xs[c]'(by first | omega | (simp only [List.length_set]; omega))).Tier)), (.int .i64 ((xs[c]'(by first | omega | (simp only [List.length_set]; omega))).From)), (.int .i64 ((xs[c]'(by first | omega | (simp only [List.length_set]; omega))).To)), (.int .u32 ((xs[c]'(by first | omega | (simp only [List.length_set]; omega))).Sum))])) f168 evs_nil)) (c_cmpB (w0 := w625) (a := (xs[(md + mn - 1 - c : Nat)]'(by first | omega | (simp only [List.length_set]; omega)))) (b := (xs[c]'(by first | omega | (simp only [List.length_set]; omega))))) ?_)
      rintro _ w627 ⟨rfl, hcall⟩
      refine ⟨_, rfl, ?_⟩
      exact kD hj626 hcall rfl
    · rintro ρ628 w629 hj630 ⟨f169, _⟩
      have hst := hj630.2
      exact go_plain (op_lss (k := .i64) (a := (cmpB (xs[(md + mn - 1 - c : Nat)]'(by first | omega | (simp only [List.length_set]; omega))) (xs[c]'(by first | omega | (simp only [List.length_set]; omega))))) (b := 0) f169 rfl (kS hj630 rfl))
    · rintro ρ631 w632 hj633 ⟨f170, _⟩
      have hst := hj633.2
      exact go_plain (op_not (b := decide ((cmpB (xs[(md + mn - 1 - c : Nat)]'(by first | omega | (simp only [List.length_set]; omega))) (xs[c]'(by first | omega | (simp only [List.length_set]; omega)))) < 0)) f170 (kS hj633 rfl))
    intro ρ634 w635 hbw635 hst hRw635 hkw635
    have uw635_0 : ρ634 0 = v_xs := (hkw635 0 rfl).trans q564_0
    have uw635_1 : ρ634 1 = (.int .i64 (an : Int)) := (hkw635 1 rfl).trans q564_1
    have uw635_2 : ρ634 2 = (.int .i64 (mn : Int)) := (hkw635 2 rfl).trans q564_2
    have uw635_3 : ρ634 3 = (.int .i64 (bn : Int)) := (hkw635 3 rfl).trans q564_3
    have uw635_4 : ρ634 4 = (.func (.func 24) #[] #[]) := (hkw635 4 rfl).trans q564_4
    have uw635_18 : ρ634 18 = (.int .i64 (md : Int)) := (hkw635 18 rfl).trans q564_18
    have uw635_19 : ρ634 19 = (.int .i64 ((md : Int) + (mn : Int))) := (hkw635 19 rfl).trans q564_19
    have uw635_22 : ρ634 22 = (.int .i64 (((md : Int) + (mn : Int)) - 1)) := (hkw635 22 rfl).trans q564_22
    have uw635_20 : ρ634 20 = (.int .i64 (s : Int)) := (hkw635 20 rfl).trans q564_20
    have uw635_21 : ρ634 21 = (.int .i64 (r : Int)) := (hkw635 21 rfl).trans q564_21
    have uw635_149 : ρ634 149 = (.int .i64 (s : Int)) := (hkw635 149 rfl).trans rfl
    have uw635_150 : ρ634 150 = (.int .i64 (r : Int)) := (hkw635 150 rfl).trans rfl
    have uw635_151 : ρ634 151 = (.bool (decide ((s : Int) < (r : Int)))) := (hkw635 151 rfl).trans rfl
    have uw635_152 : ρ634 152 = (.int .i64 (s : Int)) := (hkw635 152 rfl).trans rfl
    have uw635_153 : ρ634 153 = (.int .i64 (r : Int)) := (hkw635 153 rfl).trans rfl
    have uw635_154 : ρ634 154 = (.int .i64 ((s : Int) + (r : Int))) := (hkw635 154 rfl).trans rfl
    have uw635_155 : ρ634 155 = (.int .u64 ((s : Int) + (r : Int))) := (hkw635 155 rfl).trans rfl
    have uw635_156 : ρ634 156 = (.int .u64 (c : Int)) := (hkw635 156 rfl).trans rfl
    have uw635_157 : ρ634 157 = (.int .i64 (c : Int)) := (hkw635 157 rfl).trans rfl
    have uw635_23 : ρ634 23 = (.int .i64 (c : Int)) := (hkw635 23 rfl).trans rfl
    have uw635_171 : ρ634 171 = (.bool (!(decide ((cmpB (xs[(md + mn - 1 - c : Nat)]'(by first | omega | (simp only [List.length_set]; omega))) (xs[c]'(by first | omega | (simp only [List.length_set]; omega)))) < 0)))) := hRw635 13 171 rfl
    refine then_n ?_
    rcases Bool.eq_false_or_eq_true (decide ((cmpB (xs[(md + mn - 1 - c : Nat)]'(by first | omega | (simp only [List.length_set]; omega))) (xs[c]'(by first | omega | (simp only [List.length_set]; omega)))) < 0)) with b636 | b636
    · have c637 : (cmpB (xs[(md + mn - 1 - c : Nat)]'(by first | omega | (simp only [List.length_set]; omega))) (xs[c]'(by first | omega | (simp only [List.length_set]; omega)))) < 0 := of_decide_eq_true b636
      refine cE_cond false (uw635_171.trans (congrArg Value.bool (congrArg (! ·) b636))) (fun h => by cases h) (fun _ => ?_)
      refine cE_region rfl ?_
      refine s_cons (op_move (.int .i64 (c : Int)) uw635_23 ?_)
      refine s_cons (op_assign (.int .i64 (c : Int)) rfl ?_)
      refine s_nil ?_
      refine block_n (then_n ?_)
      exact ⟨_, ⟨s, c, rfl, uw635_0, uw635_1, uw635_2, uw635_3, uw635_4, uw635_18, uw635_19, uw635_22, uw635_20, rfl, hst, (by omega), (by first | exact Or.inl rfl | exact hA | exact Or.inr (leI_at (by assumption) (by omega) (by omega))), (by first | exact Or.inl rfl | exact hB2 | exact Or.inr (ahI_at (by assumption) (by omega) rfl))⟩, (by simp only [id]; omega)⟩
    have c638 : ¬ ((cmpB (xs[(md + mn - 1 - c : Nat)]'(by first | omega | (simp only [List.length_set]; omega))) (xs[c]'(by first | omega | (simp only [List.length_set]; omega)))) < 0) := of_decide_eq_false b636
    refine cE_cond true (uw635_171.trans (congrArg Value.bool (congrArg (! ·) b636))) (fun _ => ?_) (fun h => by cases h)
    refine cE_region rfl ?_
    refine s_cons (op_move (.int .i64 (c : Int)) uw635_23 ?_)
    refine s_cons (op_add (k := .i64) (a := (c : Int)) (b := 1) ((c : Int) + 1) rfl rfl (xi64 (by omega) (by omega)) ?_)
    refine s_cons (op_assign (.int .i64 ((c : Int) + 1)) rfl ?_)
    refine s_nil ?_
    refine block_n (then_n ?_)
    exact ⟨_, ⟨(c + 1), r, rfl, uw635_0, uw635_1, uw635_2, uw635_3, uw635_4, uw635_18, uw635_19, uw635_22, (congrArg (Value.int .i64) (show ((c : Int) + 1) = _ from by omega)), uw635_21, hst, (by omega), (by first | exact Or.inl rfl | exact hA | exact Or.inr (leI_at (by assumption) (by omega) (by omega))), (by first | exact Or.inl rfl | exact hB2 | exact Or.inr (ahI_at (by assumption) (by omega) rfl))⟩, (by simp only [id]; omega)⟩
  have c639 : ¬ ((s : Int) < (r : Int)) := of_decide_eq_false b568
  refine cE_cond false (congrArg Value.bool b568) (fun h => by cases h) (fun _ => ?_)
  refine cE_exit ?_
  refine then_x (then_x (block_hit (then_n ?_)))
  refine cE_seq ?_
  refine cE_region rfl ?_
  refine s_cons (op_move (.int .i64 ((md : Int) + (mn : Int))) q564_19 ?_)
  refine s_cons (op_move (.int .i64 (s : Int)) q564_20 ?_)
  obtain ⟨e, he⟩ : ∃ x : Nat, x = md + mn - s := ⟨_, rfl⟩
  refine s_cons (op_sub (k := .i64) (a := ((md : Int) + (mn : Int))) (b := (s : Int)) (e : Int) rfl rfl (by rw [IntKind.wrap_i64]; omega) ?_)
  refine s_cons (op_assign (.int .i64 (e : Int)) rfl ?_)
  refine s_nil ?_
  refine then_n ?_
  refine cE_seq ?_
  refine cE_seq ?_
  refine cE_join (fun (ρ : Env) (w : World) => ρ 0 = v_xs ∧ ρ 1 = (.int .i64 (an : Int)) ∧ ρ 2 = (.int .i64 (mn : Int)) ∧ ρ 3 = (.int .i64 (bn : Int)) ∧ ρ 4 = (.func (.func 24) #[] #[]) ∧ ρ 18 = (.int .i64 (md : Int)) ∧ ρ 19 = (.int .i64 ((md : Int) + (mn : Int))) ∧ ρ 22 = (.int .i64 (((md : Int) + (mn : Int)) - 1)) ∧ ρ 20 = (.int .i64 (s : Int)) ∧ ρ 21 = (.int .i64 (r : Int)) ∧ ρ 24 = (.int .i64 (e : Int)) ∧ ρ 185 = (.bool (decide (s < mn ∧ mn < e))) ∧ St w0 w (rowT 34 infoE v_xs xs :: L)) ?_ ?_
  · refine cE_region rfl ?_
    refine s_cons (op_move (.int .i64 (s : Int)) q564_20 ?_)
    refine s_cons (op_move (.int .i64 (mn : Int)) q564_2 ?_)
    refine s_cons (op_lss (k := .i64) (a := (s : Int)) (b := (mn : Int)) rfl rfl ?_)
    refine s_cons (op_move (.bool (decide ((s : Int) < (mn : Int)))) rfl ?_)
    rcases Bool.eq_false_or_eq_true (decide ((s : Int) < (mn : Int))) with b640 | b640
    · have c641 : (s : Int) < (mn : Int) := of_decide_eq_true b640
      refine s_yes 181 rfl (congrArg Value.bool b640) (op_move (.int .i64 (mn : Int)) q564_2 ?_)
      refine s_yes 181 rfl (congrArg Value.bool b640) (op_move (.int .i64 (e : Int)) rfl ?_)
      refine s_yes 181 rfl (congrArg Value.bool b640) (op_lss (k := .i64) (a := (mn : Int)) (b := (e : Int)) rfl rfl ?_)
      refine s_cons (op_pick_t (.bool (decide ((mn : Int) < (e : Int)))) (congrArg Value.bool b640) rfl ?_)
      refine s_nil ?_
      exact ⟨rfl, q564_0, q564_1, q564_2, q564_3, q564_4, q564_18, q564_19, q564_22, q564_20, q564_21, rfl, (congrArg Value.bool (show (decide ((mn : Int) < (e : Int))) = _ from (by first | exact (decide_eq_false (by omega)).symm | exact decide_eq_decide.2 (by omega)))), hst⟩
    have c642 : ¬ ((s : Int) < (mn : Int)) := of_decide_eq_false b640
    refine s_no 181 rfl (congrArg Value.bool b640) ?_
    refine s_no 181 rfl (congrArg Value.bool b640) ?_
    refine s_no 181 rfl (congrArg Value.bool b640) ?_
    refine s_cons (op_pick_f (.bool false) (congrArg Value.bool b640) rfl ?_)
    refine s_nil ?_
    exact ⟨rfl, q564_0, q564_1, q564_2, q564_3, q564_4, q564_18, q564_19, q564_22, q564_20, q564_21, rfl, (congrArg Value.bool (show false = _ from (by first | exact (decide_eq_false (by omega)).symm | exact decide_eq_decide.2 (by omega)))), hst⟩
  rintro ρ644 w645 ⟨q643_0, q643_1, q643_2, q643_3, q643_4, q643_18, q643_19, q643_22, q643_20, q643_21, q643_24, q643_185, hst⟩
  refine then_n ?_
  refine cE_join (fun (ρ : Env) (w : World) => ∃ (ys : List Info), ρ 1 = (.int .i64 (an : Int)) ∧ ρ 2 = (.int .i64 (mn : Int)) ∧ ρ 3 = (.int .i64 (bn : Int)) ∧ ρ 4 = (.func (.func 24) #[] #[]) ∧ ρ 18 = (.int .i64 (md : Int)) ∧ ρ 19 = (.int .i64 ((md : Int) + (mn : Int))) ∧ ρ 22 = (.int .i64 (((md : Int) + (mn : Int)) - 1)) ∧ ρ 20 = (.int .i64 (s : Int)) ∧ ρ 21 = (.int .i64 (r : Int)) ∧ ρ 24 = (.int .i64 (e : Int)) ∧ ρ 0 = v_xs ∧ St w0 w (rowT 34 infoE v_xs ys :: L) ∧ (Turned xs ys an bn) ∧ (Halves ys an s md e bn)) ?_ ?_
  · rcases Bool.eq_false_or_eq_true (decide (s < mn ∧ mn < e)) with b646 | b646
    · have c647 : s < mn ∧ mn < e := of_decide_eq_true b646
      refine cE_cond true (q643_185.trans (congrArg Value.bool b646)) (fun _ => ?_) (fun h => by cases h)
      refine cE_region rfl ?_
      refine s_cons (op_move v_xs q643_0 ?_)
      refine s_cons (op_move (.int .i64 (s : Int)) q643_20 ?_)
      refine s_cons (op_move (.int .i64 (mn : Int)) q643_2 ?_)
      refine s_cons (op_move (.int .i64 (e : Int)) q643_24 ?_)
      refine s_cons (op_move (.func (.func 24) #[] #[]) q643_4 ?_)
      refine s_cons (op_call Try.call31 (evs_cons (v := v_xs) rfl (evs_cons (v := (.int .i64 (s : Int))) rfl (evs_cons (v := (.int .i64 (mn : Int))) rfl (evs_cons (v := (.int .i64 (e : Int))) rfl (evs_cons (v := (.func (.func 24) #[] #[])) rfl evs_nil))))) (c_rotate (v_xs := v_xs) (xs := xs) (a := (s : Int)) (mid := (mn : Int)) (b := (e : Int)) (an := s) (mn := mn) (bn := e) (ha := (by omega)) (hm := (by omega)) (hb := (by omega)) (ham := (by omega)) (hmb := (by omega)) (hbl := (by omega)) (hxl := (by omega)) (hst := hst)) ?_)
      rintro _ w651 ⟨r648, rfl, hcall, x649, x650⟩
      refine ⟨_, rfl, ?_⟩
      have hst : St w0 w651 (rowT 34 infoE v_xs r648 :: L) := hcall
      refine s_nil ?_
      exact ⟨rfl, r648, q643_1, q643_2, q643_3, q643_4, q643_18, q643_19, q643_22, q643_20, q643_21, q643_24, q643_0, hst, (by first | exact turned_refl _ _ _ | exact turned_wide (by assumption) (by omega) (by omega)), (halves_of2 hS1 hS2 hA hB2 (by first | assumption | exact rot_none (by omega)) (by omega) (by omega) (by omega) (by omega) (by omega) (by omega) (by omega) (by omega) (by omega) (by omega) (by omega))⟩
    have c652 : ¬ (s < mn ∧ mn < e) := of_decide_eq_false b646
    refine cE_cond false (q643_185.trans (congrArg Value.bool b646)) (fun h => by cases h) (fun _ => ?_)
    refine cE_skip ?_
    exact ⟨rfl, xs, q643_1, q643_2, q643_3, q643_4, q643_18, q643_19, q643_22, q643_20, q643_21, q643_24, q643_0, hst, (by first | exact turned_refl _ _ _ | exact turned_wide (by assumption) (by omega) (by omega)), (halves_of2 hS1 hS2 hA hB2 (by first | assumption | exact rot_none (by omega)) (by omega) (by omega) (by omega) (by omega) (by omega) (by omega) (by omega) (by omega) (by omega) (by omega) (by omega))⟩
  rintro ρ654 w655 ⟨ys, q653_1, q653_2, q653_3, q653_4, q653_18, q653_19, q653_22, q653_20, q653_21, q653_24, q653_0, hst, hT, hH⟩
  have hyl := hT.1
  refine then_n ?_
  refine cE_seq ?_
  refine cE_seq ?_
  refine cE_join (fun (ρ : Env) (w : World) => ρ 1 = (.int .i64 (an : Int)) ∧ ρ 2 = (.int .i64 (mn : Int)) ∧ ρ 3 = (.int .i64 (bn : Int)) ∧ ρ 4 = (.func (.func 24) #[] #[]) ∧ ρ 18 = (.int .i64 (md : Int)) ∧ ρ 19 = (.int .i64 ((md : Int) + (mn : Int))) ∧ ρ 22 = (.int .i64 (((md : Int) + (mn : Int)) - 1)) ∧ ρ 20 = (.int .i64 (s : Int)) ∧ ρ 21 = (.int .i64 (r : Int)) ∧ ρ 24 = (.int .i64 (e : Int)) ∧ ρ 0 = v_xs ∧ ρ 199 = (.bool (decide (an < s ∧ s < md))) ∧ St w0 w (rowT 34 infoE v_xs ys :: L)) ?_ ?_
  · refine cE_region rfl ?_
    refine s_cons (op_move (.int .i64 (an : Int)) q653_1 ?_)
    refine s_cons (op_move (.int .i64 (s : Int)) q653_20 ?_)
    refine s_cons (op_lss (k := .i64) (a := (an : Int)) (b := (s : Int)) rfl rfl ?_)
    refine s_cons (op_move (.bool (decide ((an : Int) < (s : Int)))) rfl ?_)
    rcases Bool.eq_false_or_eq_true (decide ((an : Int) < (s : Int))) with b656 | b656
    · have c657 : (an : Int) < (s : Int) := of_decide_eq_true b656
      refine s_yes 195 rfl (congrArg Value.bool b656) (op_move (.int .i64 (s : Int)) q653_20 ?_)
      refine s_yes 195 rfl (congrArg Value.bool b656) (op_move (.int .i64 (md : Int)) q653_18 ?_)
      refine s_yes 195 rfl (congrArg Value.bool b656) (op_lss (k := .i64) (a := (s : Int)) (b := (md : Int)) rfl rfl ?_)
      refine s_cons (op_pick_t (.bool (decide ((s : Int) < (md : Int)))) (congrArg Value.bool b656) rfl ?_)
      refine s_nil ?_
      exact ⟨rfl, q653_1, q653_2, q653_3, q653_4, q653_18, q653_19, q653_22, q653_20, q653_21, q653_24, q653_0, (congrArg Value.bool (show (decide ((s : Int) < (md : Int))) = _ from (by first | exact (decide_eq_false (by omega)).symm | exact decide_eq_decide.2 (by omega)))), hst⟩
    have c658 : ¬ ((an : Int) < (s : Int)) := of_decide_eq_false b656
    refine s_no 195 rfl (congrArg Value.bool b656) ?_
    refine s_no 195 rfl (congrArg Value.bool b656) ?_
    refine s_no 195 rfl (congrArg Value.bool b656) ?_
    refine s_cons (op_pick_f (.bool false) (congrArg Value.bool b656) rfl ?_)
    refine s_nil ?_
    exact ⟨rfl, q653_1, q653_2, q653_3, q653_4, q653_18, q653_19, q653_22, q653_20, q653_21, q653_24, q653_0, (congrArg Value.bool (show false = _ from (by first | exact (decide_eq_false (by omega)).symm | exact decide_eq_decide.2 (by omega)))), hst⟩
  rintro ρ660 w661 ⟨q659_1, q659_2, q659_3, q659_4, q659_18, q659_19, q659_22, q659_20, q659_21, q659_24, q659_0, q659_199, hst⟩
  refine then_n ?_
  refine cE_join (fun (ρ : Env) (w : World) => ∃ (zs : List Info), ρ 1 = (.int .i64 (an : Int)) ∧ ρ 2 = (.int .i64 (mn : Int)) ∧ ρ 3 = (.int .i64 (bn : Int)) ∧ ρ 4 = (.func (.func 24) #[] #[]) ∧ ρ 18 = (.int .i64 (md : Int)) ∧ ρ 19 = (.int .i64 ((md : Int) + (mn : Int))) ∧ ρ 22 = (.int .i64 (((md : Int) + (mn : Int)) - 1)) ∧ ρ 20 = (.int .i64 (s : Int)) ∧ ρ 21 = (.int .i64 (r : Int)) ∧ ρ 24 = (.int .i64 (e : Int)) ∧ ρ 0 = v_xs ∧ St w0 w (rowT 34 infoE v_xs zs :: L) ∧ (Turned xs zs an bn) ∧ (SrtR zs an md ∧ SrtR zs md e ∧ SrtR zs e bn ∧ Cross zs an md bn)) ?_ ?_
  · rcases Bool.eq_false_or_eq_true (decide (an < s ∧ s < md)) with b662 | b662
    · have c663 : an < s ∧ s < md := of_decide_eq_true b662
      refine cE_cond true (q659_199.trans (congrArg Value.bool b662)) (fun _ => ?_) (fun h => by cases h)
      refine cE_region rfl ?_
      refine s_cons (op_move v_xs q659_0 ?_)
      refine s_cons (op_move (.int .i64 (an : Int)) q659_1 ?_)
      refine s_cons (op_move (.int .i64 (s : Int)) q659_20 ?_)
      refine s_cons (op_move (.int .i64 (md : Int)) q659_18 ?_)
      refine s_cons (op_move (.func (.func 24) #[] #[]) q659_4 ?_)
      refine s_cons (op_call Try.call30 (evs_cons (v := v_xs) rfl (evs_cons (v := (.int .i64 (an : Int))) rfl (evs_cons (v := (.int .i64 (s : Int))) rfl (evs_cons (v := (.int .i64 (md : Int))) rfl (evs_cons (v := (.func (.func 24) #[] #[])) rfl evs_nil))))) (ih _ (by omega) (v_xs := v_xs) (xs := ys) (an := an) (mn := s) (bn := md) (ham := (by omega)) (hmb := (by omega)) (hbl := (by omega)) (hxl := (by omega)) (hS1 := (by first | exact hH.1 | exact hZ.2.1)) (hS2 := (by first | exact hH.2.1 | exact hZ.2.2.1)) (hst := hst) (hN := rfl)) ?_)
      rintro _ w667 ⟨r664, rfl, hcall, x665, x666⟩
      refine ⟨_, rfl, ?_⟩
      have hst : St w0 w667 (rowT 34 infoE v_xs r664 :: L) := hcall
      refine s_nil ?_
      exact ⟨rfl, r664, q659_1, q659_2, q659_3, q659_4, q659_18, q659_19, q659_22, q659_20, q659_21, q659_24, q659_0, hst, (by first | exact hT | exact turned_trans hT (turned_wide (by assumption) (by omega) (by omega))), (by first | exact halves_turn hH (by assumption) (by omega) (by assumption) | exact halves_turn hH (turned_refl _ _ _) (by omega) (halves_left hH (by omega) (by omega) (by omega)))⟩
    have c668 : ¬ (an < s ∧ s < md) := of_decide_eq_false b662
    refine cE_cond false (q659_199.trans (congrArg Value.bool b662)) (fun h => by cases h) (fun _ => ?_)
    refine cE_skip ?_
    exact ⟨rfl, ys, q659_1, q659_2, q659_3, q659_4, q659_18, q659_19, q659_22, q659_20, q659_21, q659_24, q659_0, hst, (by first | exact hT | exact turned_trans hT (turned_wide (by assumption) (by omega) (by omega))), (by first | exact halves_turn hH (by assumption) (by omega) (by assumption) | exact halves_turn hH (turned_refl _ _ _) (by omega) (halves_left hH (by omega) (by omega) (by omega)))⟩
  rintro ρ670 w671 ⟨zs, q669_1, q669_2, q669_3, q669_4, q669_18, q669_19, q669_22, q669_20, q669_21, q669_24, q669_0, hst, hT, hZ⟩
  have hyl := hT.1
  refine then_n ?_
  refine cE_seq ?_
  refine cE_join (fun (ρ : Env) (w : World) => ρ 1 = (.int .i64 (an : Int)) ∧ ρ 2 = (.int .i64 (mn : Int)) ∧ ρ 3 = (.int .i64 (bn : Int)) ∧ ρ 4 = (.func (.func 24) #[] #[]) ∧ ρ 18 = (.int .i64 (md : Int)) ∧ ρ 19 = (.int .i64 ((md : Int) + (mn : Int))) ∧ ρ 22 = (.int .i64 (((md : Int) + (mn : Int)) - 1)) ∧ ρ 20 = (.int .i64 (s : Int)) ∧ ρ 21 = (.int .i64 (r : Int)) ∧ ρ 24 = (.int .i64 (e : Int)) ∧ ρ 0 = v_xs ∧ ρ 213 = (.bool (decide (md < e ∧ e < bn))) ∧ St w0 w (rowT 34 infoE v_xs zs :: L)) ?_ ?_
  · refine cE_region rfl ?_
    refine s_cons (op_move (.int .i64 (md : Int)) q669_18 ?_)
    refine s_cons (op_move (.int .i64 (e : Int)) q669_24 ?_)
    refine s_cons (op_lss (k := .i64) (a := (md : Int)) (b := (e : Int)) rfl rfl ?_)
    refine s_cons (op_move (.bool (decide ((md : Int) < (e : Int)))) rfl ?_)
    rcases Bool.eq_false_or_eq_true (decide ((md : Int) < (e : Int))) with b672 | b672
    · have c673 : (md : Int) < (e : Int) := of_decide_eq_true b672
      refine s_yes 209 rfl (congrArg Value.bool b672) (op_move (.int .i64 (e : Int)) q669_24 ?_)
      refine s_yes 209 rfl (congrArg Value.bool b672) (op_move (.int .i64 (bn : Int)) q669_3 ?_)
      refine s_yes 209 rfl (congrArg Value.bool b672) (op_lss (k := .i64) (a := (e : Int)) (b := (bn : Int)) rfl rfl ?_)
      refine s_cons (op_pick_t (.bool (decide ((e : Int) < (bn : Int)))) (congrArg Value.bool b672) rfl ?_)
      refine s_nil ?_
      exact ⟨rfl, q669_1, q669_2, q669_3, q669_4, q669_18, q669_19, q669_22, q669_20, q669_21, q669_24, q669_0, (congrArg Value.bool (show (decide ((e : Int) < (bn : Int))) = _ from (by first | exact (decide_eq_false (by omega)).symm | exact decide_eq_decide.2 (by omega)))), hst⟩
    have c674 : ¬ ((md : Int) < (e : Int)) := of_decide_eq_false b672
    refine s_no 209 rfl (congrArg Value.bool b672) ?_
    refine s_no 209 rfl (congrArg Value.bool b672) ?_
    refine s_no 209 rfl (congrArg Value.bool b672) ?_
    refine s_cons (op_pick_f (.bool false) (congrArg Value.bool b672) rfl ?_)
    refine s_nil ?_
    exact ⟨rfl, q669_1, q669_2, q669_3, q669_4, q669_18, q669_19, q669_22, q669_20, q669_21, q669_24, q669_0, (congrArg Value.bool (show false = _ from (by first | exact (decide_eq_false (by omega)).symm | exact decide_eq_decide.2 (by omega)))), hst⟩
  rintro ρ676 w677 ⟨q675_1, q675_2, q675_3, q675_4, q675_18, q675_19, q675_22, q675_20, q675_21, q675_24, q675_0, q675_213, hst⟩
  refine then_n ?_
  rcases Bool.eq_false_or_eq_true (decide (md < e ∧ e < bn)) with b678 | b678
  · have c679 : md < e ∧ e < bn := of_decide_eq_true b678
    refine cE_cond true (q675_213.trans (congrArg Value.bool b678)) (fun _ => ?_) (fun h => by cases h)
    refine cE_region rfl ?_
    refine s_cons (op_move v_xs q675_0 ?_)
    refine s_cons (op_move (.int .i64 (md : Int)) q675_18 ?_)
    refine s_cons (op_move (.int .i64 (e : Int)) q675_24 ?_)
    refine s_cons (op_move (.int .i64 (bn : Int)) q675_3 ?_)
    refine s_cons (op_move (.func (.func 24) #[] #[]) q675_4 ?_)
    refine s_cons (op_call Try.call30 (evs_cons (v := v_xs) rfl (evs_cons (v := (.int .i64 (md : Int))) rfl (evs_cons (v := (.int .i64 (e : Int))) rfl (evs_cons (v := (.int .i64 (bn : Int))) rfl (evs_cons (v := (.func (.func 24) #[] #[])) rfl evs_nil))))) (ih _ (by omega) (v_xs := v_xs) (xs := zs) (an := md) (mn := e) (bn := bn) (ham := (by omega)) (hmb := (by omega)) (hbl := (by omega)) (hxl := (by omega)) (hS1 := (by first | exact hH.1 | exact hZ.2.1)) (hS2 := (by first | exact hH.2.1 | exact hZ.2.2.1)) (hst := hst) (hN := rfl)) ?_)
    rintro _ w683 ⟨r680, rfl, hcall, x681, x682⟩
    refine ⟨_, rfl, ?_⟩
    have hst : St w0 w683 (rowT 34 infoE v_xs r680 :: L) := hcall
    refine s_nil ?_
    refine post_n (.tuple #[]) rfl ?_
    exact ⟨r680, rfl, hst.sub (.cons_cons _ (List.Sublist.refl _)), (by first | exact hT | exact turned_trans hT (turned_wide (by assumption) (by omega) (by omega))), (by first | exact way_end hW (by omega) | exact merged hZ.1 hZ.2.2.2 (by assumption) (by assumption) | exact merged hZ.1 hZ.2.2.2 (turned_refl _ _ _) (halves_right2 hZ (by omega) (by omega) (by omega)))⟩
  have c684 : ¬ (md < e ∧ e < bn) := of_decide_eq_false b678
  refine cE_cond false (q675_213.trans (congrArg Value.bool b678)) (fun h => by cases h) (fun _ => ?_)
  refine cE_skip ?_
  refine post_n (.tuple #[]) rfl ?_
  exact ⟨zs, rfl, hst.sub (.cons_cons _ (List.Sublist.refl _)), (by first | exact hT | exact turned_trans hT (turned_wide (by assumption) (by omega) (by omega))), (by first | exact way_end hW (by omega) | exact merged hZ.1 hZ.2.2.2 (by assumption) (by assumption) | exact merged hZ.1 hZ.2.2.2 (turned_refl _ _ _) (halves_right2 hZ (by omega) (by omega) (by omega)))⟩
theorem c_symMerge {w0 w : World} {L : List Item} (v_xs : Value) (xs : List Info) (an : Nat) (mn : Nat) (bn : Nat) (ham : an < mn) (hmb : mn < bn) (hbl : bn ≤ xs.length) (hxl : xs.length ≤ 1000000000) (hS1 : SrtR xs an mn) (hS2 : SrtR xs mn bn) (hst : St w0 w (rowT 34 infoE v_xs xs :: L)) :
    Calls Try.prog 30 #[v_xs, (.int .i64 (an : Int)), (.int .i64 (mn : Int)), (.int .i64 (bn : Int)), (.func (.func 24) #[] #[])] w fun e w' => ∃ (qs : List Info), e = .returned (.tuple #[]) ∧ St w0 w' (rowT 34 infoE v_xs qs :: L) ∧ Turned xs qs an bn ∧ SrtR qs an bn :=
  c_symMerge_rec _ w0 w L v_xs xs an mn bn ham hmb hbl hxl hS1 hS2 hst rfl

end Go.Proofs.Ytadnedoecbfojaa
