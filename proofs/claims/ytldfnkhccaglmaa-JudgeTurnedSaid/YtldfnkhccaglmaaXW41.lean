/- twinkeeplaw8.Make -/
import Derived.Test.YtldfnkhccaglmaaXLB
import Derived.Test.YtldfnkhccaglmaaXLA
import Derived.Test.YtldfnkhccaglmaaXW38
namespace Go.Proofs.Ytldfnkhccaglmaa
open Go.RowKit

set_option maxRecDepth 8000 in
set_option maxHeartbeats 4000000 in
theorem c_Make (w0 : World) (nid : Int) (fr : Int) (v_steps : Value) (steps : List Int) (h_steps : Sl w0 (intE .i64) v_steps steps) (v_values : Value) (values : List Int) (h_values : Sl w0 (intE .i64) v_values values) (hv : ∀ v ∈ values, i64R v) (hs : ∀ v ∈ steps, i64R v) (hf0 : 0 ≤ fr) (hf1 : fr ≤ 1000000000) (hsl : steps.length ≤ 1000000) (nid0 : -9223372036854775808 ≤ nid) (nid1 : nid ≤ 9223372036854775807) :
  Calls Try.prog 34 #[(iV nid), (iV fr), v_steps, v_values] w0 fun e w' => ∃ (s : Seg), e = .returned (.agg #[(iV s.d.Id), (iV s.d.Tier), (iV s.d.From), (iV s.d.To), s.sv.1, s.av.1]) ∧ St w0 w' [rowT 51 sampE s.sv.1 s.d.Samples, rowT 29 aggE s.av.1 s.d.Aggs] ∧ s.d = makeS nid fr steps values := by
 have hN := mkN nid steps
 have hL := mkL_len nid steps values
 have hT := mkL_T (nid := nid) (steps := steps) (values := values)
 have hO := mkL_ok (nid := nid) (steps := steps) hv
 have hslen := h_steps.len
 refine calls_G (n := 65) (rs := [.cell 8 76]) Try.func34 rfl rfl rfl (by simp) ?_
 have hst := St.start w0
 refine cE_seq (cE_region rfl (s_cons (op_alloc (cs := #[(iV 0), (iV 0), (iV 0), (iV 0), nS, nS]) hst Try.zeroValue76 rfl (fun g1 w2 hst _ => ?_))))
 refine s_nil (then_n (cE_seq (cE_region rfl (s_cons (op_move (iV nid) rfl (s_cons (op_buildSlice (E := (intE .i64)) [nid] hst Try.underlying42 Try.sizeOf3 Try.zeroValue3 (evp_cons (v := (iV nid)) rfl evp_nil) (parts_cons rfl parts_nil) rfl (by decide) (fun v3 w4 hst => ?_))))))))
 refine s_cons (op_move v_steps rfl (s_cons (op_append (E := (intE .i64)) (xs := [nid]) (ys := steps) (z := (iV 0)) (bytes := 8) hst 0 rfl Try.underlying42 (by kernel_rfl) rfl rfl rfl (h_steps.below hst.below) (by (simp; omega)) (by (simp; omega)) (fun v5 w6 hst => ?_))))
 refine s_cons (op_move v_values rfl (s_cons (op_call Try.call47 (evs_cons (v := v5) rfl (evs_cons (v := v_values) rfl (evs_cons (v := (iV 40)) rfl evs_nil))) (c_Rise (w0 := w6) (v_steps := v5) (steps := (([nid]) ++ steps)) (h_steps := (hst.sl 0 rfl)) (v_values := v_values) (values := values) (h_values := (h_values.below hst.below)) (most := 40) (m0 := (by omega)) (m1 := (by omega)) (hv := hv) (hs := (by intro v h; rcases List.mem_cons.1 h with rfl | h <;> first | exact ⟨nid0, nid1⟩ | exact hs v h))) ?_)))
 rintro _ w8 ⟨r7, rfl, hcall⟩
 refine ⟨_, rfl, ?_⟩
 have hst := hst.call hcall
 refine s_cons (op_assign r7 rfl (s_nil (then_n (cE_seq (cE_seq (cE_region rfl (s_cons (op_assign (iV 0) rfl (s_nil (then_n (cE_block (cE_loop (fun (m : Nat) (ρ : Env) (w : World) => ∃ (xs : List Sample) (i : Nat), m = xs.length - i ∧ ρ 0 = (iV nid) ∧ ρ 1 = (iV fr) ∧ ρ 2 = v_steps ∧ ρ 3 = v_values ∧ ρ 8 = (.pointer (some ⟨g1, 0, none⟩)) ∧ ρ 10 = (iV (i : Int)) ∧ ρ 9 = r7 ∧ St w0 w [rowT 51 sampE r7 xs, .blk g1 76 #[(iV 0), (iV 0), (iV 0), (iV 0), nS, nS]] ∧ (xs.length = (mkL nid steps values).length) ∧ (i ≤ xs.length) ∧ (xs = trTo (mkL nid steps values) fr i)) id _ ⟨(riseL (([nid]) ++ steps) values (riseN (([nid]) ++ steps) 40)), 0, rfl, rfl, rfl, rfl, rfl, rfl, (congrArg iV (show 0 = _ from by omega)), rfl, (hst.sub (.cons_cons _ (.cons _ (.cons_cons _ .slnil)))), (by rfl), (by omega), (by exact trTo_zero _ _)⟩ ?_))))))))))))
 rintro m10 ρ11 w12 ⟨xs, i, hm10, q9_0, q9_1, q9_2, q9_3, q9_8, q9_10, q9_9, hst, hxl, hi, hX⟩
 refine cE_seq (cE_seq (cE_region rfl (s_cons (op_move (iV (i : Int)) q9_10 (s_cons (op_move r7 q9_9 (s_cons (op_len (E := sampE) (xs := xs) Try.underlying23 rfl (hst.sl 0 rfl) (s_cons (op_lss (k := .i64) (a := (i : Int)) (b := (xs.length : Int)) rfl rfl (s_nil (then_n ?_))))))))))))
 rcases Bool.eq_false_or_eq_true (decide ((i : Int) < (xs.length : Int))) with b13 | b13
 ·have c14 := of_decide_eq_true b13
  refine cE_cond true (congrArg Value.bool b13) (fun _ => ?_) (fun h => by cases h)
  refine cE_skip (then_n (cE_seq (cE_block (cE_seq ?_))))
  have hel : (xs[i]'(by omega)) = (mkL nid steps values)[i]'(by omega) := (getElem_eq hX _).trans (trTo_get (by omega))
  have hTi := hT _ (List.getElem_mem (show i < (mkL nid steps values).length by omega))
  rw [← hel] at hTi
  refine cE_region rfl (s_cons (op_move r7 q9_9 (s_cons (op_move (iV (i : Int)) q9_10 (s_cons (op_move r7 q9_9 (s_cons (op_move (iV (i : Int)) q9_10 (s_cons (op_indexAddrN (E := sampE) (xs := xs) i Try.underlying23 Try.sizeOf51 rfl (hst.sl 0 rfl) rfl (by omega) (by omega) (fun a15 o16 p17 => ?_)))))))))))
  refine s_cons (op_fieldAddr (s := 0) Try.underlying51 rfl rfl Try.sizeOf2 rfl (s_cons (op_load1 (u := (iV ((xs[i]'(by omega)).T))) Try.isAgg2 rfl p17 (s_cons (op_move (iV fr) q9_1 (s_cons (op_add (k := .i64) (a := (xs[i]'(by omega)).T) (b := fr) (((xs[i]'(by omega)).T) + fr) rfl rfl (xi64 (by omega) (by omega)) ?_)))))))
  refine s_cons (op_indexRowN hst 0 rfl i Try.underlying23 Try.sizeOf51 rfl rfl (by omega) (by omega) (fun g22 hb21 p20 => ?_))
  refine s_cons (op_fieldAddr (s := 0) Try.underlying51 rfl rfl Try.sizeOf2 rfl (s_cons0 (op_storeRow1 (y := (⟨(((xs[i]'(by omega)).T) + fr), (xs[i]'(by omega)).V⟩ : Sample)) hst 0 rfl hb21 Try.sizeOf2 rfl rfl rfl (i) 0 rfl (by omega) (by decide) rfl (fun w23 hst => ?_))))
  refine s_nil (then_n (cE_region rfl (s_cons (op_move r7 q9_9 (s_cons (op_move (iV (i : Int)) q9_10 (s_cons (op_move r7 q9_9 (s_cons (op_move (iV (i : Int)) q9_10 (s_cons (op_indexAddrN (E := sampE) (xs := (xs.set (i) (⟨(((xs[i]'(by omega)).T) + fr), (xs[i]'(by omega)).V⟩ : Sample))) i Try.underlying23 Try.sizeOf51 rfl (hst.sl 0 rfl) rfl (by omega) (by (simp only [List.length_set]; omega)) (fun a24 o25 p26 => ?_)))))))))))))
  refine s_cons (op_fieldAddr (s := 0) Try.underlying51 rfl rfl Try.sizeOf2 rfl (s_cons (op_load1 (u := (iV (((xs.set (i) (⟨(((xs[i]'(by omega)).T) + fr), (xs[i]'(by omega)).V⟩ : Sample))[i]'(by (simp only [List.length_set]; omega))).V))) Try.isAgg2 rfl (p26.drop 1) (s_cons (op_rem (k := .i64) (a := ((xs.set (i) (⟨(((xs[i]'(by omega)).T) + fr), (xs[i]'(by omega)).V⟩ : Sample))[i]'(by (simp only [List.length_set]; omega))).V) (b := 1000000000) (Int.tmod ((xs.set (i) (⟨(((xs[i]'(by omega)).T) + fr), (xs[i]'(by omega)).V⟩ : Sample))[i]'(by (simp only [List.length_set]; omega))).V 1000000000) rfl rfl (by omega) rfl ?_)))))
  refine s_cons (op_indexRowN hst 0 rfl i Try.underlying23 Try.sizeOf51 rfl rfl (by omega) (by (simp only [List.length_set]; omega)) (fun g31 hb30 p29 => ?_))
  refine s_cons (op_fieldAddr (s := 0) Try.underlying51 rfl rfl Try.sizeOf2 rfl (s_cons0 (op_storeRow1 (y := (⟨((xs.set (i) (⟨(((xs[i]'(by omega)).T) + fr), (xs[i]'(by omega)).V⟩ : Sample))[i]'(by (simp only [List.length_set]; omega))).T, (Int.tmod ((xs.set (i) (⟨(((xs[i]'(by omega)).T) + fr), (xs[i]'(by omega)).V⟩ : Sample))[i]'(by (simp only [List.length_set]; omega))).V 1000000000)⟩ : Sample)) hst 0 rfl hb30 Try.sizeOf2 rfl rfl rfl (i) 1 rfl (by (simp only [List.length_set]; omega)) (by decide) rfl (fun w32 hst => ?_))))
  refine s_nil (block_n (then_n (cE_region rfl (s_cons (op_move (iV (i : Int)) q9_10 (s_cons (op_add (k := .i64) (a := (i : Int)) (b := 1) ((i : Int) + 1) rfl rfl (xi64 (by omega) (by omega)) (s_cons (op_assign (iV ((i : Int) + 1)) rfl (s_nil (then_n ?_)))))))))))
  exact ⟨_, ⟨((xs.set (i) (⟨(((xs[i]'(by omega)).T) + fr), (xs[i]'(by omega)).V⟩ : Sample)).set (i) (⟨((xs.set (i) (⟨(((xs[i]'(by omega)).T) + fr), (xs[i]'(by omega)).V⟩ : Sample))[i]'(by (simp only [List.length_set]; omega))).T, (Int.tmod ((xs.set (i) (⟨(((xs[i]'(by omega)).T) + fr), (xs[i]'(by omega)).V⟩ : Sample))[i]'(by (simp only [List.length_set]; omega))).V 1000000000)⟩ : Sample)), (i + 1), rfl, q9_0, q9_1, q9_2, q9_3, q9_8, (congrArg iV (show ((i : Int) + 1) = _ from by omega)), q9_9, hst, (by (simp only [List.length_set]; omega)), (by (simp only [List.length_set]; omega)), (by exact trTo_step (by omega) hX (by simp only [List.getElem_set_self]; rfl))⟩, (by simp only [id, List.length_set]; omega)⟩
 have c33 := of_decide_eq_false b13
 refine cE_cond false (congrArg Value.bool b13) (fun h => by cases h) (fun _ => ?_)
 refine cE_exit (then_x (then_x (block_hit (then_n (cE_seq ?_)))))
 have hxA : xs = (mkL nid steps values).map (trS fr) := hX.trans (trTo_all (by omega))
 have hTL := made_T (fr := fr) hT hxA (i := xs.length - 1) (by omega)
 refine cE_region rfl (s_cons (op_move (iV nid) q9_0 (s_cons (op_conv (k := .i64) (a := nid) (nid % 18446744073709551616) Try.underlying47 (by rw [Try.underlying3]; rfl) rfl (IntKind.wrap_u64 _) (s_cons (op_rem (k := .u64) (a := (nid % 18446744073709551616)) (b := 1000) ((nid % 18446744073709551616) % 1000) rfl rfl (by omega) (tmod_nn (by omega)) (s_cons (op_conv (k := .u64) (a := ((nid % 18446744073709551616) % 1000)) ((nid % 18446744073709551616) % 1000) Try.underlying3 (by rw [Try.underlying47]; rfl) rfl (xi64 (by omega) (by omega)) ?_))))))))
 refine s_cons (op_add (k := .i64) (a := 1) (b := ((nid % 18446744073709551616) % 1000)) (1 + ((nid % 18446744073709551616) % 1000)) rfl rfl (xi64 (by omega) (by omega)) (s_cons (op_move (iV fr) q9_1 (s_cons (op_move r7 q9_9 (s_cons (op_move r7 q9_9 (s_cons (op_len (E := sampE) (xs := xs) Try.underlying23 rfl (hst.sl 0 rfl) (s_cons (op_sub (k := .i64) (a := (xs.length : Int)) (b := 1) ((xs.length : Int) - 1) rfl rfl (xi64 (by omega) (by omega)) ?_)))))))))))
 refine s_cons (op_indexAddrN (E := sampE) (xs := xs) (xs.length - 1) Try.underlying23 Try.sizeOf51 rfl (hst.sl 0 rfl) rfl (by omega) (by omega) (fun a34 o35 p36 => ?_))
 refine s_cons (op_fieldAddr (s := 0) Try.underlying51 rfl rfl Try.sizeOf2 rfl (s_cons (op_load1 (u := (iV ((xs[(xs.length - 1)]'(by omega)).T))) Try.isAgg2 rfl p36 (s_cons (op_add (k := .i64) (a := (xs[(xs.length - 1)]'(by omega)).T) (b := 1) (((xs[(xs.length - 1)]'(by omega)).T) + 1) rfl rfl (xi64 (by omega) (by omega)) ?_)))))
 refine s_cons (op_move (iV nid) q9_0 (s_cons (op_conv (k := .i64) (a := nid) (nid % 18446744073709551616) Try.underlying47 (by rw [Try.underlying3]; rfl) rfl (IntKind.wrap_u64 _) (s_cons (op_rem (k := .u64) (a := (nid % 18446744073709551616)) (b := 7) ((nid % 18446744073709551616) % 7) rfl rfl (by omega) (tmod_nn (by omega)) (s_cons (op_conv (k := .u64) (a := ((nid % 18446744073709551616) % 7)) ((nid % 18446744073709551616) % 7) Try.underlying2 (by rw [Try.underlying47]; rfl) rfl (xi64 (by omega) (by omega)) ?_)))))))
 refine s_cons (op_add (k := .i64) (a := (((xs[(xs.length - 1)]'(by omega)).T) + 1)) (b := ((nid % 18446744073709551616) % 7)) ((((xs[(xs.length - 1)]'(by omega)).T) + 1) + ((nid % 18446744073709551616) % 7)) rfl rfl (xi64 (by omega) (by omega)) (s_cons (op_move r7 q9_9 (s_cons (op_build (r := (.agg #[(iV (1 + ((nid % 18446744073709551616) % 1000))), (iV 0), (iV fr), (iV ((((xs[(xs.length - 1)]'(by omega)).T) + 1) + ((nid % 18446744073709551616) % 7))), r7, nS])) (evp_cons (v := (iV (1 + ((nid % 18446744073709551616) % 1000)))) rfl (evp_cons (v := (iV fr)) rfl (evp_cons (v := (iV ((((xs[(xs.length - 1)]'(by omega)).T) + 1) + ((nid % 18446744073709551616) % 7)))) rfl (evp_cons (v := r7) rfl evp_nil)))) (by simp [Instr.build, Instr.fill, cells_int, cells_bool, cells_str, cells_agg, cells_nil, sl_cells (show Sl _ sampE r7 xs from (hst.sl 0 rfl)), Try.runUnderlying76, Try.zeroValue76]) ?_)))))
 refine s_cons0 (op_storeAll hst 1 rfl Try.sizeOf76 q9_8 rfl rfl rfl (oneL_all (l := [(iV (1 + ((nid % 18446744073709551616) % 1000))), (iV 0), (iV fr), (iV ((((xs[(xs.length - 1)]'(by omega)).T) + 1) + ((nid % 18446744073709551616) % 7))), r7, nS]) ⟨rfl, rfl, rfl, rfl, (sl_one (show Sl _ sampE r7 xs from (hst.sl 0 rfl))), rfl, trivial⟩) (fun w37 hst => ?_))
 refine s_nil (then_n (cE_ret (postG_r _ (rvN (cs := [(iV (1 + ((nid % 18446744073709551616) % 1000))), (iV 0), (iV fr), (iV ((((xs[(xs.length - 1)]'(by omega)).T) + 1) + ((nid % 18446744073709551616) % 7))), r7, nS]) Try.isAgg76 Try.sizeOf76 q9_8 (Pt.of (hst.cell 1 rfl) rfl) rfl rvnil) ?_)))
 have ho38 : r7.oneCell' = true := (sl_one (show Sl _ sampE r7 xs from (hst.sl 0 rfl)))
 replace hst := hst.nilRow 29 aggE
 replace hst := hst.front 1 rfl
 exact ⟨(⟨⟨(1 + ((nid % 18446744073709551616) % 1000)), 0, fr, ((((xs[(xs.length - 1)]'(by omega)).T) + 1) + ((nid % 18446744073709551616) % 7)), xs, []⟩, ⟨r7, ho38⟩, nilV⟩ : Seg), rfl, hst.sub (.cons_cons _ (.cons_cons _ (.cons _ .slnil))), (make_is hxA hL (by omega) rfl rfl)⟩

end Go.Proofs.Ytldfnkhccaglmaa
