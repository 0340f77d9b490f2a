/- twinkeeplaw8.SegmentBounds -/
import Derived.Test.YtgibfidebdgffaaDoorXLB
import Derived.Test.YtgibfidebdgffaaDoorXW57
namespace Go.Proofs.YtgibfidebdgffaaDoor
open Go.RowKit

set_option maxRecDepth 8000 in
set_option maxHeartbeats 8000000 in
theorem c_SegmentBounds (w0 : World) (n : Int) (lo : Int) (hi : Int) (n0 : -9223372036854775808 ≤ n) (lo0 : -9223372036854775808 ≤ lo) (hi0 : -9223372036854775808 ≤ hi) (n1 : n ≤ 9223372036854775807) (lo1 : lo ≤ 9223372036854775807) (hi1 : hi ≤ 9223372036854775807) :
  Calls Tryd.prog 3 #[(iV n), (iV lo), (iV hi)] w0 fun e w' => e = .returned (.bool true) ∧ St w0 w' [] := by
 refine calls_E (n := 94) (ts := [6]) Tryd.func3 rfl rfl rfl (by simp) ?_
 have hst := St.start w0
 refine cE_seq (cE_region rfl (s_cons (op_assign (.bool false) rfl (s_nil (then_n (cE_seq (cE_region rfl (s_cons (op_move (iV n) rfl (s_cons (op_conv (k := .i64) (a := n) (n % 18446744073709551616) Tryd.underlying22 (by rw [Tryd.underlying3]; rfl) rfl (IntKind.wrap_u64 _) ?_)))))))))))
 obtain ⟨k, hk, hkl⟩ := rem_nat (a := (n % 18446744073709551616)) (b := 68) (by omega) (by omega)
 refine s_cons (op_rem (k := .u64) (a := (n % 18446744073709551616)) (b := 68) (k : Int) rfl rfl (by omega) hk (s_cons (op_conv (k := .u64) (a := (k : Int)) (k : Int) Tryd.underlying3 (by rw [Tryd.underlying22]; rfl) rfl (xi64 (by omega) (by omega)) (s_cons (op_assign (iV (k : Int)) rfl (s_nil (then_n (cE_seq (cE_region rfl (s_cons (op_move (iV lo) rfl (s_cons (op_conv (k := .i64) (a := lo) (lo % 18446744073709551616) Tryd.underlying22 (by rw [Tryd.underlying3]; rfl) rfl (IntKind.wrap_u64 _) ?_)))))))))))))
 obtain ⟨lx, hlx, hlxl⟩ := rem_nat (a := (lo % 18446744073709551616)) (b := 5) (by omega) (by omega)
 refine s_cons (op_rem (k := .u64) (a := (lo % 18446744073709551616)) (b := 5) (lx : Int) rfl rfl (by omega) hlx (s_cons (op_conv (k := .u64) (a := (lx : Int)) (lx : Int) Tryd.underlying2 (by rw [Tryd.underlying22]; rfl) rfl (xi64 (by omega) (by omega)) (s_cons (op_add (k := .i64) (a := 8) (b := (lx : Int)) (8 + (lx : Int)) rfl rfl (xi64 (by omega) (by omega)) (s_cons (op_move (iV (k : Int)) rfl ?_)))))))
 refine s_cons (op_add (k := .i64) (a := 10) (b := (k : Int)) (10 + (k : Int)) rfl rfl (xi64 (by omega) (by omega)) (s_cons (op_move (iV hi) rfl (s_cons (op_conv (k := .i64) (a := hi) (hi % 18446744073709551616) Tryd.underlying22 (by rw [Tryd.underlying3]; rfl) rfl (IntKind.wrap_u64 _) ?_)))))
 obtain ⟨hy, hhy, hhyl⟩ := rem_nat (a := (hi % 18446744073709551616)) (b := 3) (by omega) (by omega)
 refine s_cons (op_rem (k := .u64) (a := (hi % 18446744073709551616)) (b := 3) (hy : Int) rfl rfl (by omega) hhy (s_cons (op_conv (k := .u64) (a := (hy : Int)) (hy : Int) Tryd.underlying2 (by rw [Tryd.underlying22]; rfl) rfl (xi64 (by omega) (by omega)) (s_cons (op_add (k := .i64) (a := (10 + (k : Int))) (b := (hy : Int)) ((10 + (k : Int)) + (hy : Int)) rfl rfl (xi64 (by omega) (by omega)) ?_)))))
 refine s_cons (op_sub (k := .i64) (a := ((10 + (k : Int)) + (hy : Int))) (b := 1) (((10 + (k : Int)) + (hy : Int)) - 1) rfl rfl (xi64 (by omega) (by omega)) (s_cons (op_build (r := (.agg #[(iV 1), (iV 0), (iV (8 + (lx : Int))), (iV (((10 + (k : Int)) + (hy : Int)) - 1)), nS, nS])) (evp_cons (v := (iV 1)) rfl (evp_cons (v := (iV (8 + (lx : Int)))) rfl (evp_cons (v := (iV (((10 + (k : Int)) + (hy : Int)) - 1))) rfl evp_nil))) (by simp [Instr.build, Instr.fill, Value.cells, Tryd.runUnderlying26, Tryd.zeroValue26]) ?_)))
 refine s_cons (op_alloc (cs := #[(iV 0), (iV 0), (iV 0), (iV 0), nS, nS]) hst Tryd.zeroValue26 rfl (fun g1 w2 hst _ => ?_))
 replace hst : St w0 w2 [.blk g1 26 #[(iV 0), (iV 0), (iV 0), (iV 0), nS, nS]] := hst
 refine s_cons0 (op_storeAll hst 0 rfl Tryd.sizeOf26 rfl rfl rfl rfl (by simp [Value.oneCell']) (fun w3 hst => ?_))
 replace hst : St w0 w3 [.blk g1 26 #[(iV 1), (iV 0), (iV (8 + (lx : Int))), (iV (((10 + (k : Int)) + (hy : Int)) - 1)), nS, nS]] := hst
 refine s_nil (then_n (cE_seq (cE_seq ?_)))
 replace hst : St w0 w3 [rowT 28 sampE nS ([]), .blk g1 26 #[(iV 1), (iV 0), (iV (8 + (lx : Int))), (iV (((10 + (k : Int)) + (hy : Int)) - 1)), nS, nS]] := hst.nilRow 28 sampE
 refine cE_region rfl (s_cons (op_assign (iV 0) rfl (s_nil (then_n (cE_block (cE_loop (fun (m : Nat) (ρ : Env) (w : World) => ∃ (vo : Value) (i : Nat), m = k - i ∧ ρ 0 = (iV n) ∧ ρ 1 = (iV lo) ∧ ρ 2 = (iV hi) ∧ ρ 6 = (.bool false) ∧ ρ 7 = (iV (k : Int)) ∧ ρ 8 = (.pointer (some ⟨g1, 0, none⟩)) ∧ ρ 9 = (iV (i : Int)) ∧ St w0 w [rowT 28 sampE vo (ptsL i), .blk g1 26 #[(iV 1), (iV 0), (iV (8 + (lx : Int))), (iV (((10 + (k : Int)) + (hy : Int)) - 1)), vo, nS]] ∧ (i ≤ k)) id _ ⟨nS, 0, rfl, rfl, rfl, rfl, rfl, rfl, rfl, (congrArg iV (show 0 = _ from by omega)), (by have h := hst; first | exact h | (refine (?_ : St _ _ _); simpa using h)), (by omega)⟩ ?_))))))
 rintro m5 ρ6 w7 ⟨vo, i, hm5, q4_0, q4_1, q4_2, q4_6, q4_7, q4_8, q4_9, hst, hi_⟩
 have hpl := ptsL_len i
 refine cE_seq (cE_seq (cE_region rfl (s_cons (op_move (iV (i : Int)) q4_9 (s_cons (op_move (iV (k : Int)) q4_7 (s_cons (op_lss (k := .i64) (a := (i : Int)) (b := (k : Int)) rfl rfl (s_nil (then_n ?_))))))))))
 rcases Bool.eq_false_or_eq_true (decide ((i : Int) < (k : Int))) with b8 | b8
 ·have c9 : (i : Int) < (k : Int) := of_decide_eq_true b8
  refine cE_cond true (congrArg Value.bool b8) (fun _ => ?_) (fun h => by cases h)
  refine cE_skip (then_n (cE_seq (cE_block (cE_region rfl (s_cons (op_fieldAddr (s := 0) Tryd.underlying26 rfl rfl Tryd.sizeOf23 q4_8 (s_cons (op_load1 (u := vo) Tryd.isAgg23 rfl ((hst.cell 1 rfl).drop 4) (s_cons (op_move (iV (i : Int)) q4_9 (s_cons (op_add (k := .i64) (a := 10) (b := (i : Int)) (10 + (i : Int)) rfl rfl (xi64 (by omega) (by omega)) (s_cons (op_move (iV (i : Int)) q4_9 ?_))))))))))))))
  refine s_cons (op_build (r := (.agg #[(iV (10 + (i : Int))), (iV (i : Int))])) (evp_cons (v := (iV (10 + (i : Int)))) rfl (evp_cons (v := (iV (i : Int))) rfl evp_nil)) (by simp [Instr.build, Instr.fill, Value.cells, Tryd.runUnderlying28, Tryd.zeroValue28]) (s_cons (op_buildSlice (E := sampE) [(⟨(10 + (i : Int)), (i : Int)⟩ : Sample)] hst Tryd.underlying23 Tryd.sizeOf28 Tryd.zeroValue28 (evp_cons (v := (.agg #[(iV (10 + (i : Int))), (iV (i : Int))])) rfl evp_nil) (parts_cons rfl parts_nil) rfl (by decide) (fun v10 w11 hst => ?_))))
  replace hst : St w0 w11 [rowT 28 sampE v10 ([(⟨(10 + (i : Int)), (i : Int)⟩ : Sample)]), rowT 28 sampE vo (ptsL i), .blk g1 26 #[(iV 1), (iV 0), (iV (8 + (lx : Int))), (iV (((10 + (k : Int)) + (hy : Int)) - 1)), vo, nS]] := hst
  refine s_cons (op_append (E := sampE) (xs := (ptsL i)) (ys := [(⟨(10 + (i : Int)), (i : Int)⟩ : Sample)]) (z := (.agg #[(iV 0), (iV 0)])) (bytes := 16) hst 1 rfl Tryd.underlying23 (by kernel_rfl) rfl rfl rfl (hst.sl 0 rfl) (by first | omega | (simp only [ptsL_len, List.length_cons, List.length_nil]; omega)) (by first | omega | (simp only [ptsL_len, List.length_cons, List.length_nil]; omega)) (fun v12 w13 hst => ?_))
  replace hst : St w0 w13 [rowT 28 sampE v10 ([(⟨(10 + (i : Int)), (i : Int)⟩ : Sample)]), rowT 28 sampE v12 (ptsL (i + 1)), .blk g1 26 #[(iV 1), (iV 0), (iV (8 + (lx : Int))), (iV (((10 + (k : Int)) + (hy : Int)) - 1)), vo, nS]] := by rw [show ((ptsL i) ++ ([(⟨(10 + (i : Int)), (i : Int)⟩ : Sample)])) = (ptsL (i + 1)) from ptsL_snoc] at hst; exact hst
  refine s_cons (op_fieldAddr (s := 0) Tryd.underlying26 rfl rfl Tryd.sizeOf23 q4_8 (s_cons0 (op_store1 hst 2 rfl Tryd.sizeOf23 rfl rfl (sl_one (show Sl _ sampE v12 (ptsL (i + 1)) from (hst.sl 1 rfl))) (show 4 < 6 from by decide) (fun w14 hst => ?_))))
  replace hst : St w0 w14 [rowT 28 sampE v10 ([(⟨(10 + (i : Int)), (i : Int)⟩ : Sample)]), rowT 28 sampE v12 (ptsL (i + 1)), .blk g1 26 #[(iV 1), (iV 0), (iV (8 + (lx : Int))), (iV (((10 + (k : Int)) + (hy : Int)) - 1)), v12, nS]] := hst
  refine s_nil (block_n (then_n (cE_region rfl (s_cons (op_move (iV (i : Int)) q4_9 (s_cons (op_add (k := .i64) (a := (i : Int)) (b := 1) ((i : Int) + 1) rfl rfl (xi64 (by omega) (by omega)) (s_cons (op_assign (iV ((i : Int) + 1)) rfl (s_nil (then_n ?_)))))))))))
  exact ⟨_, ⟨v12, (i + 1), rfl, q4_0, q4_1, q4_2, q4_6, q4_7, q4_8, (congrArg iV (show ((i : Int) + 1) = _ from by omega)), (hst.sub (.cons _ (.cons_cons _ (.cons_cons _ .slnil)))), (by omega)⟩, (by simp only [id]; omega)⟩
 have c15 : ¬ ((i : Int) < (k : Int)) := of_decide_eq_false b8
 refine cE_cond false (congrArg Value.bool b8) (fun h => by cases h) (fun _ => ?_)
 refine cE_exit (then_x (then_x (block_hit (then_n (cE_seq ?_)))))
 have hik : i = k := by omega
 replace hst : St w0 w7 [rowT 28 sampE vo (ptsL k), .blk g1 26 #[(iV 1), (iV 0), (iV (8 + (lx : Int))), (iV (((10 + (k : Int)) + (hy : Int)) - 1)), vo, nS]] := by rw [hik] at hst; exact hst
 refine cE_region rfl (s_cons (op_move (iV (k : Int)) q4_7 (s_cons (op_geq (k := .i64) (a := (k : Int)) (b := 1) rfl rfl (s_cons (op_move (.bool (decide (1 ≤ (k : Int)))) rfl (s_lz 47 rfl (gA_t rfl) (Rlz (decide (1 ≤ (k : Int))) (iV (k : Int)) w7) ?_ (fun hc16 => rlz_f hc16) ?_)))))))
 ·intro hc16
  refine op_move (iV (k : Int)) q4_7 ?_
  exact rlz_t hc16
 rintro _ _ ⟨rfl, rfl⟩
 refine s_lz 47 rfl (gA_t rfl) (Rlz (decide (1 ≤ (k : Int))) (.bool (decide ((k : Int) ≤ 64))) w7) ?_ (fun hc17 => rlz_f hc17) ?_
 ·intro hc17
  refine op_leq (k := .i64) (a := (k : Int)) (b := 64) (gt hc17) rfl ?_
  exact rlz_t hc17
 rintro _ _ ⟨rfl, rfl⟩
 obtain ⟨g18, hg19⟩ : ∃ x : Bool, x = ((decide (1 ≤ (k : Int))) && (decide ((k : Int) ≤ 64))) := ⟨_, rfl⟩
 refine s_cons (op_pick_and rfl rfl (fun hp => hp) rfl (s_cons (op_move (.bool g18) (congrArg Value.bool hg19.symm) (s_lz 51 rfl (gA_t rfl) (Rlz g18 (.pointer (some ⟨g1, (0 + 2), none⟩)) w7) ?_ (fun hc20 => rlz_f hc20) ?_))))
 ·intro hc20
  refine op_fieldAddr (s := 0) Tryd.underlying26 rfl rfl Tryd.sizeOf2 q4_8 ?_
  exact rlz_t hc20
 rintro _ _ ⟨rfl, rfl⟩
 refine s_lz 51 rfl (gA_t rfl) (Rlz g18 (iV (8 + (lx : Int))) w7) ?_ (fun hc21 => rlz_f hc21) ?_
 ·intro hc21
  refine op_load1 (u := (iV (8 + (lx : Int)))) Tryd.isAgg2 (gt hc21) ((hst.cell 1 rfl).drop 2) ?_
  exact rlz_t hc21
 rintro _ _ ⟨rfl, rfl⟩
 refine s_lz 51 rfl (gA_t rfl) (Rlz g18 (.bool (decide ((8 + (lx : Int)) ≤ 10))) w7) ?_ (fun hc22 => rlz_f hc22) ?_
 ·intro hc22
  refine op_leq (k := .i64) (a := (8 + (lx : Int))) (b := 10) (gt hc22) rfl ?_
  exact rlz_t hc22
 rintro _ _ ⟨rfl, rfl⟩
 obtain ⟨g23, hg24⟩ : ∃ x : Bool, x = (g18 && (decide ((8 + (lx : Int)) ≤ 10))) := ⟨_, rfl⟩
 refine s_cons (op_pick_and rfl rfl (fun hp => hp) rfl (s_cons (op_move (.bool g23) (congrArg Value.bool hg24.symm) (s_lz 56 rfl (gA_t rfl) (Rlz g23 (.pointer (some ⟨g1, (0 + 3), none⟩)) w7) ?_ (fun hc25 => rlz_f hc25) ?_))))
 ·intro hc25
  refine op_fieldAddr (s := 0) Tryd.underlying26 rfl rfl Tryd.sizeOf2 q4_8 ?_
  exact rlz_t hc25
 rintro _ _ ⟨rfl, rfl⟩
 refine s_lz 56 rfl (gA_t rfl) (Rlz g23 (iV (((10 + (k : Int)) + (hy : Int)) - 1)) w7) ?_ (fun hc26 => rlz_f hc26) ?_
 ·intro hc26
  refine op_load1 (u := (iV (((10 + (k : Int)) + (hy : Int)) - 1))) Tryd.isAgg2 (gt hc26) ((hst.cell 1 rfl).drop 3) ?_
  exact rlz_t hc26
 rintro _ _ ⟨rfl, rfl⟩
 refine s_lz 56 rfl (gA_t rfl) (Rlz g23 (iV (k : Int)) w7) ?_ (fun hc27 => rlz_f hc27) ?_
 ·intro hc27
  refine op_move (iV (k : Int)) q4_7 ?_
  exact rlz_t hc27
 rintro _ _ ⟨rfl, rfl⟩
 refine s_lz 56 rfl (gA_t rfl) (Rlz g23 (iV (10 + (k : Int))) w7) ?_ (fun hc28 => rlz_f hc28) ?_
 ·intro hc28
  have c29 : 1 ≤ (k : Int) := of_decide_eq_true (and_l (hg19.symm.trans (and_l (hg24.symm.trans hc28))))
  have c30 : (k : Int) ≤ 64 := of_decide_eq_true (and_r (hg19.symm.trans (and_l (hg24.symm.trans hc28))))
  have c31 : (8 + (lx : Int)) ≤ 10 := of_decide_eq_true (and_r (hg24.symm.trans hc28))
  refine op_add (k := .i64) (a := 10) (b := (k : Int)) (10 + (k : Int)) rfl (gt hc28) (xi64 (by omega) (by omega)) ?_
  exact rlz_t hc28
 rintro _ _ ⟨rfl, rfl⟩
 refine s_lz 56 rfl (gA_t rfl) (Rlz g23 (.bool (decide ((10 + (k : Int)) ≤ (((10 + (k : Int)) + (hy : Int)) - 1)))) w7) ?_ (fun hc32 => rlz_f hc32) ?_
 ·intro hc32
  refine op_geq (k := .i64) (a := (((10 + (k : Int)) + (hy : Int)) - 1)) (b := (10 + (k : Int))) (gt hc32) (gt hc32) ?_
  exact rlz_t hc32
 rintro _ _ ⟨rfl, rfl⟩
 obtain ⟨g33, hg34⟩ : ∃ x : Bool, x = (g23 && (decide ((10 + (k : Int)) ≤ (((10 + (k : Int)) + (hy : Int)) - 1)))) := ⟨_, rfl⟩
 refine s_cons (op_pick_and rfl rfl (fun hp => hp) rfl (s_cons (op_assign (.bool g33) (congrArg Value.bool hg34.symm) (s_nil (then_n (cE_seq (cE_region rfl (s_cons (op_loadN (cs := [(iV 1), (iV 0), (iV (8 + (lx : Int))), (iV (((10 + (k : Int)) + (hy : Int)) - 1)), vo, nS]) Tryd.isAgg26 Tryd.sizeOf26 q4_8 (Pt.of (hst.cell 1 rfl) rfl) rfl ?_)))))))))
 have ho35 : vo.oneCell' = true := (sl_one (show Sl _ sampE vo (ptsL k) from (hst.sl 0 rfl)))
 refine s_cons (op_call Tryd.call8 (evs_cons (v := (.agg #[(iV 1), (iV 0), (iV (8 + (lx : Int))), (iV (((10 + (k : Int)) + (hy : Int)) - 1)), vo, nS])) rfl evs_nil) (c_sPut (w0 := w7) (s := (⟨⟨1, 0, (8 + (lx : Int)), (((10 + (k : Int)) + (hy : Int)) - 1), (ptsL k), []⟩, ⟨vo, ho35⟩, nilV⟩ : Seg)) (h_s := ⟨(hst.sl 0 rfl), (Sl.nil aggE _)⟩) (hs := (bounds_ok (f := (8 + (lx : Int))) (t := (((10 + (k : Int)) + (hy : Int)) - 1)) (k := k) (by omega) (by omega) (by omega)))) ?_)
 rintro _ w37 ⟨r36, rfl, hcall⟩
 refine ⟨_, rfl, ?_⟩
 have hst : St w0 w37 [rowT 5 u8E r36 ((encG (⟨⟨1, 0, (8 + (lx : Int)), (((10 + (k : Int)) + (hy : Int)) - 1), (ptsL k), []⟩, ⟨vo, ho35⟩, nilV⟩ : Seg).d).1), rowT 28 sampE vo (ptsL k), .blk g1 26 #[(iV 1), (iV 0), (iV (8 + (lx : Int))), (iV (((10 + (k : Int)) + (hy : Int)) - 1)), vo, nS]] := hst.call hcall
 refine s_cons (op_move (.tuple #[r36, (iV ((encG (⟨⟨1, 0, (8 + (lx : Int)), (((10 + (k : Int)) + (hy : Int)) - 1), (ptsL k), []⟩, ⟨vo, ho35⟩, nilV⟩ : Seg).d).2))]) rfl (s_cons (op_extract r36 rfl rfl (s_cons (op_extract (iV ((encG (⟨⟨1, 0, (8 + (lx : Int)), (((10 + (k : Int)) + (hy : Int)) - 1), (ptsL k), []⟩, ⟨vo, ho35⟩, nilV⟩ : Seg).d).2)) rfl rfl (s_cons (op_assign r36 rfl ?_)))))))
 refine s_cons (op_assign (iV ((encG (⟨⟨1, 0, (8 + (lx : Int)), (((10 + (k : Int)) + (hy : Int)) - 1), (ptsL k), []⟩, ⟨vo, ho35⟩, nilV⟩ : Seg).d).2)) rfl (s_nil (then_n (cE_seq ?_))))
 have hG : mayS ⟨1, 0, (8 + (lx : Int)), (((10 + (k : Int)) + (hy : Int)) - 1), ptsL k, []⟩ = g33 := by rw [hg34, hg24, hg19]; exact bounds_may (by omega) (by omega) (by omega)
 have hcode : decide ((encG ⟨1, 0, (8 + (lx : Int)), (((10 + (k : Int)) + (hy : Int)) - 1), ptsL k, []⟩).2 = 0) = g33 := (code_is rfl).trans hG
 refine cE_region rfl (s_cons (op_call Tryd.call9 evs_nil (c_told8 (w0 := w37)) ?_))
 rintro _ w38 ⟨rfl, hcall⟩
 refine ⟨_, rfl, ?_⟩
 have hst : St w0 w38 [rowT 5 u8E r36 ((encG (⟨⟨1, 0, (8 + (lx : Int)), (((10 + (k : Int)) + (hy : Int)) - 1), (ptsL k), []⟩, ⟨vo, ho35⟩, nilV⟩ : Seg).d).1), rowT 28 sampE vo (ptsL k), .blk g1 26 #[(iV 1), (iV 0), (iV (8 + (lx : Int))), (iV (((10 + (k : Int)) + (hy : Int)) - 1)), vo, nS]] := hst.call hcall
 refine s_cons (op_move (.bool true) rfl (s_yes 69 rfl rfl (op_loadN (cs := [(iV 1), (iV 0), (iV (8 + (lx : Int))), (iV (((10 + (k : Int)) + (hy : Int)) - 1)), vo, nS]) Tryd.isAgg26 Tryd.sizeOf26 q4_8 (Pt.of (hst.cell 2 rfl) rfl) rfl (s_yes 69 rfl rfl (op_call Tryd.call10 (evs_cons (v := (.agg #[(iV 1), (iV 0), (iV (8 + (lx : Int))), (iV (((10 + (k : Int)) + (hy : Int)) - 1)), vo, nS])) rfl evs_nil) (c_May2 (w0 := w38) (s := (⟨⟨1, 0, (8 + (lx : Int)), (((10 + (k : Int)) + (hy : Int)) - 1), (ptsL k), []⟩, ⟨vo, ho35⟩, nilV⟩ : Seg)) (h_s := ⟨(hst.sl 1 rfl), (Sl.nil aggE _)⟩) (hs := (bounds_ok (f := (8 + (lx : Int))) (t := (((10 + (k : Int)) + (hy : Int)) - 1)) (k := k) (by omega) (by omega) (by omega)))) ?_)))))
 rintro _ w39 ⟨rfl, hcall⟩
 refine ⟨_, rfl, ?_⟩
 have hst : St w0 w39 [rowT 5 u8E r36 ((encG (⟨⟨1, 0, (8 + (lx : Int)), (((10 + (k : Int)) + (hy : Int)) - 1), (ptsL k), []⟩, ⟨vo, ho35⟩, nilV⟩ : Seg).d).1), rowT 28 sampE vo (ptsL k), .blk g1 26 #[(iV 1), (iV 0), (iV (8 + (lx : Int))), (iV (((10 + (k : Int)) + (hy : Int)) - 1)), vo, nS]] := hst.call hcall
 refine s_yes 69 rfl rfl (op_move (.bool g33) rfl (s_yes 69 rfl rfl (op_eqlb (a := (mayS (⟨⟨1, 0, (8 + (lx : Int)), (((10 + (k : Int)) + (hy : Int)) - 1), (ptsL k), []⟩, ⟨vo, ho35⟩, nilV⟩ : Seg).d)) (b := g33) Tryd.underlying4 rfl rfl (s_cons (op_pick_t (.bool ((mayS (⟨⟨1, 0, (8 + (lx : Int)), (((10 + (k : Int)) + (hy : Int)) - 1), (ptsL k), []⟩, ⟨vo, ho35⟩, nilV⟩ : Seg).d) == g33)) rfl rfl ?_)))))
 refine s_cons (op_move (.bool ((mayS (⟨⟨1, 0, (8 + (lx : Int)), (((10 + (k : Int)) + (hy : Int)) - 1), (ptsL k), []⟩, ⟨vo, ho35⟩, nilV⟩ : Seg).d) == g33)) rfl (s_yes 75 rfl (congrArg Value.bool (show ((mayS (⟨⟨1, 0, (8 + (lx : Int)), (((10 + (k : Int)) + (hy : Int)) - 1), (ptsL k), []⟩, ⟨vo, ho35⟩, nilV⟩ : Seg).d) == g33) = true from (by rw [show _ = _ from hG]; exact beq_self_eq_true _))) (op_move (iV ((encG (⟨⟨1, 0, (8 + (lx : Int)), (((10 + (k : Int)) + (hy : Int)) - 1), (ptsL k), []⟩, ⟨vo, ho35⟩, nilV⟩ : Seg).d).2)) rfl ?_)))
 refine s_yes 75 rfl (congrArg Value.bool (show ((mayS (⟨⟨1, 0, (8 + (lx : Int)), (((10 + (k : Int)) + (hy : Int)) - 1), (ptsL k), []⟩, ⟨vo, ho35⟩, nilV⟩ : Seg).d) == g33) = true from (by rw [show _ = _ from hG]; exact beq_self_eq_true _))) (op_eql (k := .i64) (a := (encG (⟨⟨1, 0, (8 + (lx : Int)), (((10 + (k : Int)) + (hy : Int)) - 1), (ptsL k), []⟩, ⟨vo, ho35⟩, nilV⟩ : Seg).d).2) (b := 0) rfl rfl ?_)
 refine s_yes 75 rfl (congrArg Value.bool (show ((mayS (⟨⟨1, 0, (8 + (lx : Int)), (((10 + (k : Int)) + (hy : Int)) - 1), (ptsL k), []⟩, ⟨vo, ho35⟩, nilV⟩ : Seg).d) == g33) = true from (by rw [show _ = _ from hG]; exact beq_self_eq_true _))) (op_move (.bool g33) rfl (s_yes 75 rfl (congrArg Value.bool (show ((mayS (⟨⟨1, 0, (8 + (lx : Int)), (((10 + (k : Int)) + (hy : Int)) - 1), (ptsL k), []⟩, ⟨vo, ho35⟩, nilV⟩ : Seg).d) == g33) = true from (by rw [show _ = _ from hG]; exact beq_self_eq_true _))) (op_eqlb (a := decide (((encG (⟨⟨1, 0, (8 + (lx : Int)), (((10 + (k : Int)) + (hy : Int)) - 1), (ptsL k), []⟩, ⟨vo, ho35⟩, nilV⟩ : Seg).d).2) = 0)) (b := g33) Tryd.underlying4 rfl rfl ?_)))
 refine s_cons (op_pick_t (.bool ((decide (((encG (⟨⟨1, 0, (8 + (lx : Int)), (((10 + (k : Int)) + (hy : Int)) - 1), (ptsL k), []⟩, ⟨vo, ho35⟩, nilV⟩ : Seg).d).2) = 0)) == g33)) (congrArg Value.bool (show ((mayS (⟨⟨1, 0, (8 + (lx : Int)), (((10 + (k : Int)) + (hy : Int)) - 1), (ptsL k), []⟩, ⟨vo, ho35⟩, nilV⟩ : Seg).d) == g33) = true from (by rw [show _ = _ from hG]; exact beq_self_eq_true _))) rfl ?_)
 refine s_cons (op_move (.bool ((decide (((encG (⟨⟨1, 0, (8 + (lx : Int)), (((10 + (k : Int)) + (hy : Int)) - 1), (ptsL k), []⟩, ⟨vo, ho35⟩, nilV⟩ : Seg).d).2) = 0)) == g33)) rfl (s_yes 81 rfl (congrArg Value.bool (show ((decide (((encG (⟨⟨1, 0, (8 + (lx : Int)), (((10 + (k : Int)) + (hy : Int)) - 1), (ptsL k), []⟩, ⟨vo, ho35⟩, nilV⟩ : Seg).d).2) = 0)) == g33) = true from (by rw [show _ = _ from hcode]; exact beq_self_eq_true _))) (op_move (iV ((encG (⟨⟨1, 0, (8 + (lx : Int)), (((10 + (k : Int)) + (hy : Int)) - 1), (ptsL k), []⟩, ⟨vo, ho35⟩, nilV⟩ : Seg).d).2)) rfl ?_)))
 refine s_yes 81 rfl (congrArg Value.bool (show ((decide (((encG (⟨⟨1, 0, (8 + (lx : Int)), (((10 + (k : Int)) + (hy : Int)) - 1), (ptsL k), []⟩, ⟨vo, ho35⟩, nilV⟩ : Seg).d).2) = 0)) == g33) = true from (by rw [show _ = _ from hcode]; exact beq_self_eq_true _))) (op_eql (k := .i64) (a := (encG (⟨⟨1, 0, (8 + (lx : Int)), (((10 + (k : Int)) + (hy : Int)) - 1), (ptsL k), []⟩, ⟨vo, ho35⟩, nilV⟩ : Seg).d).2) (b := 0) rfl rfl ?_)
 refine s_yes 81 rfl (congrArg Value.bool (show ((decide (((encG (⟨⟨1, 0, (8 + (lx : Int)), (((10 + (k : Int)) + (hy : Int)) - 1), (ptsL k), []⟩, ⟨vo, ho35⟩, nilV⟩ : Seg).d).2) = 0)) == g33) = true from (by rw [show _ = _ from hcode]; exact beq_self_eq_true _))) (op_move (.bool (decide (((encG (⟨⟨1, 0, (8 + (lx : Int)), (((10 + (k : Int)) + (hy : Int)) - 1), (ptsL k), []⟩, ⟨vo, ho35⟩, nilV⟩ : Seg).d).2) = 0))) rfl ?_)
 rcases Bool.eq_false_or_eq_true (decide (((encG (⟨⟨1, 0, (8 + (lx : Int)), (((10 + (k : Int)) + (hy : Int)) - 1), (ptsL k), []⟩, ⟨vo, ho35⟩, nilV⟩ : Seg).d).2) = 0)) with b40 | b40
 ·have c41 : ((encG (⟨⟨1, 0, (8 + (lx : Int)), (((10 + (k : Int)) + (hy : Int)) - 1), (ptsL k), []⟩, ⟨vo, ho35⟩, nilV⟩ : Seg).d).2) = 0 := of_decide_eq_true b40
  refine s_no 84 rfl (congrArg Value.bool b40) (s_no 84 rfl (congrArg Value.bool b40) (s_no 84 rfl (congrArg Value.bool b40) (s_un 87 rfl rfl (s_un 87 rfl rfl (s_un 87 rfl rfl (s_no 84 rfl (congrArg Value.bool b40) (s_yes 81 rfl (congrArg Value.bool (show ((decide (((encG (⟨⟨1, 0, (8 + (lx : Int)), (((10 + (k : Int)) + (hy : Int)) - 1), (ptsL k), []⟩, ⟨vo, ho35⟩, nilV⟩ : Seg).d).2) = 0)) == g33) = true from (by rw [show _ = _ from hcode]; exact beq_self_eq_true _))) (op_pick_t (.bool true) (congrArg Value.bool b40) rfl ?_))))))))
  refine s_cons (op_pick_t (.bool true) (congrArg Value.bool (show ((decide (((encG (⟨⟨1, 0, (8 + (lx : Int)), (((10 + (k : Int)) + (hy : Int)) - 1), (ptsL k), []⟩, ⟨vo, ho35⟩, nilV⟩ : Seg).d).2) = 0)) == g33) = true from (by rw [show _ = _ from hcode]; exact beq_self_eq_true _))) rfl (s_cons (op_assign (.bool true) rfl (s_nil (then_n (cE_ret (post_r _ (res1 (v := (.bool true)) rfl) ?_)))))))
  exact ⟨rfl, hst.bare⟩
 have c42 : ¬ (((encG (⟨⟨1, 0, (8 + (lx : Int)), (((10 + (k : Int)) + (hy : Int)) - 1), (ptsL k), []⟩, ⟨vo, ho35⟩, nilV⟩ : Seg).d).2) = 0) := of_decide_eq_false b40
 refine s_yes 84 rfl (congrArg Value.bool b40) (op_move (iV ((encG (⟨⟨1, 0, (8 + (lx : Int)), (((10 + (k : Int)) + (hy : Int)) - 1), (ptsL k), []⟩, ⟨vo, ho35⟩, nilV⟩ : Seg).d).2)) rfl (s_yes 84 rfl (congrArg Value.bool b40) (op_eql (k := .i64) (a := (encG (⟨⟨1, 0, (8 + (lx : Int)), (((10 + (k : Int)) + (hy : Int)) - 1), (ptsL k), []⟩, ⟨vo, ho35⟩, nilV⟩ : Seg).d).2) (b := 1) rfl rfl ?_)))
 refine s_yes 84 rfl (congrArg Value.bool b40) (op_move (.bool (decide (((encG (⟨⟨1, 0, (8 + (lx : Int)), (((10 + (k : Int)) + (hy : Int)) - 1), (ptsL k), []⟩, ⟨vo, ho35⟩, nilV⟩ : Seg).d).2) = 1))) rfl (s_yes 87 rfl (congrArg Value.bool (show (decide (((encG (⟨⟨1, 0, (8 + (lx : Int)), (((10 + (k : Int)) + (hy : Int)) - 1), (ptsL k), []⟩, ⟨vo, ho35⟩, nilV⟩ : Seg).d).2) = 1)) = true from (decide_eq_true (code_one rfl (by assumption)).1))) (op_move r36 rfl ?_)))
 refine s_yes 87 rfl (congrArg Value.bool (show (decide (((encG (⟨⟨1, 0, (8 + (lx : Int)), (((10 + (k : Int)) + (hy : Int)) - 1), (ptsL k), []⟩, ⟨vo, ho35⟩, nilV⟩ : Seg).d).2) = 1)) = true from (decide_eq_true (code_one rfl (by assumption)).1))) (op_len (E := u8E) (xs := (encG (⟨⟨1, 0, (8 + (lx : Int)), (((10 + (k : Int)) + (hy : Int)) - 1), (ptsL k), []⟩, ⟨vo, ho35⟩, nilV⟩ : Seg).d).1) Tryd.underlying29 rfl (hst.sl 0 rfl) ?_)
 refine s_yes 87 rfl (congrArg Value.bool (show (decide (((encG (⟨⟨1, 0, (8 + (lx : Int)), (((10 + (k : Int)) + (hy : Int)) - 1), (ptsL k), []⟩, ⟨vo, ho35⟩, nilV⟩ : Seg).d).2) = 1)) = true from (decide_eq_true (code_one rfl (by assumption)).1))) (op_eql (k := .i64) (a := (((encG (⟨⟨1, 0, (8 + (lx : Int)), (((10 + (k : Int)) + (hy : Int)) - 1), (ptsL k), []⟩, ⟨vo, ho35⟩, nilV⟩ : Seg).d).1).length : Int)) (b := 0) rfl rfl ?_)
 refine s_yes 84 rfl (congrArg Value.bool b40) (op_pick_t (.bool (decide ((((encG (⟨⟨1, 0, (8 + (lx : Int)), (((10 + (k : Int)) + (hy : Int)) - 1), (ptsL k), []⟩, ⟨vo, ho35⟩, nilV⟩ : Seg).d).1).length : Int) = 0))) (congrArg Value.bool (show (decide (((encG (⟨⟨1, 0, (8 + (lx : Int)), (((10 + (k : Int)) + (hy : Int)) - 1), (ptsL k), []⟩, ⟨vo, ho35⟩, nilV⟩ : Seg).d).2) = 1)) = true from (decide_eq_true (code_one rfl (by assumption)).1))) rfl ?_)
 refine s_yes 81 rfl (congrArg Value.bool (show ((decide (((encG (⟨⟨1, 0, (8 + (lx : Int)), (((10 + (k : Int)) + (hy : Int)) - 1), (ptsL k), []⟩, ⟨vo, ho35⟩, nilV⟩ : Seg).d).2) = 0)) == g33) = true from (by rw [show _ = _ from hcode]; exact beq_self_eq_true _))) (op_pick_f (.bool (decide ((((encG (⟨⟨1, 0, (8 + (lx : Int)), (((10 + (k : Int)) + (hy : Int)) - 1), (ptsL k), []⟩, ⟨vo, ho35⟩, nilV⟩ : Seg).d).1).length : Int) = 0))) (congrArg Value.bool b40) rfl ?_)
 refine s_cons (op_pick_t (.bool (decide ((((encG (⟨⟨1, 0, (8 + (lx : Int)), (((10 + (k : Int)) + (hy : Int)) - 1), (ptsL k), []⟩, ⟨vo, ho35⟩, nilV⟩ : Seg).d).1).length : Int) = 0))) (congrArg Value.bool (show ((decide (((encG (⟨⟨1, 0, (8 + (lx : Int)), (((10 + (k : Int)) + (hy : Int)) - 1), (ptsL k), []⟩, ⟨vo, ho35⟩, nilV⟩ : Seg).d).2) = 0)) == g33) = true from (by rw [show _ = _ from hcode]; exact beq_self_eq_true _))) rfl ?_)
 refine s_cons (op_assign (.bool (decide ((((encG (⟨⟨1, 0, (8 + (lx : Int)), (((10 + (k : Int)) + (hy : Int)) - 1), (ptsL k), []⟩, ⟨vo, ho35⟩, nilV⟩ : Seg).d).1).length : Int) = 0))) rfl (s_nil (then_n (cE_ret (post_r _ (res1 (v := (.bool true)) (congrArg Value.bool (show (decide ((((encG (⟨⟨1, 0, (8 + (lx : Int)), (((10 + (k : Int)) + (hy : Int)) - 1), (ptsL k), []⟩, ⟨vo, ho35⟩, nilV⟩ : Seg).d).1).length : Int) = 0)) = true from (decide_eq_true (code_one rfl (by assumption)).2)))) ?_)))))
 exact ⟨rfl, hst.bare⟩

end Go.Proofs.YtgibfidebdgffaaDoor
