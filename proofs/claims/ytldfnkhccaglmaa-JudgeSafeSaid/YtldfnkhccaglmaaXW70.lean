/- twinkeeplaw23.JudgeSafe -/
import Derived.Test.YtldfnkhccaglmaaXLA
import Derived.Test.YtldfnkhccaglmaaXW68
namespace Go.Proofs.Ytldfnkhccaglmaa
open Go.RowKit

set_option maxRecDepth 8000 in
set_option maxHeartbeats 8000000 in
theorem c_JudgeSafe (w0 : World) (tw : Int) (sa : Int) (th : Int) (tw0 : -9223372036854775808 ≤ tw) (sa0 : -9223372036854775808 ≤ sa) (th0 : -9223372036854775808 ≤ th) (tw1 : tw ≤ 9223372036854775807) (sa1 : sa ≤ 9223372036854775807) (th1 : th ≤ 9223372036854775807) :
  Calls Try.prog 5 #[(iV tw), (iV sa), (iV th)] w0 fun e w' => e = .returned (.bool true) ∧ St w0 w' [] := by
 refine calls_E (n := 105) (ts := [6]) Try.func5 rfl rfl rfl (by simp) ?_
 have hst := St.start w0
 refine cE_seq (cE_region rfl (s_cons (op_assign (.bool false) rfl (s_nil (then_n (cE_seq (cE_region rfl (s_cons (op_assign nS rfl (s_nil (then_n (cE_seq (cE_region rfl (s_cons (op_assign nS rfl (s_nil (then_n (cE_seq (cE_region rfl (s_cons (op_assign (iV 0) rfl (s_nil (then_n (cE_seq (cE_seq (cE_region rfl (s_cons (op_assign (iV 0) rfl (s_nil (then_n (cE_block ?_)))))))))))))))))))))))))))))))
 replace hst : St w0 w0 [rowT 54 toldE nS ([])] := hst.nilRow 54 toldE
 replace hst : St w0 w0 [rowT 51 sampE nS ([]), rowT 54 toldE nS ([])] := hst.nilRow 51 sampE
 replace hst : St w0 w0 [rowT 54 toldE nS ([]), rowT 51 sampE nS ([])] := hst.front 1 rfl
 refine cE_loop (fun (m : Nat) (ρ : Env) (w : World) => ∃ (vl : Value) (ls : List Told) (vh : Value) (hs : List Sample) (wt : Int) (i : Nat), m = 12 - i ∧ ρ 0 = (iV tw) ∧ ρ 1 = (iV sa) ∧ ρ 2 = (iV th) ∧ ρ 6 = (.bool false) ∧ ρ 7 = vl ∧ ρ 8 = vh ∧ ρ 9 = (iV wt) ∧ ρ 10 = (iV (i : Int)) ∧ St w0 w [rowT 54 toldE vl ls, rowT 51 sampE vh hs] ∧ (i ≤ 12) ∧ (ls = tlS tw sa i) ∧ (hs = hvS th i) ∧ (wt = wtS tw sa th i)) id _ ⟨nS, [], nS, [], 0, 0, rfl, rfl, rfl, rfl, rfl, rfl, rfl, rfl, (congrArg iV (show 0 = _ from by omega)), hst, (by omega), (by first | rfl | exact tl_yes hL (by assumption) | exact tl_no hL (by assumption)), (by first | rfl | exact hv_yes hH (by assumption) | exact hv_no hH (by assumption)), (by first | rfl | exact want_next hW (by (repeat' split) <;> omega))⟩ ?_
 rintro m2 ρ3 w4 ⟨vl, ls, vh, hs, wt, i, hm2, q1_0, q1_1, q1_2, q1_6, q1_7, q1_8, q1_9, q1_10, hst, hi, hL, hH, hW⟩
 have hll : ls.length ≤ i := by rw [hL]; exact tl_len i
 have hhl : hs.length ≤ i := by rw [hH]; exact hv_len i
 refine cE_seq (cE_seq (cE_region rfl (s_cons (op_move (iV (i : Int)) q1_10 (s_cons (op_lss (k := .i64) (a := (i : Int)) (b := 12) rfl rfl (s_nil (then_n ?_))))))))
 rcases Bool.eq_false_or_eq_true (decide ((i : Int) < 12)) with b5 | b5
 ·have c6 : (i : Int) < 12 := of_decide_eq_true b5
  refine cE_cond true (congrArg Value.bool b5) (fun _ => ?_) (fun h => by cases h)
  refine cE_skip (then_n (cE_seq (cE_block (cE_seq (cE_region rfl (s_cons (op_move (iV (i : Int)) q1_10 (s_cons (op_move (iV (i : Int)) q1_10 (s_cons (op_mul (k := .i64) (a := 7) (b := (i : Int)) (7 * (i : Int)) rfl rfl (xi64 (by omega) (by omega)) (s_cons (op_build (r := (.agg #[(iV (i : Int)), (iV (7 * (i : Int)))])) (evp_cons (v := (iV (i : Int))) rfl (evp_cons (v := (iV (7 * (i : Int)))) rfl evp_nil)) (by simp [Instr.build, Instr.fill, Value.cells, Try.runUnderlying51, Try.zeroValue51]) ?_)))))))))))))
  refine s_cons (op_alloc (cs := #[(iV 0), (iV 0)]) hst Try.zeroValue51 rfl (fun g7 w8 hst _ => ?_))
  replace hst : St w0 w8 [.blk g7 51 #[(iV 0), (iV 0)], rowT 54 toldE vl ls, rowT 51 sampE vh hs] := hst
  refine s_cons0 (op_storeAll hst 0 rfl Try.sizeOf51 rfl rfl rfl rfl (by simp [Value.oneCell']) (fun w9 hst => ?_))
  replace hst : St w0 w9 [.blk g7 51 #[(iV (i : Int)), (iV (7 * (i : Int)))], rowT 54 toldE vl ls, rowT 51 sampE vh hs] := hst
  refine s_nil (then_n (cE_seq (cE_region rfl (s_cons (op_move (iV tw) q1_0 (s_cons (op_move (iV (i : Int)) q1_10 (s_cons (op_conv (k := .i64) (a := (i : Int)) (i : Int) Try.underlying47 (by rw [Try.underlying3]; rfl) rfl (xu64 (by omega) (by omega)) (s_cons (op_shr (k := .i64) (k' := .u64) (a := tw) (b := (i : Int)) (tw / 2 ^ i) rfl rfl (by omega) (by simp [IntKind.bits]; try omega) (by rw [Int.toNat_natCast]) ?_)))))))))))
  refine s_cons (op_and (k := .i64) (a := (tw / 2 ^ i)) (b := 1) ((tw / 2 ^ i) % 2) rfl rfl (and1 _) (s_cons (op_eql (k := .i64) (a := ((tw / 2 ^ i) % 2)) (b := 1) rfl rfl (s_cons (op_move (iV sa) q1_1 (s_cons (op_move (iV (i : Int)) q1_10 (s_cons (op_conv (k := .i64) (a := (i : Int)) (i : Int) Try.underlying47 (by rw [Try.underlying3]; rfl) rfl (xu64 (by omega) (by omega)) (s_cons (op_shr (k := .i64) (k' := .u64) (a := sa) (b := (i : Int)) (sa / 2 ^ i) rfl rfl (by omega) (by simp [IntKind.bits]; try omega) (by rw [Int.toNat_natCast]) ?_)))))))))))
  refine s_cons (op_and (k := .i64) (a := (sa / 2 ^ i)) (b := 1) ((sa / 2 ^ i) % 2) rfl rfl (and1 _) (s_cons (op_eql (k := .i64) (a := ((sa / 2 ^ i) % 2)) (b := 1) rfl rfl (s_cons (op_move (iV th) q1_2 (s_cons (op_move (iV (i : Int)) q1_10 (s_cons (op_conv (k := .i64) (a := (i : Int)) (i : Int) Try.underlying47 (by rw [Try.underlying3]; rfl) rfl (xu64 (by omega) (by omega)) (s_cons (op_shr (k := .i64) (k' := .u64) (a := th) (b := (i : Int)) (th / 2 ^ i) rfl rfl (by omega) (by simp [IntKind.bits]; try omega) (by rw [Int.toNat_natCast]) ?_)))))))))))
  refine s_cons (op_and (k := .i64) (a := (th / 2 ^ i)) (b := 1) ((th / 2 ^ i) % 2) rfl rfl (and1 _) (s_cons (op_eql (k := .i64) (a := ((th / 2 ^ i) % 2)) (b := 1) rfl rfl (s_cons (op_assign (.bool (decide (((tw / 2 ^ i) % 2) = 1))) rfl (s_cons (op_assign (.bool (decide (((sa / 2 ^ i) % 2) = 1))) rfl (s_cons (op_assign (.bool (decide (((th / 2 ^ i) % 2) = 1))) rfl (s_nil (then_n (cE_seq ?_))))))))))))
  refine cE_seq (cE_region rfl (s_cons (op_move (.bool (decide (((tw / 2 ^ i) % 2) = 1))) rfl (s_nil (then_n ?_)))))
  rcases Bool.eq_false_or_eq_true (decide (((tw / 2 ^ i) % 2) = 1)) with b10 | b10
  ·have c11 : ((tw / 2 ^ i) % 2) = 1 := of_decide_eq_true b10
   refine cE_cond true (congrArg Value.bool b10) (fun _ => ?_) (fun h => by cases h)
   refine cE_region rfl (s_cons (op_move vl q1_7 (s_cons (op_loadN (cs := [(iV (i : Int)), (iV (7 * (i : Int)))]) Try.isAgg51 Try.sizeOf51 rfl (Pt.of (hst.cell 0 rfl) rfl) rfl (s_cons (op_move (.bool (decide (((sa / 2 ^ i) % 2) = 1))) rfl (s_cons (op_build (r := (.agg #[(iV (i : Int)), (iV (7 * (i : Int))), (iV 0), (iV 1), (.bool (decide (((sa / 2 ^ i) % 2) = 1)))])) (evp_cons (v := (.agg #[(iV (i : Int)), (iV (7 * (i : Int)))])) rfl (evp_cons (v := (iV 1)) rfl (evp_cons (v := (.bool (decide (((sa / 2 ^ i) % 2) = 1)))) rfl evp_nil))) (by simp [Instr.build, Instr.fill, Value.cells, Try.runUnderlying54, Try.zeroValue54]) ?_))))))))
   refine s_cons (op_buildSlice (E := toldE) [(⟨(⟨(i : Int), (7 * (i : Int))⟩ : Sample), 0, 1, decide (((sa / 2 ^ i) % 2) = 1)⟩ : Told)] hst Try.underlying22 Try.sizeOf54 Try.zeroValue54 (evp_cons (v := (.agg #[(iV (i : Int)), (iV (7 * (i : Int))), (iV 0), (iV 1), (.bool (decide (((sa / 2 ^ i) % 2) = 1)))])) rfl evp_nil) (parts_cons rfl parts_nil) rfl (by decide) (fun v12 w13 hst => ?_))
   replace hst : St w0 w13 [rowT 54 toldE v12 ([(⟨(⟨(i : Int), (7 * (i : Int))⟩ : Sample), 0, 1, decide (((sa / 2 ^ i) % 2) = 1)⟩ : Told)]), .blk g7 51 #[(iV (i : Int)), (iV (7 * (i : Int)))], rowT 54 toldE vl ls, rowT 51 sampE vh hs] := hst
   refine s_cons (op_append (E := toldE) (xs := ls) (ys := [(⟨(⟨(i : Int), (7 * (i : Int))⟩ : Sample), 0, 1, decide (((sa / 2 ^ i) % 2) = 1)⟩ : Told)]) (z := (.agg #[(iV 0), (iV 0), (iV 0), (iV 0), (.bool false)])) (bytes := 40) hst 2 rfl Try.underlying22 (by kernel_rfl) rfl rfl rfl (hst.sl 0 rfl) (by first | omega | (simp; omega) | (simp; done)) (by first | omega | (simp; omega) | (simp; done)) (fun v14 w15 hst => ?_))
   replace hst : St w0 w15 [rowT 54 toldE v12 ([(⟨(⟨(i : Int), (7 * (i : Int))⟩ : Sample), 0, 1, decide (((sa / 2 ^ i) % 2) = 1)⟩ : Told)]), .blk g7 51 #[(iV (i : Int)), (iV (7 * (i : Int)))], rowT 54 toldE v14 (ls ++ ([(⟨(⟨(i : Int), (7 * (i : Int))⟩ : Sample), 0, 1, decide (((sa / 2 ^ i) % 2) = 1)⟩ : Told)])), rowT 51 sampE vh hs] := hst
   refine s_cons (op_assign v14 rfl (s_nil (then_n (cE_seq (cE_seq (cE_region rfl (s_cons (op_move (.bool (decide (((th / 2 ^ i) % 2) = 1))) rfl (s_nil (then_n ?_))))))))))
   rcases Bool.eq_false_or_eq_true (decide (((th / 2 ^ i) % 2) = 1)) with b16 | b16
   ·have c17 : ((th / 2 ^ i) % 2) = 1 := of_decide_eq_true b16
    refine cE_cond true (congrArg Value.bool b16) (fun _ => ?_) (fun h => by cases h)
    refine cE_region rfl (s_cons (op_move vh q1_8 (s_cons (op_loadN (cs := [(iV (i : Int)), (iV (7 * (i : Int)))]) Try.isAgg51 Try.sizeOf51 rfl (Pt.of (hst.cell 1 rfl) rfl) rfl (s_cons (op_buildSlice (E := sampE) [(⟨(i : Int), (7 * (i : Int))⟩ : Sample)] hst Try.underlying23 Try.sizeOf51 Try.zeroValue51 (evp_cons (v := (.agg #[(iV (i : Int)), (iV (7 * (i : Int)))])) rfl evp_nil) (parts_cons rfl parts_nil) rfl (by decide) (fun v18 w19 hst => ?_)))))))
    replace hst : St w0 w19 [rowT 51 sampE v18 ([(⟨(i : Int), (7 * (i : Int))⟩ : Sample)]), rowT 54 toldE v12 ([(⟨(⟨(i : Int), (7 * (i : Int))⟩ : Sample), 0, 1, decide (((sa / 2 ^ i) % 2) = 1)⟩ : Told)]), .blk g7 51 #[(iV (i : Int)), (iV (7 * (i : Int)))], rowT 54 toldE v14 (ls ++ ([(⟨(⟨(i : Int), (7 * (i : Int))⟩ : Sample), 0, 1, decide (((sa / 2 ^ i) % 2) = 1)⟩ : Told)])), rowT 51 sampE vh hs] := hst
    refine s_cons (op_append (E := sampE) (xs := hs) (ys := [(⟨(i : Int), (7 * (i : Int))⟩ : Sample)]) (z := (.agg #[(iV 0), (iV 0)])) (bytes := 16) hst 4 rfl Try.underlying23 (by kernel_rfl) rfl rfl rfl (hst.sl 0 rfl) (by first | omega | (simp; omega) | (simp; done)) (by first | omega | (simp; omega) | (simp; done)) (fun v20 w21 hst => ?_))
    replace hst : St w0 w21 [rowT 51 sampE v18 ([(⟨(i : Int), (7 * (i : Int))⟩ : Sample)]), rowT 54 toldE v12 ([(⟨(⟨(i : Int), (7 * (i : Int))⟩ : Sample), 0, 1, decide (((sa / 2 ^ i) % 2) = 1)⟩ : Told)]), .blk g7 51 #[(iV (i : Int)), (iV (7 * (i : Int)))], rowT 54 toldE v14 (ls ++ ([(⟨(⟨(i : Int), (7 * (i : Int))⟩ : Sample), 0, 1, decide (((sa / 2 ^ i) % 2) = 1)⟩ : Told)])), rowT 51 sampE v20 (hs ++ ([(⟨(i : Int), (7 * (i : Int))⟩ : Sample)]))] := hst
    refine s_cons (op_assign v20 rfl (s_nil (then_n (cE_seq (cE_seq (cE_region rfl (s_cons (op_move (.bool (decide (((th / 2 ^ i) % 2) = 1))) rfl (s_cons (op_move (.bool (decide (((th / 2 ^ i) % 2) = 1))) rfl (s_yes 55 rfl (congrArg Value.bool b16) (op_move (.bool (decide (((tw / 2 ^ i) % 2) = 1))) rfl (s_yes 55 rfl (congrArg Value.bool b16) (op_not (b := decide (((tw / 2 ^ i) % 2) = 1)) rfl ?_))))))))))))))
    refine s_cons (op_pick_t (.bool (!(decide (((tw / 2 ^ i) % 2) = 1)))) (congrArg Value.bool b16) rfl (s_nil (then_n (cE_cond false (congrArg Value.bool (congrArg (! ·) b10)) (fun h => by cases h) (fun _ => ?_)))))
    refine cE_skip (then_n (cE_seq (cE_region rfl (s_cons (op_move (iV wt) q1_9 (s_cons (op_eql (k := .i64) (a := wt) (b := 0) rfl rfl (s_cons (op_move (.bool (decide (wt = 0))) rfl (s_lz 61 rfl (gA_t rfl) (Rlz (decide (wt = 0)) (.bool (decide (((tw / 2 ^ i) % 2) = 1))) w21) ?_ (fun hc22 => rlz_f hc22) ?_))))))))))
    ·intro hc22
     refine op_move (.bool (decide (((tw / 2 ^ i) % 2) = 1))) rfl ?_
     exact rlz_t hc22
    rintro _ _ ⟨rfl, rfl⟩
    obtain ⟨g23, hg24⟩ : ∃ x : Bool, x = ((decide (wt = 0)) && (decide (((tw / 2 ^ i) % 2) = 1))) := ⟨_, rfl⟩
    refine s_cons (op_pick_and rfl rfl (fun hp => hp) rfl (s_cons (op_move (.bool g23) (congrArg Value.bool hg24.symm) (s_lz 64 rfl (gA_t rfl) (Rlz g23 (.bool (decide (((sa / 2 ^ i) % 2) = 1))) w21) ?_ (fun hc25 => rlz_f hc25) ?_))))
    ·intro hc25
     refine op_move (.bool (decide (((sa / 2 ^ i) % 2) = 1))) rfl ?_
     exact rlz_t hc25
    rintro _ _ ⟨rfl, rfl⟩
    obtain ⟨g26, hg27⟩ : ∃ x : Bool, x = (g23 && (decide (((sa / 2 ^ i) % 2) = 1))) := ⟨_, rfl⟩
    refine s_cons (op_pick_and rfl rfl (fun hp => hp) rfl (s_cons (op_move (.bool g26) (congrArg Value.bool hg27.symm) (s_lz 67 rfl (gA_t rfl) (Rlz g26 (.bool (decide (((th / 2 ^ i) % 2) = 1))) w21) ?_ (fun hc28 => rlz_f hc28) ?_))))
    ·intro hc28
     refine op_move (.bool (decide (((th / 2 ^ i) % 2) = 1))) rfl ?_
     exact rlz_t hc28
    rintro _ _ ⟨rfl, rfl⟩
    refine s_lz 67 rfl (gA_t rfl) (Rlz g26 (.bool (!(decide (((th / 2 ^ i) % 2) = 1)))) w21) ?_ (fun hc29 => rlz_f hc29) ?_
    ·intro hc29
     have c30 : wt = 0 := of_decide_eq_true (and_l (hg24.symm.trans (and_l (hg27.symm.trans hc29))))
     have c31 : ((tw / 2 ^ i) % 2) = 1 := of_decide_eq_true (and_r (hg24.symm.trans (and_l (hg27.symm.trans hc29))))
     have c32 : ((sa / 2 ^ i) % 2) = 1 := of_decide_eq_true (and_r (hg27.symm.trans hc29))
     refine op_not (b := decide (((th / 2 ^ i) % 2) = 1)) (gt hc29) ?_
     exact rlz_t hc29
    rintro _ _ ⟨rfl, rfl⟩
    obtain ⟨g33, hg34⟩ : ∃ x : Bool, x = (g26 && (!(decide (((th / 2 ^ i) % 2) = 1)))) := ⟨_, rfl⟩
    refine s_cons (op_pick_and rfl rfl (fun hp => hp) rfl (s_nil (then_n (cE_cond false ((congrArg Value.bool hg34.symm).trans (congrArg Value.bool (hg34.trans (and_f2 (congrArg (! ·) b16))))) (fun h => by cases h) (fun _ => ?_)))))
    refine cE_skip (block_n (then_n (cE_region rfl (s_cons (op_move (iV (i : Int)) q1_10 (s_cons (op_add (k := .i64) (a := (i : Int)) (b := 1) ((i : Int) + 1) rfl rfl (xi64 (by omega) (by omega)) (s_cons (op_assign (iV ((i : Int) + 1)) rfl (s_nil (then_n ?_)))))))))))
    exact ⟨_, ⟨v14, (ls ++ ([(⟨(⟨(i : Int), (7 * (i : Int))⟩ : Sample), 0, 1, decide (((sa / 2 ^ i) % 2) = 1)⟩ : Told)])), v20, (hs ++ ([(⟨(i : Int), (7 * (i : Int))⟩ : Sample)])), wt, (i + 1), rfl, q1_0, q1_1, q1_2, q1_6, rfl, rfl, q1_9, (congrArg iV (show ((i : Int) + 1) = _ from by omega)), (hst.sub (.cons _ (.cons _ (.cons _ (.cons_cons _ (.cons_cons _ .slnil)))))), (by omega), (by first | rfl | exact tl_yes hL (by assumption) | exact tl_no hL (by assumption)), (by first | rfl | exact hv_yes hH (by assumption) | exact hv_no hH (by assumption)), (by first | rfl | exact want_next hW (by (repeat' split) <;> omega))⟩, (by simp only [id]; omega)⟩
   have c35 : ¬ (((th / 2 ^ i) % 2) = 1) := of_decide_eq_false b16
   refine cE_cond false (congrArg Value.bool b16) (fun h => by cases h) (fun _ => ?_)
   refine cE_skip (then_n (cE_seq (cE_seq (cE_region rfl (s_cons (op_move (.bool (decide (((th / 2 ^ i) % 2) = 1))) rfl (s_cons (op_move (.bool (decide (((th / 2 ^ i) % 2) = 1))) rfl (s_no 55 rfl (congrArg Value.bool b16) (s_no 55 rfl (congrArg Value.bool b16) (s_cons (op_pick_f (.bool false) (congrArg Value.bool b16) rfl (s_nil (then_n (cE_cond false rfl (fun h => by cases h) (fun _ => ?_))))))))))))))))
   refine cE_skip (then_n (cE_seq (cE_region rfl (s_cons (op_move (iV wt) q1_9 (s_cons (op_eql (k := .i64) (a := wt) (b := 0) rfl rfl (s_cons (op_move (.bool (decide (wt = 0))) rfl (s_lz 61 rfl (gA_t rfl) (Rlz (decide (wt = 0)) (.bool (decide (((tw / 2 ^ i) % 2) = 1))) w15) ?_ (fun hc36 => rlz_f hc36) ?_))))))))))
   ·intro hc36
    refine op_move (.bool (decide (((tw / 2 ^ i) % 2) = 1))) rfl ?_
    exact rlz_t hc36
   rintro _ _ ⟨rfl, rfl⟩
   obtain ⟨g37, hg38⟩ : ∃ x : Bool, x = ((decide (wt = 0)) && (decide (((tw / 2 ^ i) % 2) = 1))) := ⟨_, rfl⟩
   refine s_cons (op_pick_and rfl rfl (fun hp => hp) rfl (s_cons (op_move (.bool g37) (congrArg Value.bool hg38.symm) (s_lz 64 rfl (gA_t rfl) (Rlz g37 (.bool (decide (((sa / 2 ^ i) % 2) = 1))) w15) ?_ (fun hc39 => rlz_f hc39) ?_))))
   ·intro hc39
    refine op_move (.bool (decide (((sa / 2 ^ i) % 2) = 1))) rfl ?_
    exact rlz_t hc39
   rintro _ _ ⟨rfl, rfl⟩
   obtain ⟨g40, hg41⟩ : ∃ x : Bool, x = (g37 && (decide (((sa / 2 ^ i) % 2) = 1))) := ⟨_, rfl⟩
   refine s_cons (op_pick_and rfl rfl (fun hp => hp) rfl (s_cons (op_move (.bool g40) (congrArg Value.bool hg41.symm) (s_lz 67 rfl (gA_t rfl) (Rlz g40 (.bool (decide (((th / 2 ^ i) % 2) = 1))) w15) ?_ (fun hc42 => rlz_f hc42) ?_))))
   ·intro hc42
    refine op_move (.bool (decide (((th / 2 ^ i) % 2) = 1))) rfl ?_
    exact rlz_t hc42
   rintro _ _ ⟨rfl, rfl⟩
   refine s_lz 67 rfl (gA_t rfl) (Rlz g40 (.bool (!(decide (((th / 2 ^ i) % 2) = 1)))) w15) ?_ (fun hc43 => rlz_f hc43) ?_
   ·intro hc43
    have c44 : wt = 0 := of_decide_eq_true (and_l (hg38.symm.trans (and_l (hg41.symm.trans hc43))))
    have c45 : ((tw / 2 ^ i) % 2) = 1 := of_decide_eq_true (and_r (hg38.symm.trans (and_l (hg41.symm.trans hc43))))
    have c46 : ((sa / 2 ^ i) % 2) = 1 := of_decide_eq_true (and_r (hg41.symm.trans hc43))
    refine op_not (b := decide (((th / 2 ^ i) % 2) = 1)) (gt hc43) ?_
    exact rlz_t hc43
   rintro _ _ ⟨rfl, rfl⟩
   obtain ⟨g47, hg48⟩ : ∃ x : Bool, x = (g40 && (!(decide (((th / 2 ^ i) % 2) = 1)))) := ⟨_, rfl⟩
   refine s_cons (op_pick_and rfl rfl (fun hp => hp) rfl (s_nil (then_n ?_)))
   rcases Bool.eq_false_or_eq_true g47 with b49 | b49
   ·have c50 : wt = 0 := of_decide_eq_true (and_l (hg38.symm.trans (and_l (hg41.symm.trans (and_l (hg48.symm.trans b49))))))
    have c51 : ((tw / 2 ^ i) % 2) = 1 := of_decide_eq_true (and_r (hg38.symm.trans (and_l (hg41.symm.trans (and_l (hg48.symm.trans b49))))))
    have c52 : ((sa / 2 ^ i) % 2) = 1 := of_decide_eq_true (and_r (hg41.symm.trans (and_l (hg48.symm.trans b49))))
    have c53 : ¬ (((th / 2 ^ i) % 2) = 1) := of_decide_eq_false (not_t (and_r (hg48.symm.trans b49)))
    refine cE_cond true ((congrArg Value.bool hg48.symm).trans (congrArg Value.bool b49)) (fun _ => ?_) (fun h => by cases h)
    refine cE_region rfl (s_cons (op_assign (iV 3) rfl (s_nil (block_n (then_n (cE_region rfl (s_cons (op_move (iV (i : Int)) q1_10 (s_cons (op_add (k := .i64) (a := (i : Int)) (b := 1) ((i : Int) + 1) rfl rfl (xi64 (by omega) (by omega)) (s_cons (op_assign (iV ((i : Int) + 1)) rfl (s_nil (then_n ?_))))))))))))))
    exact ⟨_, ⟨v14, (ls ++ ([(⟨(⟨(i : Int), (7 * (i : Int))⟩ : Sample), 0, 1, decide (((sa / 2 ^ i) % 2) = 1)⟩ : Told)])), vh, hs, 3, (i + 1), rfl, q1_0, q1_1, q1_2, q1_6, rfl, q1_8, rfl, (congrArg iV (show ((i : Int) + 1) = _ from by omega)), (hst.sub (.cons _ (.cons _ (.cons_cons _ (.cons_cons _ .slnil))))), (by omega), (by first | rfl | exact tl_yes hL (by assumption) | exact tl_no hL (by assumption)), (by first | rfl | exact hv_yes hH (by assumption) | exact hv_no hH (by assumption)), (by first | rfl | exact want_next hW (by (repeat' split) <;> omega))⟩, (by simp only [id]; omega)⟩
   have c54 : ¬ ((((wt = 0) ∧ (((tw / 2 ^ i) % 2) = 1)) ∧ (((sa / 2 ^ i) % 2) = 1)) ∧ (¬ (((th / 2 ^ i) % 2) = 1))) := pi_f (pi_and (pi_name hg41 (pi_and (pi_name hg38 (pi_and pi_dec pi_dec)) pi_dec)) (pi_not pi_dec)) (hg48.symm.trans b49)
   refine cE_cond false ((congrArg Value.bool hg48.symm).trans (congrArg Value.bool b49)) (fun h => by cases h) (fun _ => ?_)
   refine cE_skip (block_n (then_n (cE_region rfl (s_cons (op_move (iV (i : Int)) q1_10 (s_cons (op_add (k := .i64) (a := (i : Int)) (b := 1) ((i : Int) + 1) rfl rfl (xi64 (by omega) (by omega)) (s_cons (op_assign (iV ((i : Int) + 1)) rfl (s_nil (then_n ?_)))))))))))
   exact ⟨_, ⟨v14, (ls ++ ([(⟨(⟨(i : Int), (7 * (i : Int))⟩ : Sample), 0, 1, decide (((sa / 2 ^ i) % 2) = 1)⟩ : Told)])), vh, hs, wt, (i + 1), rfl, q1_0, q1_1, q1_2, q1_6, rfl, q1_8, q1_9, (congrArg iV (show ((i : Int) + 1) = _ from by omega)), (hst.sub (.cons _ (.cons _ (.cons_cons _ (.cons_cons _ .slnil))))), (by omega), (by first | rfl | exact tl_yes hL (by assumption) | exact tl_no hL (by assumption)), (by first | rfl | exact hv_yes hH (by assumption) | exact hv_no hH (by assumption)), (by first | rfl | exact want_next hW (by (repeat' split) <;> omega))⟩, (by simp only [id]; omega)⟩
  have c55 : ¬ (((tw / 2 ^ i) % 2) = 1) := of_decide_eq_false b10
  refine cE_cond false (congrArg Value.bool b10) (fun h => by cases h) (fun _ => ?_)
  refine cE_skip (then_n (cE_seq (cE_seq (cE_region rfl (s_cons (op_move (.bool (decide (((th / 2 ^ i) % 2) = 1))) rfl (s_nil (then_n ?_))))))))
  rcases Bool.eq_false_or_eq_true (decide (((th / 2 ^ i) % 2) = 1)) with b56 | b56
  ·have c57 : ((th / 2 ^ i) % 2) = 1 := of_decide_eq_true b56
   refine cE_cond true (congrArg Value.bool b56) (fun _ => ?_) (fun h => by cases h)
   refine cE_region rfl (s_cons (op_move vh q1_8 (s_cons (op_loadN (cs := [(iV (i : Int)), (iV (7 * (i : Int)))]) Try.isAgg51 Try.sizeOf51 rfl (Pt.of (hst.cell 0 rfl) rfl) rfl (s_cons (op_buildSlice (E := sampE) [(⟨(i : Int), (7 * (i : Int))⟩ : Sample)] hst Try.underlying23 Try.sizeOf51 Try.zeroValue51 (evp_cons (v := (.agg #[(iV (i : Int)), (iV (7 * (i : Int)))])) rfl evp_nil) (parts_cons rfl parts_nil) rfl (by decide) (fun v58 w59 hst => ?_)))))))
   replace hst : St w0 w59 [rowT 51 sampE v58 ([(⟨(i : Int), (7 * (i : Int))⟩ : Sample)]), .blk g7 51 #[(iV (i : Int)), (iV (7 * (i : Int)))], rowT 54 toldE vl ls, rowT 51 sampE vh hs] := hst
   refine s_cons (op_append (E := sampE) (xs := hs) (ys := [(⟨(i : Int), (7 * (i : Int))⟩ : Sample)]) (z := (.agg #[(iV 0), (iV 0)])) (bytes := 16) hst 3 rfl Try.underlying23 (by kernel_rfl) rfl rfl rfl (hst.sl 0 rfl) (by first | omega | (simp; omega) | (simp; done)) (by first | omega | (simp; omega) | (simp; done)) (fun v60 w61 hst => ?_))
   replace hst : St w0 w61 [rowT 51 sampE v58 ([(⟨(i : Int), (7 * (i : Int))⟩ : Sample)]), .blk g7 51 #[(iV (i : Int)), (iV (7 * (i : Int)))], rowT 54 toldE vl ls, rowT 51 sampE v60 (hs ++ ([(⟨(i : Int), (7 * (i : Int))⟩ : Sample)]))] := hst
   refine s_cons (op_assign v60 rfl (s_nil (then_n (cE_seq (cE_seq (cE_region rfl (s_cons (op_move (.bool (decide (((th / 2 ^ i) % 2) = 1))) rfl (s_cons (op_move (.bool (decide (((th / 2 ^ i) % 2) = 1))) rfl (s_yes 55 rfl (congrArg Value.bool b56) (op_move (.bool (decide (((tw / 2 ^ i) % 2) = 1))) rfl (s_yes 55 rfl (congrArg Value.bool b56) (op_not (b := decide (((tw / 2 ^ i) % 2) = 1)) rfl ?_))))))))))))))
   refine s_cons (op_pick_t (.bool (!(decide (((tw / 2 ^ i) % 2) = 1)))) (congrArg Value.bool b56) rfl (s_nil (then_n (cE_cond true (congrArg Value.bool (congrArg (! ·) b10)) (fun _ => ?_) (fun h => by cases h)))))
   refine cE_region rfl (s_cons (op_assign (iV 2) rfl (s_nil (then_n (cE_seq (cE_region rfl (s_cons (op_move (iV 2) rfl (s_cons (op_eql (k := .i64) (a := 2) (b := 0) rfl rfl (s_cons (op_move (.bool (decide (2 = 0))) rfl (s_lz 61 rfl (gA_t rfl) (Rlz (decide (2 = 0)) (.bool (decide (((tw / 2 ^ i) % 2) = 1))) w61) ?_ (fun hc62 => rlz_f hc62) ?_)))))))))))))
   ·intro hc62
    refine op_move (.bool (decide (((tw / 2 ^ i) % 2) = 1))) rfl ?_
    exact rlz_t hc62
   rintro _ _ ⟨rfl, rfl⟩
   obtain ⟨g63, hg64⟩ : ∃ x : Bool, x = ((decide (2 = 0)) && (decide (((tw / 2 ^ i) % 2) = 1))) := ⟨_, rfl⟩
   refine s_cons (op_pick_and rfl rfl (fun hp => hp) rfl (s_cons (op_move (.bool g63) (congrArg Value.bool hg64.symm) (s_no 64 rfl (congrArg Value.bool (hg64.trans (and_f2 b10))) (s_cons (op_pick_f (.bool false) (congrArg Value.bool (hg64.trans (and_f2 b10))) rfl (s_cons (op_move (.bool false) rfl (s_no 67 rfl rfl (s_no 67 rfl rfl (s_cons (op_pick_f (.bool false) rfl rfl (s_nil (then_n ?_))))))))))))))
   refine cE_cond false rfl (fun h => by cases h) (fun _ => ?_)
   refine cE_skip (block_n (then_n (cE_region rfl (s_cons (op_move (iV (i : Int)) q1_10 (s_cons (op_add (k := .i64) (a := (i : Int)) (b := 1) ((i : Int) + 1) rfl rfl (xi64 (by omega) (by omega)) (s_cons (op_assign (iV ((i : Int) + 1)) rfl (s_nil (then_n ?_)))))))))))
   exact ⟨_, ⟨vl, ls, v60, (hs ++ ([(⟨(i : Int), (7 * (i : Int))⟩ : Sample)])), 2, (i + 1), rfl, q1_0, q1_1, q1_2, q1_6, q1_7, rfl, rfl, (congrArg iV (show ((i : Int) + 1) = _ from by omega)), (hst.sub (.cons _ (.cons _ (.cons_cons _ (.cons_cons _ .slnil))))), (by omega), (by first | rfl | exact tl_yes hL (by assumption) | exact tl_no hL (by assumption)), (by first | rfl | exact hv_yes hH (by assumption) | exact hv_no hH (by assumption)), (by first | rfl | exact want_next hW (by (repeat' split) <;> omega))⟩, (by simp only [id]; omega)⟩
  have c65 : ¬ (((th / 2 ^ i) % 2) = 1) := of_decide_eq_false b56
  refine cE_cond false (congrArg Value.bool b56) (fun h => by cases h) (fun _ => ?_)
  refine cE_skip (then_n (cE_seq (cE_seq (cE_region rfl (s_cons (op_move (.bool (decide (((th / 2 ^ i) % 2) = 1))) rfl (s_cons (op_move (.bool (decide (((th / 2 ^ i) % 2) = 1))) rfl (s_no 55 rfl (congrArg Value.bool b56) (s_no 55 rfl (congrArg Value.bool b56) (s_cons (op_pick_f (.bool false) (congrArg Value.bool b56) rfl (s_nil (then_n (cE_cond false rfl (fun h => by cases h) (fun _ => ?_))))))))))))))))
  refine cE_skip (then_n (cE_seq (cE_region rfl (s_cons (op_move (iV wt) q1_9 (s_cons (op_eql (k := .i64) (a := wt) (b := 0) rfl rfl (s_cons (op_move (.bool (decide (wt = 0))) rfl (s_lz 61 rfl (gA_t rfl) (Rlz (decide (wt = 0)) (.bool (decide (((tw / 2 ^ i) % 2) = 1))) w9) ?_ (fun hc66 => rlz_f hc66) ?_))))))))))
  ·intro hc66
   refine op_move (.bool (decide (((tw / 2 ^ i) % 2) = 1))) rfl ?_
   exact rlz_t hc66
  rintro _ _ ⟨rfl, rfl⟩
  obtain ⟨g67, hg68⟩ : ∃ x : Bool, x = ((decide (wt = 0)) && (decide (((tw / 2 ^ i) % 2) = 1))) := ⟨_, rfl⟩
  refine s_cons (op_pick_and rfl rfl (fun hp => hp) rfl (s_cons (op_move (.bool g67) (congrArg Value.bool hg68.symm) (s_no 64 rfl (congrArg Value.bool (hg68.trans (and_f2 b10))) (s_cons (op_pick_f (.bool false) (congrArg Value.bool (hg68.trans (and_f2 b10))) rfl (s_cons (op_move (.bool false) rfl (s_no 67 rfl rfl (s_no 67 rfl rfl (s_cons (op_pick_f (.bool false) rfl rfl (s_nil (then_n ?_))))))))))))))
  refine cE_cond false rfl (fun h => by cases h) (fun _ => ?_)
  refine cE_skip (block_n (then_n (cE_region rfl (s_cons (op_move (iV (i : Int)) q1_10 (s_cons (op_add (k := .i64) (a := (i : Int)) (b := 1) ((i : Int) + 1) rfl rfl (xi64 (by omega) (by omega)) (s_cons (op_assign (iV ((i : Int) + 1)) rfl (s_nil (then_n ?_)))))))))))
  exact ⟨_, ⟨vl, ls, vh, hs, wt, (i + 1), rfl, q1_0, q1_1, q1_2, q1_6, q1_7, q1_8, q1_9, (congrArg iV (show ((i : Int) + 1) = _ from by omega)), (hst.sub (.cons _ (.cons_cons _ (.cons_cons _ .slnil)))), (by omega), (by first | rfl | exact tl_yes hL (by assumption) | exact tl_no hL (by assumption)), (by first | rfl | exact hv_yes hH (by assumption) | exact hv_no hH (by assumption)), (by first | rfl | exact want_next hW (by (repeat' split) <;> omega))⟩, (by simp only [id]; omega)⟩
 have c69 : ¬ ((i : Int) < 12) := of_decide_eq_false b5
 refine cE_cond false (congrArg Value.bool b5) (fun h => by cases h) (fun _ => ?_)
 refine cE_exit (then_x (then_x (block_hit (then_n (cE_seq (cE_seq ?_))))))
 have hi12 : i = 12 := by omega
 have hLA : ls = tlS tw sa 12 := by rw [hL, hi12]
 have hHA : hs = hvS th 12 := by rw [hH, hi12]
 have hWA : wt = wtS tw sa th 12 := by rw [hW, hi12]
 refine cE_region rfl (s_cons (op_assign (iV 0) rfl (s_nil (then_n (cE_block (cE_loop (fun (m : Nat) (ρ : Env) (w : World) => ∃ (j : Nat), m = 12 - j ∧ ρ 0 = (iV tw) ∧ ρ 1 = (iV sa) ∧ ρ 2 = (iV th) ∧ ρ 6 = (.bool false) ∧ ρ 7 = vl ∧ ρ 8 = vh ∧ ρ 10 = (iV (i : Int)) ∧ ρ 9 = (iV wt) ∧ ρ 15 = (iV (j : Int)) ∧ St w0 w [rowT 54 toldE vl ls, rowT 51 sampE vh hs] ∧ (j ≤ 12)) id _ ⟨0, rfl, q1_0, q1_1, q1_2, q1_6, q1_7, q1_8, q1_10, q1_9, (congrArg iV (show 0 = _ from by omega)), hst, (by omega)⟩ ?_))))))
 rintro m71 ρ72 w73 ⟨j, hm71, q70_0, q70_1, q70_2, q70_6, q70_7, q70_8, q70_10, q70_9, q70_15, hst, hj⟩
 refine cE_seq (cE_seq (cE_region rfl (s_cons (op_move (iV (j : Int)) q70_15 (s_cons (op_lss (k := .i64) (a := (j : Int)) (b := 12) rfl rfl (s_cons (op_move (.bool (decide ((j : Int) < 12))) rfl ?_))))))))
 rcases Bool.eq_false_or_eq_true (decide ((j : Int) < 12)) with b74 | b74
 ·have c75 : (j : Int) < 12 := of_decide_eq_true b74
  refine s_yes 73 rfl (congrArg Value.bool b74) (op_move (iV wt) q70_9 (s_yes 73 rfl (congrArg Value.bool b74) (op_eql (k := .i64) (a := wt) (b := 3) rfl rfl (s_cons (op_pick_t (.bool (decide (wt = 3))) (congrArg Value.bool b74) rfl (s_nil (then_n ?_)))))))
  rcases Bool.eq_false_or_eq_true (decide (wt = 3)) with b76 | b76
  ·have c77 : wt = 3 := of_decide_eq_true b76
   refine cE_cond true (congrArg Value.bool b76) (fun _ => ?_) (fun h => by cases h)
   refine cE_skip (then_n (cE_seq (cE_block (cE_seq (cE_region rfl (s_cons (op_move (iV th) q70_2 (s_cons (op_move (iV (j : Int)) q70_15 (s_cons (op_conv (k := .i64) (a := (j : Int)) (j : Int) Try.underlying47 (by rw [Try.underlying3]; rfl) rfl (xu64 (by omega) (by omega)) (s_cons (op_shr (k := .i64) (k' := .u64) (a := th) (b := (j : Int)) (th / 2 ^ j) rfl rfl (by omega) (by simp [IntKind.bits]; try omega) (by rw [Int.toNat_natCast]) ?_)))))))))))))
   refine s_cons (op_and (k := .i64) (a := (th / 2 ^ j)) (b := 1) ((th / 2 ^ j) % 2) rfl rfl (and1 _) (s_cons (op_eql (k := .i64) (a := ((th / 2 ^ j) % 2)) (b := 1) rfl rfl (s_cons (op_move (.bool (decide (((th / 2 ^ j) % 2) = 1))) rfl ?_)))))
   rcases Bool.eq_false_or_eq_true (decide (((th / 2 ^ j) % 2) = 1)) with b78 | b78
   ·have c79 : ((th / 2 ^ j) % 2) = 1 := of_decide_eq_true b78
    refine s_yes 85 rfl (congrArg Value.bool b78) (op_move (iV tw) q70_0 (s_yes 85 rfl (congrArg Value.bool b78) (op_move (iV (j : Int)) q70_15 (s_yes 85 rfl (congrArg Value.bool b78) (op_conv (k := .i64) (a := (j : Int)) (j : Int) Try.underlying47 (by rw [Try.underlying3]; rfl) rfl (xu64 (by omega) (by omega)) (s_yes 85 rfl (congrArg Value.bool b78) (op_shr (k := .i64) (k' := .u64) (a := tw) (b := (j : Int)) (tw / 2 ^ j) rfl rfl (by omega) (by simp [IntKind.bits]; try omega) (by rw [Int.toNat_natCast]) ?_)))))))
    refine s_yes 85 rfl (congrArg Value.bool b78) (op_and (k := .i64) (a := (tw / 2 ^ j)) (b := 1) ((tw / 2 ^ j) % 2) rfl rfl (and1 _) (s_yes 85 rfl (congrArg Value.bool b78) (op_eql (k := .i64) (a := ((tw / 2 ^ j) % 2)) (b := 0) rfl rfl (s_cons (op_pick_t (.bool (decide (((tw / 2 ^ j) % 2) = 0))) (congrArg Value.bool b78) rfl (s_nil (then_n (cE_cond false (congrArg Value.bool (show (decide (((tw / 2 ^ j) % 2) = 0)) = false from (decide_eq_false (want3 (t := tw) (s := sa) (h := th) (n := 12) (by omega) (by omega) (by assumption))))) (fun h => by cases h) (fun _ => ?_)))))))))
    refine cE_skip (block_n (then_n (cE_region rfl (s_cons (op_move (iV (j : Int)) q70_15 (s_cons (op_add (k := .i64) (a := (j : Int)) (b := 1) ((j : Int) + 1) rfl rfl (xi64 (by omega) (by omega)) (s_cons (op_assign (iV ((j : Int) + 1)) rfl (s_nil (then_n ?_)))))))))))
    exact ⟨_, ⟨(j + 1), rfl, q70_0, q70_1, q70_2, q70_6, q70_7, q70_8, q70_10, q70_9, (congrArg iV (show ((j : Int) + 1) = _ from by omega)), hst, (by omega)⟩, (by simp only [id]; omega)⟩
   have c80 : ¬ (((th / 2 ^ j) % 2) = 1) := of_decide_eq_false b78
   refine s_no 85 rfl (congrArg Value.bool b78) (s_no 85 rfl (congrArg Value.bool b78) (s_no 85 rfl (congrArg Value.bool b78) (s_no 85 rfl (congrArg Value.bool b78) (s_no 85 rfl (congrArg Value.bool b78) (s_no 85 rfl (congrArg Value.bool b78) (s_cons (op_pick_f (.bool false) (congrArg Value.bool b78) rfl (s_nil (then_n (cE_cond false rfl (fun h => by cases h) (fun _ => ?_)))))))))))
   refine cE_skip (block_n (then_n (cE_region rfl (s_cons (op_move (iV (j : Int)) q70_15 (s_cons (op_add (k := .i64) (a := (j : Int)) (b := 1) ((j : Int) + 1) rfl rfl (xi64 (by omega) (by omega)) (s_cons (op_assign (iV ((j : Int) + 1)) rfl (s_nil (then_n ?_)))))))))))
   exact ⟨_, ⟨(j + 1), rfl, q70_0, q70_1, q70_2, q70_6, q70_7, q70_8, q70_10, q70_9, (congrArg iV (show ((j : Int) + 1) = _ from by omega)), hst, (by omega)⟩, (by simp only [id]; omega)⟩
  have c81 : ¬ (wt = 3) := of_decide_eq_false b76
  refine cE_cond false (congrArg Value.bool b76) (fun h => by cases h) (fun _ => ?_)
  refine cE_exit (then_x (then_x (block_hit (then_n (cE_seq (cE_region rfl (s_cons (op_call Try.call8 evs_nil (c_told23 (w0 := w73)) ?_))))))))
  rintro _ w82 ⟨rfl, hcall⟩
  refine ⟨_, rfl, ?_⟩
  have hst : St w0 w82 [rowT 54 toldE vl ls, rowT 51 sampE vh hs] := hst.call hcall
  refine s_cons (op_move (.bool true) rfl (s_yes 94 rfl rfl (op_move vl q70_7 (s_yes 94 rfl rfl (op_move vh q70_8 (s_yes 94 rfl rfl (op_call Try.call11 (evs_cons (v := vl) rfl (evs_cons (v := vh) rfl evs_nil)) (c_Content (w0 := w82) (v_l := vl) (l := ls) (h_l := (hst.sl 0 rfl)) (v_h := vh) (h := hs) (h_h := (hst.sl 1 rfl)) (hho := (by rw [hHA]; exact hv_ok (by decide)))) ?_)))))))
  rintro _ w83 ⟨rfl, hcall⟩
  refine ⟨_, rfl, ?_⟩
  have hst : St w0 w83 [rowT 54 toldE vl ls, rowT 51 sampE vh hs] := hst.call hcall
  refine s_yes 94 rfl rfl (op_move (iV wt) q70_9 (s_yes 94 rfl rfl (op_eql (k := .i64) (a := (contentC ls hs)) (b := wt) rfl rfl (s_cons (op_pick_t (.bool (decide ((contentC ls hs) = wt))) rfl rfl (s_cons (op_move (.bool (decide ((contentC ls hs) = wt))) rfl (s_yes 101 rfl (congrArg Value.bool (show (decide ((contentC ls hs) = wt)) = true from (decide_eq_true (by rw [hLA, hHA, content_want (by decide), hWA])))) (op_move vl q70_7 ?_)))))))))
  refine s_yes 101 rfl (congrArg Value.bool (show (decide ((contentC ls hs) = wt)) = true from (decide_eq_true (by rw [hLA, hHA, content_want (by decide), hWA])))) (op_call Try.call9 (evs_cons (v := vl) rfl evs_nil) (c_Told (w0 := w83) (v_l := vl) (l := ls) (h_l := (hst.sl 0 rfl))) ?_)
  rintro _ w84 ⟨rfl, hcall⟩
  refine ⟨_, rfl, ?_⟩
  have hst : St w0 w84 [rowT 54 toldE vl ls, rowT 51 sampE vh hs] := hst.call hcall
  refine s_cons (op_pick_t (.bool (toldJ ls)) (congrArg Value.bool (show (decide ((contentC ls hs) = wt)) = true from (decide_eq_true (by rw [hLA, hHA, content_want (by decide), hWA])))) rfl (s_cons (op_assign (.bool (toldJ ls)) rfl (s_nil (then_n (cE_ret (post_r _ (res1 (v := (.bool true)) (congrArg Value.bool (show (toldJ ls) = true from (by rw [hLA]; exact told_tl (by decide))))) ?_)))))))
  exact ⟨rfl, hst.bare⟩
 have c85 : ¬ ((j : Int) < 12) := of_decide_eq_false b74
 refine s_no 73 rfl (congrArg Value.bool b74) (s_no 73 rfl (congrArg Value.bool b74) (s_cons (op_pick_f (.bool false) (congrArg Value.bool b74) rfl (s_nil (then_n (cE_cond false rfl (fun h => by cases h) (fun _ => ?_)))))))
 refine cE_exit (then_x (then_x (block_hit (then_n (cE_seq (cE_region rfl (s_cons (op_call Try.call8 evs_nil (c_told23 (w0 := w73)) ?_))))))))
 rintro _ w86 ⟨rfl, hcall⟩
 refine ⟨_, rfl, ?_⟩
 have hst : St w0 w86 [rowT 54 toldE vl ls, rowT 51 sampE vh hs] := hst.call hcall
 refine s_cons (op_move (.bool true) rfl (s_yes 94 rfl rfl (op_move vl q70_7 (s_yes 94 rfl rfl (op_move vh q70_8 (s_yes 94 rfl rfl (op_call Try.call11 (evs_cons (v := vl) rfl (evs_cons (v := vh) rfl evs_nil)) (c_Content (w0 := w86) (v_l := vl) (l := ls) (h_l := (hst.sl 0 rfl)) (v_h := vh) (h := hs) (h_h := (hst.sl 1 rfl)) (hho := (by rw [hHA]; exact hv_ok (by decide)))) ?_)))))))
 rintro _ w87 ⟨rfl, hcall⟩
 refine ⟨_, rfl, ?_⟩
 have hst : St w0 w87 [rowT 54 toldE vl ls, rowT 51 sampE vh hs] := hst.call hcall
 refine s_yes 94 rfl rfl (op_move (iV wt) q70_9 (s_yes 94 rfl rfl (op_eql (k := .i64) (a := (contentC ls hs)) (b := wt) rfl rfl (s_cons (op_pick_t (.bool (decide ((contentC ls hs) = wt))) rfl rfl (s_cons (op_move (.bool (decide ((contentC ls hs) = wt))) rfl (s_yes 101 rfl (congrArg Value.bool (show (decide ((contentC ls hs) = wt)) = true from (decide_eq_true (by rw [hLA, hHA, content_want (by decide), hWA])))) (op_move vl q70_7 ?_)))))))))
 refine s_yes 101 rfl (congrArg Value.bool (show (decide ((contentC ls hs) = wt)) = true from (decide_eq_true (by rw [hLA, hHA, content_want (by decide), hWA])))) (op_call Try.call9 (evs_cons (v := vl) rfl evs_nil) (c_Told (w0 := w87) (v_l := vl) (l := ls) (h_l := (hst.sl 0 rfl))) ?_)
 rintro _ w88 ⟨rfl, hcall⟩
 refine ⟨_, rfl, ?_⟩
 have hst : St w0 w88 [rowT 54 toldE vl ls, rowT 51 sampE vh hs] := hst.call hcall
 refine s_cons (op_pick_t (.bool (toldJ ls)) (congrArg Value.bool (show (decide ((contentC ls hs) = wt)) = true from (decide_eq_true (by rw [hLA, hHA, content_want (by decide), hWA])))) rfl (s_cons (op_assign (.bool (toldJ ls)) rfl (s_nil (then_n (cE_ret (post_r _ (res1 (v := (.bool true)) (congrArg Value.bool (show (toldJ ls) = true from (by rw [hLA]; exact told_tl (by decide))))) ?_)))))))
 exact ⟨rfl, hst.bare⟩

end Go.Proofs.Ytldfnkhccaglmaa
