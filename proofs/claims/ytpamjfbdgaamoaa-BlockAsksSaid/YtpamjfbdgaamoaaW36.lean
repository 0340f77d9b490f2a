/- twinkeepref5.GetAggs -/
import Derived.Test.YtpamjfbdgaamoaaW34
import Derived.Test.YtpamjfbdgaamoaaW35
namespace Go.Proofs.Ytpamjfbdgaamoaa
open Go.RowKit

set_option maxHeartbeats 4000000 in
theorem c_rGetAggs (w0 : World) (b : List UInt8) (k : Int) (hl : b.length ≤ 1000000000) (k0 : -9223372036854775808 ≤ k) (k1 : k ≤ 9223372036854775807) :
    Calls Try.prog 16 #[(.string (str b)), (.int .i64 k)] w0 fun e w' => ∃ (r : Value), ∃ (out : List Agg), ∃ (c : Int), e = .returned (.tuple #[r, (.int .i64 c)]) ∧ St w0 w' [rowT 71 aggE r out] ∧ DecA k b out c := by
  refine calls_E (n := 42) (ts := [4, 5]) Try.func16 rfl rfl rfl (by simp) ?_
  have hst := St.start w0
  refine cE_seq ?_
  refine cE_region rfl ?_
  refine s_cons (op_assign (.slice none 0 0) rfl ?_)
  refine s_cons (op_assign (.int .i64 0) rfl ?_)
  refine s_nil ?_
  refine then_n ?_
  refine cE_seq ?_
  refine cE_seq ?_
  refine cE_region rfl ?_
  refine s_cons (op_move (.int .i64 k) rfl ?_)
  refine s_cons (op_lss (k := .i64) (a := k) (b := 1) rfl rfl ?_)
  refine s_cons (op_move (.bool (decide (k < 1))) rfl ?_)
  rcases Bool.eq_false_or_eq_true (decide (k < 1)) with b1 | b1
  · have c2 : k < 1 := of_decide_eq_true b1
    refine s_no 12 rfl (congrArg Value.bool b1) ?_
    refine s_no 12 rfl (congrArg Value.bool b1) ?_
    refine s_cons (op_pick_t (.bool true) (congrArg Value.bool b1) rfl ?_)
    refine s_nil ?_
    refine then_n ?_
    refine cE_cond true rfl (fun _ => ?_) (fun h => by cases h)
    refine cE_seq ?_
    refine cE_region rfl ?_
    refine s_cons (op_assign (.slice none 0 0) rfl ?_)
    refine s_cons (op_assign (.int .i64 1) rfl ?_)
    refine s_nil ?_
    refine then_n ?_
    refine cE_ret ?_
    refine then_r ?_
    refine post_r _ (res2 (v := (.slice none 0 0)) rfl (x := (.int .i64 1)) rfl) ?_
    have hx : DecA k b [] 1 := CA_out (coarse_no (by omega))
    replace hst : St w0 w0 [rowT 71 aggE (.slice none 0 0) ([])] := hst.nilRow 71 aggE
    exact ⟨(.slice none 0 0), [], 1, rfl, hst.sub (.cons_cons _ .slnil), hx⟩
  have c3 : ¬ (k < 1) := of_decide_eq_false b1
  refine s_yes 12 rfl (congrArg Value.bool b1) (op_move (.int .i64 k) rfl ?_)
  refine s_yes 12 rfl (congrArg Value.bool b1) (op_gtr (k := .i64) (a := k) (b := 3) rfl rfl ?_)
  refine s_cons (op_pick_f (.bool (decide (3 < k))) (congrArg Value.bool b1) rfl ?_)
  refine s_nil ?_
  refine then_n ?_
  rcases Bool.eq_false_or_eq_true (decide (3 < k)) with b4 | b4
  · have c5 : 3 < k := of_decide_eq_true b4
    refine cE_cond true (congrArg Value.bool b4) (fun _ => ?_) (fun h => by cases h)
    refine cE_seq ?_
    refine cE_region rfl ?_
    refine s_cons (op_assign (.slice none 0 0) rfl ?_)
    refine s_cons (op_assign (.int .i64 1) rfl ?_)
    refine s_nil ?_
    refine then_n ?_
    refine cE_ret ?_
    refine then_r ?_
    refine post_r _ (res2 (v := (.slice none 0 0)) rfl (x := (.int .i64 1)) rfl) ?_
    have hx : DecA k b [] 1 := CA_out (coarse_no (by omega))
    replace hst : St w0 w0 [rowT 71 aggE (.slice none 0 0) ([])] := hst.nilRow 71 aggE
    exact ⟨(.slice none 0 0), [], 1, rfl, hst.sub (.cons_cons _ .slnil), hx⟩
  have c6 : ¬ (3 < k) := of_decide_eq_false b4
  refine cE_cond false (congrArg Value.bool b4) (fun h => by cases h) (fun _ => ?_)
  refine cE_skip ?_
  refine then_n ?_
  refine cE_seq ?_
  have hco := coarse_yes (k := k) (by omega) (by omega)
  refine cE_region rfl ?_
  refine s_cons (op_move (.string (str b)) rfl ?_)
  refine s_cons (op_build (r := (.agg #[(.string (str b)), (.int .i64 0), (.bool false)])) (evp_cons (v := (.string (str b))) rfl evp_nil) (by simp [Instr.build, Instr.fill, Value.cells, Try.runUnderlying66, Try.zeroValue66]) ?_)
  refine s_cons (op_box (v := (.agg #[(.string (str b)), (.int .i64 0), (.bool false)])) (cs := #[(.string (str b)), (.int .i64 0), (.bool false)]) hst rfl rfl (fun g7 w8 hst _ => ?_))
  replace hst : St w0 w8 [.blk g7 66 #[(.string (str b)), (.int .i64 0), (.bool false)]] := hst
  refine s_cons (op_assign (.pointer (some ⟨g7, 0, none⟩)) rfl ?_)
  refine s_nil ?_
  refine then_n ?_
  refine cE_seq ?_
  refine cE_region rfl ?_
  refine s_cons (op_move (.pointer (some ⟨g7, 0, none⟩)) rfl ?_)
  refine s_cons (op_move (.int .i64 k) rfl ?_)
  refine s_cons (op_call Try.call37 (evs_cons (v := (.pointer (some ⟨g7, 0, none⟩))) rfl (evs_cons (v := (.int .i64 k)) rfl evs_nil)) (c_cAggs (g_c := g7) (b := b) (at_ := 0) (bad := false) (k := k) (hl := hl) (ha := rfl) (hb := rfl) (k0 := (by omega)) (k1 := (by omega)) (hst := hst)) ?_)
  rintro _ w14 ⟨r9, r10, r11, r12, rfl, hcall, x13⟩
  refine ⟨_, rfl, ?_⟩
  have hst : St w0 w14 [rowT 71 aggE r9 r10, .blk g7 66 #[(.string (str b)), (.int .i64 r11), (.bool r12)]] := hcall
  refine s_cons (op_assign r9 rfl ?_)
  refine s_nil ?_
  refine then_n ?_
  refine cE_seq ?_
  refine cE_seq ?_
  refine cE_region rfl ?_
  refine s_cons (op_move r9 rfl ?_)
  refine s_cons (op_move (.int .i64 k) rfl ?_)
  refine s_cons (op_call Try.call14 (evs_cons (v := r9) rfl (evs_cons (v := (.int .i64 k)) rfl evs_nil)) (c_rPutAggs (w0 := w14) (v_l := r9) (l := r10) (h_l := (hst.sl 0 rfl)) (k := k) (hl := (RD_ok (by assumption))) (k0 := (by omega)) (k1 := (by omega))) ?_)
  rintro _ w15 ⟨rfl, hcall⟩
  refine ⟨_, rfl, ?_⟩
  have hst : St w0 w15 [rowT 71 aggE r9 r10, .blk g7 66 #[(.string (str b)), (.int .i64 r11), (.bool r12)]] := hst.call hcall
  refine s_cons (op_move (.tuple #[(.string (str ((encA k r10).1))), (.int .i64 ((encA k r10).2))]) rfl ?_)
  refine s_cons (op_extract (.string (str ((encA k r10).1))) rfl rfl ?_)
  refine s_cons (op_extract (.int .i64 ((encA k r10).2)) rfl rfl ?_)
  refine s_cons (op_assign (.string (str ((encA k r10).1))) rfl ?_)
  refine s_cons (op_assign (.int .i64 ((encA k r10).2)) rfl ?_)
  refine s_nil ?_
  refine then_n ?_
  refine cE_seq ?_
  refine cE_region rfl ?_
  refine s_cons (op_move (.pointer (some ⟨g7, 0, none⟩)) rfl ?_)
  refine s_cons (op_nilCheck rfl ?_)
  refine s_cons (op_fieldAddr (s := 0) Try.underlying66 rfl rfl Try.sizeOf4 rfl ?_)
  refine s_cons (op_load1 (u := (.bool r12)) Try.isAgg4 rfl ((hst.cell 1 rfl).drop 2) ?_)
  refine s_cons (op_move (.bool r12) rfl ?_)
  rcases Bool.eq_false_or_eq_true r12 with b16 | b16
  · refine s_no 32 rfl (congrArg Value.bool b16) ?_
    refine s_no 32 rfl (congrArg Value.bool b16) ?_
    refine s_cons (op_pick_t (.bool true) (congrArg Value.bool b16) rfl ?_)
    refine s_cons (op_move (.bool true) rfl ?_)
    refine s_no 36 rfl rfl ?_
    refine s_no 36 rfl rfl ?_
    refine s_no 36 rfl rfl ?_
    refine s_cons (op_pick_t (.bool true) rfl rfl ?_)
    refine s_nil ?_
    refine then_n ?_
    refine cE_cond true rfl (fun _ => ?_) (fun h => by cases h)
    refine cE_seq ?_
    refine cE_region rfl ?_
    refine s_cons (op_assign (.slice none 0 0) rfl ?_)
    refine s_cons (op_assign (.int .i64 2) rfl ?_)
    refine s_nil ?_
    refine then_n ?_
    refine cE_ret ?_
    refine then_r ?_
    refine post_r _ (res2 (v := (.slice none 0 0)) rfl (x := (.int .i64 2)) rfl) ?_
    have hx : DecA k b [] 2 := by first | exact RD_no (by assumption) hco (Or.inl (by assumption)) | exact RD_no (by assumption) hco (Or.inr (Or.inl (by assumption))) | exact RD_no (by assumption) hco (Or.inr (Or.inr (by assumption)))
    replace hst : St w0 w15 [rowT 71 aggE (.slice none 0 0) ([]), rowT 71 aggE r9 r10, .blk g7 66 #[(.string (str b)), (.int .i64 r11), (.bool r12)]] := hst.nilRow 71 aggE
    exact ⟨(.slice none 0 0), [], 2, rfl, hst.sub (.cons_cons _ (.cons _ (.cons _ .slnil))), hx⟩
  refine s_yes 32 rfl (congrArg Value.bool b16) (op_move (.int .i64 ((encA k r10).2)) rfl ?_)
  refine s_yes 32 rfl (congrArg Value.bool b16) (op_neq (k := .i64) (a := (encA k r10).2) (b := 0) rfl rfl ?_)
  refine s_cons (op_pick_f (.bool (!decide (((encA k r10).2) = 0))) (congrArg Value.bool b16) rfl ?_)
  refine s_cons (op_move (.bool (!decide (((encA k r10).2) = 0))) rfl ?_)
  rcases Bool.eq_false_or_eq_true (decide (((encA k r10).2) = 0)) with b17 | b17
  · have c18 : ((encA k r10).2) = 0 := of_decide_eq_true b17
    refine s_yes 36 rfl (congrArg Value.bool (congrArg (! ·) b17)) (op_move (.string (str ((encA k r10).1))) rfl ?_)
    refine s_yes 36 rfl (congrArg Value.bool (congrArg (! ·) b17)) (op_move (.string (str b)) rfl ?_)
    refine s_yes 36 rfl (congrArg Value.bool (congrArg (! ·) b17)) (op_neqStr (a := (encA k r10).1) (b := b) rfl rfl ?_)
    refine s_cons (op_pick_f (.bool (!decide (((encA k r10).1) = b))) (congrArg Value.bool (congrArg (! ·) b17)) rfl ?_)
    refine s_nil ?_
    refine then_n ?_
    rcases Bool.eq_false_or_eq_true (decide (((encA k r10).1) = b)) with b19 | b19
    · have c20 : ((encA k r10).1) = b := of_decide_eq_true b19
      refine cE_cond false (congrArg Value.bool (congrArg (! ·) b19)) (fun h => by cases h) (fun _ => ?_)
      refine cE_skip ?_
      refine then_n ?_
      refine cE_seq ?_
      refine cE_region rfl ?_
      refine s_cons (op_move r9 rfl ?_)
      refine s_cons (op_assign r9 rfl ?_)
      refine s_cons (op_assign (.int .i64 0) rfl ?_)
      refine s_nil ?_
      refine then_n ?_
      refine cE_ret ?_
      refine post_r _ (res2 (v := r9) rfl (x := (.int .i64 0)) rfl) ?_
      have hx : DecA k b r10 0 := RD_yes (by assumption) hco (by assumption) (by assumption)
      exact ⟨r9, r10, 0, rfl, hst.sub (.cons_cons _ (.cons _ .slnil)), hx⟩
    have c21 : ¬ (((encA k r10).1) = b) := of_decide_eq_false b19
    refine cE_cond true (congrArg Value.bool (congrArg (! ·) b19)) (fun _ => ?_) (fun h => by cases h)
    refine cE_seq ?_
    refine cE_region rfl ?_
    refine s_cons (op_assign (.slice none 0 0) rfl ?_)
    refine s_cons (op_assign (.int .i64 2) rfl ?_)
    refine s_nil ?_
    refine then_n ?_
    refine cE_ret ?_
    refine then_r ?_
    refine post_r _ (res2 (v := (.slice none 0 0)) rfl (x := (.int .i64 2)) rfl) ?_
    have hx : DecA k b [] 2 := by first | exact RD_no (by assumption) hco (Or.inl (by assumption)) | exact RD_no (by assumption) hco (Or.inr (Or.inl (by assumption))) | exact RD_no (by assumption) hco (Or.inr (Or.inr (by assumption)))
    replace hst : St w0 w15 [rowT 71 aggE (.slice none 0 0) ([]), rowT 71 aggE r9 r10, .blk g7 66 #[(.string (str b)), (.int .i64 r11), (.bool r12)]] := hst.nilRow 71 aggE
    exact ⟨(.slice none 0 0), [], 2, rfl, hst.sub (.cons_cons _ (.cons _ (.cons _ .slnil))), hx⟩
  have c22 : ¬ (((encA k r10).2) = 0) := of_decide_eq_false b17
  refine s_no 36 rfl (congrArg Value.bool (congrArg (! ·) b17)) ?_
  refine s_no 36 rfl (congrArg Value.bool (congrArg (! ·) b17)) ?_
  refine s_no 36 rfl (congrArg Value.bool (congrArg (! ·) b17)) ?_
  refine s_cons (op_pick_t (.bool true) (congrArg Value.bool (congrArg (! ·) b17)) rfl ?_)
  refine s_nil ?_
  refine then_n ?_
  refine cE_cond true rfl (fun _ => ?_) (fun h => by cases h)
  refine cE_seq ?_
  refine cE_region rfl ?_
  refine s_cons (op_assign (.slice none 0 0) rfl ?_)
  refine s_cons (op_assign (.int .i64 2) rfl ?_)
  refine s_nil ?_
  refine then_n ?_
  refine cE_ret ?_
  refine then_r ?_
  refine post_r _ (res2 (v := (.slice none 0 0)) rfl (x := (.int .i64 2)) rfl) ?_
  have hx : DecA k b [] 2 := by first | exact RD_no (by assumption) hco (Or.inl (by assumption)) | exact RD_no (by assumption) hco (Or.inr (Or.inl (by assumption))) | exact RD_no (by assumption) hco (Or.inr (Or.inr (by assumption)))
  replace hst : St w0 w15 [rowT 71 aggE (.slice none 0 0) ([]), rowT 71 aggE r9 r10, .blk g7 66 #[(.string (str b)), (.int .i64 r11), (.bool r12)]] := hst.nilRow 71 aggE
  exact ⟨(.slice none 0 0), [], 2, rfl, hst.sub (.cons_cons _ (.cons _ (.cons _ .slnil))), hx⟩

end Go.Proofs.Ytpamjfbdgaamoaa
