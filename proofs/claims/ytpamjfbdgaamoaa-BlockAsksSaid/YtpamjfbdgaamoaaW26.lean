/- block.GetAggs -/
import Derived.Test.YtpamjfbdgaamoaaW25
import Derived.Test.YtpamjfbdgaamoaaW24
import Derived.Test.YtpamjfbdgaamoaaW20
import Derived.Test.YtpamjfbdgaamoaaW3
namespace Go.Proofs.Ytpamjfbdgaamoaa
open Go.RowKit

section
attribute [local irreducible] get rbad zag cntV cntBad widthA
set_option maxHeartbeats 8000000 in
theorem c_kGetAggs (w0 : World) (v_b : Value) (b : List UInt8) (h_b : Sl w0 u8E v_b b) (k : Int) (hl : b.length ≤ 1000000000) (k0 : -9223372036854775808 ≤ k) (k1 : k ≤ 9223372036854775807) :
    Calls Try.prog 15 #[v_b, (.int .i64 k)] w0 fun e w' => ∃ (r : Value), ∃ (out : List Agg), ∃ (c : Int), e = .returned (.tuple #[r, (.int .i64 c)]) ∧ St w0 w' [rowT 71 aggE r out] ∧ DecA k b out c := by
  refine calls_E (n := 116) (ts := [4, 5]) Try.func15 rfl rfl rfl (by simp) ?_
  have hst := St.start w0
  refine cE_seq ?_
  refine cE_region rfl ?_
  refine s_cons (op_assign (.slice none 0 0) rfl ?_)
  refine s_cons (op_assign (.int .i64 0) rfl ?_)
  refine s_nil ?_
  refine then_n ?_
  refine cE_scope ?_
  refine cE_seq ?_
  refine cE_seq ?_
  refine cE_region rfl ?_
  refine s_cons (op_move (.int .i64 k) rfl ?_)
  refine s_cons (op_lss (k := .i64) (a := k) (b := 1) rfl rfl ?_)
  refine s_cons (op_move (.bool (decide (k < 1))) rfl ?_)
  rcases Bool.eq_false_or_eq_true (decide (k < 1)) with b1 | b1
  · have c2 : k < 1 := of_decide_eq_true b1
    refine s_no 14 rfl (congrArg Value.bool b1) ?_
    refine s_no 14 rfl (congrArg Value.bool b1) ?_
    refine s_cons (op_pick_t (.bool true) (congrArg Value.bool b1) rfl ?_)
    refine s_nil ?_
    refine then_n ?_
    refine cE_cond true rfl (fun _ => ?_) (fun h => by cases h)
    refine cE_seq ?_
    refine cE_region rfl ?_
    refine s_cons (op_assign (.slice none 0 0) rfl ?_)
    refine s_cons (op_assign (.int .i64 1) rfl ?_)
    refine s_nil ?_
    refine then_n ?_
    refine cE_ret ?_
    refine then_r (scope_r ?_)
    refine post_r _ (res2 (v := (.slice none 0 0)) rfl (x := (.int .i64 1)) rfl) ?_
    have hd : DecA k b [] 1 := CA_out (coarse_no (by omega))
    replace hst : St w0 w0 [rowT 71 aggE (.slice none 0 0) ([])] := hst.nilRow 71 aggE
    exact ⟨(.slice none 0 0), [], 1, rfl, hst.sub (.cons_cons _ .slnil), hd⟩
  have c3 : ¬ (k < 1) := of_decide_eq_false b1
  refine s_yes 14 rfl (congrArg Value.bool b1) (op_move (.int .i64 k) rfl ?_)
  refine s_yes 14 rfl (congrArg Value.bool b1) (op_geq (k := .i64) (a := k) (b := 4) rfl rfl ?_)
  refine s_cons (op_pick_f (.bool (decide (4 ≤ k))) (congrArg Value.bool b1) rfl ?_)
  refine s_nil ?_
  refine then_n ?_
  rcases Bool.eq_false_or_eq_true (decide (4 ≤ k)) with b4 | b4
  · have c5 : 4 ≤ k := of_decide_eq_true b4
    refine cE_cond true (congrArg Value.bool b4) (fun _ => ?_) (fun h => by cases h)
    refine cE_seq ?_
    refine cE_region rfl ?_
    refine s_cons (op_assign (.slice none 0 0) rfl ?_)
    refine s_cons (op_assign (.int .i64 1) rfl ?_)
    refine s_nil ?_
    refine then_n ?_
    refine cE_ret ?_
    refine then_r (scope_r ?_)
    refine post_r _ (res2 (v := (.slice none 0 0)) rfl (x := (.int .i64 1)) rfl) ?_
    have hd : DecA k b [] 1 := CA_out (coarse_no (by omega))
    replace hst : St w0 w0 [rowT 71 aggE (.slice none 0 0) ([])] := hst.nilRow 71 aggE
    exact ⟨(.slice none 0 0), [], 1, rfl, hst.sub (.cons_cons _ .slnil), hd⟩
  have c6 : ¬ (4 ≤ k) := of_decide_eq_false b4
  refine cE_cond false (congrArg Value.bool b4) (fun h => by cases h) (fun _ => ?_)
  refine cE_skip ?_
  refine then_n ?_
  refine cE_seq ?_
  have hco := coarse_yes (k := k) (by omega) (by omega)
  refine cE_region rfl ?_
  refine s_cons (op_move v_b rfl ?_)
  refine s_cons (op_build (r := (.agg #[v_b, (.int .i64 0), (.bool false)])) (evp_cons (v := v_b) rfl evp_nil) (by simp [Instr.build, Instr.fill, cells_int, cells_bool, cells_str, cells_agg, cells_nil, sl_cells (show Sl _ u8E v_b b from h_b), Try.runUnderlying59, Try.zeroValue59]) ?_)
  refine s_cons (op_box (v := (.agg #[v_b, (.int .i64 0), (.bool false)])) (cs := #[v_b, (.int .i64 0), (.bool false)]) hst rfl rfl (fun g7 w8 hst _ => ?_))
  replace hst : St w0 w8 [.blk g7 59 #[v_b, (.int .i64 0), (.bool false)]] := hst
  refine s_cons (op_assign (.pointer (some ⟨g7, 0, none⟩)) rfl ?_)
  refine s_nil ?_
  refine then_n ?_
  refine cE_seq ?_
  refine cE_region rfl ?_
  refine s_cons (op_assign (.slice none 0 0) rfl ?_)
  refine s_nil ?_
  refine then_n ?_
  refine cE_seq ?_
  refine cE_region rfl ?_
  refine s_cons (op_assign (.int .i64 (-1)) rfl ?_)
  refine s_nil ?_
  refine then_n ?_
  refine cE_seq ?_
  refine cE_label ?_
  refine then_n ?_
  refine cE_seq ?_
  refine cE_seq ?_
  refine cE_region rfl ?_
  refine s_cons (op_move (.pointer (some ⟨g7, 0, none⟩)) rfl ?_)
  refine s_cons (op_call Try.call27 (evs_cons (v := (.pointer (some ⟨g7, 0, none⟩))) rfl (evs_cons (v := (.int .i64 64)) rfl evs_nil)) (c_kCount (g_r := g7) (v_b := v_b) (b := b) (h_b := h_b) (at_ := 0) (bad := false) (most := 64) (hl := hl) (m0 := (by omega)) (m1 := (by omega)) (hst := hst)) ?_)
  rintro _ w9 ⟨rfl, hcall⟩
  refine ⟨_, rfl, ?_⟩
  have hst : St w0 w9 [.blk g7 59 #[v_b, (.int .i64 ((get b 0).2.1)), (.bool (cntBad false b 0 64))]] := hcall
  refine s_cons (op_move (.int .i64 0) rfl ?_)
  refine s_nil ?_
  refine then_n ?_
  refine cE_block ?_
  replace hst : St w0 w9 [rowT 71 aggE (.slice none 0 0) ([]), .blk g7 59 #[v_b, (.int .i64 ((get b 0).2.1)), (.bool (cntBad false b 0 64))]] := hst.nilRow 71 aggE
  refine cE_loop (fun (m : Nat) (ρ : Env) (w : World) => ∃ (vo : Value) (out : List Agg) (i : Nat) (p : Int) (bad : Bool) (at_ : Int), m = 65 - i ∧ ρ 0 = v_b ∧ ρ 1 = (.int .i64 k) ∧ ρ 4 = (.slice none 0 0) ∧ ρ 5 = (.int .i64 0) ∧ ρ 6 = (.pointer (some ⟨g7, 0, none⟩)) ∧ ρ 22 = (.int .i64 (cntV b 0 64)) ∧ ρ 7 = vo ∧ ρ 8 = (.int .i64 at_) ∧ ρ 23 = (.int .i64 (i : Int)) ∧ St w0 w [rowT 71 aggE vo out, .blk g7 59 #[v_b, (.int .i64 p), (.bool bad)]] ∧ (CA b k (cntV b 0 64) out i p bad at_) ∧ ((i : Int) ≤ cntV b 0 64)) id _ ⟨(.slice none 0 0), [], 0, (get b 0).2.1, (cntBad false b 0 64), (-1), rfl, rfl, rfl, rfl, rfl, rfl, rfl, rfl, rfl, (congrArg (Value.int .i64) (show 0 = _ from by omega)), hst, (by first | exact CA_start | exact CA_oneE hCA (by omega) (by assumption) (by assumption) (by assumption) (by assumption) (by assumption) (by assumption) (by assumption) (by assumption) (by assumption) hFe (by assumption) | exact CA_manyE hCA (by omega) (by assumption) (by assumption) (by assumption) (by assumption) (by assumption) (by assumption) (by assumption) (by assumption) (by assumption) (by first | assumption | rfl) (by first | assumption | rfl) (by first | assumption | rfl) (by first | assumption | rfl) (by first | assumption | rfl) (by first | assumption | rfl) (by first | assumption | rfl) (by first | assumption | rfl) (by first | assumption | rfl) (by first | assumption | rfl) (by first | assumption | rfl) (by first | assumption | rfl) hFe (by assumption)), (by first | exact (cntV_r (by omega)).1 | omega)⟩ ?_
  rintro m11 ρ12 w13 ⟨vo, out, i, p, bad, at_, hm11, q10_0, q10_1, q10_4, q10_5, q10_6, q10_22, q10_7, q10_8, q10_23, hst, hCA, hi⟩
  have hcr := cntV_r (b := b) (p := 0) (most := 64) (by omega)
  have hol := hCA.2.2.1
  have hor := hCA.2.2.2.1
  refine cE_seq ?_
  refine cE_region rfl ?_
  refine s_cons (op_lss (k := .i64) (a := (i : Int)) (b := (cntV b 0 64)) q10_23 q10_22 ?_)
  refine s_nil ?_
  refine then_n ?_
  refine cE_seq ?_
  rcases Bool.eq_false_or_eq_true (decide ((i : Int) < (cntV b 0 64))) with b14 | b14
  · have c15 : (i : Int) < (cntV b 0 64) := of_decide_eq_true b14
    refine cE_cond true (congrArg Value.bool b14) (fun _ => ?_) (fun h => by cases h)
    refine cE_skip ?_
    refine then_n ?_
    refine cE_seq ?_
    refine cE_block ?_
    refine cE_seq ?_
    refine cE_seq ?_
    refine cE_region rfl ?_
    refine s_cons (op_move (.pointer (some ⟨g7, 0, none⟩)) q10_6 ?_)
    refine s_cons (op_nilCheck rfl ?_)
    refine s_cons (op_fieldAddr (s := 0) Try.underlying59 rfl rfl Try.sizeOf4 rfl ?_)
    refine s_cons (op_load1 (u := (.bool bad)) Try.isAgg4 rfl ((hst.cell 1 rfl).drop 2) ?_)
    refine s_nil ?_
    refine then_n ?_
    rcases Bool.eq_false_or_eq_true bad with b16 | b16
    · refine cE_cond true (congrArg Value.bool b16) (fun _ => ?_) (fun h => by cases h)
      refine cE_exit ?_
      refine then_x (block_miss (by decide) (then_x (then_x (block_hit (then_n ?_)))))
      refine cE_seq ?_
      refine cE_region rfl ?_
      refine s_cons (op_move vo q10_7 ?_)
      refine s_cons (op_move (.int .i64 k) q10_1 ?_)
      refine s_cons (op_call Try.call13 (evs_cons (v := vo) rfl (evs_cons (v := (.int .i64 k)) rfl evs_nil)) (c_kPutAggs (w0 := w13) (v_l := vo) (l := out) (h_l := (hst.sl 0 rfl)) (k := k) (hl := hor) (k0 := (by omega)) (k1 := (by omega))) ?_)
      rintro _ w18 ⟨r17, rfl, hcall⟩
      refine ⟨_, rfl, ?_⟩
      have hst : St w0 w18 [rowT 5 u8E r17 ((encA k out).1), rowT 71 aggE vo out, .blk g7 59 #[v_b, (.int .i64 p), (.bool bad)]] := hst.call hcall
      refine s_cons (op_move (.tuple #[r17, (.int .i64 ((encA k out).2))]) rfl ?_)
      refine s_cons (op_extract r17 rfl rfl ?_)
      refine s_cons (op_extract (.int .i64 ((encA k out).2)) rfl rfl ?_)
      refine s_cons (op_assign r17 rfl ?_)
      refine s_cons (op_assign (.int .i64 ((encA k out).2)) rfl ?_)
      refine s_nil ?_
      refine then_n ?_
      refine cE_seq ?_
      refine cE_seq ?_
      refine cE_region rfl ?_
      refine s_cons (op_move (.pointer (some ⟨g7, 0, none⟩)) q10_6 ?_)
      refine s_cons (op_nilCheck rfl ?_)
      refine s_cons (op_fieldAddr (s := 0) Try.underlying59 rfl rfl Try.sizeOf4 rfl ?_)
      refine s_cons (op_load1 (u := (.bool bad)) Try.isAgg4 rfl ((hst.cell 2 rfl).drop 2) ?_)
      refine s_cons (op_move (.bool bad) rfl ?_)
      refine s_no 105 rfl (congrArg Value.bool b16) ?_
      refine s_no 105 rfl (congrArg Value.bool b16) ?_
      refine s_cons (op_pick_t (.bool true) (congrArg Value.bool b16) rfl ?_)
      refine s_cons (op_move (.bool true) rfl ?_)
      refine s_no 109 rfl rfl ?_
      refine s_no 109 rfl rfl ?_
      refine s_no 109 rfl rfl ?_
      refine s_no 109 rfl rfl ?_
      refine s_cons (op_pick_t (.bool true) rfl rfl ?_)
      refine s_nil ?_
      refine then_n ?_
      refine cE_cond true rfl (fun _ => ?_) (fun h => by cases h)
      refine cE_seq ?_
      refine cE_region rfl ?_
      refine s_cons (op_assign (.slice none 0 0) rfl ?_)
      refine s_cons (op_assign (.int .i64 2) rfl ?_)
      refine s_nil ?_
      refine then_n ?_
      refine cE_ret ?_
      refine then_r (scope_r ?_)
      refine post_r _ (res2 (v := (.slice none 0 0)) rfl (x := (.int .i64 2)) rfl) ?_
      have hd : DecA k b [] 2 := by first | exact CA_no hCA hco (Or.inl (by assumption)) | exact CA_no hCA hco (Or.inr ⟨by omega, Or.inl (by assumption)⟩) | exact CA_no hCA hco (Or.inr ⟨by omega, Or.inr (by assumption)⟩)
      replace hst : St w0 w18 [rowT 71 aggE (.slice none 0 0) ([]), rowT 5 u8E r17 ((encA k out).1), rowT 71 aggE vo out, .blk g7 59 #[v_b, (.int .i64 p), (.bool bad)]] := hst.nilRow 71 aggE
      exact ⟨(.slice none 0 0), [], 2, rfl, hst.sub (.cons_cons _ (.cons _ (.cons _ (.cons _ .slnil)))), hd⟩
    refine cE_cond false (congrArg Value.bool b16) (fun h => by cases h) (fun _ => ?_)
    refine cE_skip ?_
    refine then_n ?_
    refine cE_seq ?_
    refine cE_region rfl ?_
    refine s_cons (op_move (.int .i64 at_) q10_8 ?_)
    refine s_cons (op_add (k := .i64) (a := at_) (b := 1) (wr (at_ + 1)) rfl rfl rfl ?_)
    refine s_cons (op_move (.pointer (some ⟨g7, 0, none⟩)) q10_6 ?_)
    replace hst : St w0 w13 [.blk g7 59 #[v_b, (.int .i64 p), (.bool bad)], rowT 71 aggE vo out] := hst.front 1 rfl
    refine s_cons (op_call Try.call28 (evs_cons (v := (.pointer (some ⟨g7, 0, none⟩))) rfl evs_nil) (c_kNextE (g_r := g7) (v_b := v_b) (b := b) (h_b := h_b) (at_ := p) (bad := bad) (hl := hl) (hst := hst)) ?_)
    rintro _ w25 ⟨r19, r20, r21, rfl, hcall, x22, x23, x24⟩
    refine ⟨_, rfl, ?_⟩
    have hst : St w0 w25 [.blk g7 59 #[v_b, (.int .i64 r20), (.bool r21)], rowT 71 aggE vo out] := hcall
    refine s_cons (op_conv (k := .u64) (a := r19) (wr (r19)) Try.underlying2 (by rw [Try.underlying54]; rfl) rfl rfl ?_)
    refine s_cons (op_add (k := .i64) (a := (wr (at_ + 1))) (b := (wr (r19))) (wr ((wr (at_ + 1)) + (wr (r19)))) rfl rfl rfl ?_)
    refine s_cons (op_assign (.int .i64 (wr ((wr (at_ + 1)) + (wr (r19))))) rfl ?_)
    refine s_nil ?_
    refine then_n ?_
    refine cE_seq ?_
    refine cE_region rfl ?_
    refine s_cons (op_move (.int .i64 (wr ((wr (at_ + 1)) + (wr (r19))))) rfl ?_)
    refine s_cons (op_move (.int .i64 k) q10_1 ?_)
    refine s_cons (op_call Try.call34 (evs_cons (v := (.int .i64 k)) rfl evs_nil) (c_Width (w0 := w25) (k := k) (k0 := (by omega)) (k1 := (by omega))) ?_)
    rintro _ w26 ⟨rfl, hcall⟩
    refine ⟨_, rfl, ?_⟩
    have hst : St w0 w26 [.blk g7 59 #[v_b, (.int .i64 r20), (.bool r21)], rowT 71 aggE vo out] := hst.call hcall
    obtain ⟨F, hFe⟩ : ∃ x, wr ((wr ((wr (at_ + 1)) + (wr (r19)))) * (widthA k)) = x := ⟨_, rfl⟩
    refine s_cons (op_mul (k := .i64) (a := (wr ((wr (at_ + 1)) + (wr (r19))))) (b := (widthA k)) F rfl rfl hFe ?_)
    refine s_cons (op_move (.pointer (some ⟨g7, 0, none⟩)) q10_6 ?_)
    refine s_cons (op_call Try.call28 (evs_cons (v := (.pointer (some ⟨g7, 0, none⟩))) rfl evs_nil) (c_kNextE (g_r := g7) (v_b := v_b) (b := b) (h_b := h_b) (at_ := r20) (bad := r21) (hl := hl) (hst := hst)) ?_)
    rintro _ w33 ⟨r27, r28, r29, rfl, hcall, x30, x31, x32⟩
    refine ⟨_, rfl, ?_⟩
    have hst : St w0 w33 [.blk g7 59 #[v_b, (.int .i64 r28), (.bool r29)], rowT 71 aggE vo out] := hcall
    refine s_cons (op_conv (k := .u64) (a := r27) (wr (r27)) Try.underlying2 (by rw [Try.underlying54]; rfl) rfl rfl ?_)
    refine s_cons (op_add (k := .i64) (a := (wr (r27))) (b := 1) (wr ((wr (r27)) + 1)) rfl rfl rfl ?_)
    refine s_cons (op_move (.pointer (some ⟨g7, 0, none⟩)) q10_6 ?_)
    refine s_cons (op_call Try.call28 (evs_cons (v := (.pointer (some ⟨g7, 0, none⟩))) rfl evs_nil) (c_kNextE (g_r := g7) (v_b := v_b) (b := b) (h_b := h_b) (at_ := r28) (bad := r29) (hl := hl) (hst := hst)) ?_)
    rintro _ w40 ⟨r34, r35, r36, rfl, hcall, x37, x38, x39⟩
    refine ⟨_, rfl, ?_⟩
    have hst : St w0 w40 [.blk g7 59 #[v_b, (.int .i64 r35), (.bool r36)], rowT 71 aggE vo out] := hcall
    refine s_cons (op_call Try.call29 (evs_cons (v := (.int .u64 r34)) rfl evs_nil) (c_Zag (w0 := w40) (n := r34) (h0 := (gnE (by assumption)).1) (h1 := (gnE (by assumption)).2)) ?_)
    rintro _ w41 ⟨rfl, hcall⟩
    refine ⟨_, rfl, ?_⟩
    have hst : St w0 w41 [.blk g7 59 #[v_b, (.int .i64 r35), (.bool r36)], rowT 71 aggE vo out] := hst.call hcall
    refine s_cons (op_build (r := (.agg #[(.int .i64 F), (.int .i64 (wr ((wr (r27)) + 1))), (.int .i64 0), (.int .i64 (zag r34)), (.int .i64 0), (.int .i64 0), (.int .i64 0)])) (evp_cons (v := (.int .i64 F)) rfl (evp_cons (v := (.int .i64 (wr ((wr (r27)) + 1)))) rfl (evp_cons (v := (.int .i64 (zag r34))) rfl evp_nil))) (by simp [Instr.build, Instr.fill, Value.cells, Try.runUnderlying71, Try.zeroValue71]) ?_)
    refine s_cons (op_alloc (cs := #[(.int .i64 0), (.int .i64 0), (.int .i64 0), (.int .i64 0), (.int .i64 0), (.int .i64 0), (.int .i64 0)]) hst Try.zeroValue71 rfl (fun g42 w43 hst _ => ?_))
    replace hst : St w0 w43 [.blk g42 71 #[(.int .i64 0), (.int .i64 0), (.int .i64 0), (.int .i64 0), (.int .i64 0), (.int .i64 0), (.int .i64 0)], .blk g7 59 #[v_b, (.int .i64 r35), (.bool r36)], rowT 71 aggE vo out] := hst
    refine s_cons0 (op_storeAll hst 0 rfl Try.sizeOf71 rfl rfl rfl rfl (by simp [Value.oneCell']) (fun w44 hst => ?_))
    replace hst : St w0 w44 [.blk g42 71 #[(.int .i64 F), (.int .i64 (wr ((wr (r27)) + 1))), (.int .i64 0), (.int .i64 (zag r34)), (.int .i64 0), (.int .i64 0), (.int .i64 0)], .blk g7 59 #[v_b, (.int .i64 r35), (.bool r36)], rowT 71 aggE vo out] := hst
    refine s_nil ?_
    refine then_n ?_
    refine cE_seq ?_
    refine cE_region rfl ?_
    refine s_cons (op_fieldAddr (s := 0) Try.underlying71 rfl rfl Try.sizeOf2 rfl ?_)
    refine s_cons (op_load1 (u := (.int .i64 (zag r34))) Try.isAgg2 rfl ((hst.cell 0 rfl).drop 3) ?_)
    refine s_cons (op_fieldAddr (s := 0) Try.underlying71 rfl rfl Try.sizeOf2 rfl ?_)
    refine s_cons (op_load1 (u := (.int .i64 (zag r34))) Try.isAgg2 rfl ((hst.cell 0 rfl).drop 3) ?_)
    refine s_cons (op_fieldAddr (s := 0) Try.underlying71 rfl rfl Try.sizeOf2 rfl ?_)
    refine s_cons (op_load1 (u := (.int .i64 (zag r34))) Try.isAgg2 rfl ((hst.cell 0 rfl).drop 3) ?_)
    refine s_cons (op_fieldAddr (s := 0) Try.underlying71 rfl rfl Try.sizeOf2 rfl ?_)
    refine s_cons (op_load1 (u := (.int .i64 (zag r34))) Try.isAgg2 rfl ((hst.cell 0 rfl).drop 3) ?_)
    refine s_cons (op_fieldAddr (s := 0) Try.underlying71 rfl rfl Try.sizeOf2 rfl ?_)
    refine s_cons0 (op_store1 hst 0 rfl Try.sizeOf2 rfl rfl rfl (show 2 < 7 from by decide) (fun w45 hst => ?_))
    replace hst : St w0 w45 [.blk g42 71 #[(.int .i64 F), (.int .i64 (wr ((wr (r27)) + 1))), (.int .i64 (zag r34)), (.int .i64 (zag r34)), (.int .i64 0), (.int .i64 0), (.int .i64 0)], .blk g7 59 #[v_b, (.int .i64 r35), (.bool r36)], rowT 71 aggE vo out] := hst
    refine s_cons (op_fieldAddr (s := 0) Try.underlying71 rfl rfl Try.sizeOf2 rfl ?_)
    refine s_cons0 (op_store1 hst 0 rfl Try.sizeOf2 rfl rfl rfl (show 4 < 7 from by decide) (fun w46 hst => ?_))
    replace hst : St w0 w46 [.blk g42 71 #[(.int .i64 F), (.int .i64 (wr ((wr (r27)) + 1))), (.int .i64 (zag r34)), (.int .i64 (zag r34)), (.int .i64 (zag r34)), (.int .i64 0), (.int .i64 0)], .blk g7 59 #[v_b, (.int .i64 r35), (.bool r36)], rowT 71 aggE vo out] := hst
    refine s_cons (op_fieldAddr (s := 0) Try.underlying71 rfl rfl Try.sizeOf2 rfl ?_)
    refine s_cons0 (op_store1 hst 0 rfl Try.sizeOf2 rfl rfl rfl (show 5 < 7 from by decide) (fun w47 hst => ?_))
    replace hst : St w0 w47 [.blk g42 71 #[(.int .i64 F), (.int .i64 (wr ((wr (r27)) + 1))), (.int .i64 (zag r34)), (.int .i64 (zag r34)), (.int .i64 (zag r34)), (.int .i64 (zag r34)), (.int .i64 0)], .blk g7 59 #[v_b, (.int .i64 r35), (.bool r36)], rowT 71 aggE vo out] := hst
    refine s_cons (op_fieldAddr (s := 0) Try.underlying71 rfl rfl Try.sizeOf2 rfl ?_)
    refine s_cons0 (op_store1 hst 0 rfl Try.sizeOf2 rfl rfl rfl (show 6 < 7 from by decide) (fun w48 hst => ?_))
    replace hst : St w0 w48 [.blk g42 71 #[(.int .i64 F), (.int .i64 (wr ((wr (r27)) + 1))), (.int .i64 (zag r34)), (.int .i64 (zag r34)), (.int .i64 (zag r34)), (.int .i64 (zag r34)), (.int .i64 (zag r34))], .blk g7 59 #[v_b, (.int .i64 r35), (.bool r36)], rowT 71 aggE vo out] := hst
    refine s_nil ?_
    refine then_n ?_
    refine cE_seq ?_
    refine cE_seq ?_
    refine cE_region rfl ?_
    refine s_cons (op_fieldAddr (s := 0) Try.underlying71 rfl rfl Try.sizeOf2 rfl ?_)
    refine s_cons (op_load1 (u := (.int .i64 (wr ((wr (r27)) + 1)))) Try.isAgg2 rfl ((hst.cell 0 rfl).drop 1) ?_)
    refine s_cons (op_neq (k := .i64) (a := (wr ((wr (r27)) + 1))) (b := 1) rfl rfl ?_)
    refine s_nil ?_
    refine then_n ?_
    rcases Bool.eq_false_or_eq_true (decide ((wr ((wr (r27)) + 1)) = 1)) with b49 | b49
    · have c50 : (wr ((wr (r27)) + 1)) = 1 := of_decide_eq_true b49
      refine cE_cond false (congrArg Value.bool (congrArg (! ·) b49)) (fun h => by cases h) (fun _ => ?_)
      refine cE_skip ?_
      refine then_n ?_
      refine cE_region rfl ?_
      refine s_cons (op_move vo q10_7 ?_)
      refine s_cons (op_loadN (cs := [(.int .i64 F), (.int .i64 (wr ((wr (r27)) + 1))), (.int .i64 (zag r34)), (.int .i64 (zag r34)), (.int .i64 (zag r34)), (.int .i64 (zag r34)), (.int .i64 (zag r34))]) Try.isAgg71 Try.sizeOf71 rfl (Pt.of (hst.cell 0 rfl) rfl) rfl ?_)
      refine s_cons (op_buildSlice (E := aggE) [(⟨F, (wr ((wr (r27)) + 1)), (zag r34), (zag r34), (zag r34), (zag r34), (zag r34)⟩ : Agg)] hst Try.underlying23 Try.sizeOf71 Try.zeroValue71 (evp_cons (v := (.agg #[(.int .i64 F), (.int .i64 (wr ((wr (r27)) + 1))), (.int .i64 (zag r34)), (.int .i64 (zag r34)), (.int .i64 (zag r34)), (.int .i64 (zag r34)), (.int .i64 (zag r34))])) rfl evp_nil) (parts_cons rfl parts_nil) rfl (by decide) (fun v51 w52 hst => ?_))
      replace hst : St w0 w52 [rowT 71 aggE v51 ([(⟨F, (wr ((wr (r27)) + 1)), (zag r34), (zag r34), (zag r34), (zag r34), (zag r34)⟩ : Agg)]), .blk g42 71 #[(.int .i64 F), (.int .i64 (wr ((wr (r27)) + 1))), (.int .i64 (zag r34)), (.int .i64 (zag r34)), (.int .i64 (zag r34)), (.int .i64 (zag r34)), (.int .i64 (zag r34))], .blk g7 59 #[v_b, (.int .i64 r35), (.bool r36)], rowT 71 aggE vo out] := hst
      refine s_cons (op_append (E := aggE) (xs := out) (ys := [(⟨F, (wr ((wr (r27)) + 1)), (zag r34), (zag r34), (zag r34), (zag r34), (zag r34)⟩ : Agg)]) (z := (.agg #[(.int .i64 0), (.int .i64 0), (.int .i64 0), (.int .i64 0), (.int .i64 0), (.int .i64 0), (.int .i64 0)])) (bytes := 56) hst 3 rfl Try.underlying23 (by kernel_rfl) rfl rfl rfl (hst.sl 0 rfl) (by first | omega | (simp; omega) | (simp; done)) (by first | omega | (simp; omega) | (simp; done)) (fun v53 w54 hst => ?_))
      replace hst : St w0 w54 [rowT 71 aggE v51 ([(⟨F, (wr ((wr (r27)) + 1)), (zag r34), (zag r34), (zag r34), (zag r34), (zag r34)⟩ : Agg)]), .blk g42 71 #[(.int .i64 F), (.int .i64 (wr ((wr (r27)) + 1))), (.int .i64 (zag r34)), (.int .i64 (zag r34)), (.int .i64 (zag r34)), (.int .i64 (zag r34)), (.int .i64 (zag r34))], .blk g7 59 #[v_b, (.int .i64 r35), (.bool r36)], rowT 71 aggE v53 (out ++ ([(⟨F, (wr ((wr (r27)) + 1)), (zag r34), (zag r34), (zag r34), (zag r34), (zag r34)⟩ : Agg)]))] := hst
      refine s_cons (op_assign v53 rfl ?_)
      refine s_nil ?_
      refine block_n (then_n ?_)
      refine cE_region rfl ?_
      refine s_cons (op_add (k := .i64) (a := (i : Int)) (b := 1) ((i : Int) + 1) q10_23 rfl (xi64 (by omega) (by omega)) ?_)
      refine s_cons (op_move (.int .i64 ((i : Int) + 1)) rfl ?_)
      refine s_nil ?_
      refine then_n ?_
      replace hst : St w0 w54 [.blk g7 59 #[v_b, (.int .i64 r35), (.bool r36)], rowT 71 aggE v51 ([(⟨F, (wr ((wr (r27)) + 1)), (zag r34), (zag r34), (zag r34), (zag r34), (zag r34)⟩ : Agg)]), .blk g42 71 #[(.int .i64 F), (.int .i64 (wr ((wr (r27)) + 1))), (.int .i64 (zag r34)), (.int .i64 (zag r34)), (.int .i64 (zag r34)), (.int .i64 (zag r34)), (.int .i64 (zag r34))], rowT 71 aggE v53 (out ++ ([(⟨F, (wr ((wr (r27)) + 1)), (zag r34), (zag r34), (zag r34), (zag r34), (zag r34)⟩ : Agg)]))] := hst.front 2 rfl
      replace hst : St w0 w54 [rowT 71 aggE v53 (out ++ ([(⟨F, (wr ((wr (r27)) + 1)), (zag r34), (zag r34), (zag r34), (zag r34), (zag r34)⟩ : Agg)])), .blk g7 59 #[v_b, (.int .i64 r35), (.bool r36)], rowT 71 aggE v51 ([(⟨F, (wr ((wr (r27)) + 1)), (zag r34), (zag r34), (zag r34), (zag r34), (zag r34)⟩ : Agg)]), .blk g42 71 #[(.int .i64 F), (.int .i64 (wr ((wr (r27)) + 1))), (.int .i64 (zag r34)), (.int .i64 (zag r34)), (.int .i64 (zag r34)), (.int .i64 (zag r34)), (.int .i64 (zag r34))]] := hst.front 3 rfl
      exact ⟨_, ⟨v53, (out ++ ([(⟨F, (wr ((wr (r27)) + 1)), (zag r34), (zag r34), (zag r34), (zag r34), (zag r34)⟩ : Agg)])), (i + 1), r35, r36, (wr ((wr (at_ + 1)) + (wr (r19)))), rfl, q10_0, q10_1, q10_4, q10_5, q10_6, q10_22, rfl, rfl, (congrArg (Value.int .i64) (show ((i : Int) + 1) = _ from by omega)), (hst.sub (.cons_cons _ (.cons_cons _ (.cons _ (.cons _ .slnil))))), (by first | exact CA_start | exact CA_oneE hCA (by omega) (by assumption) (by assumption) (by assumption) (by assumption) (by assumption) (by assumption) (by assumption) (by assumption) (by assumption) hFe (by assumption) | exact CA_manyE hCA (by omega) (by assumption) (by assumption) (by assumption) (by assumption) (by assumption) (by assumption) (by assumption) (by assumption) (by assumption) (by first | assumption | rfl) (by first | assumption | rfl) (by first | assumption | rfl) (by first | assumption | rfl) (by first | assumption | rfl) (by first | assumption | rfl) (by first | assumption | rfl) (by first | assumption | rfl) (by first | assumption | rfl) (by first | assumption | rfl) (by first | assumption | rfl) (by first | assumption | rfl) hFe (by assumption)), (by first | exact (cntV_r (by omega)).1 | omega)⟩, (by simp only [id]; omega)⟩
    have c55 : ¬ ((wr ((wr (r27)) + 1)) = 1) := of_decide_eq_false b49
    refine cE_cond true (congrArg Value.bool (congrArg (! ·) b49)) (fun _ => ?_) (fun h => by cases h)
    refine cE_seq ?_
    have hM58 : stabML [4, 8] [(kEq (.pointer (some ⟨g42, (0 + 3), none⟩))), (kEq (.int .i64 (zag r34))), (kEq (.int .u64 ((zag r34) % 18446744073709551616))), (kEq (.pointer (some ⟨g7, 0, none⟩))), (kEq (.int .u64 ((get b r35).1))), (kEq (.int .u64 ((((zag r34) % 18446744073709551616) + (get b r35).1) % 18446744073709551616))), (kEq (.int .i64 (wr (((((zag r34) % 18446744073709551616) + (get b r35).1) % 18446744073709551616))))), (kEq (.pointer (some ⟨g42, (0 + 4), none⟩))), kAny] := ⟨mEq, mEq, mEq, mEq, mEq, mEq, mEq, mEq, mAny, trivial⟩
    refine cE_regionK (fun (D : Nat → Bool) (w : World) => St w0 w [rowT 71 aggE vo out] ∧ (D 4 = false → St w0 w [.blk g42 71 #[(.int .i64 F), (.int .i64 (wr ((wr (r27)) + 1))), (.int .i64 (zag r34)), (.int .i64 (zag r34)), (.int .i64 (zag r34)), (.int .i64 (zag r34)), (.int .i64 (zag r34))], .blk g7 59 #[v_b, (.int .i64 r35), (.bool r36)], rowT 71 aggE vo out]) ∧ (D 4 = true → D 8 = false → St w0 w [.blk g42 71 #[(.int .i64 F), (.int .i64 (wr ((wr (r27)) + 1))), (.int .i64 (zag r34)), (.int .i64 (zag r34)), (.int .i64 (zag r34)), (.int .i64 (zag r34)), (.int .i64 (zag r34))], .blk g7 59 #[v_b, (.int .i64 ((get b r35).2.1)), (.bool (rbad r36 b r35))], rowT 71 aggE vo out]) ∧ (D 8 = true → St w0 w [.blk g42 71 #[(.int .i64 F), (.int .i64 (wr ((wr (r27)) + 1))), (.int .i64 (zag r34)), (.int .i64 (zag r34)), (.int .i64 (wr (((((zag r34) % 18446744073709551616) + (get b r35).1) % 18446744073709551616)))), (.int .i64 (zag r34)), (.int .i64 (zag r34))], .blk g7 59 #[v_b, (.int .i64 ((get b r35).2.1)), (.bool (rbad r36 b r35))], rowT 71 aggE vo out])) [[(9, none)], [(62, some 0)], [(63, some 1)], [(6, none)], [(65, some 3)], [(64, some 2), (66, some 4)], [(67, some 5)], [(9, none)], [(69, some 7), (68, some 6)]] (RofK [(kEq (.pointer (some ⟨g42, (0 + 3), none⟩))), (kEq (.int .i64 (zag r34))), (kEq (.int .u64 ((zag r34) % 18446744073709551616))), (kEq (.pointer (some ⟨g7, 0, none⟩))), (kEq (.int .u64 ((get b r35).1))), (kEq (.int .u64 ((((zag r34) % 18446744073709551616) + (get b r35).1) % 18446744073709551616))), (kEq (.int .i64 (wr (((((zag r34) % 18446744073709551616) + (get b r35).1) % 18446744073709551616))))), (kEq (.pointer (some ⟨g42, (0 + 4), none⟩))), kAny]) (by kernel_rfl) rfl (by kernel_rfl) ⟨hst.drewW.sub (.cons _ (.cons _ (.cons_cons _ .slnil))), (fun _ => hst.drewW), (fun h => absurd h Bool.false_ne_true), (fun h => absurd h Bool.false_ne_true)⟩ ⟨?_, ?_, ?_, ?_, ?_, ?_, ?_, ?_, ?_, trivial⟩ ?_
    · rintro D60 ρ61 w62 hD63 hE64 hC65 hJ66 hA67 ⟨f9, _⟩
      have hst := hJ66.1
      exact go_plain (op_fieldAddr (s := 0) Try.underlying71 rfl rfl Try.sizeOf2 (f9.trans rfl) (kN0 (i := 0) hM58 (by decide) (by exact hJ66) (by exact rfl)))
    · rintro D68 ρ69 w70 hD71 hE72 hC73 hJ74 hA75 ⟨f62, _⟩
      rcases Bool.eq_false_or_eq_true (D68 4) with hY76 | hY76
      · have hst := hJ74.2.2.1 hY76 (not_yet hD71 (fun hm => (hC73 8 1 hm (by kernel_rfl))))
        replace hst : St w0 w70 [.blk g42 71 #[(.int .i64 F), (.int .i64 (wr ((wr (r27)) + 1))), (.int .i64 (zag r34)), (.int .i64 (zag r34)), (.int .i64 (zag r34)), (.int .i64 (zag r34)), (.int .i64 (zag r34))], .blk g7 59 #[v_b, (.int .i64 ((get b r35).2.1)), (.bool (rbad r36 b r35))], rowT 71 aggE vo out] := hst
        exact go_plain (op_load1 (u := (.int .i64 (zag r34))) Try.isAgg2 f62 ((hst.cell 0 rfl).drop 3) (kN0 (i := 1) hM58 (by decide) (by exact hJ74) (by exact rfl)))
      · have hst := hJ74.2.1 hY76
        replace hst : St w0 w70 [.blk g42 71 #[(.int .i64 F), (.int .i64 (wr ((wr (r27)) + 1))), (.int .i64 (zag r34)), (.int .i64 (zag r34)), (.int .i64 (zag r34)), (.int .i64 (zag r34)), (.int .i64 (zag r34))], .blk g7 59 #[v_b, (.int .i64 r35), (.bool r36)], rowT 71 aggE vo out] := hst
        exact go_plain (op_load1 (u := (.int .i64 (zag r34))) Try.isAgg2 f62 ((hst.cell 0 rfl).drop 3) (kN0 (i := 1) hM58 (by decide) (by exact hJ74) (by exact rfl)))
    · rintro D77 ρ78 w79 hD80 hE81 hC82 hJ83 hA84 ⟨f63, _⟩
      have hst := hJ83.1
      exact go_plain (op_conv (k := .i64) (a := (zag r34)) ((zag r34) % 18446744073709551616) Try.underlying54 (by rw [Try.underlying2]; rfl) f63 (IntKind.wrap_u64 _) (kN0 (i := 2) hM58 (by decide) (by exact hJ83) (by exact rfl)))
    · rintro D85 ρ86 w87 hD88 hE89 hC90 hJ91 hA92 ⟨f6, _⟩
      have hst := hJ91.2.1 (not_yet hD88 (fun hm => (hC90 4 3 hm (by kernel_rfl))))
      replace hst : St w0 w87 [.blk g42 71 #[(.int .i64 F), (.int .i64 (wr ((wr (r27)) + 1))), (.int .i64 (zag r34)), (.int .i64 (zag r34)), (.int .i64 (zag r34)), (.int .i64 (zag r34)), (.int .i64 (zag r34))], .blk g7 59 #[v_b, (.int .i64 r35), (.bool r36)], rowT 71 aggE vo out] := hst
      exact go_plain (op_move (.pointer (some ⟨g7, 0, none⟩)) (f6.trans q10_6) (kN0 (i := 3) hM58 (by decide) (by exact hJ91) (by exact rfl)))
    · rintro D93 ρ94 w95 hD96 hE97 hC98 hJ99 hA100 ⟨f65, _⟩
      have hst := hJ99.2.1 hD96
      replace hst : St w0 w95 [.blk g42 71 #[(.int .i64 F), (.int .i64 (wr ((wr (r27)) + 1))), (.int .i64 (zag r34)), (.int .i64 (zag r34)), (.int .i64 (zag r34)), (.int .i64 (zag r34)), (.int .i64 (zag r34))], .blk g7 59 #[v_b, (.int .i64 r35), (.bool r36)], rowT 71 aggE vo out] := hst
      replace hst : St w0 w95 [.blk g7 59 #[v_b, (.int .i64 r35), (.bool r36)], .blk g42 71 #[(.int .i64 F), (.int .i64 (wr ((wr (r27)) + 1))), (.int .i64 (zag r34)), (.int .i64 (zag r34)), (.int .i64 (zag r34)), (.int .i64 (zag r34)), (.int .i64 (zag r34))], rowT 71 aggE vo out] := hst.front 1 rfl
      refine go_plain (op_call Try.call28 (evs_cons (v := (.pointer (some ⟨g7, 0, none⟩))) f65 evs_nil) (c_kNext (g_r := g7) (v_b := v_b) (b := b) (h_b := h_b) (at_ := r35) (bad := r36) (hl := hl) (hst := hst)) ?_)
      rintro _ w101 ⟨rfl, hcall⟩
      refine ⟨_, rfl, ?_⟩
      have hst : St w0 w101 [.blk g7 59 #[v_b, (.int .i64 ((get b r35).2.1)), (.bool (rbad r36 b r35))], .blk g42 71 #[(.int .i64 F), (.int .i64 (wr ((wr (r27)) + 1))), (.int .i64 (zag r34)), (.int .i64 (zag r34)), (.int .i64 (zag r34)), (.int .i64 (zag r34)), (.int .i64 (zag r34))], rowT 71 aggE vo out] := hcall
      replace hst : St w0 w101 [rowT 71 aggE vo out, .blk g7 59 #[v_b, (.int .i64 ((get b r35).2.1)), (.bool (rbad r36 b r35))], .blk g42 71 #[(.int .i64 F), (.int .i64 (wr ((wr (r27)) + 1))), (.int .i64 (zag r34)), (.int .i64 (zag r34)), (.int .i64 (zag r34)), (.int .i64 (zag r34)), (.int .i64 (zag r34))]] := hst.front 2 rfl
      replace hst : St w0 w101 [.blk g7 59 #[v_b, (.int .i64 ((get b r35).2.1)), (.bool (rbad r36 b r35))], rowT 71 aggE vo out, .blk g42 71 #[(.int .i64 F), (.int .i64 (wr ((wr (r27)) + 1))), (.int .i64 (zag r34)), (.int .i64 (zag r34)), (.int .i64 (zag r34)), (.int .i64 (zag r34)), (.int .i64 (zag r34))]] := hst.front 1 rfl
      replace hst : St w0 w101 [.blk g42 71 #[(.int .i64 F), (.int .i64 (wr ((wr (r27)) + 1))), (.int .i64 (zag r34)), (.int .i64 (zag r34)), (.int .i64 (zag r34)), (.int .i64 (zag r34)), (.int .i64 (zag r34))], .blk g7 59 #[v_b, (.int .i64 ((get b r35).2.1)), (.bool (rbad r36 b r35))], rowT 71 aggE vo out] := hst.front 2 rfl
      have hI102 : stabIXs 4 [] D93 0 [(kEq (.pointer (some ⟨g42, (0 + 3), none⟩))), (kEq (.int .i64 (zag r34))), (kEq (.int .u64 ((zag r34) % 18446744073709551616))), (kEq (.pointer (some ⟨g7, 0, none⟩))), (kEq (.int .u64 ((get b r35).1))), (kEq (.int .u64 ((((zag r34) % 18446744073709551616) + (get b r35).1) % 18446744073709551616))), (kEq (.int .i64 (wr (((((zag r34) % 18446744073709551616) + (get b r35).1) % 18446744073709551616))))), (kEq (.pointer (some ⟨g42, (0 + 4), none⟩))), kAny] := ⟨Or.inr (Or.inr (Or.inr iEq)), Or.inr (Or.inr (Or.inr iEq)), Or.inr (Or.inr (Or.inr iEq)), Or.inr (Or.inr (Or.inr iEq)), Or.inl rfl, Or.inr (Or.inr (Or.inl (not_yet hD96 (fun hm => (hC98 5 4 hm (by kernel_rfl)))))), Or.inr (Or.inr (Or.inl (not_yet hD96 (fun hm => (hC98 5 4 (hC98 6 5 hm (by kernel_rfl)) (by kernel_rfl)))))), Or.inr (Or.inr (Or.inl (not_yet hD96 (fun hm => (hC98 7 4 hm (by kernel_rfl)))))), Or.inr (Or.inr (Or.inl (not_yet hD96 (fun hm => (hC98 8 4 hm (by kernel_rfl)))))), trivial⟩
      refine ⟨by exact ⟨hst.sub (.cons _ (.cons _ (.cons_cons _ .slnil))), (fun y0 => absurd y0 (fun h => Bool.noConfusion h)), (fun y0 y1 => hst.sub (.cons_cons _ (.cons_cons _ (.cons_cons _ .slnil)))), (fun y0 => absurd (show D93 8 = true from y0) (by rw [(not_yet hD96 (fun hm => (hC98 8 4 hm (by kernel_rfl))))]; decide))⟩, by exact rfl, kX [] hI102 ?_⟩
      intro j d hj; cases hj
    · rintro D103 ρ104 w105 hD106 hE107 hC108 hJ109 hA110 ⟨f64, f66, _⟩
      have hst := hJ109.2.2.1 (hE107 4 (by kernel_rfl)) (not_yet hD106 (fun hm => (hC108 8 5 hm (by kernel_rfl))))
      replace hst : St w0 w105 [.blk g42 71 #[(.int .i64 F), (.int .i64 (wr ((wr (r27)) + 1))), (.int .i64 (zag r34)), (.int .i64 (zag r34)), (.int .i64 (zag r34)), (.int .i64 (zag r34)), (.int .i64 (zag r34))], .blk g7 59 #[v_b, (.int .i64 ((get b r35).2.1)), (.bool (rbad r36 b r35))], rowT 71 aggE vo out] := hst
      exact go_plain (op_add (k := .u64) (a := ((zag r34) % 18446744073709551616)) (b := (get b r35).1) ((((zag r34) % 18446744073709551616) + (get b r35).1) % 18446744073709551616) f64 f66 (IntKind.wrap_u64 _) (kN0 (i := 5) hM58 (by decide) (by exact hJ109) (by exact rfl)))
    · rintro D111 ρ112 w113 hD114 hE115 hC116 hJ117 hA118 ⟨f67, _⟩
      have hst := hJ117.2.2.1 (hC116 5 4 (hE115 5 (by kernel_rfl)) (by kernel_rfl)) (not_yet hD114 (fun hm => (hC116 8 6 hm (by kernel_rfl))))
      replace hst : St w0 w113 [.blk g42 71 #[(.int .i64 F), (.int .i64 (wr ((wr (r27)) + 1))), (.int .i64 (zag r34)), (.int .i64 (zag r34)), (.int .i64 (zag r34)), (.int .i64 (zag r34)), (.int .i64 (zag r34))], .blk g7 59 #[v_b, (.int .i64 ((get b r35).2.1)), (.bool (rbad r36 b r35))], rowT 71 aggE vo out] := hst
      exact go_plain (op_conv (k := .u64) (a := ((((zag r34) % 18446744073709551616) + (get b r35).1) % 18446744073709551616)) (wr (((((zag r34) % 18446744073709551616) + (get b r35).1) % 18446744073709551616))) Try.underlying2 (by rw [Try.underlying54]; rfl) f67 rfl (kN0 (i := 6) hM58 (by decide) (by exact hJ117) (by exact rfl)))
    · rintro D119 ρ120 w121 hD122 hE123 hC124 hJ125 hA126 ⟨f9, _⟩
      have hst := hJ125.2.2.1 (hE123 4 (by kernel_rfl)) (not_yet hD122 (fun hm => (hC124 8 7 hm (by kernel_rfl))))
      replace hst : St w0 w121 [.blk g42 71 #[(.int .i64 F), (.int .i64 (wr ((wr (r27)) + 1))), (.int .i64 (zag r34)), (.int .i64 (zag r34)), (.int .i64 (zag r34)), (.int .i64 (zag r34)), (.int .i64 (zag r34))], .blk g7 59 #[v_b, (.int .i64 ((get b r35).2.1)), (.bool (rbad r36 b r35))], rowT 71 aggE vo out] := hst
      exact go_plain (op_fieldAddr (s := 0) Try.underlying71 rfl rfl Try.sizeOf2 (f9.trans rfl) (kN0 (i := 7) hM58 (by decide) (by exact hJ125) (by exact rfl)))
    · rintro D127 ρ128 w129 hD130 hE131 hC132 hJ133 hA134 ⟨f69, f68, _⟩
      have hst := hJ133.2.2.1 (hE131 4 (by kernel_rfl)) hD130
      replace hst : St w0 w129 [.blk g42 71 #[(.int .i64 F), (.int .i64 (wr ((wr (r27)) + 1))), (.int .i64 (zag r34)), (.int .i64 (zag r34)), (.int .i64 (zag r34)), (.int .i64 (zag r34)), (.int .i64 (zag r34))], .blk g7 59 #[v_b, (.int .i64 ((get b r35).2.1)), (.bool (rbad r36 b r35))], rowT 71 aggE vo out] := hst
      refine go_plain (op_store1 hst 0 rfl Try.sizeOf2 f69 f68 rfl (show 4 < 7 from by decide) (fun w135 hst => ?_))
      replace hst : St w0 w135 [.blk g42 71 #[(.int .i64 F), (.int .i64 (wr ((wr (r27)) + 1))), (.int .i64 (zag r34)), (.int .i64 (zag r34)), (.int .i64 (wr (((((zag r34) % 18446744073709551616) + (get b r35).1) % 18446744073709551616)))), (.int .i64 (zag r34)), (.int .i64 (zag r34))], .blk g7 59 #[v_b, (.int .i64 ((get b r35).2.1)), (.bool (rbad r36 b r35))], rowT 71 aggE vo out] := hst
      have hI136 : stabIXs 8 [] D127 0 [(kEq (.pointer (some ⟨g42, (0 + 3), none⟩))), (kEq (.int .i64 (zag r34))), (kEq (.int .u64 ((zag r34) % 18446744073709551616))), (kEq (.pointer (some ⟨g7, 0, none⟩))), (kEq (.int .u64 ((get b r35).1))), (kEq (.int .u64 ((((zag r34) % 18446744073709551616) + (get b r35).1) % 18446744073709551616))), (kEq (.int .i64 (wr (((((zag r34) % 18446744073709551616) + (get b r35).1) % 18446744073709551616))))), (kEq (.pointer (some ⟨g42, (0 + 4), none⟩))), kAny] := ⟨Or.inr (Or.inr (Or.inr iEq)), Or.inr (Or.inr (Or.inr iEq)), Or.inr (Or.inr (Or.inr iEq)), Or.inr (Or.inr (Or.inr iEq)), Or.inr (Or.inr (Or.inr iEq)), Or.inr (Or.inr (Or.inr iEq)), Or.inr (Or.inr (Or.inr iEq)), Or.inr (Or.inr (Or.inr iEq)), Or.inl rfl, trivial⟩
      refine ⟨by exact ⟨hst.sub (.cons _ (.cons _ (.cons_cons _ .slnil))), (fun y0 => absurd (show D127 4 = false from y0) (by rw [(hE131 4 (by kernel_rfl))]; decide)), (fun y0 y1 => absurd y1 (fun h => Bool.noConfusion h)), (fun y0 => hst.sub (.cons_cons _ (.cons_cons _ (.cons_cons _ .slnil))))⟩, by exact trivial, kX [] hI136 ?_⟩
      intro j d hj; cases hj
    intro ρ137 w138 Dw138 hallw138 hJw138 hRw138 hkw138
    have hst : St w0 w138 [.blk g42 71 #[(.int .i64 F), (.int .i64 (wr ((wr (r27)) + 1))), (.int .i64 (zag r34)), (.int .i64 (zag r34)), (.int .i64 (wr (((((zag r34) % 18446744073709551616) + (get b r35).1) % 18446744073709551616)))), (.int .i64 (zag r34)), (.int .i64 (zag r34))], .blk g7 59 #[v_b, (.int .i64 ((get b r35).2.1)), (.bool (rbad r36 b r35))], rowT 71 aggE vo out] := hJw138.2.2.2 (hallw138 8 (show 8 < 9 from by decide))
    have uw138_0 : ρ137 0 = v_b := (hkw138 0 rfl).trans q10_0
    have uw138_1 : ρ137 1 = (.int .i64 k) := (hkw138 1 rfl).trans q10_1
    have uw138_4 : ρ137 4 = (.slice none 0 0) := (hkw138 4 rfl).trans q10_4
    have uw138_5 : ρ137 5 = (.int .i64 0) := (hkw138 5 rfl).trans q10_5
    have uw138_6 : ρ137 6 = (.pointer (some ⟨g7, 0, none⟩)) := (hkw138 6 rfl).trans q10_6
    have uw138_22 : ρ137 22 = (.int .i64 (cntV b 0 64)) := (hkw138 22 rfl).trans q10_22
    have uw138_7 : ρ137 7 = vo := (hkw138 7 rfl).trans q10_7
    have uw138_8 : ρ137 8 = (.int .i64 (wr ((wr (at_ + 1)) + (wr (r19))))) := (hkw138 8 rfl).trans rfl
    have uw138_23 : ρ137 23 = (.int .i64 (i : Int)) := (hkw138 23 rfl).trans q10_23
    have uw138_24 : ρ137 24 = (.bool (decide ((i : Int) < (cntV b 0 64)))) := (hkw138 24 rfl).trans rfl
    have uw138_25 : ρ137 25 = (.pointer (some ⟨g7, 0, none⟩)) := (hkw138 25 rfl).trans rfl
    have uw138_26 : ρ137 26 = (.pointer (some ⟨g7, 0, none⟩)) := (hkw138 26 rfl).trans rfl
    have uw138_27 : ρ137 27 = (.pointer (some ⟨g7, (0 + 2), none⟩)) := (hkw138 27 rfl).trans rfl
    have uw138_28 : ρ137 28 = (.bool bad) := (hkw138 28 rfl).trans rfl
    have uw138_29 : ρ137 29 = (.int .i64 at_) := (hkw138 29 rfl).trans rfl
    have uw138_30 : ρ137 30 = (.int .i64 (wr (at_ + 1))) := (hkw138 30 rfl).trans rfl
    have uw138_31 : ρ137 31 = (.pointer (some ⟨g7, 0, none⟩)) := (hkw138 31 rfl).trans rfl
    have uw138_32 : ρ137 32 = (.int .u64 r19) := (hkw138 32 rfl).trans rfl
    have uw138_33 : ρ137 33 = (.int .i64 (wr (r19))) := (hkw138 33 rfl).trans rfl
    have uw138_34 : ρ137 34 = (.int .i64 (wr ((wr (at_ + 1)) + (wr (r19))))) := (hkw138 34 rfl).trans rfl
    have uw138_35 : ρ137 35 = (.int .i64 (wr ((wr (at_ + 1)) + (wr (r19))))) := (hkw138 35 rfl).trans rfl
    have uw138_36 : ρ137 36 = (.int .i64 k) := (hkw138 36 rfl).trans rfl
    have uw138_37 : ρ137 37 = (.int .i64 (widthA k)) := (hkw138 37 rfl).trans rfl
    have uw138_38 : ρ137 38 = (.int .i64 F) := (hkw138 38 rfl).trans rfl
    have uw138_39 : ρ137 39 = (.pointer (some ⟨g7, 0, none⟩)) := (hkw138 39 rfl).trans rfl
    have uw138_40 : ρ137 40 = (.int .u64 r27) := (hkw138 40 rfl).trans rfl
    have uw138_41 : ρ137 41 = (.int .i64 (wr (r27))) := (hkw138 41 rfl).trans rfl
    have uw138_42 : ρ137 42 = (.int .i64 (wr ((wr (r27)) + 1))) := (hkw138 42 rfl).trans rfl
    have uw138_43 : ρ137 43 = (.pointer (some ⟨g7, 0, none⟩)) := (hkw138 43 rfl).trans rfl
    have uw138_44 : ρ137 44 = (.int .u64 r34) := (hkw138 44 rfl).trans rfl
    have uw138_45 : ρ137 45 = (.int .i64 (zag r34)) := (hkw138 45 rfl).trans rfl
    have uw138_46 : ρ137 46 = (.agg #[(.int .i64 F), (.int .i64 (wr ((wr (r27)) + 1))), (.int .i64 0), (.int .i64 (zag r34)), (.int .i64 0), (.int .i64 0), (.int .i64 0)]) := (hkw138 46 rfl).trans rfl
    have uw138_9 : ρ137 9 = (.pointer (some ⟨g42, 0, none⟩)) := (hkw138 9 rfl).trans rfl
    have uw138_47 : ρ137 47 = (.pointer (some ⟨g42, (0 + 3), none⟩)) := (hkw138 47 rfl).trans rfl
    have uw138_48 : ρ137 48 = (.int .i64 (zag r34)) := (hkw138 48 rfl).trans rfl
    have uw138_49 : ρ137 49 = (.pointer (some ⟨g42, (0 + 3), none⟩)) := (hkw138 49 rfl).trans rfl
    have uw138_50 : ρ137 50 = (.int .i64 (zag r34)) := (hkw138 50 rfl).trans rfl
    have uw138_51 : ρ137 51 = (.pointer (some ⟨g42, (0 + 3), none⟩)) := (hkw138 51 rfl).trans rfl
    have uw138_52 : ρ137 52 = (.int .i64 (zag r34)) := (hkw138 52 rfl).trans rfl
    have uw138_53 : ρ137 53 = (.pointer (some ⟨g42, (0 + 3), none⟩)) := (hkw138 53 rfl).trans rfl
    have uw138_54 : ρ137 54 = (.int .i64 (zag r34)) := (hkw138 54 rfl).trans rfl
    have uw138_55 : ρ137 55 = (.pointer (some ⟨g42, (0 + 2), none⟩)) := (hkw138 55 rfl).trans rfl
    have uw138_56 : ρ137 56 = (.pointer (some ⟨g42, (0 + 4), none⟩)) := (hkw138 56 rfl).trans rfl
    have uw138_57 : ρ137 57 = (.pointer (some ⟨g42, (0 + 5), none⟩)) := (hkw138 57 rfl).trans rfl
    have uw138_58 : ρ137 58 = (.pointer (some ⟨g42, (0 + 6), none⟩)) := (hkw138 58 rfl).trans rfl
    have uw138_59 : ρ137 59 = (.pointer (some ⟨g42, (0 + 1), none⟩)) := (hkw138 59 rfl).trans rfl
    have uw138_60 : ρ137 60 = (.int .i64 (wr ((wr (r27)) + 1))) := (hkw138 60 rfl).trans rfl
    have uw138_61 : ρ137 61 = (.bool (!decide ((wr ((wr (r27)) + 1)) = 1))) := (hkw138 61 rfl).trans rfl
    refine then_n ?_
    refine cE_seq ?_
    refine cE_region rfl ?_
    refine s_cons (op_move (.pointer (some ⟨g7, 0, none⟩)) uw138_6 ?_)
    replace hst : St w0 w138 [.blk g7 59 #[v_b, (.int .i64 ((get b r35).2.1)), (.bool (rbad r36 b r35))], .blk g42 71 #[(.int .i64 F), (.int .i64 (wr ((wr (r27)) + 1))), (.int .i64 (zag r34)), (.int .i64 (zag r34)), (.int .i64 (wr (((((zag r34) % 18446744073709551616) + (get b r35).1) % 18446744073709551616)))), (.int .i64 (zag r34)), (.int .i64 (zag r34))], rowT 71 aggE vo out] := hst.front 1 rfl
    refine s_cons (op_call Try.call28 (evs_cons (v := (.pointer (some ⟨g7, 0, none⟩))) rfl evs_nil) (c_kNextE (g_r := g7) (v_b := v_b) (b := b) (h_b := h_b) (at_ := (get b r35).2.1) (bad := (rbad r36 b r35)) (hl := hl) (hst := hst)) ?_)
    rintro _ w145 ⟨r139, r140, r141, rfl, hcall, x142, x143, x144⟩
    refine ⟨_, rfl, ?_⟩
    have hst : St w0 w145 [.blk g7 59 #[v_b, (.int .i64 r140), (.bool r141)], .blk g42 71 #[(.int .i64 F), (.int .i64 (wr ((wr (r27)) + 1))), (.int .i64 (zag r34)), (.int .i64 (zag r34)), (.int .i64 (wr (((((zag r34) % 18446744073709551616) + (get b r35).1) % 18446744073709551616)))), (.int .i64 (zag r34)), (.int .i64 (zag r34))], rowT 71 aggE vo out] := hcall
    refine s_cons (op_call Try.call29 (evs_cons (v := (.int .u64 r139)) rfl evs_nil) (c_Zag (w0 := w145) (n := r139) (h0 := (gnE (by assumption)).1) (h1 := (gnE (by assumption)).2)) ?_)
    rintro _ w146 ⟨rfl, hcall⟩
    refine ⟨_, rfl, ?_⟩
    have hst : St w0 w146 [.blk g7 59 #[v_b, (.int .i64 r140), (.bool r141)], .blk g42 71 #[(.int .i64 F), (.int .i64 (wr ((wr (r27)) + 1))), (.int .i64 (zag r34)), (.int .i64 (zag r34)), (.int .i64 (wr (((((zag r34) % 18446744073709551616) + (get b r35).1) % 18446744073709551616)))), (.int .i64 (zag r34)), (.int .i64 (zag r34))], rowT 71 aggE vo out] := hst.call hcall
    refine s_cons (op_fieldAddr (s := 0) Try.underlying71 rfl rfl Try.sizeOf2 uw138_9 ?_)
    refine s_cons0 (op_store1 hst 1 rfl Try.sizeOf2 rfl rfl rfl (show 2 < 7 from by decide) (fun w147 hst => ?_))
    replace hst : St w0 w147 [.blk g7 59 #[v_b, (.int .i64 r140), (.bool r141)], .blk g42 71 #[(.int .i64 F), (.int .i64 (wr ((wr (r27)) + 1))), (.int .i64 (zag r139)), (.int .i64 (zag r34)), (.int .i64 (wr (((((zag r34) % 18446744073709551616) + (get b r35).1) % 18446744073709551616)))), (.int .i64 (zag r34)), (.int .i64 (zag r34))], rowT 71 aggE vo out] := hst
    refine s_nil ?_
    refine then_n ?_
    refine cE_seq ?_
    have hM150 : stabML [4, 8] [(kEq (.pointer (some ⟨g42, (0 + 3), none⟩))), (kEq (.int .i64 (zag r34))), (kEq (.int .u64 ((zag r34) % 18446744073709551616))), (kEq (.pointer (some ⟨g7, 0, none⟩))), (kEq (.int .u64 ((get b r140).1))), (kEq (.int .u64 ((((zag r34) % 18446744073709551616) + (get b r140).1) % 18446744073709551616))), (kEq (.int .i64 (wr (((((zag r34) % 18446744073709551616) + (get b r140).1) % 18446744073709551616))))), (kEq (.pointer (some ⟨g42, (0 + 5), none⟩))), kAny] := ⟨mEq, mEq, mEq, mEq, mEq, mEq, mEq, mEq, mAny, trivial⟩
    refine cE_regionK (fun (D : Nat → Bool) (w : World) => St w0 w [rowT 71 aggE vo out] ∧ (D 4 = false → St w0 w [.blk g7 59 #[v_b, (.int .i64 r140), (.bool r141)], .blk g42 71 #[(.int .i64 F), (.int .i64 (wr ((wr (r27)) + 1))), (.int .i64 (zag r139)), (.int .i64 (zag r34)), (.int .i64 (wr (((((zag r34) % 18446744073709551616) + (get b r35).1) % 18446744073709551616)))), (.int .i64 (zag r34)), (.int .i64 (zag r34))], rowT 71 aggE vo out]) ∧ (D 4 = true → D 8 = false → St w0 w [.blk g7 59 #[v_b, (.int .i64 ((get b r140).2.1)), (.bool (rbad r141 b r140))], .blk g42 71 #[(.int .i64 F), (.int .i64 (wr ((wr (r27)) + 1))), (.int .i64 (zag r139)), (.int .i64 (zag r34)), (.int .i64 (wr (((((zag r34) % 18446744073709551616) + (get b r35).1) % 18446744073709551616)))), (.int .i64 (zag r34)), (.int .i64 (zag r34))], rowT 71 aggE vo out]) ∧ (D 8 = true → St w0 w [.blk g7 59 #[v_b, (.int .i64 ((get b r140).2.1)), (.bool (rbad r141 b r140))], .blk g42 71 #[(.int .i64 F), (.int .i64 (wr ((wr (r27)) + 1))), (.int .i64 (zag r139)), (.int .i64 (zag r34)), (.int .i64 (wr (((((zag r34) % 18446744073709551616) + (get b r35).1) % 18446744073709551616)))), (.int .i64 (wr (((((zag r34) % 18446744073709551616) + (get b r140).1) % 18446744073709551616)))), (.int .i64 (zag r34))], rowT 71 aggE vo out])) [[(9, none)], [(74, some 0)], [(75, some 1)], [(6, none)], [(77, some 3)], [(76, some 2), (78, some 4)], [(79, some 5)], [(9, none)], [(81, some 7), (80, some 6)]] (RofK [(kEq (.pointer (some ⟨g42, (0 + 3), none⟩))), (kEq (.int .i64 (zag r34))), (kEq (.int .u64 ((zag r34) % 18446744073709551616))), (kEq (.pointer (some ⟨g7, 0, none⟩))), (kEq (.int .u64 ((get b r140).1))), (kEq (.int .u64 ((((zag r34) % 18446744073709551616) + (get b r140).1) % 18446744073709551616))), (kEq (.int .i64 (wr (((((zag r34) % 18446744073709551616) + (get b r140).1) % 18446744073709551616))))), (kEq (.pointer (some ⟨g42, (0 + 5), none⟩))), kAny]) (by kernel_rfl) rfl (by kernel_rfl) ⟨hst.drewW.sub (.cons _ (.cons _ (.cons_cons _ .slnil))), (fun _ => hst.drewW), (fun h => absurd h Bool.false_ne_true), (fun h => absurd h Bool.false_ne_true)⟩ ⟨?_, ?_, ?_, ?_, ?_, ?_, ?_, ?_, ?_, trivial⟩ ?_
    · rintro D152 ρ153 w154 hD155 hE156 hC157 hJ158 hA159 ⟨f9, _⟩
      have hst := hJ158.1
      exact go_plain (op_fieldAddr (s := 0) Try.underlying71 rfl rfl Try.sizeOf2 (f9.trans uw138_9) (kN0 (i := 0) hM150 (by decide) (by exact hJ158) (by exact rfl)))
    · rintro D160 ρ161 w162 hD163 hE164 hC165 hJ166 hA167 ⟨f74, _⟩
      rcases Bool.eq_false_or_eq_true (D160 4) with hY168 | hY168
      · have hst := hJ166.2.2.1 hY168 (not_yet hD163 (fun hm => (hC165 8 1 hm (by kernel_rfl))))
        replace hst : St w0 w162 [.blk g7 59 #[v_b, (.int .i64 ((get b r140).2.1)), (.bool (rbad r141 b r140))], .blk g42 71 #[(.int .i64 F), (.int .i64 (wr ((wr (r27)) + 1))), (.int .i64 (zag r139)), (.int .i64 (zag r34)), (.int .i64 (wr (((((zag r34) % 18446744073709551616) + (get b r35).1) % 18446744073709551616)))), (.int .i64 (zag r34)), (.int .i64 (zag r34))], rowT 71 aggE vo out] := hst
        exact go_plain (op_load1 (u := (.int .i64 (zag r34))) Try.isAgg2 f74 ((hst.cell 1 rfl).drop 3) (kN0 (i := 1) hM150 (by decide) (by exact hJ166) (by exact rfl)))
      · have hst := hJ166.2.1 hY168
        replace hst : St w0 w162 [.blk g7 59 #[v_b, (.int .i64 r140), (.bool r141)], .blk g42 71 #[(.int .i64 F), (.int .i64 (wr ((wr (r27)) + 1))), (.int .i64 (zag r139)), (.int .i64 (zag r34)), (.int .i64 (wr (((((zag r34) % 18446744073709551616) + (get b r35).1) % 18446744073709551616)))), (.int .i64 (zag r34)), (.int .i64 (zag r34))], rowT 71 aggE vo out] := hst
        exact go_plain (op_load1 (u := (.int .i64 (zag r34))) Try.isAgg2 f74 ((hst.cell 1 rfl).drop 3) (kN0 (i := 1) hM150 (by decide) (by exact hJ166) (by exact rfl)))
    · rintro D169 ρ170 w171 hD172 hE173 hC174 hJ175 hA176 ⟨f75, _⟩
      have hst := hJ175.1
      exact go_plain (op_conv (k := .i64) (a := (zag r34)) ((zag r34) % 18446744073709551616) Try.underlying54 (by rw [Try.underlying2]; rfl) f75 (IntKind.wrap_u64 _) (kN0 (i := 2) hM150 (by decide) (by exact hJ175) (by exact rfl)))
    · rintro D177 ρ178 w179 hD180 hE181 hC182 hJ183 hA184 ⟨f6, _⟩
      have hst := hJ183.2.1 (not_yet hD180 (fun hm => (hC182 4 3 hm (by kernel_rfl))))
      replace hst : St w0 w179 [.blk g7 59 #[v_b, (.int .i64 r140), (.bool r141)], .blk g42 71 #[(.int .i64 F), (.int .i64 (wr ((wr (r27)) + 1))), (.int .i64 (zag r139)), (.int .i64 (zag r34)), (.int .i64 (wr (((((zag r34) % 18446744073709551616) + (get b r35).1) % 18446744073709551616)))), (.int .i64 (zag r34)), (.int .i64 (zag r34))], rowT 71 aggE vo out] := hst
      exact go_plain (op_move (.pointer (some ⟨g7, 0, none⟩)) (f6.trans uw138_6) (kN0 (i := 3) hM150 (by decide) (by exact hJ183) (by exact rfl)))
    · rintro D185 ρ186 w187 hD188 hE189 hC190 hJ191 hA192 ⟨f77, _⟩
      have hst := hJ191.2.1 hD188
      replace hst : St w0 w187 [.blk g7 59 #[v_b, (.int .i64 r140), (.bool r141)], .blk g42 71 #[(.int .i64 F), (.int .i64 (wr ((wr (r27)) + 1))), (.int .i64 (zag r139)), (.int .i64 (zag r34)), (.int .i64 (wr (((((zag r34) % 18446744073709551616) + (get b r35).1) % 18446744073709551616)))), (.int .i64 (zag r34)), (.int .i64 (zag r34))], rowT 71 aggE vo out] := hst
      refine go_plain (op_call Try.call28 (evs_cons (v := (.pointer (some ⟨g7, 0, none⟩))) f77 evs_nil) (c_kNext (g_r := g7) (v_b := v_b) (b := b) (h_b := h_b) (at_ := r140) (bad := r141) (hl := hl) (hst := hst)) ?_)
      rintro _ w193 ⟨rfl, hcall⟩
      refine ⟨_, rfl, ?_⟩
      have hst : St w0 w193 [.blk g7 59 #[v_b, (.int .i64 ((get b r140).2.1)), (.bool (rbad r141 b r140))], .blk g42 71 #[(.int .i64 F), (.int .i64 (wr ((wr (r27)) + 1))), (.int .i64 (zag r139)), (.int .i64 (zag r34)), (.int .i64 (wr (((((zag r34) % 18446744073709551616) + (get b r35).1) % 18446744073709551616)))), (.int .i64 (zag r34)), (.int .i64 (zag r34))], rowT 71 aggE vo out] := hcall
      have hI194 : stabIXs 4 [] D185 0 [(kEq (.pointer (some ⟨g42, (0 + 3), none⟩))), (kEq (.int .i64 (zag r34))), (kEq (.int .u64 ((zag r34) % 18446744073709551616))), (kEq (.pointer (some ⟨g7, 0, none⟩))), (kEq (.int .u64 ((get b r140).1))), (kEq (.int .u64 ((((zag r34) % 18446744073709551616) + (get b r140).1) % 18446744073709551616))), (kEq (.int .i64 (wr (((((zag r34) % 18446744073709551616) + (get b r140).1) % 18446744073709551616))))), (kEq (.pointer (some ⟨g42, (0 + 5), none⟩))), kAny] := ⟨Or.inr (Or.inr (Or.inr iEq)), Or.inr (Or.inr (Or.inr iEq)), Or.inr (Or.inr (Or.inr iEq)), Or.inr (Or.inr (Or.inr iEq)), Or.inl rfl, Or.inr (Or.inr (Or.inl (not_yet hD188 (fun hm => (hC190 5 4 hm (by kernel_rfl)))))), Or.inr (Or.inr (Or.inl (not_yet hD188 (fun hm => (hC190 5 4 (hC190 6 5 hm (by kernel_rfl)) (by kernel_rfl)))))), Or.inr (Or.inr (Or.inl (not_yet hD188 (fun hm => (hC190 7 4 hm (by kernel_rfl)))))), Or.inr (Or.inr (Or.inl (not_yet hD188 (fun hm => (hC190 8 4 hm (by kernel_rfl)))))), trivial⟩
      refine ⟨by exact ⟨hst.sub (.cons _ (.cons _ (.cons_cons _ .slnil))), (fun y0 => absurd y0 (fun h => Bool.noConfusion h)), (fun y0 y1 => hst.sub (.cons_cons _ (.cons_cons _ (.cons_cons _ .slnil)))), (fun y0 => absurd (show D185 8 = true from y0) (by rw [(not_yet hD188 (fun hm => (hC190 8 4 hm (by kernel_rfl))))]; decide))⟩, by exact rfl, kX [] hI194 ?_⟩
      intro j d hj; cases hj
    · rintro D195 ρ196 w197 hD198 hE199 hC200 hJ201 hA202 ⟨f76, f78, _⟩
      have hst := hJ201.2.2.1 (hE199 4 (by kernel_rfl)) (not_yet hD198 (fun hm => (hC200 8 5 hm (by kernel_rfl))))
      replace hst : St w0 w197 [.blk g7 59 #[v_b, (.int .i64 ((get b r140).2.1)), (.bool (rbad r141 b r140))], .blk g42 71 #[(.int .i64 F), (.int .i64 (wr ((wr (r27)) + 1))), (.int .i64 (zag r139)), (.int .i64 (zag r34)), (.int .i64 (wr (((((zag r34) % 18446744073709551616) + (get b r35).1) % 18446744073709551616)))), (.int .i64 (zag r34)), (.int .i64 (zag r34))], rowT 71 aggE vo out] := hst
      exact go_plain (op_add (k := .u64) (a := ((zag r34) % 18446744073709551616)) (b := (get b r140).1) ((((zag r34) % 18446744073709551616) + (get b r140).1) % 18446744073709551616) f76 f78 (IntKind.wrap_u64 _) (kN0 (i := 5) hM150 (by decide) (by exact hJ201) (by exact rfl)))
    · rintro D203 ρ204 w205 hD206 hE207 hC208 hJ209 hA210 ⟨f79, _⟩
      have hst := hJ209.2.2.1 (hC208 5 4 (hE207 5 (by kernel_rfl)) (by kernel_rfl)) (not_yet hD206 (fun hm => (hC208 8 6 hm (by kernel_rfl))))
      replace hst : St w0 w205 [.blk g7 59 #[v_b, (.int .i64 ((get b r140).2.1)), (.bool (rbad r141 b r140))], .blk g42 71 #[(.int .i64 F), (.int .i64 (wr ((wr (r27)) + 1))), (.int .i64 (zag r139)), (.int .i64 (zag r34)), (.int .i64 (wr (((((zag r34) % 18446744073709551616) + (get b r35).1) % 18446744073709551616)))), (.int .i64 (zag r34)), (.int .i64 (zag r34))], rowT 71 aggE vo out] := hst
      exact go_plain (op_conv (k := .u64) (a := ((((zag r34) % 18446744073709551616) + (get b r140).1) % 18446744073709551616)) (wr (((((zag r34) % 18446744073709551616) + (get b r140).1) % 18446744073709551616))) Try.underlying2 (by rw [Try.underlying54]; rfl) f79 rfl (kN0 (i := 6) hM150 (by decide) (by exact hJ209) (by exact rfl)))
    · rintro D211 ρ212 w213 hD214 hE215 hC216 hJ217 hA218 ⟨f9, _⟩
      have hst := hJ217.2.2.1 (hE215 4 (by kernel_rfl)) (not_yet hD214 (fun hm => (hC216 8 7 hm (by kernel_rfl))))
      replace hst : St w0 w213 [.blk g7 59 #[v_b, (.int .i64 ((get b r140).2.1)), (.bool (rbad r141 b r140))], .blk g42 71 #[(.int .i64 F), (.int .i64 (wr ((wr (r27)) + 1))), (.int .i64 (zag r139)), (.int .i64 (zag r34)), (.int .i64 (wr (((((zag r34) % 18446744073709551616) + (get b r35).1) % 18446744073709551616)))), (.int .i64 (zag r34)), (.int .i64 (zag r34))], rowT 71 aggE vo out] := hst
      exact go_plain (op_fieldAddr (s := 0) Try.underlying71 rfl rfl Try.sizeOf2 (f9.trans uw138_9) (kN0 (i := 7) hM150 (by decide) (by exact hJ217) (by exact rfl)))
    · rintro D219 ρ220 w221 hD222 hE223 hC224 hJ225 hA226 ⟨f81, f80, _⟩
      have hst := hJ225.2.2.1 (hE223 4 (by kernel_rfl)) hD222
      replace hst : St w0 w221 [.blk g7 59 #[v_b, (.int .i64 ((get b r140).2.1)), (.bool (rbad r141 b r140))], .blk g42 71 #[(.int .i64 F), (.int .i64 (wr ((wr (r27)) + 1))), (.int .i64 (zag r139)), (.int .i64 (zag r34)), (.int .i64 (wr (((((zag r34) % 18446744073709551616) + (get b r35).1) % 18446744073709551616)))), (.int .i64 (zag r34)), (.int .i64 (zag r34))], rowT 71 aggE vo out] := hst
      refine go_plain (op_store1 hst 1 rfl Try.sizeOf2 f81 f80 rfl (show 5 < 7 from by decide) (fun w227 hst => ?_))
      replace hst : St w0 w227 [.blk g7 59 #[v_b, (.int .i64 ((get b r140).2.1)), (.bool (rbad r141 b r140))], .blk g42 71 #[(.int .i64 F), (.int .i64 (wr ((wr (r27)) + 1))), (.int .i64 (zag r139)), (.int .i64 (zag r34)), (.int .i64 (wr (((((zag r34) % 18446744073709551616) + (get b r35).1) % 18446744073709551616)))), (.int .i64 (wr (((((zag r34) % 18446744073709551616) + (get b r140).1) % 18446744073709551616)))), (.int .i64 (zag r34))], rowT 71 aggE vo out] := hst
      have hI228 : stabIXs 8 [] D219 0 [(kEq (.pointer (some ⟨g42, (0 + 3), none⟩))), (kEq (.int .i64 (zag r34))), (kEq (.int .u64 ((zag r34) % 18446744073709551616))), (kEq (.pointer (some ⟨g7, 0, none⟩))), (kEq (.int .u64 ((get b r140).1))), (kEq (.int .u64 ((((zag r34) % 18446744073709551616) + (get b r140).1) % 18446744073709551616))), (kEq (.int .i64 (wr (((((zag r34) % 18446744073709551616) + (get b r140).1) % 18446744073709551616))))), (kEq (.pointer (some ⟨g42, (0 + 5), none⟩))), kAny] := ⟨Or.inr (Or.inr (Or.inr iEq)), Or.inr (Or.inr (Or.inr iEq)), Or.inr (Or.inr (Or.inr iEq)), Or.inr (Or.inr (Or.inr iEq)), Or.inr (Or.inr (Or.inr iEq)), Or.inr (Or.inr (Or.inr iEq)), Or.inr (Or.inr (Or.inr iEq)), Or.inr (Or.inr (Or.inr iEq)), Or.inl rfl, trivial⟩
      refine ⟨by exact ⟨hst.sub (.cons _ (.cons _ (.cons_cons _ .slnil))), (fun y0 => absurd (show D219 4 = false from y0) (by rw [(hE223 4 (by kernel_rfl))]; decide)), (fun y0 y1 => absurd y1 (fun h => Bool.noConfusion h)), (fun y0 => hst.sub (.cons_cons _ (.cons_cons _ (.cons_cons _ .slnil))))⟩, by exact trivial, kX [] hI228 ?_⟩
      intro j d hj; cases hj
    intro ρ229 w230 Dw230 hallw230 hJw230 hRw230 hkw230
    have hst : St w0 w230 [.blk g7 59 #[v_b, (.int .i64 ((get b r140).2.1)), (.bool (rbad r141 b r140))], .blk g42 71 #[(.int .i64 F), (.int .i64 (wr ((wr (r27)) + 1))), (.int .i64 (zag r139)), (.int .i64 (zag r34)), (.int .i64 (wr (((((zag r34) % 18446744073709551616) + (get b r35).1) % 18446744073709551616)))), (.int .i64 (wr (((((zag r34) % 18446744073709551616) + (get b r140).1) % 18446744073709551616)))), (.int .i64 (zag r34))], rowT 71 aggE vo out] := hJw230.2.2.2 (hallw230 8 (show 8 < 9 from by decide))
    have uw230_0 : ρ229 0 = v_b := (hkw230 0 rfl).trans uw138_0
    have uw230_1 : ρ229 1 = (.int .i64 k) := (hkw230 1 rfl).trans uw138_1
    have uw230_4 : ρ229 4 = (.slice none 0 0) := (hkw230 4 rfl).trans uw138_4
    have uw230_5 : ρ229 5 = (.int .i64 0) := (hkw230 5 rfl).trans uw138_5
    have uw230_6 : ρ229 6 = (.pointer (some ⟨g7, 0, none⟩)) := (hkw230 6 rfl).trans uw138_6
    have uw230_22 : ρ229 22 = (.int .i64 (cntV b 0 64)) := (hkw230 22 rfl).trans uw138_22
    have uw230_7 : ρ229 7 = vo := (hkw230 7 rfl).trans uw138_7
    have uw230_8 : ρ229 8 = (.int .i64 (wr ((wr (at_ + 1)) + (wr (r19))))) := (hkw230 8 rfl).trans uw138_8
    have uw230_23 : ρ229 23 = (.int .i64 (i : Int)) := (hkw230 23 rfl).trans uw138_23
    have uw230_24 : ρ229 24 = (.bool (decide ((i : Int) < (cntV b 0 64)))) := (hkw230 24 rfl).trans uw138_24
    have uw230_25 : ρ229 25 = (.pointer (some ⟨g7, 0, none⟩)) := (hkw230 25 rfl).trans uw138_25
    have uw230_26 : ρ229 26 = (.pointer (some ⟨g7, 0, none⟩)) := (hkw230 26 rfl).trans uw138_26
    have uw230_27 : ρ229 27 = (.pointer (some ⟨g7, (0 + 2), none⟩)) := (hkw230 27 rfl).trans uw138_27
    have uw230_28 : ρ229 28 = (.bool bad) := (hkw230 28 rfl).trans uw138_28
    have uw230_29 : ρ229 29 = (.int .i64 at_) := (hkw230 29 rfl).trans uw138_29
    have uw230_30 : ρ229 30 = (.int .i64 (wr (at_ + 1))) := (hkw230 30 rfl).trans uw138_30
    have uw230_31 : ρ229 31 = (.pointer (some ⟨g7, 0, none⟩)) := (hkw230 31 rfl).trans uw138_31
    have uw230_32 : ρ229 32 = (.int .u64 r19) := (hkw230 32 rfl).trans uw138_32
    have uw230_33 : ρ229 33 = (.int .i64 (wr (r19))) := (hkw230 33 rfl).trans uw138_33
    have uw230_34 : ρ229 34 = (.int .i64 (wr ((wr (at_ + 1)) + (wr (r19))))) := (hkw230 34 rfl).trans uw138_34
    have uw230_35 : ρ229 35 = (.int .i64 (wr ((wr (at_ + 1)) + (wr (r19))))) := (hkw230 35 rfl).trans uw138_35
    have uw230_36 : ρ229 36 = (.int .i64 k) := (hkw230 36 rfl).trans uw138_36
    have uw230_37 : ρ229 37 = (.int .i64 (widthA k)) := (hkw230 37 rfl).trans uw138_37
    have uw230_38 : ρ229 38 = (.int .i64 F) := (hkw230 38 rfl).trans uw138_38
    have uw230_39 : ρ229 39 = (.pointer (some ⟨g7, 0, none⟩)) := (hkw230 39 rfl).trans uw138_39
    have uw230_40 : ρ229 40 = (.int .u64 r27) := (hkw230 40 rfl).trans uw138_40
    have uw230_41 : ρ229 41 = (.int .i64 (wr (r27))) := (hkw230 41 rfl).trans uw138_41
    have uw230_42 : ρ229 42 = (.int .i64 (wr ((wr (r27)) + 1))) := (hkw230 42 rfl).trans uw138_42
    have uw230_43 : ρ229 43 = (.pointer (some ⟨g7, 0, none⟩)) := (hkw230 43 rfl).trans uw138_43
    have uw230_44 : ρ229 44 = (.int .u64 r34) := (hkw230 44 rfl).trans uw138_44
    have uw230_45 : ρ229 45 = (.int .i64 (zag r34)) := (hkw230 45 rfl).trans uw138_45
    have uw230_46 : ρ229 46 = (.agg #[(.int .i64 F), (.int .i64 (wr ((wr (r27)) + 1))), (.int .i64 0), (.int .i64 (zag r34)), (.int .i64 0), (.int .i64 0), (.int .i64 0)]) := (hkw230 46 rfl).trans uw138_46
    have uw230_9 : ρ229 9 = (.pointer (some ⟨g42, 0, none⟩)) := (hkw230 9 rfl).trans uw138_9
    have uw230_47 : ρ229 47 = (.pointer (some ⟨g42, (0 + 3), none⟩)) := (hkw230 47 rfl).trans uw138_47
    have uw230_48 : ρ229 48 = (.int .i64 (zag r34)) := (hkw230 48 rfl).trans uw138_48
    have uw230_49 : ρ229 49 = (.pointer (some ⟨g42, (0 + 3), none⟩)) := (hkw230 49 rfl).trans uw138_49
    have uw230_50 : ρ229 50 = (.int .i64 (zag r34)) := (hkw230 50 rfl).trans uw138_50
    have uw230_51 : ρ229 51 = (.pointer (some ⟨g42, (0 + 3), none⟩)) := (hkw230 51 rfl).trans uw138_51
    have uw230_52 : ρ229 52 = (.int .i64 (zag r34)) := (hkw230 52 rfl).trans uw138_52
    have uw230_53 : ρ229 53 = (.pointer (some ⟨g42, (0 + 3), none⟩)) := (hkw230 53 rfl).trans uw138_53
    have uw230_54 : ρ229 54 = (.int .i64 (zag r34)) := (hkw230 54 rfl).trans uw138_54
    have uw230_55 : ρ229 55 = (.pointer (some ⟨g42, (0 + 2), none⟩)) := (hkw230 55 rfl).trans uw138_55
    have uw230_56 : ρ229 56 = (.pointer (some ⟨g42, (0 + 4), none⟩)) := (hkw230 56 rfl).trans uw138_56
    have uw230_57 : ρ229 57 = (.pointer (some ⟨g42, (0 + 5), none⟩)) := (hkw230 57 rfl).trans uw138_57
    have uw230_58 : ρ229 58 = (.pointer (some ⟨g42, (0 + 6), none⟩)) := (hkw230 58 rfl).trans uw138_58
    have uw230_59 : ρ229 59 = (.pointer (some ⟨g42, (0 + 1), none⟩)) := (hkw230 59 rfl).trans uw138_59
    have uw230_60 : ρ229 60 = (.int .i64 (wr ((wr (r27)) + 1))) := (hkw230 60 rfl).trans uw138_60
    have uw230_61 : ρ229 61 = (.bool (!decide ((wr ((wr (r27)) + 1)) = 1))) := (hkw230 61 rfl).trans uw138_61
    have uw230_70 : ρ229 70 = (.pointer (some ⟨g7, 0, none⟩)) := (hkw230 70 rfl).trans rfl
    have uw230_71 : ρ229 71 = (.int .u64 r139) := (hkw230 71 rfl).trans rfl
    have uw230_72 : ρ229 72 = (.int .i64 (zag r139)) := (hkw230 72 rfl).trans rfl
    have uw230_73 : ρ229 73 = (.pointer (some ⟨g42, (0 + 2), none⟩)) := (hkw230 73 rfl).trans rfl
    refine then_n ?_
    have hM233 : stabML [4, 8] [(kEq (.pointer (some ⟨g42, (0 + 3), none⟩))), (kEq (.int .i64 (zag r34))), (kEq (.int .u64 ((zag r34) % 18446744073709551616))), (kEq (.pointer (some ⟨g7, 0, none⟩))), (kEq (.int .u64 ((get b ((get b r140).2.1)).1))), (kEq (.int .u64 ((((zag r34) % 18446744073709551616) + (get b ((get b r140).2.1)).1) % 18446744073709551616))), (kEq (.int .i64 (wr (((((zag r34) % 18446744073709551616) + (get b ((get b r140).2.1)).1) % 18446744073709551616))))), (kEq (.pointer (some ⟨g42, (0 + 6), none⟩))), kAny] := ⟨mEq, mEq, mEq, mEq, mEq, mEq, mEq, mEq, mAny, trivial⟩
    refine cE_regionK (fun (D : Nat → Bool) (w : World) => St w0 w [rowT 71 aggE vo out] ∧ (D 4 = false → St w0 w [.blk g7 59 #[v_b, (.int .i64 ((get b r140).2.1)), (.bool (rbad r141 b r140))], .blk g42 71 #[(.int .i64 F), (.int .i64 (wr ((wr (r27)) + 1))), (.int .i64 (zag r139)), (.int .i64 (zag r34)), (.int .i64 (wr (((((zag r34) % 18446744073709551616) + (get b r35).1) % 18446744073709551616)))), (.int .i64 (wr (((((zag r34) % 18446744073709551616) + (get b r140).1) % 18446744073709551616)))), (.int .i64 (zag r34))], rowT 71 aggE vo out]) ∧ (D 4 = true → D 8 = false → St w0 w [.blk g7 59 #[v_b, (.int .i64 ((get b ((get b r140).2.1)).2.1)), (.bool (rbad (rbad r141 b r140) b ((get b r140).2.1)))], .blk g42 71 #[(.int .i64 F), (.int .i64 (wr ((wr (r27)) + 1))), (.int .i64 (zag r139)), (.int .i64 (zag r34)), (.int .i64 (wr (((((zag r34) % 18446744073709551616) + (get b r35).1) % 18446744073709551616)))), (.int .i64 (wr (((((zag r34) % 18446744073709551616) + (get b r140).1) % 18446744073709551616)))), (.int .i64 (zag r34))], rowT 71 aggE vo out]) ∧ (D 8 = true → St w0 w [.blk g7 59 #[v_b, (.int .i64 ((get b ((get b r140).2.1)).2.1)), (.bool (rbad (rbad r141 b r140) b ((get b r140).2.1)))], .blk g42 71 #[(.int .i64 F), (.int .i64 (wr ((wr (r27)) + 1))), (.int .i64 (zag r139)), (.int .i64 (zag r34)), (.int .i64 (wr (((((zag r34) % 18446744073709551616) + (get b r35).1) % 18446744073709551616)))), (.int .i64 (wr (((((zag r34) % 18446744073709551616) + (get b r140).1) % 18446744073709551616)))), (.int .i64 (wr (((((zag r34) % 18446744073709551616) + (get b ((get b r140).2.1)).1) % 18446744073709551616))))], rowT 71 aggE vo out])) [[(9, none)], [(82, some 0)], [(83, some 1)], [(6, none)], [(85, some 3)], [(84, some 2), (86, some 4)], [(87, some 5)], [(9, none)], [(89, some 7), (88, some 6)]] (RofK [(kEq (.pointer (some ⟨g42, (0 + 3), none⟩))), (kEq (.int .i64 (zag r34))), (kEq (.int .u64 ((zag r34) % 18446744073709551616))), (kEq (.pointer (some ⟨g7, 0, none⟩))), (kEq (.int .u64 ((get b ((get b r140).2.1)).1))), (kEq (.int .u64 ((((zag r34) % 18446744073709551616) + (get b ((get b r140).2.1)).1) % 18446744073709551616))), (kEq (.int .i64 (wr (((((zag r34) % 18446744073709551616) + (get b ((get b r140).2.1)).1) % 18446744073709551616))))), (kEq (.pointer (some ⟨g42, (0 + 6), none⟩))), kAny]) (by kernel_rfl) rfl (by kernel_rfl) ⟨hst.drewW.sub (.cons _ (.cons _ (.cons_cons _ .slnil))), (fun _ => hst.drewW), (fun h => absurd h Bool.false_ne_true), (fun h => absurd h Bool.false_ne_true)⟩ ⟨?_, ?_, ?_, ?_, ?_, ?_, ?_, ?_, ?_, trivial⟩ ?_
    · rintro D235 ρ236 w237 hD238 hE239 hC240 hJ241 hA242 ⟨f9, _⟩
      have hst := hJ241.1
      exact go_plain (op_fieldAddr (s := 0) Try.underlying71 rfl rfl Try.sizeOf2 (f9.trans uw230_9) (kN0 (i := 0) hM233 (by decide) (by exact hJ241) (by exact rfl)))
    · rintro D243 ρ244 w245 hD246 hE247 hC248 hJ249 hA250 ⟨f82, _⟩
      rcases Bool.eq_false_or_eq_true (D243 4) with hY251 | hY251
      · have hst := hJ249.2.2.1 hY251 (not_yet hD246 (fun hm => (hC248 8 1 hm (by kernel_rfl))))
        replace hst : St w0 w245 [.blk g7 59 #[v_b, (.int .i64 ((get b ((get b r140).2.1)).2.1)), (.bool (rbad (rbad r141 b r140) b ((get b r140).2.1)))], .blk g42 71 #[(.int .i64 F), (.int .i64 (wr ((wr (r27)) + 1))), (.int .i64 (zag r139)), (.int .i64 (zag r34)), (.int .i64 (wr (((((zag r34) % 18446744073709551616) + (get b r35).1) % 18446744073709551616)))), (.int .i64 (wr (((((zag r34) % 18446744073709551616) + (get b r140).1) % 18446744073709551616)))), (.int .i64 (zag r34))], rowT 71 aggE vo out] := hst
        exact go_plain (op_load1 (u := (.int .i64 (zag r34))) Try.isAgg2 f82 ((hst.cell 1 rfl).drop 3) (kN0 (i := 1) hM233 (by decide) (by exact hJ249) (by exact rfl)))
      · have hst := hJ249.2.1 hY251
        replace hst : St w0 w245 [.blk g7 59 #[v_b, (.int .i64 ((get b r140).2.1)), (.bool (rbad r141 b r140))], .blk g42 71 #[(.int .i64 F), (.int .i64 (wr ((wr (r27)) + 1))), (.int .i64 (zag r139)), (.int .i64 (zag r34)), (.int .i64 (wr (((((zag r34) % 18446744073709551616) + (get b r35).1) % 18446744073709551616)))), (.int .i64 (wr (((((zag r34) % 18446744073709551616) + (get b r140).1) % 18446744073709551616)))), (.int .i64 (zag r34))], rowT 71 aggE vo out] := hst
        exact go_plain (op_load1 (u := (.int .i64 (zag r34))) Try.isAgg2 f82 ((hst.cell 1 rfl).drop 3) (kN0 (i := 1) hM233 (by decide) (by exact hJ249) (by exact rfl)))
    · rintro D252 ρ253 w254 hD255 hE256 hC257 hJ258 hA259 ⟨f83, _⟩
      have hst := hJ258.1
      exact go_plain (op_conv (k := .i64) (a := (zag r34)) ((zag r34) % 18446744073709551616) Try.underlying54 (by rw [Try.underlying2]; rfl) f83 (IntKind.wrap_u64 _) (kN0 (i := 2) hM233 (by decide) (by exact hJ258) (by exact rfl)))
    · rintro D260 ρ261 w262 hD263 hE264 hC265 hJ266 hA267 ⟨f6, _⟩
      have hst := hJ266.2.1 (not_yet hD263 (fun hm => (hC265 4 3 hm (by kernel_rfl))))
      replace hst : St w0 w262 [.blk g7 59 #[v_b, (.int .i64 ((get b r140).2.1)), (.bool (rbad r141 b r140))], .blk g42 71 #[(.int .i64 F), (.int .i64 (wr ((wr (r27)) + 1))), (.int .i64 (zag r139)), (.int .i64 (zag r34)), (.int .i64 (wr (((((zag r34) % 18446744073709551616) + (get b r35).1) % 18446744073709551616)))), (.int .i64 (wr (((((zag r34) % 18446744073709551616) + (get b r140).1) % 18446744073709551616)))), (.int .i64 (zag r34))], rowT 71 aggE vo out] := hst
      exact go_plain (op_move (.pointer (some ⟨g7, 0, none⟩)) (f6.trans uw230_6) (kN0 (i := 3) hM233 (by decide) (by exact hJ266) (by exact rfl)))
    · rintro D268 ρ269 w270 hD271 hE272 hC273 hJ274 hA275 ⟨f85, _⟩
      have hst := hJ274.2.1 hD271
      replace hst : St w0 w270 [.blk g7 59 #[v_b, (.int .i64 ((get b r140).2.1)), (.bool (rbad r141 b r140))], .blk g42 71 #[(.int .i64 F), (.int .i64 (wr ((wr (r27)) + 1))), (.int .i64 (zag r139)), (.int .i64 (zag r34)), (.int .i64 (wr (((((zag r34) % 18446744073709551616) + (get b r35).1) % 18446744073709551616)))), (.int .i64 (wr (((((zag r34) % 18446744073709551616) + (get b r140).1) % 18446744073709551616)))), (.int .i64 (zag r34))], rowT 71 aggE vo out] := hst
      refine go_plain (op_call Try.call28 (evs_cons (v := (.pointer (some ⟨g7, 0, none⟩))) f85 evs_nil) (c_kNext (g_r := g7) (v_b := v_b) (b := b) (h_b := h_b) (at_ := (get b r140).2.1) (bad := (rbad r141 b r140)) (hl := hl) (hst := hst)) ?_)
      rintro _ w276 ⟨rfl, hcall⟩
      refine ⟨_, rfl, ?_⟩
      have hst : St w0 w276 [.blk g7 59 #[v_b, (.int .i64 ((get b ((get b r140).2.1)).2.1)), (.bool (rbad (rbad r141 b r140) b ((get b r140).2.1)))], .blk g42 71 #[(.int .i64 F), (.int .i64 (wr ((wr (r27)) + 1))), (.int .i64 (zag r139)), (.int .i64 (zag r34)), (.int .i64 (wr (((((zag r34) % 18446744073709551616) + (get b r35).1) % 18446744073709551616)))), (.int .i64 (wr (((((zag r34) % 18446744073709551616) + (get b r140).1) % 18446744073709551616)))), (.int .i64 (zag r34))], rowT 71 aggE vo out] := hcall
      have hI277 : stabIXs 4 [] D268 0 [(kEq (.pointer (some ⟨g42, (0 + 3), none⟩))), (kEq (.int .i64 (zag r34))), (kEq (.int .u64 ((zag r34) % 18446744073709551616))), (kEq (.pointer (some ⟨g7, 0, none⟩))), (kEq (.int .u64 ((get b ((get b r140).2.1)).1))), (kEq (.int .u64 ((((zag r34) % 18446744073709551616) + (get b ((get b r140).2.1)).1) % 18446744073709551616))), (kEq (.int .i64 (wr (((((zag r34) % 18446744073709551616) + (get b ((get b r140).2.1)).1) % 18446744073709551616))))), (kEq (.pointer (some ⟨g42, (0 + 6), none⟩))), kAny] := ⟨Or.inr (Or.inr (Or.inr iEq)), Or.inr (Or.inr (Or.inr iEq)), Or.inr (Or.inr (Or.inr iEq)), Or.inr (Or.inr (Or.inr iEq)), Or.inl rfl, Or.inr (Or.inr (Or.inl (not_yet hD271 (fun hm => (hC273 5 4 hm (by kernel_rfl)))))), Or.inr (Or.inr (Or.inl (not_yet hD271 (fun hm => (hC273 5 4 (hC273 6 5 hm (by kernel_rfl)) (by kernel_rfl)))))), Or.inr (Or.inr (Or.inl (not_yet hD271 (fun hm => (hC273 7 4 hm (by kernel_rfl)))))), Or.inr (Or.inr (Or.inl (not_yet hD271 (fun hm => (hC273 8 4 hm (by kernel_rfl)))))), trivial⟩
      refine ⟨by exact ⟨hst.sub (.cons _ (.cons _ (.cons_cons _ .slnil))), (fun y0 => absurd y0 (fun h => Bool.noConfusion h)), (fun y0 y1 => hst.sub (.cons_cons _ (.cons_cons _ (.cons_cons _ .slnil)))), (fun y0 => absurd (show D268 8 = true from y0) (by rw [(not_yet hD271 (fun hm => (hC273 8 4 hm (by kernel_rfl))))]; decide))⟩, by exact rfl, kX [] hI277 ?_⟩
      intro j d hj; cases hj
    · rintro D278 ρ279 w280 hD281 hE282 hC283 hJ284 hA285 ⟨f84, f86, _⟩
      have hst := hJ284.2.2.1 (hE282 4 (by kernel_rfl)) (not_yet hD281 (fun hm => (hC283 8 5 hm (by kernel_rfl))))
      replace hst : St w0 w280 [.blk g7 59 #[v_b, (.int .i64 ((get b ((get b r140).2.1)).2.1)), (.bool (rbad (rbad r141 b r140) b ((get b r140).2.1)))], .blk g42 71 #[(.int .i64 F), (.int .i64 (wr ((wr (r27)) + 1))), (.int .i64 (zag r139)), (.int .i64 (zag r34)), (.int .i64 (wr (((((zag r34) % 18446744073709551616) + (get b r35).1) % 18446744073709551616)))), (.int .i64 (wr (((((zag r34) % 18446744073709551616) + (get b r140).1) % 18446744073709551616)))), (.int .i64 (zag r34))], rowT 71 aggE vo out] := hst
      exact go_plain (op_add (k := .u64) (a := ((zag r34) % 18446744073709551616)) (b := (get b ((get b r140).2.1)).1) ((((zag r34) % 18446744073709551616) + (get b ((get b r140).2.1)).1) % 18446744073709551616) f84 f86 (IntKind.wrap_u64 _) (kN0 (i := 5) hM233 (by decide) (by exact hJ284) (by exact rfl)))
    · rintro D286 ρ287 w288 hD289 hE290 hC291 hJ292 hA293 ⟨f87, _⟩
      have hst := hJ292.2.2.1 (hC291 5 4 (hE290 5 (by kernel_rfl)) (by kernel_rfl)) (not_yet hD289 (fun hm => (hC291 8 6 hm (by kernel_rfl))))
      replace hst : St w0 w288 [.blk g7 59 #[v_b, (.int .i64 ((get b ((get b r140).2.1)).2.1)), (.bool (rbad (rbad r141 b r140) b ((get b r140).2.1)))], .blk g42 71 #[(.int .i64 F), (.int .i64 (wr ((wr (r27)) + 1))), (.int .i64 (zag r139)), (.int .i64 (zag r34)), (.int .i64 (wr (((((zag r34) % 18446744073709551616) + (get b r35).1) % 18446744073709551616)))), (.int .i64 (wr (((((zag r34) % 18446744073709551616) + (get b r140).1) % 18446744073709551616)))), (.int .i64 (zag r34))], rowT 71 aggE vo out] := hst
      exact go_plain (op_conv (k := .u64) (a := ((((zag r34) % 18446744073709551616) + (get b ((get b r140).2.1)).1) % 18446744073709551616)) (wr (((((zag r34) % 18446744073709551616) + (get b ((get b r140).2.1)).1) % 18446744073709551616))) Try.underlying2 (by rw [Try.underlying54]; rfl) f87 rfl (kN0 (i := 6) hM233 (by decide) (by exact hJ292) (by exact rfl)))
    · rintro D294 ρ295 w296 hD297 hE298 hC299 hJ300 hA301 ⟨f9, _⟩
      have hst := hJ300.2.2.1 (hE298 4 (by kernel_rfl)) (not_yet hD297 (fun hm => (hC299 8 7 hm (by kernel_rfl))))
      replace hst : St w0 w296 [.blk g7 59 #[v_b, (.int .i64 ((get b ((get b r140).2.1)).2.1)), (.bool (rbad (rbad r141 b r140) b ((get b r140).2.1)))], .blk g42 71 #[(.int .i64 F), (.int .i64 (wr ((wr (r27)) + 1))), (.int .i64 (zag r139)), (.int .i64 (zag r34)), (.int .i64 (wr (((((zag r34) % 18446744073709551616) + (get b r35).1) % 18446744073709551616)))), (.int .i64 (wr (((((zag r34) % 18446744073709551616) + (get b r140).1) % 18446744073709551616)))), (.int .i64 (zag r34))], rowT 71 aggE vo out] := hst
      exact go_plain (op_fieldAddr (s := 0) Try.underlying71 rfl rfl Try.sizeOf2 (f9.trans uw230_9) (kN0 (i := 7) hM233 (by decide) (by exact hJ300) (by exact rfl)))
    · rintro D302 ρ303 w304 hD305 hE306 hC307 hJ308 hA309 ⟨f89, f88, _⟩
      have hst := hJ308.2.2.1 (hE306 4 (by kernel_rfl)) hD305
      replace hst : St w0 w304 [.blk g7 59 #[v_b, (.int .i64 ((get b ((get b r140).2.1)).2.1)), (.bool (rbad (rbad r141 b r140) b ((get b r140).2.1)))], .blk g42 71 #[(.int .i64 F), (.int .i64 (wr ((wr (r27)) + 1))), (.int .i64 (zag r139)), (.int .i64 (zag r34)), (.int .i64 (wr (((((zag r34) % 18446744073709551616) + (get b r35).1) % 18446744073709551616)))), (.int .i64 (wr (((((zag r34) % 18446744073709551616) + (get b r140).1) % 18446744073709551616)))), (.int .i64 (zag r34))], rowT 71 aggE vo out] := hst
      refine go_plain (op_store1 hst 1 rfl Try.sizeOf2 f89 f88 rfl (show 6 < 7 from by decide) (fun w310 hst => ?_))
      replace hst : St w0 w310 [.blk g7 59 #[v_b, (.int .i64 ((get b ((get b r140).2.1)).2.1)), (.bool (rbad (rbad r141 b r140) b ((get b r140).2.1)))], .blk g42 71 #[(.int .i64 F), (.int .i64 (wr ((wr (r27)) + 1))), (.int .i64 (zag r139)), (.int .i64 (zag r34)), (.int .i64 (wr (((((zag r34) % 18446744073709551616) + (get b r35).1) % 18446744073709551616)))), (.int .i64 (wr (((((zag r34) % 18446744073709551616) + (get b r140).1) % 18446744073709551616)))), (.int .i64 (wr (((((zag r34) % 18446744073709551616) + (get b ((get b r140).2.1)).1) % 18446744073709551616))))], rowT 71 aggE vo out] := hst
      have hI311 : stabIXs 8 [] D302 0 [(kEq (.pointer (some ⟨g42, (0 + 3), none⟩))), (kEq (.int .i64 (zag r34))), (kEq (.int .u64 ((zag r34) % 18446744073709551616))), (kEq (.pointer (some ⟨g7, 0, none⟩))), (kEq (.int .u64 ((get b ((get b r140).2.1)).1))), (kEq (.int .u64 ((((zag r34) % 18446744073709551616) + (get b ((get b r140).2.1)).1) % 18446744073709551616))), (kEq (.int .i64 (wr (((((zag r34) % 18446744073709551616) + (get b ((get b r140).2.1)).1) % 18446744073709551616))))), (kEq (.pointer (some ⟨g42, (0 + 6), none⟩))), kAny] := ⟨Or.inr (Or.inr (Or.inr iEq)), Or.inr (Or.inr (Or.inr iEq)), Or.inr (Or.inr (Or.inr iEq)), Or.inr (Or.inr (Or.inr iEq)), Or.inr (Or.inr (Or.inr iEq)), Or.inr (Or.inr (Or.inr iEq)), Or.inr (Or.inr (Or.inr iEq)), Or.inr (Or.inr (Or.inr iEq)), Or.inl rfl, trivial⟩
      refine ⟨by exact ⟨hst.sub (.cons _ (.cons _ (.cons_cons _ .slnil))), (fun y0 => absurd (show D302 4 = false from y0) (by rw [(hE306 4 (by kernel_rfl))]; decide)), (fun y0 y1 => absurd y1 (fun h => Bool.noConfusion h)), (fun y0 => hst.sub (.cons_cons _ (.cons_cons _ (.cons_cons _ .slnil))))⟩, by exact trivial, kX [] hI311 ?_⟩
      intro j d hj; cases hj
    intro ρ312 w313 Dw313 hallw313 hJw313 hRw313 hkw313
    have hst : St w0 w313 [.blk g7 59 #[v_b, (.int .i64 ((get b ((get b r140).2.1)).2.1)), (.bool (rbad (rbad r141 b r140) b ((get b r140).2.1)))], .blk g42 71 #[(.int .i64 F), (.int .i64 (wr ((wr (r27)) + 1))), (.int .i64 (zag r139)), (.int .i64 (zag r34)), (.int .i64 (wr (((((zag r34) % 18446744073709551616) + (get b r35).1) % 18446744073709551616)))), (.int .i64 (wr (((((zag r34) % 18446744073709551616) + (get b r140).1) % 18446744073709551616)))), (.int .i64 (wr (((((zag r34) % 18446744073709551616) + (get b ((get b r140).2.1)).1) % 18446744073709551616))))], rowT 71 aggE vo out] := hJw313.2.2.2 (hallw313 8 (show 8 < 9 from by decide))
    have uw313_0 : ρ312 0 = v_b := (hkw313 0 rfl).trans uw230_0
    have uw313_1 : ρ312 1 = (.int .i64 k) := (hkw313 1 rfl).trans uw230_1
    have uw313_4 : ρ312 4 = (.slice none 0 0) := (hkw313 4 rfl).trans uw230_4
    have uw313_5 : ρ312 5 = (.int .i64 0) := (hkw313 5 rfl).trans uw230_5
    have uw313_6 : ρ312 6 = (.pointer (some ⟨g7, 0, none⟩)) := (hkw313 6 rfl).trans uw230_6
    have uw313_22 : ρ312 22 = (.int .i64 (cntV b 0 64)) := (hkw313 22 rfl).trans uw230_22
    have uw313_7 : ρ312 7 = vo := (hkw313 7 rfl).trans uw230_7
    have uw313_8 : ρ312 8 = (.int .i64 (wr ((wr (at_ + 1)) + (wr (r19))))) := (hkw313 8 rfl).trans uw230_8
    have uw313_23 : ρ312 23 = (.int .i64 (i : Int)) := (hkw313 23 rfl).trans uw230_23
    have uw313_24 : ρ312 24 = (.bool (decide ((i : Int) < (cntV b 0 64)))) := (hkw313 24 rfl).trans uw230_24
    have uw313_25 : ρ312 25 = (.pointer (some ⟨g7, 0, none⟩)) := (hkw313 25 rfl).trans uw230_25
    have uw313_26 : ρ312 26 = (.pointer (some ⟨g7, 0, none⟩)) := (hkw313 26 rfl).trans uw230_26
    have uw313_27 : ρ312 27 = (.pointer (some ⟨g7, (0 + 2), none⟩)) := (hkw313 27 rfl).trans uw230_27
    have uw313_28 : ρ312 28 = (.bool bad) := (hkw313 28 rfl).trans uw230_28
    have uw313_29 : ρ312 29 = (.int .i64 at_) := (hkw313 29 rfl).trans uw230_29
    have uw313_30 : ρ312 30 = (.int .i64 (wr (at_ + 1))) := (hkw313 30 rfl).trans uw230_30
    have uw313_31 : ρ312 31 = (.pointer (some ⟨g7, 0, none⟩)) := (hkw313 31 rfl).trans uw230_31
    have uw313_32 : ρ312 32 = (.int .u64 r19) := (hkw313 32 rfl).trans uw230_32
    have uw313_33 : ρ312 33 = (.int .i64 (wr (r19))) := (hkw313 33 rfl).trans uw230_33
    have uw313_34 : ρ312 34 = (.int .i64 (wr ((wr (at_ + 1)) + (wr (r19))))) := (hkw313 34 rfl).trans uw230_34
    have uw313_35 : ρ312 35 = (.int .i64 (wr ((wr (at_ + 1)) + (wr (r19))))) := (hkw313 35 rfl).trans uw230_35
    have uw313_36 : ρ312 36 = (.int .i64 k) := (hkw313 36 rfl).trans uw230_36
    have uw313_37 : ρ312 37 = (.int .i64 (widthA k)) := (hkw313 37 rfl).trans uw230_37
    have uw313_38 : ρ312 38 = (.int .i64 F) := (hkw313 38 rfl).trans uw230_38
    have uw313_39 : ρ312 39 = (.pointer (some ⟨g7, 0, none⟩)) := (hkw313 39 rfl).trans uw230_39
    have uw313_40 : ρ312 40 = (.int .u64 r27) := (hkw313 40 rfl).trans uw230_40
    have uw313_41 : ρ312 41 = (.int .i64 (wr (r27))) := (hkw313 41 rfl).trans uw230_41
    have uw313_42 : ρ312 42 = (.int .i64 (wr ((wr (r27)) + 1))) := (hkw313 42 rfl).trans uw230_42
    have uw313_43 : ρ312 43 = (.pointer (some ⟨g7, 0, none⟩)) := (hkw313 43 rfl).trans uw230_43
    have uw313_44 : ρ312 44 = (.int .u64 r34) := (hkw313 44 rfl).trans uw230_44
    have uw313_45 : ρ312 45 = (.int .i64 (zag r34)) := (hkw313 45 rfl).trans uw230_45
    have uw313_46 : ρ312 46 = (.agg #[(.int .i64 F), (.int .i64 (wr ((wr (r27)) + 1))), (.int .i64 0), (.int .i64 (zag r34)), (.int .i64 0), (.int .i64 0), (.int .i64 0)]) := (hkw313 46 rfl).trans uw230_46
    have uw313_9 : ρ312 9 = (.pointer (some ⟨g42, 0, none⟩)) := (hkw313 9 rfl).trans uw230_9
    have uw313_47 : ρ312 47 = (.pointer (some ⟨g42, (0 + 3), none⟩)) := (hkw313 47 rfl).trans uw230_47
    have uw313_48 : ρ312 48 = (.int .i64 (zag r34)) := (hkw313 48 rfl).trans uw230_48
    have uw313_49 : ρ312 49 = (.pointer (some ⟨g42, (0 + 3), none⟩)) := (hkw313 49 rfl).trans uw230_49
    have uw313_50 : ρ312 50 = (.int .i64 (zag r34)) := (hkw313 50 rfl).trans uw230_50
    have uw313_51 : ρ312 51 = (.pointer (some ⟨g42, (0 + 3), none⟩)) := (hkw313 51 rfl).trans uw230_51
    have uw313_52 : ρ312 52 = (.int .i64 (zag r34)) := (hkw313 52 rfl).trans uw230_52
    have uw313_53 : ρ312 53 = (.pointer (some ⟨g42, (0 + 3), none⟩)) := (hkw313 53 rfl).trans uw230_53
    have uw313_54 : ρ312 54 = (.int .i64 (zag r34)) := (hkw313 54 rfl).trans uw230_54
    have uw313_55 : ρ312 55 = (.pointer (some ⟨g42, (0 + 2), none⟩)) := (hkw313 55 rfl).trans uw230_55
    have uw313_56 : ρ312 56 = (.pointer (some ⟨g42, (0 + 4), none⟩)) := (hkw313 56 rfl).trans uw230_56
    have uw313_57 : ρ312 57 = (.pointer (some ⟨g42, (0 + 5), none⟩)) := (hkw313 57 rfl).trans uw230_57
    have uw313_58 : ρ312 58 = (.pointer (some ⟨g42, (0 + 6), none⟩)) := (hkw313 58 rfl).trans uw230_58
    have uw313_59 : ρ312 59 = (.pointer (some ⟨g42, (0 + 1), none⟩)) := (hkw313 59 rfl).trans uw230_59
    have uw313_60 : ρ312 60 = (.int .i64 (wr ((wr (r27)) + 1))) := (hkw313 60 rfl).trans uw230_60
    have uw313_61 : ρ312 61 = (.bool (!decide ((wr ((wr (r27)) + 1)) = 1))) := (hkw313 61 rfl).trans uw230_61
    have uw313_70 : ρ312 70 = (.pointer (some ⟨g7, 0, none⟩)) := (hkw313 70 rfl).trans uw230_70
    have uw313_71 : ρ312 71 = (.int .u64 r139) := (hkw313 71 rfl).trans uw230_71
    have uw313_72 : ρ312 72 = (.int .i64 (zag r139)) := (hkw313 72 rfl).trans uw230_72
    have uw313_73 : ρ312 73 = (.pointer (some ⟨g42, (0 + 2), none⟩)) := (hkw313 73 rfl).trans uw230_73
    refine then_n ?_
    refine cE_region rfl ?_
    refine s_cons (op_move vo uw313_7 ?_)
    refine s_cons (op_loadN (cs := [(.int .i64 F), (.int .i64 (wr ((wr (r27)) + 1))), (.int .i64 (zag r139)), (.int .i64 (zag r34)), (.int .i64 (wr (((((zag r34) % 18446744073709551616) + (get b r35).1) % 18446744073709551616)))), (.int .i64 (wr (((((zag r34) % 18446744073709551616) + (get b r140).1) % 18446744073709551616)))), (.int .i64 (wr (((((zag r34) % 18446744073709551616) + (get b ((get b r140).2.1)).1) % 18446744073709551616))))]) Try.isAgg71 Try.sizeOf71 uw313_9 (Pt.of (hst.cell 1 rfl) rfl) rfl ?_)
    refine s_cons (op_buildSlice (E := aggE) [(⟨F, (wr ((wr (r27)) + 1)), (zag r139), (zag r34), (wr (((((zag r34) % 18446744073709551616) + (get b r35).1) % 18446744073709551616))), (wr (((((zag r34) % 18446744073709551616) + (get b r140).1) % 18446744073709551616))), (wr (((((zag r34) % 18446744073709551616) + (get b ((get b r140).2.1)).1) % 18446744073709551616)))⟩ : Agg)] hst Try.underlying23 Try.sizeOf71 Try.zeroValue71 (evp_cons (v := (.agg #[(.int .i64 F), (.int .i64 (wr ((wr (r27)) + 1))), (.int .i64 (zag r139)), (.int .i64 (zag r34)), (.int .i64 (wr (((((zag r34) % 18446744073709551616) + (get b r35).1) % 18446744073709551616)))), (.int .i64 (wr (((((zag r34) % 18446744073709551616) + (get b r140).1) % 18446744073709551616)))), (.int .i64 (wr (((((zag r34) % 18446744073709551616) + (get b ((get b r140).2.1)).1) % 18446744073709551616))))])) rfl evp_nil) (parts_cons rfl parts_nil) rfl (by decide) (fun v314 w315 hst => ?_))
    replace hst : St w0 w315 [rowT 71 aggE v314 ([(⟨F, (wr ((wr (r27)) + 1)), (zag r139), (zag r34), (wr (((((zag r34) % 18446744073709551616) + (get b r35).1) % 18446744073709551616))), (wr (((((zag r34) % 18446744073709551616) + (get b r140).1) % 18446744073709551616))), (wr (((((zag r34) % 18446744073709551616) + (get b ((get b r140).2.1)).1) % 18446744073709551616)))⟩ : Agg)]), .blk g7 59 #[v_b, (.int .i64 ((get b ((get b r140).2.1)).2.1)), (.bool (rbad (rbad r141 b r140) b ((get b r140).2.1)))], .blk g42 71 #[(.int .i64 F), (.int .i64 (wr ((wr (r27)) + 1))), (.int .i64 (zag r139)), (.int .i64 (zag r34)), (.int .i64 (wr (((((zag r34) % 18446744073709551616) + (get b r35).1) % 18446744073709551616)))), (.int .i64 (wr (((((zag r34) % 18446744073709551616) + (get b r140).1) % 18446744073709551616)))), (.int .i64 (wr (((((zag r34) % 18446744073709551616) + (get b ((get b r140).2.1)).1) % 18446744073709551616))))], rowT 71 aggE vo out] := hst
    refine s_cons (op_append (E := aggE) (xs := out) (ys := [(⟨F, (wr ((wr (r27)) + 1)), (zag r139), (zag r34), (wr (((((zag r34) % 18446744073709551616) + (get b r35).1) % 18446744073709551616))), (wr (((((zag r34) % 18446744073709551616) + (get b r140).1) % 18446744073709551616))), (wr (((((zag r34) % 18446744073709551616) + (get b ((get b r140).2.1)).1) % 18446744073709551616)))⟩ : Agg)]) (z := (.agg #[(.int .i64 0), (.int .i64 0), (.int .i64 0), (.int .i64 0), (.int .i64 0), (.int .i64 0), (.int .i64 0)])) (bytes := 56) hst 3 rfl Try.underlying23 (by kernel_rfl) rfl rfl rfl (hst.sl 0 rfl) (by first | omega | (simp; omega) | (simp; done)) (by first | omega | (simp; omega) | (simp; done)) (fun v316 w317 hst => ?_))
    replace hst : St w0 w317 [rowT 71 aggE v314 ([(⟨F, (wr ((wr (r27)) + 1)), (zag r139), (zag r34), (wr (((((zag r34) % 18446744073709551616) + (get b r35).1) % 18446744073709551616))), (wr (((((zag r34) % 18446744073709551616) + (get b r140).1) % 18446744073709551616))), (wr (((((zag r34) % 18446744073709551616) + (get b ((get b r140).2.1)).1) % 18446744073709551616)))⟩ : Agg)]), .blk g7 59 #[v_b, (.int .i64 ((get b ((get b r140).2.1)).2.1)), (.bool (rbad (rbad r141 b r140) b ((get b r140).2.1)))], .blk g42 71 #[(.int .i64 F), (.int .i64 (wr ((wr (r27)) + 1))), (.int .i64 (zag r139)), (.int .i64 (zag r34)), (.int .i64 (wr (((((zag r34) % 18446744073709551616) + (get b r35).1) % 18446744073709551616)))), (.int .i64 (wr (((((zag r34) % 18446744073709551616) + (get b r140).1) % 18446744073709551616)))), (.int .i64 (wr (((((zag r34) % 18446744073709551616) + (get b ((get b r140).2.1)).1) % 18446744073709551616))))], rowT 71 aggE v316 (out ++ ([(⟨F, (wr ((wr (r27)) + 1)), (zag r139), (zag r34), (wr (((((zag r34) % 18446744073709551616) + (get b r35).1) % 18446744073709551616))), (wr (((((zag r34) % 18446744073709551616) + (get b r140).1) % 18446744073709551616))), (wr (((((zag r34) % 18446744073709551616) + (get b ((get b r140).2.1)).1) % 18446744073709551616)))⟩ : Agg)]))] := hst
    refine s_cons (op_assign v316 rfl ?_)
    refine s_nil ?_
    refine block_n (then_n ?_)
    refine cE_region rfl ?_
    refine s_cons (op_add (k := .i64) (a := (i : Int)) (b := 1) ((i : Int) + 1) uw313_23 rfl (xi64 (by omega) (by omega)) ?_)
    refine s_cons (op_move (.int .i64 ((i : Int) + 1)) rfl ?_)
    refine s_nil ?_
    refine then_n ?_
    replace hst : St w0 w317 [.blk g7 59 #[v_b, (.int .i64 ((get b ((get b r140).2.1)).2.1)), (.bool (rbad (rbad r141 b r140) b ((get b r140).2.1)))], rowT 71 aggE v314 ([(⟨F, (wr ((wr (r27)) + 1)), (zag r139), (zag r34), (wr (((((zag r34) % 18446744073709551616) + (get b r35).1) % 18446744073709551616))), (wr (((((zag r34) % 18446744073709551616) + (get b r140).1) % 18446744073709551616))), (wr (((((zag r34) % 18446744073709551616) + (get b ((get b r140).2.1)).1) % 18446744073709551616)))⟩ : Agg)]), .blk g42 71 #[(.int .i64 F), (.int .i64 (wr ((wr (r27)) + 1))), (.int .i64 (zag r139)), (.int .i64 (zag r34)), (.int .i64 (wr (((((zag r34) % 18446744073709551616) + (get b r35).1) % 18446744073709551616)))), (.int .i64 (wr (((((zag r34) % 18446744073709551616) + (get b r140).1) % 18446744073709551616)))), (.int .i64 (wr (((((zag r34) % 18446744073709551616) + (get b ((get b r140).2.1)).1) % 18446744073709551616))))], rowT 71 aggE v316 (out ++ ([(⟨F, (wr ((wr (r27)) + 1)), (zag r139), (zag r34), (wr (((((zag r34) % 18446744073709551616) + (get b r35).1) % 18446744073709551616))), (wr (((((zag r34) % 18446744073709551616) + (get b r140).1) % 18446744073709551616))), (wr (((((zag r34) % 18446744073709551616) + (get b ((get b r140).2.1)).1) % 18446744073709551616)))⟩ : Agg)]))] := hst.front 1 rfl
    replace hst : St w0 w317 [rowT 71 aggE v316 (out ++ ([(⟨F, (wr ((wr (r27)) + 1)), (zag r139), (zag r34), (wr (((((zag r34) % 18446744073709551616) + (get b r35).1) % 18446744073709551616))), (wr (((((zag r34) % 18446744073709551616) + (get b r140).1) % 18446744073709551616))), (wr (((((zag r34) % 18446744073709551616) + (get b ((get b r140).2.1)).1) % 18446744073709551616)))⟩ : Agg)])), .blk g7 59 #[v_b, (.int .i64 ((get b ((get b r140).2.1)).2.1)), (.bool (rbad (rbad r141 b r140) b ((get b r140).2.1)))], rowT 71 aggE v314 ([(⟨F, (wr ((wr (r27)) + 1)), (zag r139), (zag r34), (wr (((((zag r34) % 18446744073709551616) + (get b r35).1) % 18446744073709551616))), (wr (((((zag r34) % 18446744073709551616) + (get b r140).1) % 18446744073709551616))), (wr (((((zag r34) % 18446744073709551616) + (get b ((get b r140).2.1)).1) % 18446744073709551616)))⟩ : Agg)]), .blk g42 71 #[(.int .i64 F), (.int .i64 (wr ((wr (r27)) + 1))), (.int .i64 (zag r139)), (.int .i64 (zag r34)), (.int .i64 (wr (((((zag r34) % 18446744073709551616) + (get b r35).1) % 18446744073709551616)))), (.int .i64 (wr (((((zag r34) % 18446744073709551616) + (get b r140).1) % 18446744073709551616)))), (.int .i64 (wr (((((zag r34) % 18446744073709551616) + (get b ((get b r140).2.1)).1) % 18446744073709551616))))]] := hst.front 3 rfl
    exact ⟨_, ⟨v316, (out ++ ([(⟨F, (wr ((wr (r27)) + 1)), (zag r139), (zag r34), (wr (((((zag r34) % 18446744073709551616) + (get b r35).1) % 18446744073709551616))), (wr (((((zag r34) % 18446744073709551616) + (get b r140).1) % 18446744073709551616))), (wr (((((zag r34) % 18446744073709551616) + (get b ((get b r140).2.1)).1) % 18446744073709551616)))⟩ : Agg)])), (i + 1), (get b ((get b r140).2.1)).2.1, (rbad (rbad r141 b r140) b ((get b r140).2.1)), (wr ((wr (at_ + 1)) + (wr (r19)))), rfl, uw313_0, uw313_1, uw313_4, uw313_5, uw313_6, uw313_22, rfl, uw313_8, (congrArg (Value.int .i64) (show ((i : Int) + 1) = _ from by omega)), (hst.sub (.cons_cons _ (.cons_cons _ (.cons _ (.cons _ .slnil))))), (by first | exact CA_start | exact CA_oneE hCA (by omega) (by assumption) (by assumption) (by assumption) (by assumption) (by assumption) (by assumption) (by assumption) (by assumption) (by assumption) hFe (by assumption) | exact CA_manyE hCA (by omega) (by assumption) (by assumption) (by assumption) (by assumption) (by assumption) (by assumption) (by assumption) (by assumption) (by assumption) (by first | assumption | rfl) (by first | assumption | rfl) (by first | assumption | rfl) (by first | assumption | rfl) (by first | assumption | rfl) (by first | assumption | rfl) (by first | assumption | rfl) (by first | assumption | rfl) (by first | assumption | rfl) (by first | assumption | rfl) (by first | assumption | rfl) (by first | assumption | rfl) hFe (by assumption)), (by first | exact (cntV_r (by omega)).1 | omega)⟩, (by simp only [id]; omega)⟩
  have c318 : ¬ ((i : Int) < (cntV b 0 64)) := of_decide_eq_false b14
  refine cE_cond false (congrArg Value.bool b14) (fun h => by cases h) (fun _ => ?_)
  refine cE_exit ?_
  refine then_x (then_x (block_hit (then_n ?_)))
  refine cE_seq ?_
  refine cE_region rfl ?_
  refine s_cons (op_move vo q10_7 ?_)
  refine s_cons (op_move (.int .i64 k) q10_1 ?_)
  refine s_cons (op_call Try.call13 (evs_cons (v := vo) rfl (evs_cons (v := (.int .i64 k)) rfl evs_nil)) (c_kPutAggs (w0 := w13) (v_l := vo) (l := out) (h_l := (hst.sl 0 rfl)) (k := k) (hl := hor) (k0 := (by omega)) (k1 := (by omega))) ?_)
  rintro _ w320 ⟨r319, rfl, hcall⟩
  refine ⟨_, rfl, ?_⟩
  have hst : St w0 w320 [rowT 5 u8E r319 ((encA k out).1), rowT 71 aggE vo out, .blk g7 59 #[v_b, (.int .i64 p), (.bool bad)]] := hst.call hcall
  refine s_cons (op_move (.tuple #[r319, (.int .i64 ((encA k out).2))]) rfl ?_)
  refine s_cons (op_extract r319 rfl rfl ?_)
  refine s_cons (op_extract (.int .i64 ((encA k out).2)) rfl rfl ?_)
  refine s_cons (op_assign r319 rfl ?_)
  refine s_cons (op_assign (.int .i64 ((encA k out).2)) rfl ?_)
  refine s_nil ?_
  refine then_n ?_
  refine cE_seq ?_
  refine cE_seq ?_
  refine cE_region rfl ?_
  refine s_cons (op_move (.pointer (some ⟨g7, 0, none⟩)) q10_6 ?_)
  refine s_cons (op_nilCheck rfl ?_)
  refine s_cons (op_fieldAddr (s := 0) Try.underlying59 rfl rfl Try.sizeOf4 rfl ?_)
  refine s_cons (op_load1 (u := (.bool bad)) Try.isAgg4 rfl ((hst.cell 2 rfl).drop 2) ?_)
  refine s_cons (op_move (.bool bad) rfl ?_)
  rcases Bool.eq_false_or_eq_true bad with b321 | b321
  · refine s_no 105 rfl (congrArg Value.bool b321) ?_
    refine s_no 105 rfl (congrArg Value.bool b321) ?_
    refine s_cons (op_pick_t (.bool true) (congrArg Value.bool b321) rfl ?_)
    refine s_cons (op_move (.bool true) rfl ?_)
    refine s_no 109 rfl rfl ?_
    refine s_no 109 rfl rfl ?_
    refine s_no 109 rfl rfl ?_
    refine s_no 109 rfl rfl ?_
    refine s_cons (op_pick_t (.bool true) rfl rfl ?_)
    refine s_nil ?_
    refine then_n ?_
    refine cE_cond true rfl (fun _ => ?_) (fun h => by cases h)
    refine cE_seq ?_
    refine cE_region rfl ?_
    refine s_cons (op_assign (.slice none 0 0) rfl ?_)
    refine s_cons (op_assign (.int .i64 2) rfl ?_)
    refine s_nil ?_
    refine then_n ?_
    refine cE_ret ?_
    refine then_r (scope_r ?_)
    refine post_r _ (res2 (v := (.slice none 0 0)) rfl (x := (.int .i64 2)) rfl) ?_
    have hd : DecA k b [] 2 := by first | exact CA_no hCA hco (Or.inl (by assumption)) | exact CA_no hCA hco (Or.inr ⟨by omega, Or.inl (by assumption)⟩) | exact CA_no hCA hco (Or.inr ⟨by omega, Or.inr (by assumption)⟩)
    replace hst : St w0 w320 [rowT 71 aggE (.slice none 0 0) ([]), rowT 5 u8E r319 ((encA k out).1), rowT 71 aggE vo out, .blk g7 59 #[v_b, (.int .i64 p), (.bool bad)]] := hst.nilRow 71 aggE
    exact ⟨(.slice none 0 0), [], 2, rfl, hst.sub (.cons_cons _ (.cons _ (.cons _ (.cons _ .slnil)))), hd⟩
  refine s_yes 105 rfl (congrArg Value.bool b321) (op_move (.int .i64 ((encA k out).2)) rfl ?_)
  refine s_yes 105 rfl (congrArg Value.bool b321) (op_neq (k := .i64) (a := (encA k out).2) (b := 0) rfl rfl ?_)
  refine s_cons (op_pick_f (.bool (!decide (((encA k out).2) = 0))) (congrArg Value.bool b321) rfl ?_)
  refine s_cons (op_move (.bool (!decide (((encA k out).2) = 0))) rfl ?_)
  rcases Bool.eq_false_or_eq_true (decide (((encA k out).2) = 0)) with b322 | b322
  · have c323 : ((encA k out).2) = 0 := of_decide_eq_true b322
    refine s_yes 109 rfl (congrArg Value.bool (congrArg (! ·) b322)) (op_move r319 rfl ?_)
    refine s_yes 109 rfl (congrArg Value.bool (congrArg (! ·) b322)) (op_move v_b q10_0 ?_)
    refine s_yes 109 rfl (congrArg Value.bool (congrArg (! ·) b322)) (op_call Try.call30 (evs_cons (v := r319) rfl (evs_cons (v := v_b) rfl evs_nil)) (c_bEqual (w0 := w320) (v_a := r319) (a := (encA k out).1) (h_a := (hst.sl 0 rfl)) (v_b := v_b) (b := b) (h_b := (h_b.below hst.below))) ?_)
    rintro _ w324 ⟨rfl, hcall⟩
    refine ⟨_, rfl, ?_⟩
    have hst : St w0 w324 [rowT 5 u8E r319 ((encA k out).1), rowT 71 aggE vo out, .blk g7 59 #[v_b, (.int .i64 p), (.bool bad)]] := hst.call hcall
    refine s_yes 109 rfl (congrArg Value.bool (congrArg (! ·) b322)) (op_not (b := decide ((encA k out).1 = b)) rfl ?_)
    refine s_cons (op_pick_f (.bool (!(decide ((encA k out).1 = b)))) (congrArg Value.bool (congrArg (! ·) b322)) rfl ?_)
    refine s_nil ?_
    refine then_n ?_
    rcases Bool.eq_false_or_eq_true (decide ((encA k out).1 = b)) with b325 | b325
    · have c326 : (encA k out).1 = b := of_decide_eq_true b325
      refine cE_cond false (congrArg Value.bool (congrArg (! ·) b325)) (fun h => by cases h) (fun _ => ?_)
      refine cE_skip ?_
      refine then_n ?_
      refine cE_seq ?_
      refine cE_region rfl ?_
      refine s_cons (op_move vo q10_7 ?_)
      refine s_cons (op_assign vo rfl ?_)
      refine s_cons (op_assign (.int .i64 0) rfl ?_)
      refine s_nil ?_
      refine then_n ?_
      refine cE_ret ?_
      refine scope_r ?_
      refine post_r _ (res2 (v := vo) rfl (x := (.int .i64 0)) rfl) ?_
      have hd : DecA k b out 0 := CA_yes hCA hco (by assumption) (by assumption)
      exact ⟨vo, out, 0, rfl, hst.sub (.cons _ (.cons_cons _ (.cons _ .slnil))), hd⟩
    have c327 : ¬ ((encA k out).1 = b) := of_decide_eq_false b325
    refine cE_cond true (congrArg Value.bool (congrArg (! ·) b325)) (fun _ => ?_) (fun h => by cases h)
    refine cE_seq ?_
    refine cE_region rfl ?_
    refine s_cons (op_assign (.slice none 0 0) rfl ?_)
    refine s_cons (op_assign (.int .i64 2) rfl ?_)
    refine s_nil ?_
    refine then_n ?_
    refine cE_ret ?_
    refine then_r (scope_r ?_)
    refine post_r _ (res2 (v := (.slice none 0 0)) rfl (x := (.int .i64 2)) rfl) ?_
    have hd : DecA k b [] 2 := by first | exact CA_no hCA hco (Or.inl (by assumption)) | exact CA_no hCA hco (Or.inr ⟨by omega, Or.inl (by assumption)⟩) | exact CA_no hCA hco (Or.inr ⟨by omega, Or.inr (by assumption)⟩)
    replace hst : St w0 w324 [rowT 71 aggE (.slice none 0 0) ([]), rowT 5 u8E r319 ((encA k out).1), rowT 71 aggE vo out, .blk g7 59 #[v_b, (.int .i64 p), (.bool bad)]] := hst.nilRow 71 aggE
    exact ⟨(.slice none 0 0), [], 2, rfl, hst.sub (.cons_cons _ (.cons _ (.cons _ (.cons _ .slnil)))), hd⟩
  have c328 : ¬ (((encA k out).2) = 0) := of_decide_eq_false b322
  refine s_no 109 rfl (congrArg Value.bool (congrArg (! ·) b322)) ?_
  refine s_no 109 rfl (congrArg Value.bool (congrArg (! ·) b322)) ?_
  refine s_no 109 rfl (congrArg Value.bool (congrArg (! ·) b322)) ?_
  refine s_no 109 rfl (congrArg Value.bool (congrArg (! ·) b322)) ?_
  refine s_cons (op_pick_t (.bool true) (congrArg Value.bool (congrArg (! ·) b322)) rfl ?_)
  refine s_nil ?_
  refine then_n ?_
  refine cE_cond true rfl (fun _ => ?_) (fun h => by cases h)
  refine cE_seq ?_
  refine cE_region rfl ?_
  refine s_cons (op_assign (.slice none 0 0) rfl ?_)
  refine s_cons (op_assign (.int .i64 2) rfl ?_)
  refine s_nil ?_
  refine then_n ?_
  refine cE_ret ?_
  refine then_r (scope_r ?_)
  refine post_r _ (res2 (v := (.slice none 0 0)) rfl (x := (.int .i64 2)) rfl) ?_
  have hd : DecA k b [] 2 := by first | exact CA_no hCA hco (Or.inl (by assumption)) | exact CA_no hCA hco (Or.inr ⟨by omega, Or.inl (by assumption)⟩) | exact CA_no hCA hco (Or.inr ⟨by omega, Or.inr (by assumption)⟩)
  replace hst : St w0 w320 [rowT 71 aggE (.slice none 0 0) ([]), rowT 5 u8E r319 ((encA k out).1), rowT 71 aggE vo out, .blk g7 59 #[v_b, (.int .i64 p), (.bool bad)]] := hst.nilRow 71 aggE
  exact ⟨(.slice none 0 0), [], 2, rfl, hst.sub (.cons_cons _ (.cons _ (.cons _ (.cons _ .slnil)))), hd⟩
end

end Go.Proofs.Ytpamjfbdgaamoaa
