/- block.Get -/
import Derived.Test.YtpamjfbdgaamoaaW20
import Derived.Test.YtpamjfbdgaamoaaW3
namespace Go.Proofs.Ytpamjfbdgaamoaa
open Go.RowKit

set_option maxHeartbeats 4000000 in
theorem c_kGet (w0 : World) (v_b : Value) (b : List UInt8) (h_b : Sl w0 u8E v_b b) (hl : b.length ≤ 1000000000) :
    Calls Try.prog 11 #[v_b] w0 fun e w' => ∃ (r : Value), ∃ (out : List Sample), ∃ (c : Int), e = .returned (.tuple #[r, (.int .i64 c)]) ∧ St w0 w' [rowT 48 sampE r out] ∧ DecS b out c := by
  refine calls_E (n := 82) (ts := [2, 3]) Try.func11 rfl rfl rfl (by simp) ?_
  have hst := St.start w0
  refine cE_seq ?_
  refine cE_region rfl ?_
  refine s_cons (op_assign (.slice none 0 0) rfl ?_)
  refine s_cons (op_assign (.int .i64 0) rfl ?_)
  refine s_nil ?_
  refine then_n ?_
  refine cE_scope ?_
  refine cE_seq ?_
  refine cE_region rfl ?_
  refine s_cons (op_move v_b rfl ?_)
  refine s_cons (op_build (r := (.agg #[v_b, (.int .i64 0), (.bool false)])) (evp_cons (v := v_b) rfl evp_nil) (by simp [Instr.build, Instr.fill, cells_int, cells_bool, cells_str, cells_agg, cells_nil, sl_cells (show Sl _ u8E v_b b from h_b), Try.runUnderlying59, Try.zeroValue59]) ?_)
  refine s_cons (op_box (v := (.agg #[v_b, (.int .i64 0), (.bool false)])) (cs := #[v_b, (.int .i64 0), (.bool false)]) hst rfl rfl (fun g1 w2 hst _ => ?_))
  replace hst : St w0 w2 [.blk g1 59 #[v_b, (.int .i64 0), (.bool false)]] := hst
  refine s_cons (op_assign (.pointer (some ⟨g1, 0, none⟩)) rfl ?_)
  refine s_nil ?_
  refine then_n ?_
  refine cE_seq ?_
  refine cE_region rfl ?_
  refine s_cons (op_assign (.slice none 0 0) rfl ?_)
  refine s_nil ?_
  refine then_n ?_
  refine cE_seq ?_
  refine cE_region rfl ?_
  refine s_cons (op_assign (.int .i64 0) rfl ?_)
  refine s_nil ?_
  refine then_n ?_
  refine cE_seq ?_
  refine cE_label ?_
  refine then_n ?_
  refine cE_seq ?_
  refine cE_seq ?_
  refine cE_region rfl ?_
  refine s_cons (op_move (.pointer (some ⟨g1, 0, none⟩)) rfl ?_)
  refine s_cons (op_call Try.call27 (evs_cons (v := (.pointer (some ⟨g1, 0, none⟩))) rfl (evs_cons (v := (.int .i64 64)) rfl evs_nil)) (c_kCount (g_r := g1) (v_b := v_b) (b := b) (h_b := h_b) (at_ := 0) (bad := false) (most := 64) (hl := hl) (m0 := (by omega)) (m1 := (by omega)) (hst := hst)) ?_)
  rintro _ w3 ⟨rfl, hcall⟩
  refine ⟨_, rfl, ?_⟩
  have hst : St w0 w3 [.blk g1 59 #[v_b, (.int .i64 ((get b 0).2.1)), (.bool (cntBad false b 0 64))]] := hcall
  refine s_cons (op_move (.int .i64 0) rfl ?_)
  refine s_nil ?_
  refine then_n ?_
  refine cE_block ?_
  replace hst : St w0 w3 [rowT 48 sampE (.slice none 0 0) ([]), .blk g1 59 #[v_b, (.int .i64 ((get b 0).2.1)), (.bool (cntBad false b 0 64))]] := hst.nilRow 48 sampE
  refine cE_loop (fun (m : Nat) (ρ : Env) (w : World) => ∃ (vo : Value) (out : List Sample) (i : Nat) (p : Int) (bad : Bool) (st : Int), m = 65 - i ∧ ρ 0 = v_b ∧ ρ 2 = (.slice none 0 0) ∧ ρ 3 = (.int .i64 0) ∧ ρ 4 = (.pointer (some ⟨g1, 0, none⟩)) ∧ ρ 16 = (.int .i64 (cntV b 0 64)) ∧ ρ 5 = vo ∧ ρ 6 = (.int .i64 st) ∧ ρ 17 = (.int .i64 (i : Int)) ∧ St w0 w [rowT 48 sampE vo out, .blk g1 59 #[v_b, (.int .i64 p), (.bool bad)]] ∧ (CS b (cntV b 0 64) out i p bad st) ∧ ((i : Int) ≤ cntV b 0 64)) id _ ⟨(.slice none 0 0), [], 0, (get b 0).2.1, (cntBad false b 0 64), 0, rfl, rfl, rfl, rfl, rfl, rfl, rfl, rfl, (congrArg (Value.int .i64) (show 0 = _ from by omega)), hst, (by first | exact CS_start | exact CS_first hCS (by omega) (by omega) | exact CS_next hCS (by omega) (by omega) (by omega)), (by first | exact (cntV_r (by omega)).1 | omega)⟩ ?_
  rintro m5 ρ6 w7 ⟨vo, out, i, p, bad, st, hm5, q4_0, q4_2, q4_3, q4_4, q4_16, q4_5, q4_6, q4_17, hst, hCS, hi⟩
  have hcr := cntV_r (b := b) (p := 0) (most := 64) (by omega)
  have hol := hCS.2.2.2.1
  have hor := hCS.2.2.2.2.1
  have hg1 := get_nn b p
  have hg2 := get_nn b (get b p).2.1
  refine cE_seq ?_
  refine cE_region rfl ?_
  refine s_cons (op_lss (k := .i64) (a := (i : Int)) (b := (cntV b 0 64)) q4_17 q4_16 ?_)
  refine s_nil ?_
  refine then_n ?_
  refine cE_seq ?_
  rcases Bool.eq_false_or_eq_true (decide ((i : Int) < (cntV b 0 64))) with b8 | b8
  · have c9 : (i : Int) < (cntV b 0 64) := of_decide_eq_true b8
    refine cE_cond true (congrArg Value.bool b8) (fun _ => ?_) (fun h => by cases h)
    refine cE_skip ?_
    refine then_n ?_
    refine cE_seq ?_
    refine cE_block ?_
    refine cE_seq ?_
    refine cE_region rfl ?_
    refine s_cons (op_move (.int .i64 (i : Int)) q4_17 ?_)
    refine s_cons (op_assign (.int .i64 (i : Int)) rfl ?_)
    refine s_nil ?_
    refine then_n ?_
    refine cE_seq ?_
    refine cE_seq ?_
    refine cE_region rfl ?_
    refine s_cons (op_move (.pointer (some ⟨g1, 0, none⟩)) q4_4 ?_)
    refine s_cons (op_nilCheck rfl ?_)
    refine s_cons (op_fieldAddr (s := 0) Try.underlying59 rfl rfl Try.sizeOf4 rfl ?_)
    refine s_cons (op_load1 (u := (.bool bad)) Try.isAgg4 rfl ((hst.cell 1 rfl).drop 2) ?_)
    refine s_nil ?_
    refine then_n ?_
    rcases Bool.eq_false_or_eq_true bad with b10 | b10
    · refine cE_cond true (congrArg Value.bool b10) (fun _ => ?_) (fun h => by cases h)
      refine cE_exit ?_
      refine then_x (block_miss (by decide) (then_x (then_x (block_hit (then_n ?_)))))
      refine cE_seq ?_
      refine cE_region rfl ?_
      refine s_cons (op_move vo q4_5 ?_)
      refine s_cons (op_call Try.call9 (evs_cons (v := vo) rfl evs_nil) (c_kPut (w0 := w7) (v_l := vo) (l := out) (h_l := (hst.sl 0 rfl)) (hl := hor)) ?_)
      rintro _ w12 ⟨r11, rfl, hcall⟩
      refine ⟨_, rfl, ?_⟩
      have hst : St w0 w12 [rowT 5 u8E r11 ((encS out).1), rowT 48 sampE vo out, .blk g1 59 #[v_b, (.int .i64 p), (.bool bad)]] := hst.call hcall
      refine s_cons (op_move (.tuple #[r11, (.int .i64 ((encS out).2))]) rfl ?_)
      refine s_cons (op_extract r11 rfl rfl ?_)
      refine s_cons (op_extract (.int .i64 ((encS out).2)) rfl rfl ?_)
      refine s_cons (op_assign r11 rfl ?_)
      refine s_cons (op_assign (.int .i64 ((encS out).2)) rfl ?_)
      refine s_nil ?_
      refine then_n ?_
      refine cE_seq ?_
      refine cE_seq ?_
      refine cE_region rfl ?_
      refine s_cons (op_move (.pointer (some ⟨g1, 0, none⟩)) q4_4 ?_)
      refine s_cons (op_nilCheck rfl ?_)
      refine s_cons (op_fieldAddr (s := 0) Try.underlying59 rfl rfl Try.sizeOf4 rfl ?_)
      refine s_cons (op_load1 (u := (.bool bad)) Try.isAgg4 rfl ((hst.cell 2 rfl).drop 2) ?_)
      refine s_cons (op_move (.bool bad) rfl ?_)
      refine s_no 71 rfl (congrArg Value.bool b10) ?_
      refine s_no 71 rfl (congrArg Value.bool b10) ?_
      refine s_cons (op_pick_t (.bool true) (congrArg Value.bool b10) rfl ?_)
      refine s_cons (op_move (.bool true) rfl ?_)
      refine s_no 75 rfl rfl ?_
      refine s_no 75 rfl rfl ?_
      refine s_no 75 rfl rfl ?_
      refine s_no 75 rfl rfl ?_
      refine s_cons (op_pick_t (.bool true) rfl rfl ?_)
      refine s_nil ?_
      refine then_n ?_
      refine cE_cond true rfl (fun _ => ?_) (fun h => by cases h)
      refine cE_seq ?_
      refine cE_region rfl ?_
      refine s_cons (op_assign (.slice none 0 0) rfl ?_)
      refine s_cons (op_assign (.int .i64 2) rfl ?_)
      refine s_nil ?_
      refine then_n ?_
      refine cE_ret ?_
      refine then_r (scope_r ?_)
      refine post_r _ (res2 (v := (.slice none 0 0)) rfl (x := (.int .i64 2)) rfl) ?_
      have hd : DecS b [] 2 := by first | exact CS_no hCS (Or.inl (by assumption)) | exact CS_no hCS (Or.inr ⟨by omega, Or.inl (by assumption)⟩) | exact CS_no hCS (Or.inr ⟨by omega, Or.inr (by assumption)⟩) | exact CS_no hCS (Or.inl hbad)
      replace hst : St w0 w12 [rowT 48 sampE (.slice none 0 0) ([]), rowT 5 u8E r11 ((encS out).1), rowT 48 sampE vo out, .blk g1 59 #[v_b, (.int .i64 p), (.bool bad)]] := hst.nilRow 48 sampE
      exact ⟨(.slice none 0 0), [], 2, rfl, hst.sub (.cons_cons _ (.cons _ (.cons _ (.cons _ .slnil)))), hd⟩
    refine cE_cond false (congrArg Value.bool b10) (fun h => by cases h) (fun _ => ?_)
    refine cE_skip ?_
    refine then_n ?_
    refine cE_seq ?_
    refine cE_seq ?_
    refine cE_region rfl ?_
    refine s_cons (op_move (.int .i64 (i : Int)) rfl ?_)
    refine s_cons (op_eql (k := .i64) (a := (i : Int)) (b := 0) rfl rfl ?_)
    refine s_nil ?_
    refine then_n ?_
    rcases Bool.eq_false_or_eq_true (decide ((i : Int) = 0)) with b13 | b13
    · have c14 : (i : Int) = 0 := of_decide_eq_true b13
      refine cE_cond true (congrArg Value.bool b13) (fun _ => ?_) (fun h => by cases h)
      refine cE_seq ?_
      refine cE_region rfl ?_
      refine s_cons (op_move (.pointer (some ⟨g1, 0, none⟩)) q4_4 ?_)
      replace hst : St w0 w7 [.blk g1 59 #[v_b, (.int .i64 p), (.bool bad)], rowT 48 sampE vo out] := hst.front 1 rfl
      refine s_cons (op_call Try.call28 (evs_cons (v := (.pointer (some ⟨g1, 0, none⟩))) rfl evs_nil) (c_kNext (g_r := g1) (v_b := v_b) (b := b) (h_b := h_b) (at_ := p) (bad := bad) (hl := hl) (hst := hst)) ?_)
      rintro _ w15 ⟨rfl, hcall⟩
      refine ⟨_, rfl, ?_⟩
      have hst : St w0 w15 [.blk g1 59 #[v_b, (.int .i64 ((get b p).2.1)), (.bool (rbad bad b p))], rowT 48 sampE vo out] := hcall
      refine s_cons (op_conv (k := .u64) (a := (get b p).1) (wr ((get b p).1)) Try.underlying2 (by rw [Try.underlying54]; rfl) rfl rfl ?_)
      refine s_cons (op_assign (.int .i64 (wr ((get b p).1))) rfl ?_)
      refine s_nil ?_
      refine then_n ?_
      refine cE_seq ?_
      refine cE_region rfl ?_
      refine s_cons (op_move vo q4_5 ?_)
      refine s_cons (op_move (.int .i64 (wr ((get b p).1))) rfl ?_)
      refine s_cons (op_move (.pointer (some ⟨g1, 0, none⟩)) q4_4 ?_)
      refine s_cons (op_call Try.call28 (evs_cons (v := (.pointer (some ⟨g1, 0, none⟩))) rfl evs_nil) (c_kNext (g_r := g1) (v_b := v_b) (b := b) (h_b := h_b) (at_ := (get b p).2.1) (bad := (rbad bad b p)) (hl := hl) (hst := hst)) ?_)
      rintro _ w16 ⟨rfl, hcall⟩
      refine ⟨_, rfl, ?_⟩
      have hst : St w0 w16 [.blk g1 59 #[v_b, (.int .i64 ((get b ((get b p).2.1)).2.1)), (.bool (rbad (rbad bad b p) b ((get b p).2.1)))], rowT 48 sampE vo out] := hcall
      refine s_cons (op_call Try.call29 (evs_cons (v := (.int .u64 ((get b ((get b p).2.1)).1))) rfl evs_nil) (c_Zag (w0 := w16) (n := (get b ((get b p).2.1)).1) (h0 := (by omega)) (h1 := (by omega))) ?_)
      rintro _ w17 ⟨rfl, hcall⟩
      refine ⟨_, rfl, ?_⟩
      have hst : St w0 w17 [.blk g1 59 #[v_b, (.int .i64 ((get b ((get b p).2.1)).2.1)), (.bool (rbad (rbad bad b p) b ((get b p).2.1)))], rowT 48 sampE vo out] := hst.call hcall
      refine s_cons (op_build (r := (.agg #[(.int .i64 (wr ((get b p).1))), (.int .i64 (zag ((get b ((get b p).2.1)).1)))])) (evp_cons (v := (.int .i64 (wr ((get b p).1)))) rfl (evp_cons (v := (.int .i64 (zag ((get b ((get b p).2.1)).1)))) rfl evp_nil)) (by simp [Instr.build, Instr.fill, Value.cells, Try.runUnderlying48, Try.zeroValue48]) ?_)
      refine s_cons (op_buildSlice (E := sampE) [(⟨(wr ((get b p).1)), (zag ((get b ((get b p).2.1)).1))⟩ : Sample)] hst Try.underlying22 Try.sizeOf48 Try.zeroValue48 (evp_cons (v := (.agg #[(.int .i64 (wr ((get b p).1))), (.int .i64 (zag ((get b ((get b p).2.1)).1)))])) rfl evp_nil) (parts_cons rfl parts_nil) rfl (by decide) (fun v18 w19 hst => ?_))
      replace hst : St w0 w19 [rowT 48 sampE v18 ([(⟨(wr ((get b p).1)), (zag ((get b ((get b p).2.1)).1))⟩ : Sample)]), .blk g1 59 #[v_b, (.int .i64 ((get b ((get b p).2.1)).2.1)), (.bool (rbad (rbad bad b p) b ((get b p).2.1)))], rowT 48 sampE vo out] := hst
      refine s_cons (op_append (E := sampE) (xs := out) (ys := [(⟨(wr ((get b p).1)), (zag ((get b ((get b p).2.1)).1))⟩ : Sample)]) (z := (.agg #[(.int .i64 0), (.int .i64 0)])) (bytes := 16) hst 2 rfl Try.underlying22 (by kernel_rfl) rfl rfl rfl (hst.sl 0 rfl) (by first | omega | (simp; omega) | (simp; done)) (by first | omega | (simp; omega) | (simp; done)) (fun v20 w21 hst => ?_))
      replace hst : St w0 w21 [rowT 48 sampE v18 ([(⟨(wr ((get b p).1)), (zag ((get b ((get b p).2.1)).1))⟩ : Sample)]), .blk g1 59 #[v_b, (.int .i64 ((get b ((get b p).2.1)).2.1)), (.bool (rbad (rbad bad b p) b ((get b p).2.1)))], rowT 48 sampE v20 (out ++ ([(⟨(wr ((get b p).1)), (zag ((get b ((get b p).2.1)).1))⟩ : Sample)]))] := hst
      refine s_cons (op_assign v20 rfl ?_)
      refine s_nil ?_
      refine then_n ?_
      refine cE_exit ?_
      refine then_x (block_hit (then_n ?_))
      refine cE_region rfl ?_
      refine s_cons (op_add (k := .i64) (a := (i : Int)) (b := 1) ((i : Int) + 1) q4_17 rfl (xi64 (by omega) (by omega)) ?_)
      refine s_cons (op_move (.int .i64 ((i : Int) + 1)) rfl ?_)
      refine s_nil ?_
      refine then_n ?_
      replace hst : St w0 w21 [.blk g1 59 #[v_b, (.int .i64 ((get b ((get b p).2.1)).2.1)), (.bool (rbad (rbad bad b p) b ((get b p).2.1)))], rowT 48 sampE v18 ([(⟨(wr ((get b p).1)), (zag ((get b ((get b p).2.1)).1))⟩ : Sample)]), rowT 48 sampE v20 (out ++ ([(⟨(wr ((get b p).1)), (zag ((get b ((get b p).2.1)).1))⟩ : Sample)]))] := hst.front 1 rfl
      replace hst : St w0 w21 [rowT 48 sampE v20 (out ++ ([(⟨(wr ((get b p).1)), (zag ((get b ((get b p).2.1)).1))⟩ : Sample)])), .blk g1 59 #[v_b, (.int .i64 ((get b ((get b p).2.1)).2.1)), (.bool (rbad (rbad bad b p) b ((get b p).2.1)))], rowT 48 sampE v18 ([(⟨(wr ((get b p).1)), (zag ((get b ((get b p).2.1)).1))⟩ : Sample)])] := hst.front 2 rfl
      exact ⟨_, ⟨v20, (out ++ ([(⟨(wr ((get b p).1)), (zag ((get b ((get b p).2.1)).1))⟩ : Sample)])), (i + 1), (get b ((get b p).2.1)).2.1, (rbad (rbad bad b p) b ((get b p).2.1)), st, rfl, q4_0, q4_2, q4_3, q4_4, q4_16, rfl, q4_6, (congrArg (Value.int .i64) (show ((i : Int) + 1) = _ from by omega)), (hst.sub (.cons_cons _ (.cons_cons _ (.cons _ .slnil)))), (by first | exact CS_start | exact CS_first hCS (by omega) (by omega) | exact CS_next hCS (by omega) (by omega) (by omega)), (by first | exact (cntV_r (by omega)).1 | omega)⟩, (by simp only [id]; omega)⟩
    have c22 : ¬ ((i : Int) = 0) := of_decide_eq_false b13
    refine cE_cond false (congrArg Value.bool b13) (fun h => by cases h) (fun _ => ?_)
    refine cE_skip ?_
    refine then_n ?_
    refine cE_seq ?_
    refine cE_region rfl ?_
    refine s_cons (op_move (.int .i64 st) q4_6 ?_)
    refine s_cons (op_move (.pointer (some ⟨g1, 0, none⟩)) q4_4 ?_)
    replace hst : St w0 w7 [.blk g1 59 #[v_b, (.int .i64 p), (.bool bad)], rowT 48 sampE vo out] := hst.front 1 rfl
    refine s_cons (op_call Try.call28 (evs_cons (v := (.pointer (some ⟨g1, 0, none⟩))) rfl evs_nil) (c_kNext (g_r := g1) (v_b := v_b) (b := b) (h_b := h_b) (at_ := p) (bad := bad) (hl := hl) (hst := hst)) ?_)
    rintro _ w23 ⟨rfl, hcall⟩
    refine ⟨_, rfl, ?_⟩
    have hst : St w0 w23 [.blk g1 59 #[v_b, (.int .i64 ((get b p).2.1)), (.bool (rbad bad b p))], rowT 48 sampE vo out] := hcall
    refine s_cons (op_call Try.call29 (evs_cons (v := (.int .u64 ((get b p).1))) rfl evs_nil) (c_Zag (w0 := w23) (n := (get b p).1) (h0 := (by omega)) (h1 := (by omega))) ?_)
    rintro _ w24 ⟨rfl, hcall⟩
    refine ⟨_, rfl, ?_⟩
    have hst : St w0 w24 [.blk g1 59 #[v_b, (.int .i64 ((get b p).2.1)), (.bool (rbad bad b p))], rowT 48 sampE vo out] := hst.call hcall
    refine s_cons (op_add (k := .i64) (a := st) (b := (zag ((get b p).1))) (wr (st + (zag ((get b p).1)))) rfl rfl rfl ?_)
    refine s_cons (op_assign (.int .i64 (wr (st + (zag ((get b p).1))))) rfl ?_)
    refine s_nil ?_
    refine then_n ?_
    refine cE_seq ?_
    refine cE_region rfl ?_
    refine s_cons (op_move vo q4_5 ?_)
    refine s_cons (op_move (.int .i64 (i : Int)) rfl ?_)
    refine s_cons (op_sub (k := .i64) (a := (i : Int)) (b := 1) ((i : Int) - 1) rfl rfl (xi64 (by omega) (by omega)) ?_)
    refine s_cons (op_indexAddrN (E := sampE) (xs := out) (i - 1) Try.underlying22 Try.sizeOf48 rfl (hst.sl 1 rfl) rfl (by omega) (by first | omega | (simp; omega) | (simp; done)) (fun a25 o26 p27 => ?_))
    refine s_cons (op_loadN (cs := [(.int .i64 ((out[(i - 1)]'(by first | omega | (simp; omega) | (simp; done))).T)), (.int .i64 ((out[(i - 1)]'(by first | omega | (simp; omega) | (simp; done))).V))]) Try.isAgg48 Try.sizeOf48 rfl (Pt.of p27 rfl) rfl ?_)
    refine s_cons (op_alloc (cs := #[(.int .i64 0), (.int .i64 0)]) hst Try.zeroValue48 rfl (fun g28 w29 hst _ => ?_))
    replace hst : St w0 w29 [.blk g28 48 #[(.int .i64 0), (.int .i64 0)], .blk g1 59 #[v_b, (.int .i64 ((get b p).2.1)), (.bool (rbad bad b p))], rowT 48 sampE vo out] := hst
    refine s_cons0 (op_storeAll hst 0 rfl Try.sizeOf48 rfl rfl rfl rfl (by simp [Value.oneCell']) (fun w30 hst => ?_))
    replace hst : St w0 w30 [.blk g28 48 #[(.int .i64 ((out[(i - 1)]'(by first | omega | (simp; omega) | (simp; done))).T)), (.int .i64 ((out[(i - 1)]'(by first | omega | (simp; omega) | (simp; done))).V))], .blk g1 59 #[v_b, (.int .i64 ((get b p).2.1)), (.bool (rbad bad b p))], rowT 48 sampE vo out] := hst
    refine s_nil ?_
    refine then_n ?_
    have hM37 : stabML [8, 13] [(kEq vo), (kEq (.pointer (some ⟨g28, (0 + 0), none⟩))), (kEq (.int .i64 ((out[(i - 1)]'(by first | omega | (simp; omega) | (simp; done))).T))), (kEq (.int .i64 (wr (st + (zag ((get b p).1)))))), (kEq (.int .i64 (wr ((out[(i - 1)]'(by first | omega | (simp; omega) | (simp; done))).T + (wr (st + (zag ((get b p).1)))))))), (kEq (.pointer (some ⟨g28, (0 + 1), none⟩))), (kEq (.int .i64 ((out[(i - 1)]'(by first | omega | (simp; omega) | (simp; done))).V))), (kEq (.pointer (some ⟨g1, 0, none⟩))), (kEq (.int .u64 ((get b ((get b p).2.1)).1))), (kEq (.int .i64 (zag ((get b ((get b p).2.1)).1)))), (kEq (.int .i64 (wr ((out[(i - 1)]'(by first | omega | (simp; omega) | (simp; done))).V + (zag ((get b ((get b p).2.1)).1)))))), (kEq (.agg #[(.int .i64 (wr ((out[(i - 1)]'(by first | omega | (simp; omega) | (simp; done))).T + (wr (st + (zag ((get b p).1))))))), (.int .i64 (wr ((out[(i - 1)]'(by first | omega | (simp; omega) | (simp; done))).V + (zag ((get b ((get b p).2.1)).1)))))])), (kSlU [13] sampE ([(⟨(wr ((out[(i - 1)]'(by first | omega | (simp; omega) | (simp; done))).T + (wr (st + (zag ((get b p).1)))))), (wr ((out[(i - 1)]'(by first | omega | (simp; omega) | (simp; done))).V + (zag ((get b ((get b p).2.1)).1))))⟩ : Sample)])), (fun (D : Nat → Bool) (v35 : Value) (w : World) => (D 13 = true → St w0 w [rowT 48 sampE v35 (out ++ ([(⟨(wr ((out[(i - 1)]'(by first | omega | (simp; omega) | (simp; done))).T + (wr (st + (zag ((get b p).1)))))), (wr ((out[(i - 1)]'(by first | omega | (simp; omega) | (simp; done))).V + (zag ((get b ((get b p).2.1)).1))))⟩ : Sample)])), .blk g28 48 #[(.int .i64 ((out[(i - 1)]'(by first | omega | (simp; omega) | (simp; done))).T)), (.int .i64 ((out[(i - 1)]'(by first | omega | (simp; omega) | (simp; done))).V))], .blk g1 59 #[v_b, (.int .i64 ((get b ((get b p).2.1)).2.1)), (.bool (rbad (rbad bad b p) b ((get b p).2.1)))]])), (fun (D : Nat → Bool) (v35 : Value) (w : World) => (D 13 = true → St w0 w [rowT 48 sampE v35 (out ++ ([(⟨(wr ((out[(i - 1)]'(by first | omega | (simp; omega) | (simp; done))).T + (wr (st + (zag ((get b p).1)))))), (wr ((out[(i - 1)]'(by first | omega | (simp; omega) | (simp; done))).V + (zag ((get b ((get b p).2.1)).1))))⟩ : Sample)])), .blk g28 48 #[(.int .i64 ((out[(i - 1)]'(by first | omega | (simp; omega) | (simp; done))).T)), (.int .i64 ((out[(i - 1)]'(by first | omega | (simp; omega) | (simp; done))).V))], .blk g1 59 #[v_b, (.int .i64 ((get b ((get b p).2.1)).2.1)), (.bool (rbad (rbad bad b p) b ((get b p).2.1)))]]))] := ⟨mEq, mEq, mEq, mEq, mEq, mEq, mEq, mEq, mEq, mEq, mEq, mEq, (mSlUs (by decide)), (fun D D' v w w' hD hb h2 => (fun x0 => (h2 ((hD 13 (by decide)).symm.trans x0)).ext hb)), (fun D D' v w w' hD hb h2 => (fun x0 => (h2 ((hD 13 (by decide)).symm.trans x0)).ext hb)), trivial⟩
    refine cE_regionK (fun (D : Nat → Bool) (w : World) => St w0 w [.blk g28 48 #[(.int .i64 ((out[(i - 1)]'(by first | omega | (simp; omega) | (simp; done))).T)), (.int .i64 ((out[(i - 1)]'(by first | omega | (simp; omega) | (simp; done))).V))]] ∧ (D 8 = false → St w0 w [.blk g28 48 #[(.int .i64 ((out[(i - 1)]'(by first | omega | (simp; omega) | (simp; done))).T)), (.int .i64 ((out[(i - 1)]'(by first | omega | (simp; omega) | (simp; done))).V))], .blk g1 59 #[v_b, (.int .i64 ((get b p).2.1)), (.bool (rbad bad b p))], rowT 48 sampE vo out]) ∧ (D 8 = true → D 13 = false → St w0 w [.blk g28 48 #[(.int .i64 ((out[(i - 1)]'(by first | omega | (simp; omega) | (simp; done))).T)), (.int .i64 ((out[(i - 1)]'(by first | omega | (simp; omega) | (simp; done))).V))], .blk g1 59 #[v_b, (.int .i64 ((get b ((get b p).2.1)).2.1)), (.bool (rbad (rbad bad b p) b ((get b p).2.1)))], rowT 48 sampE vo out])) [[(5, none)], [(9, none)], [(48, some 1)], [(6, none)], [(49, some 2), (50, some 3)], [(9, none)], [(52, some 5)], [(4, none)], [(54, some 7)], [(55, some 8)], [(53, some 6), (56, some 9)], [(51, some 4), (57, some 10)], [(58, some 11)], [(47, some 0), (59, some 12)], [(60, some 13)]] (RofK [(kEq vo), (kEq (.pointer (some ⟨g28, (0 + 0), none⟩))), (kEq (.int .i64 ((out[(i - 1)]'(by first | omega | (simp; omega) | (simp; done))).T))), (kEq (.int .i64 (wr (st + (zag ((get b p).1)))))), (kEq (.int .i64 (wr ((out[(i - 1)]'(by first | omega | (simp; omega) | (simp; done))).T + (wr (st + (zag ((get b p).1)))))))), (kEq (.pointer (some ⟨g28, (0 + 1), none⟩))), (kEq (.int .i64 ((out[(i - 1)]'(by first | omega | (simp; omega) | (simp; done))).V))), (kEq (.pointer (some ⟨g1, 0, none⟩))), (kEq (.int .u64 ((get b ((get b p).2.1)).1))), (kEq (.int .i64 (zag ((get b ((get b p).2.1)).1)))), (kEq (.int .i64 (wr ((out[(i - 1)]'(by first | omega | (simp; omega) | (simp; done))).V + (zag ((get b ((get b p).2.1)).1)))))), (kEq (.agg #[(.int .i64 (wr ((out[(i - 1)]'(by first | omega | (simp; omega) | (simp; done))).T + (wr (st + (zag ((get b p).1))))))), (.int .i64 (wr ((out[(i - 1)]'(by first | omega | (simp; omega) | (simp; done))).V + (zag ((get b ((get b p).2.1)).1)))))])), (kSlU [13] sampE ([(⟨(wr ((out[(i - 1)]'(by first | omega | (simp; omega) | (simp; done))).T + (wr (st + (zag ((get b p).1)))))), (wr ((out[(i - 1)]'(by first | omega | (simp; omega) | (simp; done))).V + (zag ((get b ((get b p).2.1)).1))))⟩ : Sample)])), (fun (D : Nat → Bool) (v35 : Value) (w : World) => (D 13 = true → St w0 w [rowT 48 sampE v35 (out ++ ([(⟨(wr ((out[(i - 1)]'(by first | omega | (simp; omega) | (simp; done))).T + (wr (st + (zag ((get b p).1)))))), (wr ((out[(i - 1)]'(by first | omega | (simp; omega) | (simp; done))).V + (zag ((get b ((get b p).2.1)).1))))⟩ : Sample)])), .blk g28 48 #[(.int .i64 ((out[(i - 1)]'(by first | omega | (simp; omega) | (simp; done))).T)), (.int .i64 ((out[(i - 1)]'(by first | omega | (simp; omega) | (simp; done))).V))], .blk g1 59 #[v_b, (.int .i64 ((get b ((get b p).2.1)).2.1)), (.bool (rbad (rbad bad b p) b ((get b p).2.1)))]])), (fun (D : Nat → Bool) (v35 : Value) (w : World) => (D 13 = true → St w0 w [rowT 48 sampE v35 (out ++ ([(⟨(wr ((out[(i - 1)]'(by first | omega | (simp; omega) | (simp; done))).T + (wr (st + (zag ((get b p).1)))))), (wr ((out[(i - 1)]'(by first | omega | (simp; omega) | (simp; done))).V + (zag ((get b ((get b p).2.1)).1))))⟩ : Sample)])), .blk g28 48 #[(.int .i64 ((out[(i - 1)]'(by first | omega | (simp; omega) | (simp; done))).T)), (.int .i64 ((out[(i - 1)]'(by first | omega | (simp; omega) | (simp; done))).V))], .blk g1 59 #[v_b, (.int .i64 ((get b ((get b p).2.1)).2.1)), (.bool (rbad (rbad bad b p) b ((get b p).2.1)))]]))]) (by kernel_rfl) rfl (by kernel_rfl) ⟨hst.drewW.sub (.cons_cons _ (.cons _ (.cons _ .slnil))), (fun _ => hst.drewW), (fun h => absurd h Bool.false_ne_true)⟩ ⟨?_, ?_, ?_, ?_, ?_, ?_, ?_, ?_, ?_, ?_, ?_, ?_, ?_, ?_, ?_, trivial⟩ ?_
    · rintro D39 ρ40 w41 hD42 hE43 hC44 hJ45 hA46 ⟨f5, _⟩
      have hst := hJ45.1
      exact go_plain (op_move vo (f5.trans q4_5) (kN0 (i := 0) hM37 (by decide) (by exact hJ45) (by exact rfl)))
    · rintro D47 ρ48 w49 hD50 hE51 hC52 hJ53 hA54 ⟨f9, _⟩
      have hst := hJ53.1
      exact go_plain (op_fieldAddr (s := 0) Try.underlying48 rfl rfl Try.sizeOf2 (f9.trans rfl) (kN0 (i := 1) hM37 (by decide) (by exact hJ53) (by exact rfl)))
    · rintro D55 ρ56 w57 hD58 hE59 hC60 hJ61 hA62 ⟨f48, _⟩
      have hst := hJ61.1
      exact go_plain (op_load1 (u := (.int .i64 ((out[(i - 1)]'(by first | omega | (simp; omega) | (simp; done))).T))) Try.isAgg2 f48 (hst.cell 0 rfl) (kN0 (i := 2) hM37 (by decide) (by exact hJ61) (by exact rfl)))
    · rintro D63 ρ64 w65 hD66 hE67 hC68 hJ69 hA70 ⟨f6, _⟩
      have hst := hJ69.1
      exact go_plain (op_move (.int .i64 (wr (st + (zag ((get b p).1))))) (f6.trans rfl) (kN0 (i := 3) hM37 (by decide) (by exact hJ69) (by exact rfl)))
    · rintro D71 ρ72 w73 hD74 hE75 hC76 hJ77 hA78 ⟨f49, f50, _⟩
      have hst := hJ77.1
      exact go_plain (op_add (k := .i64) (a := (out[(i - 1)]'(by first | omega | (simp; omega) | (simp; done))).T) (b := (wr (st + (zag ((get b p).1))))) (wr ((out[(i - 1)]'(by first | omega | (simp; omega) | (simp; done))).T + (wr (st + (zag ((get b p).1)))))) f49 f50 rfl (kN0 (i := 4) hM37 (by decide) (by exact hJ77) (by exact rfl)))
    · rintro D79 ρ80 w81 hD82 hE83 hC84 hJ85 hA86 ⟨f9, _⟩
      have hst := hJ85.1
      exact go_plain (op_fieldAddr (s := 0) Try.underlying48 rfl rfl Try.sizeOf2 (f9.trans rfl) (kN0 (i := 5) hM37 (by decide) (by exact hJ85) (by exact rfl)))
    · rintro D87 ρ88 w89 hD90 hE91 hC92 hJ93 hA94 ⟨f52, _⟩
      have hst := hJ93.1
      exact go_plain (op_load1 (u := (.int .i64 ((out[(i - 1)]'(by first | omega | (simp; omega) | (simp; done))).V))) Try.isAgg2 f52 ((hst.cell 0 rfl).drop 1) (kN0 (i := 6) hM37 (by decide) (by exact hJ93) (by exact rfl)))
    · rintro D95 ρ96 w97 hD98 hE99 hC100 hJ101 hA102 ⟨f4, _⟩
      have hst := hJ101.2.1 (not_yet hD98 (fun hm => (hC100 8 7 hm (by kernel_rfl))))
      replace hst : St w0 w97 [.blk g28 48 #[(.int .i64 ((out[(i - 1)]'(by first | omega | (simp; omega) | (simp; done))).T)), (.int .i64 ((out[(i - 1)]'(by first | omega | (simp; omega) | (simp; done))).V))], .blk g1 59 #[v_b, (.int .i64 ((get b p).2.1)), (.bool (rbad bad b p))], rowT 48 sampE vo out] := hst
      exact go_plain (op_move (.pointer (some ⟨g1, 0, none⟩)) (f4.trans q4_4) (kN0 (i := 7) hM37 (by decide) (by exact hJ101) (by exact rfl)))
    · rintro D103 ρ104 w105 hD106 hE107 hC108 hJ109 hA110 ⟨f54, _⟩
      have hst := hJ109.2.1 hD106
      replace hst : St w0 w105 [.blk g28 48 #[(.int .i64 ((out[(i - 1)]'(by first | omega | (simp; omega) | (simp; done))).T)), (.int .i64 ((out[(i - 1)]'(by first | omega | (simp; omega) | (simp; done))).V))], .blk g1 59 #[v_b, (.int .i64 ((get b p).2.1)), (.bool (rbad bad b p))], rowT 48 sampE vo out] := hst
      replace hst : St w0 w105 [.blk g1 59 #[v_b, (.int .i64 ((get b p).2.1)), (.bool (rbad bad b p))], .blk g28 48 #[(.int .i64 ((out[(i - 1)]'(by first | omega | (simp; omega) | (simp; done))).T)), (.int .i64 ((out[(i - 1)]'(by first | omega | (simp; omega) | (simp; done))).V))], rowT 48 sampE vo out] := hst.front 1 rfl
      refine go_plain (op_call Try.call28 (evs_cons (v := (.pointer (some ⟨g1, 0, none⟩))) f54 evs_nil) (c_kNext (g_r := g1) (v_b := v_b) (b := b) (h_b := h_b) (at_ := (get b p).2.1) (bad := (rbad bad b p)) (hl := hl) (hst := hst)) ?_)
      rintro _ w111 ⟨rfl, hcall⟩
      refine ⟨_, rfl, ?_⟩
      have hst : St w0 w111 [.blk g1 59 #[v_b, (.int .i64 ((get b ((get b p).2.1)).2.1)), (.bool (rbad (rbad bad b p) b ((get b p).2.1)))], .blk g28 48 #[(.int .i64 ((out[(i - 1)]'(by first | omega | (simp; omega) | (simp; done))).T)), (.int .i64 ((out[(i - 1)]'(by first | omega | (simp; omega) | (simp; done))).V))], rowT 48 sampE vo out] := hcall
      replace hst : St w0 w111 [rowT 48 sampE vo out, .blk g1 59 #[v_b, (.int .i64 ((get b ((get b p).2.1)).2.1)), (.bool (rbad (rbad bad b p) b ((get b p).2.1)))], .blk g28 48 #[(.int .i64 ((out[(i - 1)]'(by first | omega | (simp; omega) | (simp; done))).T)), (.int .i64 ((out[(i - 1)]'(by first | omega | (simp; omega) | (simp; done))).V))]] := hst.front 2 rfl
      replace hst : St w0 w111 [.blk g1 59 #[v_b, (.int .i64 ((get b ((get b p).2.1)).2.1)), (.bool (rbad (rbad bad b p) b ((get b p).2.1)))], rowT 48 sampE vo out, .blk g28 48 #[(.int .i64 ((out[(i - 1)]'(by first | omega | (simp; omega) | (simp; done))).T)), (.int .i64 ((out[(i - 1)]'(by first | omega | (simp; omega) | (simp; done))).V))]] := hst.front 1 rfl
      replace hst : St w0 w111 [.blk g28 48 #[(.int .i64 ((out[(i - 1)]'(by first | omega | (simp; omega) | (simp; done))).T)), (.int .i64 ((out[(i - 1)]'(by first | omega | (simp; omega) | (simp; done))).V))], .blk g1 59 #[v_b, (.int .i64 ((get b ((get b p).2.1)).2.1)), (.bool (rbad (rbad bad b p) b ((get b p).2.1)))], rowT 48 sampE vo out] := hst.front 2 rfl
      have hI112 : stabIXs 8 [] D103 0 [(kEq vo), (kEq (.pointer (some ⟨g28, (0 + 0), none⟩))), (kEq (.int .i64 ((out[(i - 1)]'(by first | omega | (simp; omega) | (simp; done))).T))), (kEq (.int .i64 (wr (st + (zag ((get b p).1)))))), (kEq (.int .i64 (wr ((out[(i - 1)]'(by first | omega | (simp; omega) | (simp; done))).T + (wr (st + (zag ((get b p).1)))))))), (kEq (.pointer (some ⟨g28, (0 + 1), none⟩))), (kEq (.int .i64 ((out[(i - 1)]'(by first | omega | (simp; omega) | (simp; done))).V))), (kEq (.pointer (some ⟨g1, 0, none⟩))), (kEq (.int .u64 ((get b ((get b p).2.1)).1))), (kEq (.int .i64 (zag ((get b ((get b p).2.1)).1)))), (kEq (.int .i64 (wr ((out[(i - 1)]'(by first | omega | (simp; omega) | (simp; done))).V + (zag ((get b ((get b p).2.1)).1)))))), (kEq (.agg #[(.int .i64 (wr ((out[(i - 1)]'(by first | omega | (simp; omega) | (simp; done))).T + (wr (st + (zag ((get b p).1))))))), (.int .i64 (wr ((out[(i - 1)]'(by first | omega | (simp; omega) | (simp; done))).V + (zag ((get b ((get b p).2.1)).1)))))])), (kSlU [13] sampE ([(⟨(wr ((out[(i - 1)]'(by first | omega | (simp; omega) | (simp; done))).T + (wr (st + (zag ((get b p).1)))))), (wr ((out[(i - 1)]'(by first | omega | (simp; omega) | (simp; done))).V + (zag ((get b ((get b p).2.1)).1))))⟩ : Sample)])), (fun (D : Nat → Bool) (v35 : Value) (w : World) => (D 13 = true → St w0 w [rowT 48 sampE v35 (out ++ ([(⟨(wr ((out[(i - 1)]'(by first | omega | (simp; omega) | (simp; done))).T + (wr (st + (zag ((get b p).1)))))), (wr ((out[(i - 1)]'(by first | omega | (simp; omega) | (simp; done))).V + (zag ((get b ((get b p).2.1)).1))))⟩ : Sample)])), .blk g28 48 #[(.int .i64 ((out[(i - 1)]'(by first | omega | (simp; omega) | (simp; done))).T)), (.int .i64 ((out[(i - 1)]'(by first | omega | (simp; omega) | (simp; done))).V))], .blk g1 59 #[v_b, (.int .i64 ((get b ((get b p).2.1)).2.1)), (.bool (rbad (rbad bad b p) b ((get b p).2.1)))]])), (fun (D : Nat → Bool) (v35 : Value) (w : World) => (D 13 = true → St w0 w [rowT 48 sampE v35 (out ++ ([(⟨(wr ((out[(i - 1)]'(by first | omega | (simp; omega) | (simp; done))).T + (wr (st + (zag ((get b p).1)))))), (wr ((out[(i - 1)]'(by first | omega | (simp; omega) | (simp; done))).V + (zag ((get b ((get b p).2.1)).1))))⟩ : Sample)])), .blk g28 48 #[(.int .i64 ((out[(i - 1)]'(by first | omega | (simp; omega) | (simp; done))).T)), (.int .i64 ((out[(i - 1)]'(by first | omega | (simp; omega) | (simp; done))).V))], .blk g1 59 #[v_b, (.int .i64 ((get b ((get b p).2.1)).2.1)), (.bool (rbad (rbad bad b p) b ((get b p).2.1)))]]))] := ⟨Or.inr (Or.inr (Or.inr iEq)), Or.inr (Or.inr (Or.inr iEq)), Or.inr (Or.inr (Or.inr iEq)), Or.inr (Or.inr (Or.inr iEq)), Or.inr (Or.inr (Or.inr iEq)), Or.inr (Or.inr (Or.inr iEq)), Or.inr (Or.inr (Or.inr iEq)), Or.inr (Or.inr (Or.inr iEq)), Or.inl rfl, Or.inr (Or.inr (Or.inl (not_yet hD106 (fun hm => (hC108 9 8 hm (by kernel_rfl)))))), Or.inr (Or.inr (Or.inl (not_yet hD106 (fun hm => (hC108 9 8 (hC108 10 9 hm (by kernel_rfl)) (by kernel_rfl)))))), Or.inr (Or.inr (Or.inl (not_yet hD106 (fun hm => (hC108 9 8 (hC108 10 9 (hC108 11 10 hm (by kernel_rfl)) (by kernel_rfl)) (by kernel_rfl)))))), Or.inr (Or.inr (Or.inl (not_yet hD106 (fun hm => (hC108 9 8 (hC108 10 9 (hC108 11 10 (hC108 12 11 hm (by kernel_rfl)) (by kernel_rfl)) (by kernel_rfl)) (by kernel_rfl)))))), Or.inr (Or.inr (Or.inl (not_yet hD106 (fun hm => (hC108 9 8 (hC108 13 9 hm (by kernel_rfl)) (by kernel_rfl)))))), Or.inr (Or.inr (Or.inl (not_yet hD106 (fun hm => (hC108 14 8 hm (by kernel_rfl)))))), trivial⟩
      refine ⟨by exact ⟨hst.sub (.cons_cons _ (.cons _ (.cons _ .slnil))), (fun y0 => absurd y0 (fun h => Bool.noConfusion h)), (fun y0 y1 => hst.sub (.cons_cons _ (.cons_cons _ (.cons_cons _ .slnil))))⟩, by exact rfl, kX [] hI112 ?_⟩
      intro j d hj; cases hj
    · rintro D113 ρ114 w115 hD116 hE117 hC118 hJ119 hA120 ⟨f55, _⟩
      have hst := hJ119.2.2 (hE117 8 (by kernel_rfl)) (not_yet hD116 (fun hm => (hC118 13 9 hm (by kernel_rfl))))
      replace hst : St w0 w115 [.blk g28 48 #[(.int .i64 ((out[(i - 1)]'(by first | omega | (simp; omega) | (simp; done))).T)), (.int .i64 ((out[(i - 1)]'(by first | omega | (simp; omega) | (simp; done))).V))], .blk g1 59 #[v_b, (.int .i64 ((get b ((get b p).2.1)).2.1)), (.bool (rbad (rbad bad b p) b ((get b p).2.1)))], rowT 48 sampE vo out] := hst
      refine go_plain (op_call Try.call29 (evs_cons (v := (.int .u64 ((get b ((get b p).2.1)).1))) f55 evs_nil) (c_Zag (w0 := w115) (n := (get b ((get b p).2.1)).1) (h0 := (by omega)) (h1 := (by omega))) ?_)
      rintro _ w121 ⟨rfl, hcall⟩
      refine ⟨_, rfl, ?_⟩
      exact kN (i := 9) hM37 (by decide) hcall.below (by exact ⟨(hJ119.1).ext hcall.below, (fun x0 => (hJ119.2.1 x0).ext hcall.below), (fun x0 x1 => (hJ119.2.2 x0 x1).ext hcall.below)⟩) (by exact rfl)
    · rintro D122 ρ123 w124 hD125 hE126 hC127 hJ128 hA129 ⟨f53, f56, _⟩
      have hst := hJ128.2.2 (hC127 9 8 (hE126 9 (by kernel_rfl)) (by kernel_rfl)) (not_yet hD125 (fun hm => (hC127 11 10 (hC127 12 11 (hC127 13 12 hm (by kernel_rfl)) (by kernel_rfl)) (by kernel_rfl))))
      replace hst : St w0 w124 [.blk g28 48 #[(.int .i64 ((out[(i - 1)]'(by first | omega | (simp; omega) | (simp; done))).T)), (.int .i64 ((out[(i - 1)]'(by first | omega | (simp; omega) | (simp; done))).V))], .blk g1 59 #[v_b, (.int .i64 ((get b ((get b p).2.1)).2.1)), (.bool (rbad (rbad bad b p) b ((get b p).2.1)))], rowT 48 sampE vo out] := hst
      exact go_plain (op_add (k := .i64) (a := (out[(i - 1)]'(by first | omega | (simp; omega) | (simp; done))).V) (b := (zag ((get b ((get b p).2.1)).1))) (wr ((out[(i - 1)]'(by first | omega | (simp; omega) | (simp; done))).V + (zag ((get b ((get b p).2.1)).1)))) f53 f56 rfl (kN0 (i := 10) hM37 (by decide) (by exact hJ128) (by exact rfl)))
    · rintro D130 ρ131 w132 hD133 hE134 hC135 hJ136 hA137 ⟨f51, f57, _⟩
      have hst := hJ136.2.2 (hC135 9 8 (hC135 10 9 (hE134 10 (by kernel_rfl)) (by kernel_rfl)) (by kernel_rfl)) (not_yet hD133 (fun hm => (hC135 12 11 (hC135 13 12 hm (by kernel_rfl)) (by kernel_rfl))))
      replace hst : St w0 w132 [.blk g28 48 #[(.int .i64 ((out[(i - 1)]'(by first | omega | (simp; omega) | (simp; done))).T)), (.int .i64 ((out[(i - 1)]'(by first | omega | (simp; omega) | (simp; done))).V))], .blk g1 59 #[v_b, (.int .i64 ((get b ((get b p).2.1)).2.1)), (.bool (rbad (rbad bad b p) b ((get b p).2.1)))], rowT 48 sampE vo out] := hst
      exact go_plain (op_build (r := (.agg #[(.int .i64 (wr ((out[(i - 1)]'(by first | omega | (simp; omega) | (simp; done))).T + (wr (st + (zag ((get b p).1))))))), (.int .i64 (wr ((out[(i - 1)]'(by first | omega | (simp; omega) | (simp; done))).V + (zag ((get b ((get b p).2.1)).1)))))])) (evp_cons (v := (.int .i64 (wr ((out[(i - 1)]'(by first | omega | (simp; omega) | (simp; done))).T + (wr (st + (zag ((get b p).1)))))))) f51 (evp_cons (v := (.int .i64 (wr ((out[(i - 1)]'(by first | omega | (simp; omega) | (simp; done))).V + (zag ((get b ((get b p).2.1)).1)))))) f57 evp_nil)) (by simp [Instr.build, Instr.fill, Value.cells, Try.runUnderlying48, Try.zeroValue48]) (kN0 (i := 11) hM37 (by decide) (by exact hJ136) (by exact rfl)))
    · rintro D138 ρ139 w140 hD141 hE142 hC143 hJ144 hA145 ⟨f58, _⟩
      have hst := hJ144.2.2 (hC143 9 8 (hC143 10 9 (hC143 11 10 (hE142 11 (by kernel_rfl)) (by kernel_rfl)) (by kernel_rfl)) (by kernel_rfl)) (not_yet hD141 (fun hm => (hC143 13 12 hm (by kernel_rfl))))
      replace hst : St w0 w140 [.blk g28 48 #[(.int .i64 ((out[(i - 1)]'(by first | omega | (simp; omega) | (simp; done))).T)), (.int .i64 ((out[(i - 1)]'(by first | omega | (simp; omega) | (simp; done))).V))], .blk g1 59 #[v_b, (.int .i64 ((get b ((get b p).2.1)).2.1)), (.bool (rbad (rbad bad b p) b ((get b p).2.1)))], rowT 48 sampE vo out] := hst
      have hst := St.start w140
      refine go_plain (op_buildSlice (E := sampE) [(⟨(wr ((out[(i - 1)]'(by first | omega | (simp; omega) | (simp; done))).T + (wr (st + (zag ((get b p).1)))))), (wr ((out[(i - 1)]'(by first | omega | (simp; omega) | (simp; done))).V + (zag ((get b ((get b p).2.1)).1))))⟩ : Sample)] hst Try.underlying22 Try.sizeOf48 Try.zeroValue48 (evp_cons (v := (.agg #[(.int .i64 (wr ((out[(i - 1)]'(by first | omega | (simp; omega) | (simp; done))).T + (wr (st + (zag ((get b p).1))))))), (.int .i64 (wr ((out[(i - 1)]'(by first | omega | (simp; omega) | (simp; done))).V + (zag ((get b ((get b p).2.1)).1)))))])) f58 evp_nil) (parts_cons rfl parts_nil) rfl (by decide) (fun v146 w147 hst => ?_))
      exact kN (i := 12) hM37 (by decide) hst.below (by exact ⟨(hJ144.1).ext hst.below, (fun x0 => (hJ144.2.1 x0).ext hst.below), (fun x0 x1 => (hJ144.2.2 x0 x1).ext hst.below)⟩) (by exact fun _ => hst.sl 0 rfl)
    · rintro D148 ρ149 w150 hD151 hE152 hC153 hJ154 hA155 ⟨f47, f59, _⟩
      have hst := hJ154.2.2 (hC153 9 8 (hE152 9 (by kernel_rfl)) (by kernel_rfl)) hD151
      replace hst : St w0 w150 [.blk g28 48 #[(.int .i64 ((out[(i - 1)]'(by first | omega | (simp; omega) | (simp; done))).T)), (.int .i64 ((out[(i - 1)]'(by first | omega | (simp; omega) | (simp; done))).V))], .blk g1 59 #[v_b, (.int .i64 ((get b ((get b p).2.1)).2.1)), (.bool (rbad (rbad bad b p) b ((get b p).2.1)))], rowT 48 sampE vo out] := hst
      obtain ⟨v157, e158⟩ : ∃ x, ρ149 59 = x := ⟨_, rfl⟩
      have hs156 := f59 (by intro m hm; obtain rfl := List.mem_singleton.1 hm; exact hD151)
      replace hs156 : Sl w150 sampE v157 ([(⟨(wr ((out[(i - 1)]'(by first | omega | (simp; omega) | (simp; done))).T + (wr (st + (zag ((get b p).1)))))), (wr ((out[(i - 1)]'(by first | omega | (simp; omega) | (simp; done))).V + (zag ((get b ((get b p).2.1)).1))))⟩ : Sample)]) := e158 ▸ hs156
      refine go_plain (op_append (E := sampE) (xs := out) (ys := [(⟨(wr ((out[(i - 1)]'(by first | omega | (simp; omega) | (simp; done))).T + (wr (st + (zag ((get b p).1)))))), (wr ((out[(i - 1)]'(by first | omega | (simp; omega) | (simp; done))).V + (zag ((get b ((get b p).2.1)).1))))⟩ : Sample)]) (z := (.agg #[(.int .i64 0), (.int .i64 0)])) (bytes := 16) hst 2 rfl Try.underlying22 (by kernel_rfl) rfl f47 e158 hs156 (by first | omega | (simp; omega) | (simp; done)) (by first | omega | (simp; omega) | (simp; done)) (fun v159 w160 hst => ?_))
      replace hst : St w0 w160 [.blk g28 48 #[(.int .i64 ((out[(i - 1)]'(by first | omega | (simp; omega) | (simp; done))).T)), (.int .i64 ((out[(i - 1)]'(by first | omega | (simp; omega) | (simp; done))).V))], .blk g1 59 #[v_b, (.int .i64 ((get b ((get b p).2.1)).2.1)), (.bool (rbad (rbad bad b p) b ((get b p).2.1)))], rowT 48 sampE v159 (out ++ ([(⟨(wr ((out[(i - 1)]'(by first | omega | (simp; omega) | (simp; done))).T + (wr (st + (zag ((get b p).1)))))), (wr ((out[(i - 1)]'(by first | omega | (simp; omega) | (simp; done))).V + (zag ((get b ((get b p).2.1)).1))))⟩ : Sample)]))] := hst
      replace hst : St w0 w160 [.blk g1 59 #[v_b, (.int .i64 ((get b ((get b p).2.1)).2.1)), (.bool (rbad (rbad bad b p) b ((get b p).2.1)))], .blk g28 48 #[(.int .i64 ((out[(i - 1)]'(by first | omega | (simp; omega) | (simp; done))).T)), (.int .i64 ((out[(i - 1)]'(by first | omega | (simp; omega) | (simp; done))).V))], rowT 48 sampE v159 (out ++ ([(⟨(wr ((out[(i - 1)]'(by first | omega | (simp; omega) | (simp; done))).T + (wr (st + (zag ((get b p).1)))))), (wr ((out[(i - 1)]'(by first | omega | (simp; omega) | (simp; done))).V + (zag ((get b ((get b p).2.1)).1))))⟩ : Sample)]))] := hst.front 1 rfl
      replace hst : St w0 w160 [.blk g28 48 #[(.int .i64 ((out[(i - 1)]'(by first | omega | (simp; omega) | (simp; done))).T)), (.int .i64 ((out[(i - 1)]'(by first | omega | (simp; omega) | (simp; done))).V))], .blk g1 59 #[v_b, (.int .i64 ((get b ((get b p).2.1)).2.1)), (.bool (rbad (rbad bad b p) b ((get b p).2.1)))], rowT 48 sampE v159 (out ++ ([(⟨(wr ((out[(i - 1)]'(by first | omega | (simp; omega) | (simp; done))).T + (wr (st + (zag ((get b p).1)))))), (wr ((out[(i - 1)]'(by first | omega | (simp; omega) | (simp; done))).V + (zag ((get b ((get b p).2.1)).1))))⟩ : Sample)]))] := hst.front 1 rfl
      replace hst : St w0 w160 [rowT 48 sampE v159 (out ++ ([(⟨(wr ((out[(i - 1)]'(by first | omega | (simp; omega) | (simp; done))).T + (wr (st + (zag ((get b p).1)))))), (wr ((out[(i - 1)]'(by first | omega | (simp; omega) | (simp; done))).V + (zag ((get b ((get b p).2.1)).1))))⟩ : Sample)])), .blk g28 48 #[(.int .i64 ((out[(i - 1)]'(by first | omega | (simp; omega) | (simp; done))).T)), (.int .i64 ((out[(i - 1)]'(by first | omega | (simp; omega) | (simp; done))).V))], .blk g1 59 #[v_b, (.int .i64 ((get b ((get b p).2.1)).2.1)), (.bool (rbad (rbad bad b p) b ((get b p).2.1)))]] := hst.front 2 rfl
      have hI161 : stabIXs 13 [] D148 0 [(kEq vo), (kEq (.pointer (some ⟨g28, (0 + 0), none⟩))), (kEq (.int .i64 ((out[(i - 1)]'(by first | omega | (simp; omega) | (simp; done))).T))), (kEq (.int .i64 (wr (st + (zag ((get b p).1)))))), (kEq (.int .i64 (wr ((out[(i - 1)]'(by first | omega | (simp; omega) | (simp; done))).T + (wr (st + (zag ((get b p).1)))))))), (kEq (.pointer (some ⟨g28, (0 + 1), none⟩))), (kEq (.int .i64 ((out[(i - 1)]'(by first | omega | (simp; omega) | (simp; done))).V))), (kEq (.pointer (some ⟨g1, 0, none⟩))), (kEq (.int .u64 ((get b ((get b p).2.1)).1))), (kEq (.int .i64 (zag ((get b ((get b p).2.1)).1)))), (kEq (.int .i64 (wr ((out[(i - 1)]'(by first | omega | (simp; omega) | (simp; done))).V + (zag ((get b ((get b p).2.1)).1)))))), (kEq (.agg #[(.int .i64 (wr ((out[(i - 1)]'(by first | omega | (simp; omega) | (simp; done))).T + (wr (st + (zag ((get b p).1))))))), (.int .i64 (wr ((out[(i - 1)]'(by first | omega | (simp; omega) | (simp; done))).V + (zag ((get b ((get b p).2.1)).1)))))])), (kSlU [13] sampE ([(⟨(wr ((out[(i - 1)]'(by first | omega | (simp; omega) | (simp; done))).T + (wr (st + (zag ((get b p).1)))))), (wr ((out[(i - 1)]'(by first | omega | (simp; omega) | (simp; done))).V + (zag ((get b ((get b p).2.1)).1))))⟩ : Sample)])), (fun (D : Nat → Bool) (v35 : Value) (w : World) => (D 13 = true → St w0 w [rowT 48 sampE v35 (out ++ ([(⟨(wr ((out[(i - 1)]'(by first | omega | (simp; omega) | (simp; done))).T + (wr (st + (zag ((get b p).1)))))), (wr ((out[(i - 1)]'(by first | omega | (simp; omega) | (simp; done))).V + (zag ((get b ((get b p).2.1)).1))))⟩ : Sample)])), .blk g28 48 #[(.int .i64 ((out[(i - 1)]'(by first | omega | (simp; omega) | (simp; done))).T)), (.int .i64 ((out[(i - 1)]'(by first | omega | (simp; omega) | (simp; done))).V))], .blk g1 59 #[v_b, (.int .i64 ((get b ((get b p).2.1)).2.1)), (.bool (rbad (rbad bad b p) b ((get b p).2.1)))]])), (fun (D : Nat → Bool) (v35 : Value) (w : World) => (D 13 = true → St w0 w [rowT 48 sampE v35 (out ++ ([(⟨(wr ((out[(i - 1)]'(by first | omega | (simp; omega) | (simp; done))).T + (wr (st + (zag ((get b p).1)))))), (wr ((out[(i - 1)]'(by first | omega | (simp; omega) | (simp; done))).V + (zag ((get b ((get b p).2.1)).1))))⟩ : Sample)])), .blk g28 48 #[(.int .i64 ((out[(i - 1)]'(by first | omega | (simp; omega) | (simp; done))).T)), (.int .i64 ((out[(i - 1)]'(by first | omega | (simp; omega) | (simp; done))).V))], .blk g1 59 #[v_b, (.int .i64 ((get b ((get b p).2.1)).2.1)), (.bool (rbad (rbad bad b p) b ((get b p).2.1)))]]))] := ⟨Or.inr (Or.inr (Or.inr iEq)), Or.inr (Or.inr (Or.inr iEq)), Or.inr (Or.inr (Or.inr iEq)), Or.inr (Or.inr (Or.inr iEq)), Or.inr (Or.inr (Or.inr iEq)), Or.inr (Or.inr (Or.inr iEq)), Or.inr (Or.inr (Or.inr iEq)), Or.inr (Or.inr (Or.inr iEq)), Or.inr (Or.inr (Or.inr iEq)), Or.inr (Or.inr (Or.inr iEq)), Or.inr (Or.inr (Or.inr iEq)), Or.inr (Or.inr (Or.inr iEq)), Or.inr (Or.inr (Or.inr (iSlU (by decide)))), Or.inl rfl, Or.inr (Or.inr (Or.inl (not_yet hD151 (fun hm => (hC153 14 13 hm (by kernel_rfl)))))), trivial⟩
      refine ⟨by exact ⟨hst.sub (.cons _ (.cons_cons _ (.cons _ .slnil))), (fun y0 => absurd (show D148 8 = false from y0) (by rw [(hC153 9 8 (hE152 9 (by kernel_rfl)) (by kernel_rfl))]; decide)), (fun y0 y1 => absurd y1 (fun h => Bool.noConfusion h))⟩, by exact (fun y0 => hst.sub (.cons_cons _ (.cons_cons _ (.cons_cons _ .slnil)))), kX [] hI161 ?_⟩
      intro j d hj; cases hj
    · rintro D162 ρ163 w164 hD165 hE166 hC167 hJ168 hA169 ⟨f60, _⟩
      obtain ⟨v170, e171⟩ : ∃ x, ρ163 60 = x := ⟨_, rfl⟩
      have hh172 := hA169 13 60 (hE166 13 (by kernel_rfl)) rfl
      have hst : St w0 w164 [rowT 48 sampE v170 (out ++ ([(⟨(wr ((out[(i - 1)]'(by first | omega | (simp; omega) | (simp; done))).T + (wr (st + (zag ((get b p).1)))))), (wr ((out[(i - 1)]'(by first | omega | (simp; omega) | (simp; done))).V + (zag ((get b ((get b p).2.1)).1))))⟩ : Sample)])), .blk g28 48 #[(.int .i64 ((out[(i - 1)]'(by first | omega | (simp; omega) | (simp; done))).T)), (.int .i64 ((out[(i - 1)]'(by first | omega | (simp; omega) | (simp; done))).V))], .blk g1 59 #[v_b, (.int .i64 ((get b ((get b p).2.1)).2.1)), (.bool (rbad (rbad bad b p) b ((get b p).2.1)))]] := by have h := hh172 (hE166 13 (by kernel_rfl)); rw [e171] at h; exact h
      exact go_plain (op_assign _ rfl (kN0 (i := 14) hM37 (by decide) (by exact hJ168) (by exact f60)))
    intro ρ173 w174 Dw174 hallw174 hJw174 hRw174 hkw174
    obtain ⟨v175, uw174_5⟩ : ∃ x, ρ173 5 = x := ⟨_, rfl⟩
    have hst : St w0 w174 [rowT 48 sampE v175 (out ++ ([(⟨(wr ((out[(i - 1)]'(by first | omega | (simp; omega) | (simp; done))).T + (wr (st + (zag ((get b p).1)))))), (wr ((out[(i - 1)]'(by first | omega | (simp; omega) | (simp; done))).V + (zag ((get b ((get b p).2.1)).1))))⟩ : Sample)])), .blk g28 48 #[(.int .i64 ((out[(i - 1)]'(by first | omega | (simp; omega) | (simp; done))).T)), (.int .i64 ((out[(i - 1)]'(by first | omega | (simp; omega) | (simp; done))).V))], .blk g1 59 #[v_b, (.int .i64 ((get b ((get b p).2.1)).2.1)), (.bool (rbad (rbad bad b p) b ((get b p).2.1)))]] := by have h := hRw174 14 5 rfl; rw [uw174_5] at h; exact (h (hallw174 13 (show 13 < 15 from by decide)))
    have uw174_0 : ρ173 0 = v_b := (hkw174 0 rfl).trans q4_0
    have uw174_2 : ρ173 2 = (.slice none 0 0) := (hkw174 2 rfl).trans q4_2
    have uw174_3 : ρ173 3 = (.int .i64 0) := (hkw174 3 rfl).trans q4_3
    have uw174_4 : ρ173 4 = (.pointer (some ⟨g1, 0, none⟩)) := (hkw174 4 rfl).trans q4_4
    have uw174_16 : ρ173 16 = (.int .i64 (cntV b 0 64)) := (hkw174 16 rfl).trans q4_16
    have uw174_6 : ρ173 6 = (.int .i64 (wr (st + (zag ((get b p).1))))) := (hkw174 6 rfl).trans rfl
    have uw174_17 : ρ173 17 = (.int .i64 (i : Int)) := (hkw174 17 rfl).trans q4_17
    have uw174_18 : ρ173 18 = (.bool (decide ((i : Int) < (cntV b 0 64)))) := (hkw174 18 rfl).trans rfl
    have uw174_19 : ρ173 19 = (.int .i64 (i : Int)) := (hkw174 19 rfl).trans rfl
    have uw174_7 : ρ173 7 = (.int .i64 (i : Int)) := (hkw174 7 rfl).trans rfl
    have uw174_20 : ρ173 20 = (.pointer (some ⟨g1, 0, none⟩)) := (hkw174 20 rfl).trans rfl
    have uw174_21 : ρ173 21 = (.pointer (some ⟨g1, 0, none⟩)) := (hkw174 21 rfl).trans rfl
    have uw174_22 : ρ173 22 = (.pointer (some ⟨g1, (0 + 2), none⟩)) := (hkw174 22 rfl).trans rfl
    have uw174_23 : ρ173 23 = (.bool bad) := (hkw174 23 rfl).trans rfl
    have uw174_24 : ρ173 24 = (.int .i64 (i : Int)) := (hkw174 24 rfl).trans rfl
    have uw174_25 : ρ173 25 = (.bool (decide ((i : Int) = 0))) := (hkw174 25 rfl).trans rfl
    have uw174_37 : ρ173 37 = (.int .i64 st) := (hkw174 37 rfl).trans rfl
    have uw174_38 : ρ173 38 = (.pointer (some ⟨g1, 0, none⟩)) := (hkw174 38 rfl).trans rfl
    have uw174_39 : ρ173 39 = (.int .u64 ((get b p).1)) := (hkw174 39 rfl).trans rfl
    have uw174_40 : ρ173 40 = (.int .i64 (zag ((get b p).1))) := (hkw174 40 rfl).trans rfl
    have uw174_41 : ρ173 41 = (.int .i64 (wr (st + (zag ((get b p).1))))) := (hkw174 41 rfl).trans rfl
    have uw174_42 : ρ173 42 = vo := (hkw174 42 rfl).trans rfl
    have uw174_43 : ρ173 43 = (.int .i64 (i : Int)) := (hkw174 43 rfl).trans rfl
    have uw174_44 : ρ173 44 = (.int .i64 ((i : Int) - 1)) := (hkw174 44 rfl).trans rfl
    have uw174_45 : ρ173 45 = (.pointer (some ⟨a25, o26, none⟩)) := (hkw174 45 rfl).trans rfl
    have uw174_46 : ρ173 46 = (.agg #[(.int .i64 ((out[(i - 1)]'(by first | omega | (simp; omega) | (simp; done))).T)), (.int .i64 ((out[(i - 1)]'(by first | omega | (simp; omega) | (simp; done))).V))]) := (hkw174 46 rfl).trans rfl
    have uw174_9 : ρ173 9 = (.pointer (some ⟨g28, 0, none⟩)) := (hkw174 9 rfl).trans rfl
    refine block_n (then_n ?_)
    refine cE_region rfl ?_
    refine s_cons (op_add (k := .i64) (a := (i : Int)) (b := 1) ((i : Int) + 1) uw174_17 rfl (xi64 (by omega) (by omega)) ?_)
    refine s_cons (op_move (.int .i64 ((i : Int) + 1)) rfl ?_)
    refine s_nil ?_
    refine then_n ?_
    exact ⟨_, ⟨v175, (out ++ ([(⟨(wr ((out[(i - 1)]'(by first | omega | (simp; omega) | (simp; done))).T + (wr (st + (zag ((get b p).1)))))), (wr ((out[(i - 1)]'(by first | omega | (simp; omega) | (simp; done))).V + (zag ((get b ((get b p).2.1)).1))))⟩ : Sample)])), (i + 1), (get b ((get b p).2.1)).2.1, (rbad (rbad bad b p) b ((get b p).2.1)), (wr (st + (zag ((get b p).1)))), rfl, uw174_0, uw174_2, uw174_3, uw174_4, uw174_16, uw174_5, uw174_6, (congrArg (Value.int .i64) (show ((i : Int) + 1) = _ from by omega)), (hst.sub (.cons_cons _ (.cons _ (.cons_cons _ .slnil)))), (by first | exact CS_start | exact CS_first hCS (by omega) (by omega) | exact CS_next hCS (by omega) (by omega) (by omega)), (by first | exact (cntV_r (by omega)).1 | omega)⟩, (by simp only [id]; omega)⟩
  have c176 : ¬ ((i : Int) < (cntV b 0 64)) := of_decide_eq_false b8
  refine cE_cond false (congrArg Value.bool b8) (fun h => by cases h) (fun _ => ?_)
  refine cE_exit ?_
  refine then_x (then_x (block_hit (then_n ?_)))
  refine cE_seq ?_
  refine cE_region rfl ?_
  refine s_cons (op_move vo q4_5 ?_)
  refine s_cons (op_call Try.call9 (evs_cons (v := vo) rfl evs_nil) (c_kPut (w0 := w7) (v_l := vo) (l := out) (h_l := (hst.sl 0 rfl)) (hl := hor)) ?_)
  rintro _ w178 ⟨r177, rfl, hcall⟩
  refine ⟨_, rfl, ?_⟩
  have hst : St w0 w178 [rowT 5 u8E r177 ((encS out).1), rowT 48 sampE vo out, .blk g1 59 #[v_b, (.int .i64 p), (.bool bad)]] := hst.call hcall
  refine s_cons (op_move (.tuple #[r177, (.int .i64 ((encS out).2))]) rfl ?_)
  refine s_cons (op_extract r177 rfl rfl ?_)
  refine s_cons (op_extract (.int .i64 ((encS out).2)) rfl rfl ?_)
  refine s_cons (op_assign r177 rfl ?_)
  refine s_cons (op_assign (.int .i64 ((encS out).2)) rfl ?_)
  refine s_nil ?_
  refine then_n ?_
  refine cE_seq ?_
  refine cE_seq ?_
  refine cE_region rfl ?_
  refine s_cons (op_move (.pointer (some ⟨g1, 0, none⟩)) q4_4 ?_)
  refine s_cons (op_nilCheck rfl ?_)
  refine s_cons (op_fieldAddr (s := 0) Try.underlying59 rfl rfl Try.sizeOf4 rfl ?_)
  refine s_cons (op_load1 (u := (.bool bad)) Try.isAgg4 rfl ((hst.cell 2 rfl).drop 2) ?_)
  refine s_cons (op_move (.bool bad) rfl ?_)
  rcases Bool.eq_false_or_eq_true bad with b179 | b179
  · refine s_no 71 rfl (congrArg Value.bool b179) ?_
    refine s_no 71 rfl (congrArg Value.bool b179) ?_
    refine s_cons (op_pick_t (.bool true) (congrArg Value.bool b179) rfl ?_)
    refine s_cons (op_move (.bool true) rfl ?_)
    refine s_no 75 rfl rfl ?_
    refine s_no 75 rfl rfl ?_
    refine s_no 75 rfl rfl ?_
    refine s_no 75 rfl rfl ?_
    refine s_cons (op_pick_t (.bool true) rfl rfl ?_)
    refine s_nil ?_
    refine then_n ?_
    refine cE_cond true rfl (fun _ => ?_) (fun h => by cases h)
    refine cE_seq ?_
    refine cE_region rfl ?_
    refine s_cons (op_assign (.slice none 0 0) rfl ?_)
    refine s_cons (op_assign (.int .i64 2) rfl ?_)
    refine s_nil ?_
    refine then_n ?_
    refine cE_ret ?_
    refine then_r (scope_r ?_)
    refine post_r _ (res2 (v := (.slice none 0 0)) rfl (x := (.int .i64 2)) rfl) ?_
    have hd : DecS b [] 2 := by first | exact CS_no hCS (Or.inl (by assumption)) | exact CS_no hCS (Or.inr ⟨by omega, Or.inl (by assumption)⟩) | exact CS_no hCS (Or.inr ⟨by omega, Or.inr (by assumption)⟩) | exact CS_no hCS (Or.inl hbad)
    replace hst : St w0 w178 [rowT 48 sampE (.slice none 0 0) ([]), rowT 5 u8E r177 ((encS out).1), rowT 48 sampE vo out, .blk g1 59 #[v_b, (.int .i64 p), (.bool bad)]] := hst.nilRow 48 sampE
    exact ⟨(.slice none 0 0), [], 2, rfl, hst.sub (.cons_cons _ (.cons _ (.cons _ (.cons _ .slnil)))), hd⟩
  refine s_yes 71 rfl (congrArg Value.bool b179) (op_move (.int .i64 ((encS out).2)) rfl ?_)
  refine s_yes 71 rfl (congrArg Value.bool b179) (op_neq (k := .i64) (a := (encS out).2) (b := 0) rfl rfl ?_)
  refine s_cons (op_pick_f (.bool (!decide (((encS out).2) = 0))) (congrArg Value.bool b179) rfl ?_)
  refine s_cons (op_move (.bool (!decide (((encS out).2) = 0))) rfl ?_)
  rcases Bool.eq_false_or_eq_true (decide (((encS out).2) = 0)) with b180 | b180
  · have c181 : ((encS out).2) = 0 := of_decide_eq_true b180
    refine s_yes 75 rfl (congrArg Value.bool (congrArg (! ·) b180)) (op_move r177 rfl ?_)
    refine s_yes 75 rfl (congrArg Value.bool (congrArg (! ·) b180)) (op_move v_b q4_0 ?_)
    refine s_yes 75 rfl (congrArg Value.bool (congrArg (! ·) b180)) (op_call Try.call30 (evs_cons (v := r177) rfl (evs_cons (v := v_b) rfl evs_nil)) (c_bEqual (w0 := w178) (v_a := r177) (a := (encS out).1) (h_a := (hst.sl 0 rfl)) (v_b := v_b) (b := b) (h_b := (h_b.below hst.below))) ?_)
    rintro _ w182 ⟨rfl, hcall⟩
    refine ⟨_, rfl, ?_⟩
    have hst : St w0 w182 [rowT 5 u8E r177 ((encS out).1), rowT 48 sampE vo out, .blk g1 59 #[v_b, (.int .i64 p), (.bool bad)]] := hst.call hcall
    refine s_yes 75 rfl (congrArg Value.bool (congrArg (! ·) b180)) (op_not (b := decide ((encS out).1 = b)) rfl ?_)
    refine s_cons (op_pick_f (.bool (!(decide ((encS out).1 = b)))) (congrArg Value.bool (congrArg (! ·) b180)) rfl ?_)
    refine s_nil ?_
    refine then_n ?_
    rcases Bool.eq_false_or_eq_true (decide ((encS out).1 = b)) with b183 | b183
    · have c184 : (encS out).1 = b := of_decide_eq_true b183
      refine cE_cond false (congrArg Value.bool (congrArg (! ·) b183)) (fun h => by cases h) (fun _ => ?_)
      refine cE_skip ?_
      refine then_n ?_
      refine cE_seq ?_
      refine cE_region rfl ?_
      refine s_cons (op_move vo q4_5 ?_)
      refine s_cons (op_assign vo rfl ?_)
      refine s_cons (op_assign (.int .i64 0) rfl ?_)
      refine s_nil ?_
      refine then_n ?_
      refine cE_ret ?_
      refine scope_r ?_
      refine post_r _ (res2 (v := vo) rfl (x := (.int .i64 0)) rfl) ?_
      have hd : DecS b out 0 := CS_yes hCS (by assumption) (by assumption)
      exact ⟨vo, out, 0, rfl, hst.sub (.cons _ (.cons_cons _ (.cons _ .slnil))), hd⟩
    have c185 : ¬ ((encS out).1 = b) := of_decide_eq_false b183
    refine cE_cond true (congrArg Value.bool (congrArg (! ·) b183)) (fun _ => ?_) (fun h => by cases h)
    refine cE_seq ?_
    refine cE_region rfl ?_
    refine s_cons (op_assign (.slice none 0 0) rfl ?_)
    refine s_cons (op_assign (.int .i64 2) rfl ?_)
    refine s_nil ?_
    refine then_n ?_
    refine cE_ret ?_
    refine then_r (scope_r ?_)
    refine post_r _ (res2 (v := (.slice none 0 0)) rfl (x := (.int .i64 2)) rfl) ?_
    have hd : DecS b [] 2 := by first | exact CS_no hCS (Or.inl (by assumption)) | exact CS_no hCS (Or.inr ⟨by omega, Or.inl (by assumption)⟩) | exact CS_no hCS (Or.inr ⟨by omega, Or.inr (by assumption)⟩) | exact CS_no hCS (Or.inl hbad)
    replace hst : St w0 w182 [rowT 48 sampE (.slice none 0 0) ([]), rowT 5 u8E r177 ((encS out).1), rowT 48 sampE vo out, .blk g1 59 #[v_b, (.int .i64 p), (.bool bad)]] := hst.nilRow 48 sampE
    exact ⟨(.slice none 0 0), [], 2, rfl, hst.sub (.cons_cons _ (.cons _ (.cons _ (.cons _ .slnil)))), hd⟩
  have c186 : ¬ (((encS out).2) = 0) := of_decide_eq_false b180
  refine s_no 75 rfl (congrArg Value.bool (congrArg (! ·) b180)) ?_
  refine s_no 75 rfl (congrArg Value.bool (congrArg (! ·) b180)) ?_
  refine s_no 75 rfl (congrArg Value.bool (congrArg (! ·) b180)) ?_
  refine s_no 75 rfl (congrArg Value.bool (congrArg (! ·) b180)) ?_
  refine s_cons (op_pick_t (.bool true) (congrArg Value.bool (congrArg (! ·) b180)) rfl ?_)
  refine s_nil ?_
  refine then_n ?_
  refine cE_cond true rfl (fun _ => ?_) (fun h => by cases h)
  refine cE_seq ?_
  refine cE_region rfl ?_
  refine s_cons (op_assign (.slice none 0 0) rfl ?_)
  refine s_cons (op_assign (.int .i64 2) rfl ?_)
  refine s_nil ?_
  refine then_n ?_
  refine cE_ret ?_
  refine then_r (scope_r ?_)
  refine post_r _ (res2 (v := (.slice none 0 0)) rfl (x := (.int .i64 2)) rfl) ?_
  have hd : DecS b [] 2 := by first | exact CS_no hCS (Or.inl (by assumption)) | exact CS_no hCS (Or.inr ⟨by omega, Or.inl (by assumption)⟩) | exact CS_no hCS (Or.inr ⟨by omega, Or.inr (by assumption)⟩) | exact CS_no hCS (Or.inl hbad)
  replace hst : St w0 w178 [rowT 48 sampE (.slice none 0 0) ([]), rowT 5 u8E r177 ((encS out).1), rowT 48 sampE vo out, .blk g1 59 #[v_b, (.int .i64 p), (.bool bad)]] := hst.nilRow 48 sampE
  exact ⟨(.slice none 0 0), [], 2, rfl, hst.sub (.cons_cons _ (.cons _ (.cons _ (.cons _ .slnil)))), hd⟩

end Go.Proofs.Ytpamjfbdgaamoaa
