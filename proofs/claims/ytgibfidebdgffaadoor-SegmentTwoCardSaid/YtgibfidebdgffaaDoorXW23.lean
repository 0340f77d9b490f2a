/- block.Get -/
import Derived.Test.YtgibfidebdgffaaDoorXLB
import Derived.Test.YtgibfidebdgffaaDoorXW20
import Derived.Test.YtgibfidebdgffaaDoorXW3
namespace Go.Proofs.YtgibfidebdgffaaDoor
open Go.RowKit

set_option maxRecDepth 8000 in
set_option maxHeartbeats 4000000 in
theorem c_kGet (w0 : World) (v_b : Value) (b : List UInt8) (h_b : Sl w0 u8E v_b b) (hl : b.length ≤ 1000000000) :
  Calls Tryd.prog 29 #[v_b] w0 fun e w' => ∃ (r : Value), e = .returned (.tuple #[r, (iV ((decSf b).2))]) ∧ St w0 w' [rowT 28 sampE r ((decSf b).1)] := by
 refine calls_E (n := 82) (ts := [2, 3]) Tryd.func29 rfl rfl rfl (by simp) ?_
 have hst := St.start w0
 refine cE_seq (cE_region rfl (s_cons (op_assign nS rfl (s_cons (op_assign (iV 0) rfl (s_nil (then_n (cE_scope (cE_seq (cE_region rfl (s_cons (op_move v_b rfl (s_cons (op_build (r := (.agg #[v_b, (iV 0), (.bool false)])) (evp_cons (v := v_b) rfl evp_nil) (by simp [Instr.build, Instr.fill, cells_int, cells_bool, cells_str, cells_agg, cells_nil, sl_cells (show Sl _ u8E v_b b from h_b), Tryd.runUnderlying88, Tryd.zeroValue88]) ?_))))))))))))))
 refine s_cons (op_box (v := (.agg #[v_b, (iV 0), (.bool false)])) (cs := #[v_b, (iV 0), (.bool false)]) hst rfl rfl (fun g1 w2 hst _ => ?_))
 replace hst : St w0 w2 [.blk g1 88 #[v_b, (iV 0), (.bool false)]] := hst
 refine s_cons (op_assign (.pointer (some ⟨g1, 0, none⟩)) rfl (s_nil (then_n (cE_seq (cE_region rfl (s_cons (op_assign nS rfl (s_nil (then_n (cE_seq (cE_region rfl (s_cons (op_assign (iV 0) rfl (s_nil (then_n (cE_seq (cE_label (then_n (cE_seq (cE_seq (cE_region rfl (s_cons (op_move (.pointer (some ⟨g1, 0, none⟩)) rfl (s_cons (op_call Tryd.call46 (evs_cons (v := (.pointer (some ⟨g1, 0, none⟩))) rfl (evs_cons (v := (iV 64)) rfl evs_nil)) (c_kCount (g_r := g1) (v_b := v_b) (b := b) (h_b := h_b) (at_ := 0) (bad := false) (most := 64) (hl := hl) (m0 := (by omega)) (m1 := (by omega)) (hst := hst)) ?_)))))))))))))))))))))))))
 rintro _ w3 ⟨rfl, hcall⟩
 refine ⟨_, rfl, ?_⟩
 have hst : St w0 w3 [.blk g1 88 #[v_b, (iV ((get b 0).2.1)), (.bool (cntBad false b 0 64))]] := hcall
 refine s_cons (op_move (iV 0) rfl (s_nil (then_n (cE_block ?_))))
 replace hst : St w0 w3 [rowT 28 sampE nS ([]), .blk g1 88 #[v_b, (iV ((get b 0).2.1)), (.bool (cntBad false b 0 64))]] := hst.nilRow 28 sampE
 refine cE_loop (fun (m : Nat) (ρ : Env) (w : World) => ∃ (vo : Value) (out : List Sample) (i : Nat) (p : Int) (bad : Bool) (st : Int), m = 65 - i ∧ ρ 0 = v_b ∧ ρ 2 = nS ∧ ρ 3 = (iV 0) ∧ ρ 4 = (.pointer (some ⟨g1, 0, none⟩)) ∧ ρ 16 = (iV (cntV b 0 64)) ∧ ρ 5 = vo ∧ ρ 6 = (iV st) ∧ ρ 17 = (iV (i : Int)) ∧ St w0 w [rowT 28 sampE vo out, .blk g1 88 #[v_b, (iV p), (.bool bad)]] ∧ (CS b (cntV b 0 64) out i p bad st) ∧ ((i : Int) ≤ cntV b 0 64)) id _ ⟨nS, [], 0, (get b 0).2.1, (cntBad false b 0 64), 0, rfl, rfl, rfl, rfl, rfl, rfl, rfl, rfl, (congrArg iV (show 0 = _ from by omega)), hst, (by first | exact CS_start | exact CS_first hCS (by omega) (by omega) | exact CS_next hCS (by omega) (by omega) (by omega)), (by first | exact (cntV_r (by omega)).1 | omega)⟩ ?_
 rintro m5 ρ6 w7 ⟨vo, out, i, p, bad, st, hm5, q4_0, q4_2, q4_3, q4_4, q4_16, q4_5, q4_6, q4_17, hst, hCS, hi⟩
 have hcr := cntV_r (b := b) (p := 0) (most := 64) (by omega)
 have hol := hCS.2.2.2.1
 have hor := hCS.2.2.2.2.1
 have hg1 := get_nn b p
 have hg2 := get_nn b (get b p).2.1
 refine cE_seq (cE_region rfl (s_cons (op_lss (k := .i64) (a := (i : Int)) (b := (cntV b 0 64)) q4_17 q4_16 (s_nil (then_n (cE_seq ?_))))))
 rcases Bool.eq_false_or_eq_true (decide ((i : Int) < (cntV b 0 64))) with b8 | b8
 ·have c9 : (i : Int) < (cntV b 0 64) := of_decide_eq_true b8
  refine cE_cond true (congrArg Value.bool b8) (fun _ => ?_) (fun h => by cases h)
  refine cE_skip (then_n (cE_seq (cE_block (cE_seq (cE_region rfl (s_cons (op_move (iV (i : Int)) q4_17 (s_cons (op_assign (iV (i : Int)) rfl (s_nil (then_n (cE_seq (cE_seq (cE_region rfl (s_cons (op_move (.pointer (some ⟨g1, 0, none⟩)) q4_4 (s_cons (op_nilCheck rfl (s_cons (op_fieldAddr (s := 0) Tryd.underlying88 rfl rfl Tryd.sizeOf4 rfl (s_cons (op_load1 (u := (.bool bad)) Tryd.isAgg4 rfl ((hst.cell 1 rfl).drop 2) ?_))))))))))))))))))))))
  refine s_nil (then_n ?_)
  rcases Bool.eq_false_or_eq_true bad with b10 | b10
  ·refine cE_cond true (congrArg Value.bool b10) (fun _ => ?_) (fun h => by cases h)
   refine cE_exit (then_x (block_miss (by decide) (then_x (then_x (block_hit (then_n (cE_seq (cE_region rfl (s_cons (op_move vo q4_5 (s_cons (op_call Tryd.call17 (evs_cons (v := vo) rfl evs_nil) (c_kPut (w0 := w7) (v_l := vo) (l := out) (h_l := (hst.sl 0 rfl)) (hl := hor)) ?_))))))))))))
   rintro _ w12 ⟨r11, rfl, hcall⟩
   refine ⟨_, rfl, ?_⟩
   have hst : St w0 w12 [rowT 5 u8E r11 ((encS out).1), rowT 28 sampE vo out, .blk g1 88 #[v_b, (iV p), (.bool bad)]] := hst.call hcall
   refine s_cons (op_move (.tuple #[r11, (iV ((encS out).2))]) rfl (s_cons (op_extract r11 rfl rfl (s_cons (op_extract (iV ((encS out).2)) rfl rfl (s_cons (op_assign r11 rfl (s_cons (op_assign (iV ((encS out).2)) rfl (s_nil (then_n (cE_seq (cE_seq (cE_region rfl (s_cons (op_move (.pointer (some ⟨g1, 0, none⟩)) q4_4 (s_cons (op_nilCheck rfl (s_cons (op_fieldAddr (s := 0) Tryd.underlying88 rfl rfl Tryd.sizeOf4 rfl ?_))))))))))))))))))))
   refine s_cons (op_load1 (u := (.bool bad)) Tryd.isAgg4 rfl ((hst.cell 2 rfl).drop 2) (s_cons (op_move (.bool bad) rfl (s_no 71 rfl (congrArg Value.bool b10) (s_no 71 rfl (congrArg Value.bool b10) (s_cons (op_pick_t (.bool true) (congrArg Value.bool b10) rfl (s_cons (op_move (.bool true) rfl (s_no 75 rfl rfl (s_no 75 rfl rfl (s_no 75 rfl rfl (s_no 75 rfl rfl (s_cons (op_pick_t (.bool true) rfl rfl ?_)))))))))))))))
   refine s_nil (then_n (cE_cond true rfl (fun _ => ?_) (fun h => by cases h)))
   refine cE_seq (cE_region rfl (s_cons (op_assign nS rfl (s_cons (op_assign (iV 2) rfl (s_nil (then_n (cE_ret (then_r (scope_r (post_r _ (res2 (v := nS) rfl (x := (iV 2)) rfl) ?_)))))))))))
   have hd : DecS b [] 2 := by first | exact CS_no hCS (Or.inl (by assumption)) | exact CS_no hCS (Or.inr ⟨by omega, Or.inl (by assumption)⟩) | exact CS_no hCS (Or.inr ⟨by omega, Or.inr (by assumption)⟩) | exact CS_no hCS (Or.inl hbad)
   have hdf := decSf_is hd
   replace hst : St w0 w12 [rowT 28 sampE nS ([]), rowT 5 u8E r11 ((encS out).1), rowT 28 sampE vo out, .blk g1 88 #[v_b, (iV p), (.bool bad)]] := hst.nilRow 28 sampE
   have e13 : [] = (decSf b).1 := by first | exact (congrArg Prod.fst hdf).symm | exact (congrArg Prod.snd hdf).symm
   replace hst : St w0 w12 [rowT 28 sampE nS ((decSf b).1), rowT 5 u8E r11 ((encS out).1), rowT 28 sampE vo out, .blk g1 88 #[v_b, (iV p), (.bool bad)]] := by rw [congrArg (fun l => rowT 28 sampE nS l) e13] at hst; exact hst
   exact ⟨nS, (retv2 rfl (congrArg iV (show 2 = (decSf b).2 from by first | exact (congrArg Prod.fst hdf).symm | exact (congrArg Prod.snd hdf).symm))), hst.sub (.cons_cons _ (.cons _ (.cons _ (.cons _ .slnil))))⟩
  refine cE_cond false (congrArg Value.bool b10) (fun h => by cases h) (fun _ => ?_)
  refine cE_skip (then_n (cE_seq (cE_seq (cE_region rfl (s_cons (op_move (iV (i : Int)) rfl (s_cons (op_eql (k := .i64) (a := (i : Int)) (b := 0) rfl rfl (s_nil (then_n ?_))))))))))
  rcases Bool.eq_false_or_eq_true (decide ((i : Int) = 0)) with b14 | b14
  ·have c15 : (i : Int) = 0 := of_decide_eq_true b14
   refine cE_cond true (congrArg Value.bool b14) (fun _ => ?_) (fun h => by cases h)
   refine cE_seq (cE_region rfl (s_cons (op_move (.pointer (some ⟨g1, 0, none⟩)) q4_4 ?_)))
   replace hst : St w0 w7 [.blk g1 88 #[v_b, (iV p), (.bool bad)], rowT 28 sampE vo out] := hst.front 1 rfl
   refine s_cons (op_call Tryd.call47 (evs_cons (v := (.pointer (some ⟨g1, 0, none⟩))) rfl evs_nil) (c_kNext (g_r := g1) (v_b := v_b) (b := b) (h_b := h_b) (at_ := p) (bad := bad) (hl := hl) (hst := hst)) ?_)
   rintro _ w16 ⟨rfl, hcall⟩
   refine ⟨_, rfl, ?_⟩
   have hst : St w0 w16 [.blk g1 88 #[v_b, (iV ((get b p).2.1)), (.bool (rbad bad b p))], rowT 28 sampE vo out] := hcall
   refine s_cons (op_conv (k := .u64) (a := (get b p).1) (wr ((get b p).1)) Tryd.underlying2 (by rw [Tryd.underlying54]; rfl) rfl rfl (s_cons (op_assign (iV (wr ((get b p).1))) rfl (s_nil (then_n (cE_seq (cE_region rfl (s_cons (op_move vo q4_5 (s_cons (op_move (iV (wr ((get b p).1))) rfl (s_cons (op_move (.pointer (some ⟨g1, 0, none⟩)) q4_4 (s_cons (op_call Tryd.call47 (evs_cons (v := (.pointer (some ⟨g1, 0, none⟩))) rfl evs_nil) (c_kNext (g_r := g1) (v_b := v_b) (b := b) (h_b := h_b) (at_ := (get b p).2.1) (bad := (rbad bad b p)) (hl := hl) (hst := hst)) ?_)))))))))))))))
   rintro _ w17 ⟨rfl, hcall⟩
   refine ⟨_, rfl, ?_⟩
   have hst : St w0 w17 [.blk g1 88 #[v_b, (iV ((get b ((get b p).2.1)).2.1)), (.bool (rbad (rbad bad b p) b ((get b p).2.1)))], rowT 28 sampE vo out] := hcall
   refine s_cons (op_call Tryd.call48 (evs_cons (v := (.int .u64 ((get b ((get b p).2.1)).1))) rfl evs_nil) (c_Zag (w0 := w17) (n := (get b ((get b p).2.1)).1) (h0 := (by omega)) (h1 := (by omega))) ?_)
   rintro _ w18 ⟨rfl, hcall⟩
   refine ⟨_, rfl, ?_⟩
   have hst : St w0 w18 [.blk g1 88 #[v_b, (iV ((get b ((get b p).2.1)).2.1)), (.bool (rbad (rbad bad b p) b ((get b p).2.1)))], rowT 28 sampE vo out] := hst.call hcall
   refine s_cons (op_build (r := (.agg #[(iV (wr ((get b p).1))), (iV (zag ((get b ((get b p).2.1)).1)))])) (evp_cons (v := (iV (wr ((get b p).1)))) rfl (evp_cons (v := (iV (zag ((get b ((get b p).2.1)).1)))) rfl evp_nil)) (by simp [Instr.build, Instr.fill, Value.cells, Tryd.runUnderlying28, Tryd.zeroValue28]) (s_cons (op_buildSlice (E := sampE) [(⟨(wr ((get b p).1)), (zag ((get b ((get b p).2.1)).1))⟩ : Sample)] hst Tryd.underlying23 Tryd.sizeOf28 Tryd.zeroValue28 (evp_cons (v := (.agg #[(iV (wr ((get b p).1))), (iV (zag ((get b ((get b p).2.1)).1)))])) rfl evp_nil) (parts_cons rfl parts_nil) rfl (by decide) (fun v19 w20 hst => ?_))))
   replace hst : St w0 w20 [rowT 28 sampE v19 ([(⟨(wr ((get b p).1)), (zag ((get b ((get b p).2.1)).1))⟩ : Sample)]), .blk g1 88 #[v_b, (iV ((get b ((get b p).2.1)).2.1)), (.bool (rbad (rbad bad b p) b ((get b p).2.1)))], rowT 28 sampE vo out] := hst
   refine s_cons (op_append (E := sampE) (xs := out) (ys := [(⟨(wr ((get b p).1)), (zag ((get b ((get b p).2.1)).1))⟩ : Sample)]) (z := (.agg #[(iV 0), (iV 0)])) (bytes := 16) hst 2 rfl Tryd.underlying23 (by kernel_rfl) rfl rfl rfl (hst.sl 0 rfl) (by first | omega | (simp; omega) | (simp; done)) (by first | omega | (simp; omega) | (simp; done)) (fun v21 w22 hst => ?_))
   replace hst : St w0 w22 [rowT 28 sampE v19 ([(⟨(wr ((get b p).1)), (zag ((get b ((get b p).2.1)).1))⟩ : Sample)]), .blk g1 88 #[v_b, (iV ((get b ((get b p).2.1)).2.1)), (.bool (rbad (rbad bad b p) b ((get b p).2.1)))], rowT 28 sampE v21 (out ++ ([(⟨(wr ((get b p).1)), (zag ((get b ((get b p).2.1)).1))⟩ : Sample)]))] := hst
   refine s_cons (op_assign v21 rfl (s_nil (then_n (cE_exit (then_x (block_hit (then_n (cE_region rfl (s_cons (op_add (k := .i64) (a := (i : Int)) (b := 1) ((i : Int) + 1) q4_17 rfl (xi64 (by omega) (by omega)) (s_cons (op_move (iV ((i : Int) + 1)) rfl (s_nil (then_n ?_))))))))))))))
   replace hst : St w0 w22 [.blk g1 88 #[v_b, (iV ((get b ((get b p).2.1)).2.1)), (.bool (rbad (rbad bad b p) b ((get b p).2.1)))], rowT 28 sampE v19 ([(⟨(wr ((get b p).1)), (zag ((get b ((get b p).2.1)).1))⟩ : Sample)]), rowT 28 sampE v21 (out ++ ([(⟨(wr ((get b p).1)), (zag ((get b ((get b p).2.1)).1))⟩ : Sample)]))] := hst.front 1 rfl
   replace hst : St w0 w22 [rowT 28 sampE v21 (out ++ ([(⟨(wr ((get b p).1)), (zag ((get b ((get b p).2.1)).1))⟩ : Sample)])), .blk g1 88 #[v_b, (iV ((get b ((get b p).2.1)).2.1)), (.bool (rbad (rbad bad b p) b ((get b p).2.1)))], rowT 28 sampE v19 ([(⟨(wr ((get b p).1)), (zag ((get b ((get b p).2.1)).1))⟩ : Sample)])] := hst.front 2 rfl
   exact ⟨_, ⟨v21, (out ++ ([(⟨(wr ((get b p).1)), (zag ((get b ((get b p).2.1)).1))⟩ : Sample)])), (i + 1), (get b ((get b p).2.1)).2.1, (rbad (rbad bad b p) b ((get b p).2.1)), st, rfl, q4_0, q4_2, q4_3, q4_4, q4_16, rfl, q4_6, (congrArg iV (show ((i : Int) + 1) = _ from by omega)), (hst.sub (.cons_cons _ (.cons_cons _ (.cons _ .slnil)))), (by first | exact CS_start | exact CS_first hCS (by omega) (by omega) | exact CS_next hCS (by omega) (by omega) (by omega)), (by first | exact (cntV_r (by omega)).1 | omega)⟩, (by simp only [id]; omega)⟩
  have c23 : ¬ ((i : Int) = 0) := of_decide_eq_false b14
  refine cE_cond false (congrArg Value.bool b14) (fun h => by cases h) (fun _ => ?_)
  refine cE_skip (then_n (cE_seq (cE_region rfl (s_cons (op_move (iV st) q4_6 (s_cons (op_move (.pointer (some ⟨g1, 0, none⟩)) q4_4 ?_)))))))
  replace hst : St w0 w7 [.blk g1 88 #[v_b, (iV p), (.bool bad)], rowT 28 sampE vo out] := hst.front 1 rfl
  refine s_cons (op_call Tryd.call47 (evs_cons (v := (.pointer (some ⟨g1, 0, none⟩))) rfl evs_nil) (c_kNext (g_r := g1) (v_b := v_b) (b := b) (h_b := h_b) (at_ := p) (bad := bad) (hl := hl) (hst := hst)) ?_)
  rintro _ w24 ⟨rfl, hcall⟩
  refine ⟨_, rfl, ?_⟩
  have hst : St w0 w24 [.blk g1 88 #[v_b, (iV ((get b p).2.1)), (.bool (rbad bad b p))], rowT 28 sampE vo out] := hcall
  refine s_cons (op_call Tryd.call48 (evs_cons (v := (.int .u64 ((get b p).1))) rfl evs_nil) (c_Zag (w0 := w24) (n := (get b p).1) (h0 := (by omega)) (h1 := (by omega))) ?_)
  rintro _ w25 ⟨rfl, hcall⟩
  refine ⟨_, rfl, ?_⟩
  have hst : St w0 w25 [.blk g1 88 #[v_b, (iV ((get b p).2.1)), (.bool (rbad bad b p))], rowT 28 sampE vo out] := hst.call hcall
  refine s_cons (op_add (k := .i64) (a := st) (b := (zag ((get b p).1))) (wr (st + (zag ((get b p).1)))) rfl rfl rfl (s_cons (op_assign (iV (wr (st + (zag ((get b p).1))))) rfl (s_nil (then_n (cE_seq (cE_region rfl (s_cons (op_move vo q4_5 (s_cons (op_move (iV (i : Int)) rfl (s_cons (op_sub (k := .i64) (a := (i : Int)) (b := 1) ((i : Int) - 1) rfl rfl (xi64 (by omega) (by omega)) ?_)))))))))))))
  refine s_cons (op_indexAddrN (E := sampE) (xs := out) (i - 1) Tryd.underlying23 Tryd.sizeOf28 rfl (hst.sl 1 rfl) rfl (by omega) (by first | omega | (simp; omega) | (simp; done)) (fun a26 o27 p28 => ?_))
  refine s_cons (op_loadN (cs := [(iV ((out[(i - 1)]'(by first | omega | (simp; omega) | (simp; done))).T)), (iV ((out[(i - 1)]'(by first | omega | (simp; omega) | (simp; done))).V))]) Tryd.isAgg28 Tryd.sizeOf28 rfl (Pt.of p28 rfl) rfl (s_cons (op_alloc (cs := #[(iV 0), (iV 0)]) hst Tryd.zeroValue28 rfl (fun g29 w30 hst _ => ?_))))
  replace hst : St w0 w30 [.blk g29 28 #[(iV 0), (iV 0)], .blk g1 88 #[v_b, (iV ((get b p).2.1)), (.bool (rbad bad b p))], rowT 28 sampE vo out] := hst
  refine s_cons0 (op_storeAll hst 0 rfl Tryd.sizeOf28 rfl rfl rfl rfl (by simp [Value.oneCell']) (fun w31 hst => ?_))
  replace hst : St w0 w31 [.blk g29 28 #[(iV ((out[(i - 1)]'(by first | omega | (simp; omega) | (simp; done))).T)), (iV ((out[(i - 1)]'(by first | omega | (simp; omega) | (simp; done))).V))], .blk g1 88 #[v_b, (iV ((get b p).2.1)), (.bool (rbad bad b p))], rowT 28 sampE vo out] := hst
  refine s_nil (then_n (cE_regionM (fun (D : Nat → Bool) (w : World) => St w0 w [.blk g29 28 #[(iV ((out[(i - 1)]'(by first | omega | (simp; omega) | (simp; done))).T)), (iV ((out[(i - 1)]'(by first | omega | (simp; omega) | (simp; done))).V))]] ∧ (D 8 = false → St w0 w [.blk g29 28 #[(iV ((out[(i - 1)]'(by first | omega | (simp; omega) | (simp; done))).T)), (iV ((out[(i - 1)]'(by first | omega | (simp; omega) | (simp; done))).V))], .blk g1 88 #[v_b, (iV ((get b p).2.1)), (.bool (rbad bad b p))], rowT 28 sampE vo out]) ∧ (D 8 = true → D 13 = false → St w0 w [.blk g29 28 #[(iV ((out[(i - 1)]'(by first | omega | (simp; omega) | (simp; done))).T)), (iV ((out[(i - 1)]'(by first | omega | (simp; omega) | (simp; done))).V))], .blk g1 88 #[v_b, (iV ((get b ((get b p).2.1)).2.1)), (.bool (rbad (rbad bad b p) b ((get b p).2.1)))], rowT 28 sampE vo out])) [[(5, none)], [(9, none)], [(48, some 1)], [(6, none)], [(49, some 2), (50, some 3)], [(9, none)], [(52, some 5)], [(4, none)], [(54, some 7)], [(55, some 8)], [(53, some 6), (56, some 9)], [(51, some 4), (57, some 10)], [(58, some 11)], [(47, some 0), (59, some 12)], [(60, some 13)]] [8, 13] [(kEq vo), (kEq (.pointer (some ⟨g29, (0 + 0), none⟩))), (kEq (iV ((out[(i - 1)]'(by first | omega | (simp; omega) | (simp; done))).T))), (kEq (iV (wr (st + (zag ((get b p).1)))))), (kEq (iV (wr ((out[(i - 1)]'(by first | omega | (simp; omega) | (simp; done))).T + (wr (st + (zag ((get b p).1)))))))), (kEq (.pointer (some ⟨g29, (0 + 1), none⟩))), (kEq (iV ((out[(i - 1)]'(by first | omega | (simp; omega) | (simp; done))).V))), (kEq (.pointer (some ⟨g1, 0, none⟩))), (kEq (.int .u64 ((get b ((get b p).2.1)).1))), (kEq (iV (zag ((get b ((get b p).2.1)).1)))), (kEq (iV (wr ((out[(i - 1)]'(by first | omega | (simp; omega) | (simp; done))).V + (zag ((get b ((get b p).2.1)).1)))))), (kEq (.agg #[(iV (wr ((out[(i - 1)]'(by first | omega | (simp; omega) | (simp; done))).T + (wr (st + (zag ((get b p).1))))))), (iV (wr ((out[(i - 1)]'(by first | omega | (simp; omega) | (simp; done))).V + (zag ((get b ((get b p).2.1)).1)))))])), (kSlU [13] sampE ([(⟨(wr ((out[(i - 1)]'(by first | omega | (simp; omega) | (simp; done))).T + (wr (st + (zag ((get b p).1)))))), (wr ((out[(i - 1)]'(by first | omega | (simp; omega) | (simp; done))).V + (zag ((get b ((get b p).2.1)).1))))⟩ : Sample)])), (fun (D : Nat → Bool) (v36 : Value) (w : World) => (D 13 = true → St w0 w [rowT 28 sampE v36 (out ++ ([(⟨(wr ((out[(i - 1)]'(by first | omega | (simp; omega) | (simp; done))).T + (wr (st + (zag ((get b p).1)))))), (wr ((out[(i - 1)]'(by first | omega | (simp; omega) | (simp; done))).V + (zag ((get b ((get b p).2.1)).1))))⟩ : Sample)])), .blk g29 28 #[(iV ((out[(i - 1)]'(by first | omega | (simp; omega) | (simp; done))).T)), (iV ((out[(i - 1)]'(by first | omega | (simp; omega) | (simp; done))).V))], .blk g1 88 #[v_b, (iV ((get b ((get b p).2.1)).2.1)), (.bool (rbad (rbad bad b p) b ((get b p).2.1)))]])), (fun (D : Nat → Bool) (v36 : Value) (w : World) => (D 13 = true → St w0 w [rowT 28 sampE v36 (out ++ ([(⟨(wr ((out[(i - 1)]'(by first | omega | (simp; omega) | (simp; done))).T + (wr (st + (zag ((get b p).1)))))), (wr ((out[(i - 1)]'(by first | omega | (simp; omega) | (simp; done))).V + (zag ((get b ((get b p).2.1)).1))))⟩ : Sample)])), .blk g29 28 #[(iV ((out[(i - 1)]'(by first | omega | (simp; omega) | (simp; done))).T)), (iV ((out[(i - 1)]'(by first | omega | (simp; omega) | (simp; done))).V))], .blk g1 88 #[v_b, (iV ((get b ((get b p).2.1)).2.1)), (.bool (rbad (rbad bad b p) b ((get b p).2.1)))]]))] ⟨mEq, mEq, mEq, mEq, mEq, mEq, mEq, mEq, mEq, mEq, mEq, mEq, (mSlUs (by decide)), (fun D D' v w w' hD hb h2 => (fun x0 => (h2 ((hD 13 (by decide)).symm.trans x0)).ext hb)), (fun D D' v w w' hD hb h2 => (fun x0 => (h2 ((hD 13 (by decide)).symm.trans x0)).ext hb)), trivial⟩ (by kernel_rfl) rfl (by kernel_rfl) ⟨hst.drewW.sub (.cons_cons _ (.cons _ (.cons _ .slnil))), (fun _ => hst.drewW), (fun h => absurd h Bool.false_ne_true)⟩ (fun hM => ⟨?_, ?_, ?_, ?_, ?_, ?_, ?_, ?_, ?_, ?_, ?_, ?_, ?_, ?_, ?_, trivial⟩) ?_))
  ·rintro D ρo wo nD eD cD jD aD ⟨f5, _⟩
   exact go_plain (op_move vo (f5.trans q4_5) (kN0 (i := 0) hM (by decide) (by exact jD) (by exact rfl)))
  ·rintro D ρo wo nD eD cD jD aD ⟨f9, _⟩
   exact go_plain (op_fieldAddr (s := 0) Tryd.underlying28 rfl rfl Tryd.sizeOf2 (f9.trans rfl) (kN0 (i := 1) hM (by decide) (by exact jD) (by exact rfl)))
  ·rintro D ρo wo nD eD cD jD aD ⟨f48, _⟩
   have hst := jD.1
   exact go_plain (op_load1 (u := (iV ((out[(i - 1)]'(by first | omega | (simp; omega) | (simp; done))).T))) Tryd.isAgg2 f48 (hst.cell 0 rfl) (kN0 (i := 2) hM (by decide) (by exact jD) (by exact rfl)))
  ·rintro D ρo wo nD eD cD jD aD ⟨f6, _⟩
   exact go_plain (op_move (iV (wr (st + (zag ((get b p).1))))) (f6.trans rfl) (kN0 (i := 3) hM (by decide) (by exact jD) (by exact rfl)))
  ·rintro D ρo wo nD eD cD jD aD ⟨f49, f50, _⟩
   exact go_plain (op_add (k := .i64) (a := (out[(i - 1)]'(by first | omega | (simp; omega) | (simp; done))).T) (b := (wr (st + (zag ((get b p).1))))) (wr ((out[(i - 1)]'(by first | omega | (simp; omega) | (simp; done))).T + (wr (st + (zag ((get b p).1)))))) f49 f50 rfl (kN0 (i := 4) hM (by decide) (by exact jD) (by exact rfl)))
  ·rintro D ρo wo nD eD cD jD aD ⟨f9, _⟩
   exact go_plain (op_fieldAddr (s := 0) Tryd.underlying28 rfl rfl Tryd.sizeOf2 (f9.trans rfl) (kN0 (i := 5) hM (by decide) (by exact jD) (by exact rfl)))
  ·rintro D ρo wo nD eD cD jD aD ⟨f52, _⟩
   have hst := jD.1
   exact go_plain (op_load1 (u := (iV ((out[(i - 1)]'(by first | omega | (simp; omega) | (simp; done))).V))) Tryd.isAgg2 f52 ((hst.cell 0 rfl).drop 1) (kN0 (i := 6) hM (by decide) (by exact jD) (by exact rfl)))
  ·rintro D ρo wo nD eD cD jD aD ⟨f4, _⟩
   exact go_plain (op_move (.pointer (some ⟨g1, 0, none⟩)) (f4.trans q4_4) (kN0 (i := 7) hM (by decide) (by exact jD) (by exact rfl)))
  ·rintro D ρo wo nD eD cD jD aD ⟨f54, _⟩
   have hst := jD.2.1 nD
   replace hst : St w0 wo [.blk g29 28 #[(iV ((out[(i - 1)]'(by first | omega | (simp; omega) | (simp; done))).T)), (iV ((out[(i - 1)]'(by first | omega | (simp; omega) | (simp; done))).V))], .blk g1 88 #[v_b, (iV ((get b p).2.1)), (.bool (rbad bad b p))], rowT 28 sampE vo out] := hst
   replace hst : St w0 wo [.blk g1 88 #[v_b, (iV ((get b p).2.1)), (.bool (rbad bad b p))], .blk g29 28 #[(iV ((out[(i - 1)]'(by first | omega | (simp; omega) | (simp; done))).T)), (iV ((out[(i - 1)]'(by first | omega | (simp; omega) | (simp; done))).V))], rowT 28 sampE vo out] := hst.front 1 rfl
   refine go_plain (op_call Tryd.call47 (evs_cons (v := (.pointer (some ⟨g1, 0, none⟩))) f54 evs_nil) (c_kNext (g_r := g1) (v_b := v_b) (b := b) (h_b := h_b) (at_ := (get b p).2.1) (bad := (rbad bad b p)) (hl := hl) (hst := hst)) ?_)
   rintro _ w39 ⟨rfl, hcall⟩
   refine ⟨_, rfl, ?_⟩
   have hst : St w0 w39 [.blk g1 88 #[v_b, (iV ((get b ((get b p).2.1)).2.1)), (.bool (rbad (rbad bad b p) b ((get b p).2.1)))], .blk g29 28 #[(iV ((out[(i - 1)]'(by first | omega | (simp; omega) | (simp; done))).T)), (iV ((out[(i - 1)]'(by first | omega | (simp; omega) | (simp; done))).V))], rowT 28 sampE vo out] := hcall
   replace hst : St w0 w39 [rowT 28 sampE vo out, .blk g1 88 #[v_b, (iV ((get b ((get b p).2.1)).2.1)), (.bool (rbad (rbad bad b p) b ((get b p).2.1)))], .blk g29 28 #[(iV ((out[(i - 1)]'(by first | omega | (simp; omega) | (simp; done))).T)), (iV ((out[(i - 1)]'(by first | omega | (simp; omega) | (simp; done))).V))]] := hst.front 2 rfl
   replace hst : St w0 w39 [.blk g1 88 #[v_b, (iV ((get b ((get b p).2.1)).2.1)), (.bool (rbad (rbad bad b p) b ((get b p).2.1)))], rowT 28 sampE vo out, .blk g29 28 #[(iV ((out[(i - 1)]'(by first | omega | (simp; omega) | (simp; done))).T)), (iV ((out[(i - 1)]'(by first | omega | (simp; omega) | (simp; done))).V))]] := hst.front 1 rfl
   replace hst : St w0 w39 [.blk g29 28 #[(iV ((out[(i - 1)]'(by first | omega | (simp; omega) | (simp; done))).T)), (iV ((out[(i - 1)]'(by first | omega | (simp; omega) | (simp; done))).V))], .blk g1 88 #[v_b, (iV ((get b ((get b p).2.1)).2.1)), (.bool (rbad (rbad bad b p) b ((get b p).2.1)))], rowT 28 sampE vo out] := hst.front 2 rfl
   have hI40 : stabIXs 8 [] D 0 [(kEq vo), (kEq (.pointer (some ⟨g29, (0 + 0), none⟩))), (kEq (iV ((out[(i - 1)]'(by first | omega | (simp; omega) | (simp; done))).T))), (kEq (iV (wr (st + (zag ((get b p).1)))))), (kEq (iV (wr ((out[(i - 1)]'(by first | omega | (simp; omega) | (simp; done))).T + (wr (st + (zag ((get b p).1)))))))), (kEq (.pointer (some ⟨g29, (0 + 1), none⟩))), (kEq (iV ((out[(i - 1)]'(by first | omega | (simp; omega) | (simp; done))).V))), (kEq (.pointer (some ⟨g1, 0, none⟩))), (kEq (.int .u64 ((get b ((get b p).2.1)).1))), (kEq (iV (zag ((get b ((get b p).2.1)).1)))), (kEq (iV (wr ((out[(i - 1)]'(by first | omega | (simp; omega) | (simp; done))).V + (zag ((get b ((get b p).2.1)).1)))))), (kEq (.agg #[(iV (wr ((out[(i - 1)]'(by first | omega | (simp; omega) | (simp; done))).T + (wr (st + (zag ((get b p).1))))))), (iV (wr ((out[(i - 1)]'(by first | omega | (simp; omega) | (simp; done))).V + (zag ((get b ((get b p).2.1)).1)))))])), (kSlU [13] sampE ([(⟨(wr ((out[(i - 1)]'(by first | omega | (simp; omega) | (simp; done))).T + (wr (st + (zag ((get b p).1)))))), (wr ((out[(i - 1)]'(by first | omega | (simp; omega) | (simp; done))).V + (zag ((get b ((get b p).2.1)).1))))⟩ : Sample)])), (fun (D : Nat → Bool) (v36 : Value) (w : World) => (D 13 = true → St w0 w [rowT 28 sampE v36 (out ++ ([(⟨(wr ((out[(i - 1)]'(by first | omega | (simp; omega) | (simp; done))).T + (wr (st + (zag ((get b p).1)))))), (wr ((out[(i - 1)]'(by first | omega | (simp; omega) | (simp; done))).V + (zag ((get b ((get b p).2.1)).1))))⟩ : Sample)])), .blk g29 28 #[(iV ((out[(i - 1)]'(by first | omega | (simp; omega) | (simp; done))).T)), (iV ((out[(i - 1)]'(by first | omega | (simp; omega) | (simp; done))).V))], .blk g1 88 #[v_b, (iV ((get b ((get b p).2.1)).2.1)), (.bool (rbad (rbad bad b p) b ((get b p).2.1)))]])), (fun (D : Nat → Bool) (v36 : Value) (w : World) => (D 13 = true → St w0 w [rowT 28 sampE v36 (out ++ ([(⟨(wr ((out[(i - 1)]'(by first | omega | (simp; omega) | (simp; done))).T + (wr (st + (zag ((get b p).1)))))), (wr ((out[(i - 1)]'(by first | omega | (simp; omega) | (simp; done))).V + (zag ((get b ((get b p).2.1)).1))))⟩ : Sample)])), .blk g29 28 #[(iV ((out[(i - 1)]'(by first | omega | (simp; omega) | (simp; done))).T)), (iV ((out[(i - 1)]'(by first | omega | (simp; omega) | (simp; done))).V))], .blk g1 88 #[v_b, (iV ((get b ((get b p).2.1)).2.1)), (.bool (rbad (rbad bad b p) b ((get b p).2.1)))]]))] := ⟨Or.inr (Or.inr (Or.inr iEq)), Or.inr (Or.inr (Or.inr iEq)), Or.inr (Or.inr (Or.inr iEq)), Or.inr (Or.inr (Or.inr iEq)), Or.inr (Or.inr (Or.inr iEq)), Or.inr (Or.inr (Or.inr iEq)), Or.inr (Or.inr (Or.inr iEq)), Or.inr (Or.inr (Or.inr iEq)), Or.inl rfl, Or.inr (Or.inr (Or.inl (not_yet nD (fun hm => (cD 9 8 hm (by kernel_rfl)))))), Or.inr (Or.inr (Or.inl (not_yet nD (fun hm => (cD 9 8 (cD 10 9 hm (by kernel_rfl)) (by kernel_rfl)))))), Or.inr (Or.inr (Or.inl (not_yet nD (fun hm => (cD 9 8 (cD 10 9 (cD 11 10 hm (by kernel_rfl)) (by kernel_rfl)) (by kernel_rfl)))))), Or.inr (Or.inr (Or.inl (not_yet nD (fun hm => (cD 9 8 (cD 10 9 (cD 11 10 (cD 12 11 hm (by kernel_rfl)) (by kernel_rfl)) (by kernel_rfl)) (by kernel_rfl)))))), Or.inr (Or.inr (Or.inl (not_yet nD (fun hm => (cD 9 8 (cD 13 9 hm (by kernel_rfl)) (by kernel_rfl)))))), Or.inr (Or.inr (Or.inl (not_yet nD (fun hm => (cD 14 8 hm (by kernel_rfl)))))), trivial⟩
   refine ⟨by exact ⟨hst.sub (.cons_cons _ (.cons _ (.cons _ .slnil))), (fun y0 => absurd y0 (fun h => Bool.noConfusion h)), (fun y0 y1 => hst.sub (.cons_cons _ (.cons_cons _ (.cons_cons _ .slnil))))⟩, by exact rfl, kX [] hI40 ?_⟩
   intro j d hj; cases hj
  ·rintro D ρo wo nD eD cD jD aD ⟨f55, _⟩
   refine go_plain (op_call Tryd.call48 (evs_cons (v := (.int .u64 ((get b ((get b p).2.1)).1))) f55 evs_nil) (c_Zag (w0 := wo) (n := (get b ((get b p).2.1)).1) (h0 := (by omega)) (h1 := (by omega))) ?_)
   rintro _ w41 ⟨rfl, hcall⟩
   refine ⟨_, rfl, ?_⟩
   exact kN (i := 9) hM (by decide) hcall.below (by exact ⟨(jD.1).ext hcall.below, (fun x0 => (jD.2.1 x0).ext hcall.below), (fun x0 x1 => (jD.2.2 x0 x1).ext hcall.below)⟩) (by exact rfl)
  ·rintro D ρo wo nD eD cD jD aD ⟨f53, f56, _⟩
   exact go_plain (op_add (k := .i64) (a := (out[(i - 1)]'(by first | omega | (simp; omega) | (simp; done))).V) (b := (zag ((get b ((get b p).2.1)).1))) (wr ((out[(i - 1)]'(by first | omega | (simp; omega) | (simp; done))).V + (zag ((get b ((get b p).2.1)).1)))) f53 f56 rfl (kN0 (i := 10) hM (by decide) (by exact jD) (by exact rfl)))
  ·rintro D ρo wo nD eD cD jD aD ⟨f51, f57, _⟩
   exact go_plain (op_build (r := (.agg #[(iV (wr ((out[(i - 1)]'(by first | omega | (simp; omega) | (simp; done))).T + (wr (st + (zag ((get b p).1))))))), (iV (wr ((out[(i - 1)]'(by first | omega | (simp; omega) | (simp; done))).V + (zag ((get b ((get b p).2.1)).1)))))])) (evp_cons (v := (iV (wr ((out[(i - 1)]'(by first | omega | (simp; omega) | (simp; done))).T + (wr (st + (zag ((get b p).1)))))))) f51 (evp_cons (v := (iV (wr ((out[(i - 1)]'(by first | omega | (simp; omega) | (simp; done))).V + (zag ((get b ((get b p).2.1)).1)))))) f57 evp_nil)) (by simp [Instr.build, Instr.fill, Value.cells, Tryd.runUnderlying28, Tryd.zeroValue28]) (kN0 (i := 11) hM (by decide) (by exact jD) (by exact rfl)))
  ·rintro D ρo wo nD eD cD jD aD ⟨f58, _⟩
   have hst := jD.2.2 (cD 9 8 (cD 10 9 (cD 11 10 (eD 11 (by kernel_rfl)) (by kernel_rfl)) (by kernel_rfl)) (by kernel_rfl)) (not_yet nD (fun hm => (cD 13 12 hm (by kernel_rfl))))
   replace hst : St w0 wo [.blk g29 28 #[(iV ((out[(i - 1)]'(by first | omega | (simp; omega) | (simp; done))).T)), (iV ((out[(i - 1)]'(by first | omega | (simp; omega) | (simp; done))).V))], .blk g1 88 #[v_b, (iV ((get b ((get b p).2.1)).2.1)), (.bool (rbad (rbad bad b p) b ((get b p).2.1)))], rowT 28 sampE vo out] := hst
   have hst := St.start wo
   refine go_plain (op_buildSlice (E := sampE) [(⟨(wr ((out[(i - 1)]'(by first | omega | (simp; omega) | (simp; done))).T + (wr (st + (zag ((get b p).1)))))), (wr ((out[(i - 1)]'(by first | omega | (simp; omega) | (simp; done))).V + (zag ((get b ((get b p).2.1)).1))))⟩ : Sample)] hst Tryd.underlying23 Tryd.sizeOf28 Tryd.zeroValue28 (evp_cons (v := (.agg #[(iV (wr ((out[(i - 1)]'(by first | omega | (simp; omega) | (simp; done))).T + (wr (st + (zag ((get b p).1))))))), (iV (wr ((out[(i - 1)]'(by first | omega | (simp; omega) | (simp; done))).V + (zag ((get b ((get b p).2.1)).1)))))])) f58 evp_nil) (parts_cons rfl parts_nil) rfl (by decide) (fun v42 w43 hst => ?_))
   exact kN (i := 12) hM (by decide) hst.below (by exact ⟨(jD.1).ext hst.below, (fun x0 => (jD.2.1 x0).ext hst.below), (fun x0 x1 => (jD.2.2 x0 x1).ext hst.below)⟩) (by exact fun _ => hst.sl 0 rfl)
  ·rintro D ρo wo nD eD cD jD aD ⟨f47, f59, _⟩
   have hst := jD.2.2 (cD 9 8 (eD 9 (by kernel_rfl)) (by kernel_rfl)) nD
   replace hst : St w0 wo [.blk g29 28 #[(iV ((out[(i - 1)]'(by first | omega | (simp; omega) | (simp; done))).T)), (iV ((out[(i - 1)]'(by first | omega | (simp; omega) | (simp; done))).V))], .blk g1 88 #[v_b, (iV ((get b ((get b p).2.1)).2.1)), (.bool (rbad (rbad bad b p) b ((get b p).2.1)))], rowT 28 sampE vo out] := hst
   obtain ⟨v45, e46⟩ : ∃ x, ρo 59 = x := ⟨_, rfl⟩
   have hs44 := f59 (by intro m hm; obtain rfl := List.mem_singleton.1 hm; exact nD)
   replace hs44 : Sl wo sampE v45 ([(⟨(wr ((out[(i - 1)]'(by first | omega | (simp; omega) | (simp; done))).T + (wr (st + (zag ((get b p).1)))))), (wr ((out[(i - 1)]'(by first | omega | (simp; omega) | (simp; done))).V + (zag ((get b ((get b p).2.1)).1))))⟩ : Sample)]) := e46 ▸ hs44
   refine go_plain (op_append (E := sampE) (xs := out) (ys := [(⟨(wr ((out[(i - 1)]'(by first | omega | (simp; omega) | (simp; done))).T + (wr (st + (zag ((get b p).1)))))), (wr ((out[(i - 1)]'(by first | omega | (simp; omega) | (simp; done))).V + (zag ((get b ((get b p).2.1)).1))))⟩ : Sample)]) (z := (.agg #[(iV 0), (iV 0)])) (bytes := 16) hst 2 rfl Tryd.underlying23 (by kernel_rfl) rfl f47 e46 hs44 (by first | omega | (simp; omega) | (simp; done)) (by first | omega | (simp; omega) | (simp; done)) (fun v47 w48 hst => ?_))
   replace hst : St w0 w48 [.blk g29 28 #[(iV ((out[(i - 1)]'(by first | omega | (simp; omega) | (simp; done))).T)), (iV ((out[(i - 1)]'(by first | omega | (simp; omega) | (simp; done))).V))], .blk g1 88 #[v_b, (iV ((get b ((get b p).2.1)).2.1)), (.bool (rbad (rbad bad b p) b ((get b p).2.1)))], rowT 28 sampE v47 (out ++ ([(⟨(wr ((out[(i - 1)]'(by first | omega | (simp; omega) | (simp; done))).T + (wr (st + (zag ((get b p).1)))))), (wr ((out[(i - 1)]'(by first | omega | (simp; omega) | (simp; done))).V + (zag ((get b ((get b p).2.1)).1))))⟩ : Sample)]))] := hst
   replace hst : St w0 w48 [.blk g1 88 #[v_b, (iV ((get b ((get b p).2.1)).2.1)), (.bool (rbad (rbad bad b p) b ((get b p).2.1)))], .blk g29 28 #[(iV ((out[(i - 1)]'(by first | omega | (simp; omega) | (simp; done))).T)), (iV ((out[(i - 1)]'(by first | omega | (simp; omega) | (simp; done))).V))], rowT 28 sampE v47 (out ++ ([(⟨(wr ((out[(i - 1)]'(by first | omega | (simp; omega) | (simp; done))).T + (wr (st + (zag ((get b p).1)))))), (wr ((out[(i - 1)]'(by first | omega | (simp; omega) | (simp; done))).V + (zag ((get b ((get b p).2.1)).1))))⟩ : Sample)]))] := hst.front 1 rfl
   replace hst : St w0 w48 [.blk g29 28 #[(iV ((out[(i - 1)]'(by first | omega | (simp; omega) | (simp; done))).T)), (iV ((out[(i - 1)]'(by first | omega | (simp; omega) | (simp; done))).V))], .blk g1 88 #[v_b, (iV ((get b ((get b p).2.1)).2.1)), (.bool (rbad (rbad bad b p) b ((get b p).2.1)))], rowT 28 sampE v47 (out ++ ([(⟨(wr ((out[(i - 1)]'(by first | omega | (simp; omega) | (simp; done))).T + (wr (st + (zag ((get b p).1)))))), (wr ((out[(i - 1)]'(by first | omega | (simp; omega) | (simp; done))).V + (zag ((get b ((get b p).2.1)).1))))⟩ : Sample)]))] := hst.front 1 rfl
   replace hst : St w0 w48 [rowT 28 sampE v47 (out ++ ([(⟨(wr ((out[(i - 1)]'(by first | omega | (simp; omega) | (simp; done))).T + (wr (st + (zag ((get b p).1)))))), (wr ((out[(i - 1)]'(by first | omega | (simp; omega) | (simp; done))).V + (zag ((get b ((get b p).2.1)).1))))⟩ : Sample)])), .blk g29 28 #[(iV ((out[(i - 1)]'(by first | omega | (simp; omega) | (simp; done))).T)), (iV ((out[(i - 1)]'(by first | omega | (simp; omega) | (simp; done))).V))], .blk g1 88 #[v_b, (iV ((get b ((get b p).2.1)).2.1)), (.bool (rbad (rbad bad b p) b ((get b p).2.1)))]] := hst.front 2 rfl
   have hI49 : stabIXs 13 [] D 0 [(kEq vo), (kEq (.pointer (some ⟨g29, (0 + 0), none⟩))), (kEq (iV ((out[(i - 1)]'(by first | omega | (simp; omega) | (simp; done))).T))), (kEq (iV (wr (st + (zag ((get b p).1)))))), (kEq (iV (wr ((out[(i - 1)]'(by first | omega | (simp; omega) | (simp; done))).T + (wr (st + (zag ((get b p).1)))))))), (kEq (.pointer (some ⟨g29, (0 + 1), none⟩))), (kEq (iV ((out[(i - 1)]'(by first | omega | (simp; omega) | (simp; done))).V))), (kEq (.pointer (some ⟨g1, 0, none⟩))), (kEq (.int .u64 ((get b ((get b p).2.1)).1))), (kEq (iV (zag ((get b ((get b p).2.1)).1)))), (kEq (iV (wr ((out[(i - 1)]'(by first | omega | (simp; omega) | (simp; done))).V + (zag ((get b ((get b p).2.1)).1)))))), (kEq (.agg #[(iV (wr ((out[(i - 1)]'(by first | omega | (simp; omega) | (simp; done))).T + (wr (st + (zag ((get b p).1))))))), (iV (wr ((out[(i - 1)]'(by first | omega | (simp; omega) | (simp; done))).V + (zag ((get b ((get b p).2.1)).1)))))])), (kSlU [13] sampE ([(⟨(wr ((out[(i - 1)]'(by first | omega | (simp; omega) | (simp; done))).T + (wr (st + (zag ((get b p).1)))))), (wr ((out[(i - 1)]'(by first | omega | (simp; omega) | (simp; done))).V + (zag ((get b ((get b p).2.1)).1))))⟩ : Sample)])), (fun (D : Nat → Bool) (v36 : Value) (w : World) => (D 13 = true → St w0 w [rowT 28 sampE v36 (out ++ ([(⟨(wr ((out[(i - 1)]'(by first | omega | (simp; omega) | (simp; done))).T + (wr (st + (zag ((get b p).1)))))), (wr ((out[(i - 1)]'(by first | omega | (simp; omega) | (simp; done))).V + (zag ((get b ((get b p).2.1)).1))))⟩ : Sample)])), .blk g29 28 #[(iV ((out[(i - 1)]'(by first | omega | (simp; omega) | (simp; done))).T)), (iV ((out[(i - 1)]'(by first | omega | (simp; omega) | (simp; done))).V))], .blk g1 88 #[v_b, (iV ((get b ((get b p).2.1)).2.1)), (.bool (rbad (rbad bad b p) b ((get b p).2.1)))]])), (fun (D : Nat → Bool) (v36 : Value) (w : World) => (D 13 = true → St w0 w [rowT 28 sampE v36 (out ++ ([(⟨(wr ((out[(i - 1)]'(by first | omega | (simp; omega) | (simp; done))).T + (wr (st + (zag ((get b p).1)))))), (wr ((out[(i - 1)]'(by first | omega | (simp; omega) | (simp; done))).V + (zag ((get b ((get b p).2.1)).1))))⟩ : Sample)])), .blk g29 28 #[(iV ((out[(i - 1)]'(by first | omega | (simp; omega) | (simp; done))).T)), (iV ((out[(i - 1)]'(by first | omega | (simp; omega) | (simp; done))).V))], .blk g1 88 #[v_b, (iV ((get b ((get b p).2.1)).2.1)), (.bool (rbad (rbad bad b p) b ((get b p).2.1)))]]))] := ⟨Or.inr (Or.inr (Or.inr iEq)), Or.inr (Or.inr (Or.inr iEq)), Or.inr (Or.inr (Or.inr iEq)), Or.inr (Or.inr (Or.inr iEq)), Or.inr (Or.inr (Or.inr iEq)), Or.inr (Or.inr (Or.inr iEq)), Or.inr (Or.inr (Or.inr iEq)), Or.inr (Or.inr (Or.inr iEq)), Or.inr (Or.inr (Or.inr iEq)), Or.inr (Or.inr (Or.inr iEq)), Or.inr (Or.inr (Or.inr iEq)), Or.inr (Or.inr (Or.inr iEq)), Or.inr (Or.inr (Or.inr (iSlU (by decide)))), Or.inl rfl, Or.inr (Or.inr (Or.inl (not_yet nD (fun hm => (cD 14 13 hm (by kernel_rfl)))))), trivial⟩
   refine ⟨by exact ⟨hst.sub (.cons _ (.cons_cons _ (.cons _ .slnil))), (fun y0 => absurd (show D 8 = false from y0) (by rw [(cD 9 8 (eD 9 (by kernel_rfl)) (by kernel_rfl))]; decide)), (fun y0 y1 => absurd y1 (fun h => Bool.noConfusion h))⟩, by exact (fun y0 => hst.sub (.cons_cons _ (.cons_cons _ (.cons_cons _ .slnil)))), kX [] hI49 ?_⟩
   intro j d hj; cases hj
  ·rintro D ρo wo nD eD cD jD aD ⟨f60, _⟩
   obtain ⟨v50, e51⟩ : ∃ x, ρo 60 = x := ⟨_, rfl⟩
   have hh52 := aD 13 60 (eD 13 (by kernel_rfl)) rfl
   have hst : St w0 wo [rowT 28 sampE v50 (out ++ ([(⟨(wr ((out[(i - 1)]'(by first | omega | (simp; omega) | (simp; done))).T + (wr (st + (zag ((get b p).1)))))), (wr ((out[(i - 1)]'(by first | omega | (simp; omega) | (simp; done))).V + (zag ((get b ((get b p).2.1)).1))))⟩ : Sample)])), .blk g29 28 #[(iV ((out[(i - 1)]'(by first | omega | (simp; omega) | (simp; done))).T)), (iV ((out[(i - 1)]'(by first | omega | (simp; omega) | (simp; done))).V))], .blk g1 88 #[v_b, (iV ((get b ((get b p).2.1)).2.1)), (.bool (rbad (rbad bad b p) b ((get b p).2.1)))]] := by have h := hh52 (eD 13 (by kernel_rfl)); rw [e51] at h; exact h
   exact go_plain (op_assign _ rfl (kN0 (i := 14) hM (by decide) (by exact jD) (by exact f60)))
  intro ρ53 w54 Dw54 hallw54 hJw54 hRw54 hkw54
  obtain ⟨v55, uw54_5⟩ : ∃ x, ρ53 5 = x := ⟨_, rfl⟩
  have hst : St w0 w54 [rowT 28 sampE v55 (out ++ ([(⟨(wr ((out[(i - 1)]'(by first | omega | (simp; omega) | (simp; done))).T + (wr (st + (zag ((get b p).1)))))), (wr ((out[(i - 1)]'(by first | omega | (simp; omega) | (simp; done))).V + (zag ((get b ((get b p).2.1)).1))))⟩ : Sample)])), .blk g29 28 #[(iV ((out[(i - 1)]'(by first | omega | (simp; omega) | (simp; done))).T)), (iV ((out[(i - 1)]'(by first | omega | (simp; omega) | (simp; done))).V))], .blk g1 88 #[v_b, (iV ((get b ((get b p).2.1)).2.1)), (.bool (rbad (rbad bad b p) b ((get b p).2.1)))]] := by have h := hRw54 14 5 rfl; rw [uw54_5] at h; exact (h (hallw54 13 (show 13 < 15 from by decide)))
  have uw54_0 : ρ53 0 = v_b := (hkw54 0 rfl).trans q4_0
  have uw54_2 : ρ53 2 = nS := (hkw54 2 rfl).trans q4_2
  have uw54_3 : ρ53 3 = (iV 0) := (hkw54 3 rfl).trans q4_3
  have uw54_4 : ρ53 4 = (.pointer (some ⟨g1, 0, none⟩)) := (hkw54 4 rfl).trans q4_4
  have uw54_16 : ρ53 16 = (iV (cntV b 0 64)) := (hkw54 16 rfl).trans q4_16
  have uw54_6 : ρ53 6 = (iV (wr (st + (zag ((get b p).1))))) := (hkw54 6 rfl).trans rfl
  have uw54_17 : ρ53 17 = (iV (i : Int)) := (hkw54 17 rfl).trans q4_17
  have uw54_18 : ρ53 18 = (.bool (decide ((i : Int) < (cntV b 0 64)))) := (hkw54 18 rfl).trans rfl
  have uw54_19 : ρ53 19 = (iV (i : Int)) := (hkw54 19 rfl).trans rfl
  have uw54_7 : ρ53 7 = (iV (i : Int)) := (hkw54 7 rfl).trans rfl
  have uw54_20 : ρ53 20 = (.pointer (some ⟨g1, 0, none⟩)) := (hkw54 20 rfl).trans rfl
  have uw54_21 : ρ53 21 = (.pointer (some ⟨g1, 0, none⟩)) := (hkw54 21 rfl).trans rfl
  have uw54_22 : ρ53 22 = (.pointer (some ⟨g1, (0 + 2), none⟩)) := (hkw54 22 rfl).trans rfl
  have uw54_23 : ρ53 23 = (.bool bad) := (hkw54 23 rfl).trans rfl
  have uw54_24 : ρ53 24 = (iV (i : Int)) := (hkw54 24 rfl).trans rfl
  have uw54_25 : ρ53 25 = (.bool (decide ((i : Int) = 0))) := (hkw54 25 rfl).trans rfl
  have uw54_37 : ρ53 37 = (iV st) := (hkw54 37 rfl).trans rfl
  have uw54_38 : ρ53 38 = (.pointer (some ⟨g1, 0, none⟩)) := (hkw54 38 rfl).trans rfl
  have uw54_39 : ρ53 39 = (.int .u64 ((get b p).1)) := (hkw54 39 rfl).trans rfl
  have uw54_40 : ρ53 40 = (iV (zag ((get b p).1))) := (hkw54 40 rfl).trans rfl
  have uw54_41 : ρ53 41 = (iV (wr (st + (zag ((get b p).1))))) := (hkw54 41 rfl).trans rfl
  have uw54_42 : ρ53 42 = vo := (hkw54 42 rfl).trans rfl
  have uw54_43 : ρ53 43 = (iV (i : Int)) := (hkw54 43 rfl).trans rfl
  have uw54_44 : ρ53 44 = (iV ((i : Int) - 1)) := (hkw54 44 rfl).trans rfl
  have uw54_45 : ρ53 45 = (.pointer (some ⟨a26, o27, none⟩)) := (hkw54 45 rfl).trans rfl
  have uw54_46 : ρ53 46 = (.agg #[(iV ((out[(i - 1)]'(by first | omega | (simp; omega) | (simp; done))).T)), (iV ((out[(i - 1)]'(by first | omega | (simp; omega) | (simp; done))).V))]) := (hkw54 46 rfl).trans rfl
  have uw54_9 : ρ53 9 = (.pointer (some ⟨g29, 0, none⟩)) := (hkw54 9 rfl).trans rfl
  refine block_n (then_n (cE_region rfl (s_cons (op_add (k := .i64) (a := (i : Int)) (b := 1) ((i : Int) + 1) uw54_17 rfl (xi64 (by omega) (by omega)) (s_cons (op_move (iV ((i : Int) + 1)) rfl (s_nil (then_n ?_))))))))
  exact ⟨_, ⟨v55, (out ++ ([(⟨(wr ((out[(i - 1)]'(by first | omega | (simp; omega) | (simp; done))).T + (wr (st + (zag ((get b p).1)))))), (wr ((out[(i - 1)]'(by first | omega | (simp; omega) | (simp; done))).V + (zag ((get b ((get b p).2.1)).1))))⟩ : Sample)])), (i + 1), (get b ((get b p).2.1)).2.1, (rbad (rbad bad b p) b ((get b p).2.1)), (wr (st + (zag ((get b p).1)))), rfl, uw54_0, uw54_2, uw54_3, uw54_4, uw54_16, uw54_5, uw54_6, (congrArg iV (show ((i : Int) + 1) = _ from by omega)), (hst.sub (.cons_cons _ (.cons _ (.cons_cons _ .slnil)))), (by first | exact CS_start | exact CS_first hCS (by omega) (by omega) | exact CS_next hCS (by omega) (by omega) (by omega)), (by first | exact (cntV_r (by omega)).1 | omega)⟩, (by simp only [id]; omega)⟩
 have c56 : ¬ ((i : Int) < (cntV b 0 64)) := of_decide_eq_false b8
 refine cE_cond false (congrArg Value.bool b8) (fun h => by cases h) (fun _ => ?_)
 refine cE_exit (then_x (then_x (block_hit (then_n (cE_seq (cE_region rfl (s_cons (op_move vo q4_5 (s_cons (op_call Tryd.call17 (evs_cons (v := vo) rfl evs_nil) (c_kPut (w0 := w7) (v_l := vo) (l := out) (h_l := (hst.sl 0 rfl)) (hl := hor)) ?_))))))))))
 rintro _ w58 ⟨r57, rfl, hcall⟩
 refine ⟨_, rfl, ?_⟩
 have hst : St w0 w58 [rowT 5 u8E r57 ((encS out).1), rowT 28 sampE vo out, .blk g1 88 #[v_b, (iV p), (.bool bad)]] := hst.call hcall
 refine s_cons (op_move (.tuple #[r57, (iV ((encS out).2))]) rfl (s_cons (op_extract r57 rfl rfl (s_cons (op_extract (iV ((encS out).2)) rfl rfl (s_cons (op_assign r57 rfl (s_cons (op_assign (iV ((encS out).2)) rfl (s_nil (then_n (cE_seq (cE_seq (cE_region rfl (s_cons (op_move (.pointer (some ⟨g1, 0, none⟩)) q4_4 (s_cons (op_nilCheck rfl (s_cons (op_fieldAddr (s := 0) Tryd.underlying88 rfl rfl Tryd.sizeOf4 rfl ?_))))))))))))))))))))
 refine s_cons (op_load1 (u := (.bool bad)) Tryd.isAgg4 rfl ((hst.cell 2 rfl).drop 2) (s_cons (op_move (.bool bad) rfl ?_)))
 rcases Bool.eq_false_or_eq_true bad with b59 | b59
 ·refine s_no 71 rfl (congrArg Value.bool b59) (s_no 71 rfl (congrArg Value.bool b59) (s_cons (op_pick_t (.bool true) (congrArg Value.bool b59) rfl (s_cons (op_move (.bool true) rfl (s_no 75 rfl rfl (s_no 75 rfl rfl (s_no 75 rfl rfl (s_no 75 rfl rfl (s_cons (op_pick_t (.bool true) rfl rfl (s_nil (then_n (cE_cond true rfl (fun _ => ?_) (fun h => by cases h)))))))))))))))
  refine cE_seq (cE_region rfl (s_cons (op_assign nS rfl (s_cons (op_assign (iV 2) rfl (s_nil (then_n (cE_ret (then_r (scope_r (post_r _ (res2 (v := nS) rfl (x := (iV 2)) rfl) ?_)))))))))))
  have hd : DecS b [] 2 := by first | exact CS_no hCS (Or.inl (by assumption)) | exact CS_no hCS (Or.inr ⟨by omega, Or.inl (by assumption)⟩) | exact CS_no hCS (Or.inr ⟨by omega, Or.inr (by assumption)⟩) | exact CS_no hCS (Or.inl hbad)
  have hdf := decSf_is hd
  replace hst : St w0 w58 [rowT 28 sampE nS ([]), rowT 5 u8E r57 ((encS out).1), rowT 28 sampE vo out, .blk g1 88 #[v_b, (iV p), (.bool bad)]] := hst.nilRow 28 sampE
  have e60 : [] = (decSf b).1 := by first | exact (congrArg Prod.fst hdf).symm | exact (congrArg Prod.snd hdf).symm
  replace hst : St w0 w58 [rowT 28 sampE nS ((decSf b).1), rowT 5 u8E r57 ((encS out).1), rowT 28 sampE vo out, .blk g1 88 #[v_b, (iV p), (.bool bad)]] := by rw [congrArg (fun l => rowT 28 sampE nS l) e60] at hst; exact hst
  exact ⟨nS, (retv2 rfl (congrArg iV (show 2 = (decSf b).2 from by first | exact (congrArg Prod.fst hdf).symm | exact (congrArg Prod.snd hdf).symm))), hst.sub (.cons_cons _ (.cons _ (.cons _ (.cons _ .slnil))))⟩
 refine s_yes 71 rfl (congrArg Value.bool b59) (op_move (iV ((encS out).2)) rfl (s_yes 71 rfl (congrArg Value.bool b59) (op_neq (k := .i64) (a := (encS out).2) (b := 0) rfl rfl (s_cons (op_pick_f (.bool (!decide (((encS out).2) = 0))) (congrArg Value.bool b59) rfl (s_cons (op_move (.bool (!decide (((encS out).2) = 0))) rfl ?_)))))))
 rcases Bool.eq_false_or_eq_true (decide (((encS out).2) = 0)) with b61 | b61
 ·have c62 : ((encS out).2) = 0 := of_decide_eq_true b61
  refine s_yes 75 rfl (congrArg Value.bool (congrArg (! ·) b61)) (op_move r57 rfl (s_yes 75 rfl (congrArg Value.bool (congrArg (! ·) b61)) (op_move v_b q4_0 (s_yes 75 rfl (congrArg Value.bool (congrArg (! ·) b61)) (op_call Tryd.call31 (evs_cons (v := r57) rfl (evs_cons (v := v_b) rfl evs_nil)) (c_bEqual (w0 := w58) (v_a := r57) (a := (encS out).1) (h_a := (hst.sl 0 rfl)) (v_b := v_b) (b := b) (h_b := (h_b.below hst.below))) ?_)))))
  rintro _ w63 ⟨rfl, hcall⟩
  refine ⟨_, rfl, ?_⟩
  have hst : St w0 w63 [rowT 5 u8E r57 ((encS out).1), rowT 28 sampE vo out, .blk g1 88 #[v_b, (iV p), (.bool bad)]] := hst.call hcall
  refine s_yes 75 rfl (congrArg Value.bool (congrArg (! ·) b61)) (op_not (b := decide ((encS out).1 = b)) rfl (s_cons (op_pick_f (.bool (!(decide ((encS out).1 = b)))) (congrArg Value.bool (congrArg (! ·) b61)) rfl (s_nil (then_n ?_)))))
  rcases Bool.eq_false_or_eq_true (decide ((encS out).1 = b)) with b64 | b64
  ·have c65 : (encS out).1 = b := of_decide_eq_true b64
   refine cE_cond false (congrArg Value.bool (congrArg (! ·) b64)) (fun h => by cases h) (fun _ => ?_)
   refine cE_skip (then_n (cE_seq (cE_region rfl (s_cons (op_move vo q4_5 (s_cons (op_assign vo rfl (s_cons (op_assign (iV 0) rfl (s_nil (then_n (cE_ret (scope_r (post_r _ (res2 (v := vo) rfl (x := (iV 0)) rfl) ?_))))))))))))))
   have hd : DecS b out 0 := CS_yes hCS (by assumption) (by assumption)
   have hdf := decSf_is hd
   have e66 : out = (decSf b).1 := by first | exact (congrArg Prod.fst hdf).symm | exact (congrArg Prod.snd hdf).symm
   replace hst : St w0 w63 [rowT 5 u8E r57 ((encS out).1), rowT 28 sampE vo ((decSf b).1), .blk g1 88 #[v_b, (iV p), (.bool bad)]] := by rw [congrArg (fun l => rowT 28 sampE vo l) e66] at hst; exact hst
   exact ⟨vo, (retv2 rfl (congrArg iV (show 0 = (decSf b).2 from by first | exact (congrArg Prod.fst hdf).symm | exact (congrArg Prod.snd hdf).symm))), hst.sub (.cons _ (.cons_cons _ (.cons _ .slnil)))⟩
  have c67 : ¬ ((encS out).1 = b) := of_decide_eq_false b64
  refine cE_cond true (congrArg Value.bool (congrArg (! ·) b64)) (fun _ => ?_) (fun h => by cases h)
  refine cE_seq (cE_region rfl (s_cons (op_assign nS rfl (s_cons (op_assign (iV 2) rfl (s_nil (then_n (cE_ret (then_r (scope_r (post_r _ (res2 (v := nS) rfl (x := (iV 2)) rfl) ?_)))))))))))
  have hd : DecS b [] 2 := by first | exact CS_no hCS (Or.inl (by assumption)) | exact CS_no hCS (Or.inr ⟨by omega, Or.inl (by assumption)⟩) | exact CS_no hCS (Or.inr ⟨by omega, Or.inr (by assumption)⟩) | exact CS_no hCS (Or.inl hbad)
  have hdf := decSf_is hd
  replace hst : St w0 w63 [rowT 28 sampE nS ([]), rowT 5 u8E r57 ((encS out).1), rowT 28 sampE vo out, .blk g1 88 #[v_b, (iV p), (.bool bad)]] := hst.nilRow 28 sampE
  have e68 : [] = (decSf b).1 := by first | exact (congrArg Prod.fst hdf).symm | exact (congrArg Prod.snd hdf).symm
  replace hst : St w0 w63 [rowT 28 sampE nS ((decSf b).1), rowT 5 u8E r57 ((encS out).1), rowT 28 sampE vo out, .blk g1 88 #[v_b, (iV p), (.bool bad)]] := by rw [congrArg (fun l => rowT 28 sampE nS l) e68] at hst; exact hst
  exact ⟨nS, (retv2 rfl (congrArg iV (show 2 = (decSf b).2 from by first | exact (congrArg Prod.fst hdf).symm | exact (congrArg Prod.snd hdf).symm))), hst.sub (.cons_cons _ (.cons _ (.cons _ (.cons _ .slnil))))⟩
 have c69 : ¬ (((encS out).2) = 0) := of_decide_eq_false b61
 refine s_no 75 rfl (congrArg Value.bool (congrArg (! ·) b61)) (s_no 75 rfl (congrArg Value.bool (congrArg (! ·) b61)) (s_no 75 rfl (congrArg Value.bool (congrArg (! ·) b61)) (s_no 75 rfl (congrArg Value.bool (congrArg (! ·) b61)) (s_cons (op_pick_t (.bool true) (congrArg Value.bool (congrArg (! ·) b61)) rfl (s_nil (then_n (cE_cond true rfl (fun _ => ?_) (fun h => by cases h)))))))))
 refine cE_seq (cE_region rfl (s_cons (op_assign nS rfl (s_cons (op_assign (iV 2) rfl (s_nil (then_n (cE_ret (then_r (scope_r (post_r _ (res2 (v := nS) rfl (x := (iV 2)) rfl) ?_)))))))))))
 have hd : DecS b [] 2 := by first | exact CS_no hCS (Or.inl (by assumption)) | exact CS_no hCS (Or.inr ⟨by omega, Or.inl (by assumption)⟩) | exact CS_no hCS (Or.inr ⟨by omega, Or.inr (by assumption)⟩) | exact CS_no hCS (Or.inl hbad)
 have hdf := decSf_is hd
 replace hst : St w0 w58 [rowT 28 sampE nS ([]), rowT 5 u8E r57 ((encS out).1), rowT 28 sampE vo out, .blk g1 88 #[v_b, (iV p), (.bool bad)]] := hst.nilRow 28 sampE
 have e70 : [] = (decSf b).1 := by first | exact (congrArg Prod.fst hdf).symm | exact (congrArg Prod.snd hdf).symm
 replace hst : St w0 w58 [rowT 28 sampE nS ((decSf b).1), rowT 5 u8E r57 ((encS out).1), rowT 28 sampE vo out, .blk g1 88 #[v_b, (iV p), (.bool bad)]] := by rw [congrArg (fun l => rowT 28 sampE nS l) e70] at hst; exact hst
 exact ⟨nS, (retv2 rfl (congrArg iV (show 2 = (decSf b).2 from by first | exact (congrArg Prod.fst hdf).symm | exact (congrArg Prod.snd hdf).symm))), hst.sub (.cons_cons _ (.cons _ (.cons _ (.cons _ .slnil))))⟩

end Go.Proofs.YtgibfidebdgffaaDoor
