/- twinkeeplaw20.told -/
import Derived.Test.YtadnedoecbfojaaOQ
import Derived.Test.YtadnedoecbfojaaW32
import Derived.Test.YtadnedoecbfojaaW35
namespace Go.Proofs.Ytadnedoecbfojaa
open Go.RowKit

set_option maxHeartbeats 8000000 in
theorem c_told20 (w0 : World) :
    Calls Try.prog 7 #[] w0 fun e w' => e = .returned (.bool true) ∧ St w0 w' [] := by
  refine calls_E (n := 90) (ts := [0]) Try.func7 rfl rfl rfl (by simp) ?_
  have hst := St.start w0
  refine cE_seq ?_
  refine cE_region rfl ?_
  refine s_cons (op_assign (.bool false) rfl ?_)
  refine s_nil ?_
  refine then_n ?_
  refine cE_seq ?_
  refine cE_region rfl ?_
  refine s_cons (op_build (r := (.agg #[(.int .i64 1), (.int .i64 0), (.int .i64 0), (.int .i64 5), (.int .u32 0)])) (evp_cons (v := (.int .i64 1)) rfl (evp_cons (v := (.int .i64 0)) rfl (evp_cons (v := (.int .i64 5)) rfl evp_nil))) (by simp [Instr.build, Instr.fill, Value.cells, Try.runUnderlying34, Try.zeroValue34]) ?_)
  refine s_cons (op_build (r := (.agg #[(.int .i64 2), (.int .i64 3), (.int .i64 0), (.int .i64 5), (.int .u32 0)])) (evp_cons (v := (.int .i64 2)) rfl (evp_cons (v := (.int .i64 3)) rfl (evp_cons (v := (.int .i64 5)) rfl evp_nil))) (by simp [Instr.build, Instr.fill, Value.cells, Try.runUnderlying34, Try.zeroValue34]) ?_)
  refine s_cons (op_alloc (cs := #[(.int .i64 0), (.int .i64 0), (.int .i64 0), (.int .i64 0), (.int .u32 0)]) hst Try.zeroValue34 rfl (fun g1 w2 hst _ => ?_))
  replace hst : St w0 w2 [.blk g1 34 #[(.int .i64 0), (.int .i64 0), (.int .i64 0), (.int .i64 0), (.int .u32 0)]] := hst
  refine s_cons (op_alloc (cs := #[(.int .i64 0), (.int .i64 0), (.int .i64 0), (.int .i64 0), (.int .u32 0)]) hst Try.zeroValue34 rfl (fun g3 w4 hst _ => ?_))
  replace hst : St w0 w4 [.blk g3 34 #[(.int .i64 0), (.int .i64 0), (.int .i64 0), (.int .i64 0), (.int .u32 0)], .blk g1 34 #[(.int .i64 0), (.int .i64 0), (.int .i64 0), (.int .i64 0), (.int .u32 0)]] := hst
  refine s_cons0 (op_storeAll hst 1 rfl Try.sizeOf34 rfl rfl rfl rfl (by simp [Value.oneCell']) (fun w5 hst => ?_))
  replace hst : St w0 w5 [.blk g3 34 #[(.int .i64 0), (.int .i64 0), (.int .i64 0), (.int .i64 0), (.int .u32 0)], .blk g1 34 #[(.int .i64 1), (.int .i64 0), (.int .i64 0), (.int .i64 5), (.int .u32 0)]] := hst
  refine s_cons0 (op_storeAll hst 0 rfl Try.sizeOf34 rfl rfl rfl rfl (by simp [Value.oneCell']) (fun w6 hst => ?_))
  replace hst : St w0 w6 [.blk g3 34 #[(.int .i64 2), (.int .i64 3), (.int .i64 0), (.int .i64 5), (.int .u32 0)], .blk g1 34 #[(.int .i64 1), (.int .i64 0), (.int .i64 0), (.int .i64 5), (.int .u32 0)]] := hst
  refine s_nil ?_
  refine then_n ?_
  refine cE_seq ?_
  refine cE_region rfl ?_
  refine s_cons (op_build (r := (.agg #[(.int .i64 3), (.int .i64 1), (.int .i64 0), (.int .i64 5), (.int .u32 0)])) (evp_cons (v := (.int .i64 3)) rfl (evp_cons (v := (.int .i64 1)) rfl (evp_cons (v := (.int .i64 5)) rfl evp_nil))) (by simp [Instr.build, Instr.fill, Value.cells, Try.runUnderlying34, Try.zeroValue34]) ?_)
  refine s_cons (op_alloc (cs := #[(.int .i64 0), (.int .i64 0), (.int .i64 0), (.int .i64 0), (.int .u32 0)]) hst Try.zeroValue34 rfl (fun g7 w8 hst _ => ?_))
  replace hst : St w0 w8 [.blk g7 34 #[(.int .i64 0), (.int .i64 0), (.int .i64 0), (.int .i64 0), (.int .u32 0)], .blk g3 34 #[(.int .i64 2), (.int .i64 3), (.int .i64 0), (.int .i64 5), (.int .u32 0)], .blk g1 34 #[(.int .i64 1), (.int .i64 0), (.int .i64 0), (.int .i64 5), (.int .u32 0)]] := hst
  refine s_cons0 (op_storeAll hst 0 rfl Try.sizeOf34 rfl rfl rfl rfl (by simp [Value.oneCell']) (fun w9 hst => ?_))
  replace hst : St w0 w9 [.blk g7 34 #[(.int .i64 3), (.int .i64 1), (.int .i64 0), (.int .i64 5), (.int .u32 0)], .blk g3 34 #[(.int .i64 2), (.int .i64 3), (.int .i64 0), (.int .i64 5), (.int .u32 0)], .blk g1 34 #[(.int .i64 1), (.int .i64 0), (.int .i64 0), (.int .i64 5), (.int .u32 0)]] := hst
  refine s_nil ?_
  refine then_n ?_
  refine cE_seq ?_
  refine cE_region rfl ?_
  refine s_cons (op_loadN (cs := [(.int .i64 1), (.int .i64 0), (.int .i64 0), (.int .i64 5), (.int .u32 0)]) Try.isAgg34 Try.sizeOf34 rfl (Pt.of (hst.cell 2 rfl) rfl) rfl ?_)
  refine s_cons (op_loadN (cs := [(.int .i64 2), (.int .i64 3), (.int .i64 0), (.int .i64 5), (.int .u32 0)]) Try.isAgg34 Try.sizeOf34 rfl (Pt.of (hst.cell 1 rfl) rfl) rfl ?_)
  refine s_cons (op_loadN (cs := [(.int .i64 3), (.int .i64 1), (.int .i64 0), (.int .i64 5), (.int .u32 0)]) Try.isAgg34 Try.sizeOf34 rfl (Pt.of (hst.cell 0 rfl) rfl) rfl ?_)
  refine s_cons (op_buildSlice (E := infoE) [(⟨1, 0, 0, 5, 0⟩ : Info), (⟨2, 3, 0, 5, 0⟩ : Info), (⟨3, 1, 0, 5, 0⟩ : Info)] hst Try.underlying22 Try.sizeOf34 Try.zeroValue34 (evp_cons (v := (.agg #[(.int .i64 1), (.int .i64 0), (.int .i64 0), (.int .i64 5), (.int .u32 0)])) rfl (evp_cons (v := (.agg #[(.int .i64 2), (.int .i64 3), (.int .i64 0), (.int .i64 5), (.int .u32 0)])) rfl (evp_cons (v := (.agg #[(.int .i64 3), (.int .i64 1), (.int .i64 0), (.int .i64 5), (.int .u32 0)])) rfl evp_nil))) (parts_cons rfl (parts_cons rfl (parts_cons rfl parts_nil))) rfl (by decide) (fun v10 w11 hst => ?_))
  replace hst : St w0 w11 [rowT 34 infoE v10 ([(⟨1, 0, 0, 5, 0⟩ : Info), (⟨2, 3, 0, 5, 0⟩ : Info), (⟨3, 1, 0, 5, 0⟩ : Info)]), .blk g7 34 #[(.int .i64 3), (.int .i64 1), (.int .i64 0), (.int .i64 5), (.int .u32 0)], .blk g3 34 #[(.int .i64 2), (.int .i64 3), (.int .i64 0), (.int .i64 5), (.int .u32 0)], .blk g1 34 #[(.int .i64 1), (.int .i64 0), (.int .i64 0), (.int .i64 5), (.int .u32 0)]] := hst
  refine s_cons (op_loadN (cs := [(.int .i64 3), (.int .i64 1), (.int .i64 0), (.int .i64 5), (.int .u32 0)]) Try.isAgg34 Try.sizeOf34 rfl (Pt.of (hst.cell 1 rfl) rfl) rfl ?_)
  refine s_cons (op_buildSlice (E := infoE) [(⟨3, 1, 0, 5, 0⟩ : Info)] hst Try.underlying22 Try.sizeOf34 Try.zeroValue34 (evp_cons (v := (.agg #[(.int .i64 3), (.int .i64 1), (.int .i64 0), (.int .i64 5), (.int .u32 0)])) rfl evp_nil) (parts_cons rfl parts_nil) rfl (by decide) (fun v12 w13 hst => ?_))
  replace hst : St w0 w13 [rowT 34 infoE v12 ([(⟨3, 1, 0, 5, 0⟩ : Info)]), rowT 34 infoE v10 ([(⟨1, 0, 0, 5, 0⟩ : Info), (⟨2, 3, 0, 5, 0⟩ : Info), (⟨3, 1, 0, 5, 0⟩ : Info)]), .blk g7 34 #[(.int .i64 3), (.int .i64 1), (.int .i64 0), (.int .i64 5), (.int .u32 0)], .blk g3 34 #[(.int .i64 2), (.int .i64 3), (.int .i64 0), (.int .i64 5), (.int .u32 0)], .blk g1 34 #[(.int .i64 1), (.int .i64 0), (.int .i64 0), (.int .i64 5), (.int .u32 0)]] := hst
  refine s_cons (op_call Try.call12 (evs_cons (v := v10) rfl (evs_cons (v := v12) rfl evs_nil)) (c_bodies (w0 := w13) (v_l := v10) (l := [(⟨1, 0, 0, 5, 0⟩ : Info), (⟨2, 3, 0, 5, 0⟩ : Info), (⟨3, 1, 0, 5, 0⟩ : Info)]) (h_l := (hst.sl 1 rfl)) (v_r := v12) (r := [(⟨3, 1, 0, 5, 0⟩ : Info)]) (h_r := (hst.sl 0 rfl)) (hll := (by decide)) (hrl := (by decide))) ?_)
  rintro _ w15 ⟨r14, rfl, hcall⟩
  refine ⟨_, rfl, ?_⟩
  have hst : St w0 w15 [rowT 3 (intE .i64) r14 (bodies ([(⟨1, 0, 0, 5, 0⟩ : Info), (⟨2, 3, 0, 5, 0⟩ : Info), (⟨3, 1, 0, 5, 0⟩ : Info)]) ([(⟨3, 1, 0, 5, 0⟩ : Info)])), rowT 34 infoE v12 ([(⟨3, 1, 0, 5, 0⟩ : Info)]), rowT 34 infoE v10 ([(⟨1, 0, 0, 5, 0⟩ : Info), (⟨2, 3, 0, 5, 0⟩ : Info), (⟨3, 1, 0, 5, 0⟩ : Info)]), .blk g7 34 #[(.int .i64 3), (.int .i64 1), (.int .i64 0), (.int .i64 5), (.int .u32 0)], .blk g3 34 #[(.int .i64 2), (.int .i64 3), (.int .i64 0), (.int .i64 5), (.int .u32 0)], .blk g1 34 #[(.int .i64 1), (.int .i64 0), (.int .i64 0), (.int .i64 5), (.int .u32 0)]] := hst.call hcall
  refine s_cons (op_assign r14 rfl ?_)
  refine s_nil ?_
  refine then_n ?_
  refine cE_seq ?_
  refine cE_region rfl ?_
  refine s_cons (op_loadN (cs := [(.int .i64 1), (.int .i64 0), (.int .i64 0), (.int .i64 5), (.int .u32 0)]) Try.isAgg34 Try.sizeOf34 rfl (Pt.of (hst.cell 5 rfl) rfl) rfl ?_)
  refine s_cons (op_loadN (cs := [(.int .i64 2), (.int .i64 3), (.int .i64 0), (.int .i64 5), (.int .u32 0)]) Try.isAgg34 Try.sizeOf34 rfl (Pt.of (hst.cell 4 rfl) rfl) rfl ?_)
  refine s_cons (op_buildSlice (E := infoE) [(⟨1, 0, 0, 5, 0⟩ : Info), (⟨2, 3, 0, 5, 0⟩ : Info)] hst Try.underlying22 Try.sizeOf34 Try.zeroValue34 (evp_cons (v := (.agg #[(.int .i64 1), (.int .i64 0), (.int .i64 0), (.int .i64 5), (.int .u32 0)])) rfl (evp_cons (v := (.agg #[(.int .i64 2), (.int .i64 3), (.int .i64 0), (.int .i64 5), (.int .u32 0)])) rfl evp_nil)) (parts_cons rfl (parts_cons rfl parts_nil)) rfl (by decide) (fun v16 w17 hst => ?_))
  replace hst : St w0 w17 [rowT 34 infoE v16 ([(⟨1, 0, 0, 5, 0⟩ : Info), (⟨2, 3, 0, 5, 0⟩ : Info)]), rowT 3 (intE .i64) r14 (bodies ([(⟨1, 0, 0, 5, 0⟩ : Info), (⟨2, 3, 0, 5, 0⟩ : Info), (⟨3, 1, 0, 5, 0⟩ : Info)]) ([(⟨3, 1, 0, 5, 0⟩ : Info)])), rowT 34 infoE v12 ([(⟨3, 1, 0, 5, 0⟩ : Info)]), rowT 34 infoE v10 ([(⟨1, 0, 0, 5, 0⟩ : Info), (⟨2, 3, 0, 5, 0⟩ : Info), (⟨3, 1, 0, 5, 0⟩ : Info)]), .blk g7 34 #[(.int .i64 3), (.int .i64 1), (.int .i64 0), (.int .i64 5), (.int .u32 0)], .blk g3 34 #[(.int .i64 2), (.int .i64 3), (.int .i64 0), (.int .i64 5), (.int .u32 0)], .blk g1 34 #[(.int .i64 1), (.int .i64 0), (.int .i64 0), (.int .i64 5), (.int .u32 0)]] := hst
  refine s_cons (op_call Try.call9 (evs_cons (v := v16) rfl evs_nil) (c_roll (w0 := w17) (v_l := v16) (l := [(⟨1, 0, 0, 5, 0⟩ : Info), (⟨2, 3, 0, 5, 0⟩ : Info)]) (h_l := (hst.sl 0 rfl)) (hl := (by decide +kernel))) ?_)
  rintro _ w18 ⟨rfl, hcall⟩
  refine ⟨_, rfl, ?_⟩
  have hst : St w0 w18 [rowT 34 infoE v16 ([(⟨1, 0, 0, 5, 0⟩ : Info), (⟨2, 3, 0, 5, 0⟩ : Info)]), rowT 3 (intE .i64) r14 (bodies ([(⟨1, 0, 0, 5, 0⟩ : Info), (⟨2, 3, 0, 5, 0⟩ : Info), (⟨3, 1, 0, 5, 0⟩ : Info)]) ([(⟨3, 1, 0, 5, 0⟩ : Info)])), rowT 34 infoE v12 ([(⟨3, 1, 0, 5, 0⟩ : Info)]), rowT 34 infoE v10 ([(⟨1, 0, 0, 5, 0⟩ : Info), (⟨2, 3, 0, 5, 0⟩ : Info), (⟨3, 1, 0, 5, 0⟩ : Info)]), .blk g7 34 #[(.int .i64 3), (.int .i64 1), (.int .i64 0), (.int .i64 5), (.int .u32 0)], .blk g3 34 #[(.int .i64 2), (.int .i64 3), (.int .i64 0), (.int .i64 5), (.int .u32 0)], .blk g1 34 #[(.int .i64 1), (.int .i64 0), (.int .i64 0), (.int .i64 5), (.int .u32 0)]] := hst.call hcall
  refine s_cons (op_move (.tuple #[(.int .i64 ((rollI ([(⟨1, 0, 0, 5, 0⟩ : Info), (⟨2, 3, 0, 5, 0⟩ : Info)])).1)), (.int .i64 ((rollI ([(⟨1, 0, 0, 5, 0⟩ : Info), (⟨2, 3, 0, 5, 0⟩ : Info)])).2))]) rfl ?_)
  refine s_cons (op_extract (.int .i64 ((rollI ([(⟨1, 0, 0, 5, 0⟩ : Info), (⟨2, 3, 0, 5, 0⟩ : Info)])).1)) rfl rfl ?_)
  refine s_cons (op_extract (.int .i64 ((rollI ([(⟨1, 0, 0, 5, 0⟩ : Info), (⟨2, 3, 0, 5, 0⟩ : Info)])).2)) rfl rfl ?_)
  refine s_cons (op_assign (.int .i64 ((rollI ([(⟨1, 0, 0, 5, 0⟩ : Info), (⟨2, 3, 0, 5, 0⟩ : Info)])).1)) rfl ?_)
  refine s_cons (op_assign (.int .i64 ((rollI ([(⟨1, 0, 0, 5, 0⟩ : Info), (⟨2, 3, 0, 5, 0⟩ : Info)])).2)) rfl ?_)
  refine s_nil ?_
  refine then_n ?_
  refine cE_seq ?_
  refine cE_region rfl ?_
  refine s_cons (op_loadN (cs := [(.int .i64 1), (.int .i64 0), (.int .i64 0), (.int .i64 5), (.int .u32 0)]) Try.isAgg34 Try.sizeOf34 rfl (Pt.of (hst.cell 6 rfl) rfl) rfl ?_)
  refine s_cons (op_loadN (cs := [(.int .i64 3), (.int .i64 1), (.int .i64 0), (.int .i64 5), (.int .u32 0)]) Try.isAgg34 Try.sizeOf34 rfl (Pt.of (hst.cell 4 rfl) rfl) rfl ?_)
  refine s_cons (op_buildSlice (E := infoE) [(⟨1, 0, 0, 5, 0⟩ : Info), (⟨3, 1, 0, 5, 0⟩ : Info)] hst Try.underlying22 Try.sizeOf34 Try.zeroValue34 (evp_cons (v := (.agg #[(.int .i64 1), (.int .i64 0), (.int .i64 0), (.int .i64 5), (.int .u32 0)])) rfl (evp_cons (v := (.agg #[(.int .i64 3), (.int .i64 1), (.int .i64 0), (.int .i64 5), (.int .u32 0)])) rfl evp_nil)) (parts_cons rfl (parts_cons rfl parts_nil)) rfl (by decide) (fun v19 w20 hst => ?_))
  replace hst : St w0 w20 [rowT 34 infoE v19 ([(⟨1, 0, 0, 5, 0⟩ : Info), (⟨3, 1, 0, 5, 0⟩ : Info)]), rowT 34 infoE v16 ([(⟨1, 0, 0, 5, 0⟩ : Info), (⟨2, 3, 0, 5, 0⟩ : Info)]), rowT 3 (intE .i64) r14 (bodies ([(⟨1, 0, 0, 5, 0⟩ : Info), (⟨2, 3, 0, 5, 0⟩ : Info), (⟨3, 1, 0, 5, 0⟩ : Info)]) ([(⟨3, 1, 0, 5, 0⟩ : Info)])), rowT 34 infoE v12 ([(⟨3, 1, 0, 5, 0⟩ : Info)]), rowT 34 infoE v10 ([(⟨1, 0, 0, 5, 0⟩ : Info), (⟨2, 3, 0, 5, 0⟩ : Info), (⟨3, 1, 0, 5, 0⟩ : Info)]), .blk g7 34 #[(.int .i64 3), (.int .i64 1), (.int .i64 0), (.int .i64 5), (.int .u32 0)], .blk g3 34 #[(.int .i64 2), (.int .i64 3), (.int .i64 0), (.int .i64 5), (.int .u32 0)], .blk g1 34 #[(.int .i64 1), (.int .i64 0), (.int .i64 0), (.int .i64 5), (.int .u32 0)]] := hst
  refine s_cons (op_call Try.call9 (evs_cons (v := v19) rfl evs_nil) (c_roll (w0 := w20) (v_l := v19) (l := [(⟨1, 0, 0, 5, 0⟩ : Info), (⟨3, 1, 0, 5, 0⟩ : Info)]) (h_l := (hst.sl 0 rfl)) (hl := (by decide +kernel))) ?_)
  rintro _ w21 ⟨rfl, hcall⟩
  refine ⟨_, rfl, ?_⟩
  have hst : St w0 w21 [rowT 34 infoE v19 ([(⟨1, 0, 0, 5, 0⟩ : Info), (⟨3, 1, 0, 5, 0⟩ : Info)]), rowT 34 infoE v16 ([(⟨1, 0, 0, 5, 0⟩ : Info), (⟨2, 3, 0, 5, 0⟩ : Info)]), rowT 3 (intE .i64) r14 (bodies ([(⟨1, 0, 0, 5, 0⟩ : Info), (⟨2, 3, 0, 5, 0⟩ : Info), (⟨3, 1, 0, 5, 0⟩ : Info)]) ([(⟨3, 1, 0, 5, 0⟩ : Info)])), rowT 34 infoE v12 ([(⟨3, 1, 0, 5, 0⟩ : Info)]), rowT 34 infoE v10 ([(⟨1, 0, 0, 5, 0⟩ : Info), (⟨2, 3, 0, 5, 0⟩ : Info), (⟨3, 1, 0, 5, 0⟩ : Info)]), .blk g7 34 #[(.int .i64 3), (.int .i64 1), (.int .i64 0), (.int .i64 5), (.int .u32 0)], .blk g3 34 #[(.int .i64 2), (.int .i64 3), (.int .i64 0), (.int .i64 5), (.int .u32 0)], .blk g1 34 #[(.int .i64 1), (.int .i64 0), (.int .i64 0), (.int .i64 5), (.int .u32 0)]] := hst.call hcall
  refine s_cons (op_move (.tuple #[(.int .i64 ((rollI ([(⟨1, 0, 0, 5, 0⟩ : Info), (⟨3, 1, 0, 5, 0⟩ : Info)])).1)), (.int .i64 ((rollI ([(⟨1, 0, 0, 5, 0⟩ : Info), (⟨3, 1, 0, 5, 0⟩ : Info)])).2))]) rfl ?_)
  refine s_cons (op_extract (.int .i64 ((rollI ([(⟨1, 0, 0, 5, 0⟩ : Info), (⟨3, 1, 0, 5, 0⟩ : Info)])).1)) rfl rfl ?_)
  refine s_cons (op_extract (.int .i64 ((rollI ([(⟨1, 0, 0, 5, 0⟩ : Info), (⟨3, 1, 0, 5, 0⟩ : Info)])).2)) rfl rfl ?_)
  refine s_cons (op_assign (.int .i64 ((rollI ([(⟨1, 0, 0, 5, 0⟩ : Info), (⟨3, 1, 0, 5, 0⟩ : Info)])).1)) rfl ?_)
  refine s_cons (op_assign (.int .i64 ((rollI ([(⟨1, 0, 0, 5, 0⟩ : Info), (⟨3, 1, 0, 5, 0⟩ : Info)])).2)) rfl ?_)
  refine s_nil ?_
  refine then_n ?_
  refine cE_seq ?_
  refine cE_region rfl ?_
  refine s_cons (op_loadN (cs := [(.int .i64 2), (.int .i64 3), (.int .i64 0), (.int .i64 5), (.int .u32 0)]) Try.isAgg34 Try.sizeOf34 rfl (Pt.of (hst.cell 6 rfl) rfl) rfl ?_)
  refine s_cons (op_buildSlice (E := infoE) [(⟨2, 3, 0, 5, 0⟩ : Info)] hst Try.underlying22 Try.sizeOf34 Try.zeroValue34 (evp_cons (v := (.agg #[(.int .i64 2), (.int .i64 3), (.int .i64 0), (.int .i64 5), (.int .u32 0)])) rfl evp_nil) (parts_cons rfl parts_nil) rfl (by decide) (fun v22 w23 hst => ?_))
  replace hst : St w0 w23 [rowT 34 infoE v22 ([(⟨2, 3, 0, 5, 0⟩ : Info)]), rowT 34 infoE v19 ([(⟨1, 0, 0, 5, 0⟩ : Info), (⟨3, 1, 0, 5, 0⟩ : Info)]), rowT 34 infoE v16 ([(⟨1, 0, 0, 5, 0⟩ : Info), (⟨2, 3, 0, 5, 0⟩ : Info)]), rowT 3 (intE .i64) r14 (bodies ([(⟨1, 0, 0, 5, 0⟩ : Info), (⟨2, 3, 0, 5, 0⟩ : Info), (⟨3, 1, 0, 5, 0⟩ : Info)]) ([(⟨3, 1, 0, 5, 0⟩ : Info)])), rowT 34 infoE v12 ([(⟨3, 1, 0, 5, 0⟩ : Info)]), rowT 34 infoE v10 ([(⟨1, 0, 0, 5, 0⟩ : Info), (⟨2, 3, 0, 5, 0⟩ : Info), (⟨3, 1, 0, 5, 0⟩ : Info)]), .blk g7 34 #[(.int .i64 3), (.int .i64 1), (.int .i64 0), (.int .i64 5), (.int .u32 0)], .blk g3 34 #[(.int .i64 2), (.int .i64 3), (.int .i64 0), (.int .i64 5), (.int .u32 0)], .blk g1 34 #[(.int .i64 1), (.int .i64 0), (.int .i64 0), (.int .i64 5), (.int .u32 0)]] := hst
  refine s_cons (op_call Try.call9 (evs_cons (v := v22) rfl evs_nil) (c_roll (w0 := w23) (v_l := v22) (l := [(⟨2, 3, 0, 5, 0⟩ : Info)]) (h_l := (hst.sl 0 rfl)) (hl := (by decide +kernel))) ?_)
  rintro _ w24 ⟨rfl, hcall⟩
  refine ⟨_, rfl, ?_⟩
  have hst : St w0 w24 [rowT 34 infoE v22 ([(⟨2, 3, 0, 5, 0⟩ : Info)]), rowT 34 infoE v19 ([(⟨1, 0, 0, 5, 0⟩ : Info), (⟨3, 1, 0, 5, 0⟩ : Info)]), rowT 34 infoE v16 ([(⟨1, 0, 0, 5, 0⟩ : Info), (⟨2, 3, 0, 5, 0⟩ : Info)]), rowT 3 (intE .i64) r14 (bodies ([(⟨1, 0, 0, 5, 0⟩ : Info), (⟨2, 3, 0, 5, 0⟩ : Info), (⟨3, 1, 0, 5, 0⟩ : Info)]) ([(⟨3, 1, 0, 5, 0⟩ : Info)])), rowT 34 infoE v12 ([(⟨3, 1, 0, 5, 0⟩ : Info)]), rowT 34 infoE v10 ([(⟨1, 0, 0, 5, 0⟩ : Info), (⟨2, 3, 0, 5, 0⟩ : Info), (⟨3, 1, 0, 5, 0⟩ : Info)]), .blk g7 34 #[(.int .i64 3), (.int .i64 1), (.int .i64 0), (.int .i64 5), (.int .u32 0)], .blk g3 34 #[(.int .i64 2), (.int .i64 3), (.int .i64 0), (.int .i64 5), (.int .u32 0)], .blk g1 34 #[(.int .i64 1), (.int .i64 0), (.int .i64 0), (.int .i64 5), (.int .u32 0)]] := hst.call hcall
  refine s_cons (op_move (.tuple #[(.int .i64 ((rollI ([(⟨2, 3, 0, 5, 0⟩ : Info)])).1)), (.int .i64 ((rollI ([(⟨2, 3, 0, 5, 0⟩ : Info)])).2))]) rfl ?_)
  refine s_cons (op_extract (.int .i64 ((rollI ([(⟨2, 3, 0, 5, 0⟩ : Info)])).1)) rfl rfl ?_)
  refine s_cons (op_extract (.int .i64 ((rollI ([(⟨2, 3, 0, 5, 0⟩ : Info)])).2)) rfl rfl ?_)
  refine s_cons (op_assign (.int .i64 ((rollI ([(⟨2, 3, 0, 5, 0⟩ : Info)])).1)) rfl ?_)
  refine s_cons (op_assign (.int .i64 ((rollI ([(⟨2, 3, 0, 5, 0⟩ : Info)])).2)) rfl ?_)
  refine s_nil ?_
  refine then_n ?_
  refine cE_seq ?_
  refine cE_region rfl ?_
  refine s_cons (op_move r14 rfl ?_)
  refine s_cons (op_len (E := (intE .i64)) (xs := (bodies ([(⟨1, 0, 0, 5, 0⟩ : Info), (⟨2, 3, 0, 5, 0⟩ : Info), (⟨3, 1, 0, 5, 0⟩ : Info)]) ([(⟨3, 1, 0, 5, 0⟩ : Info)]))) Try.underlying24 rfl (hst.sl 3 rfl) ?_)
  refine s_cons (op_eql (k := .i64) (a := ((bodies ([(⟨1, 0, 0, 5, 0⟩ : Info), (⟨2, 3, 0, 5, 0⟩ : Info), (⟨3, 1, 0, 5, 0⟩ : Info)]) ([(⟨3, 1, 0, 5, 0⟩ : Info)])).length : Int)) (b := 2) rfl rfl ?_)
  refine s_cons (op_move (.bool (decide (((bodies ([(⟨1, 0, 0, 5, 0⟩ : Info), (⟨2, 3, 0, 5, 0⟩ : Info), (⟨3, 1, 0, 5, 0⟩ : Info)]) ([(⟨3, 1, 0, 5, 0⟩ : Info)])).length : Int) = 2))) rfl ?_)
  refine s_yes 44 rfl (congrArg Value.bool (show (decide (((bodies ([(⟨1, 0, 0, 5, 0⟩ : Info), (⟨2, 3, 0, 5, 0⟩ : Info), (⟨3, 1, 0, 5, 0⟩ : Info)]) ([(⟨3, 1, 0, 5, 0⟩ : Info)])).length : Int) = 2)) = true from (by decide +kernel))) (op_move r14 rfl ?_)
  refine s_yes 44 rfl (congrArg Value.bool (show (decide (((bodies ([(⟨1, 0, 0, 5, 0⟩ : Info), (⟨2, 3, 0, 5, 0⟩ : Info), (⟨3, 1, 0, 5, 0⟩ : Info)]) ([(⟨3, 1, 0, 5, 0⟩ : Info)])).length : Int) = 2)) = true from (by decide +kernel))) (op_indexAddrN (E := (intE .i64)) (xs := (bodies ([(⟨1, 0, 0, 5, 0⟩ : Info), (⟨2, 3, 0, 5, 0⟩ : Info), (⟨3, 1, 0, 5, 0⟩ : Info)]) ([(⟨3, 1, 0, 5, 0⟩ : Info)]))) 0 Try.underlying24 Try.sizeOf3 rfl (hst.sl 3 rfl) rfl (by omega) (by decide +kernel) (fun a25 o26 p27 => ?_))
  refine s_yes 44 rfl (congrArg Value.bool (show (decide (((bodies ([(⟨1, 0, 0, 5, 0⟩ : Info), (⟨2, 3, 0, 5, 0⟩ : Info), (⟨3, 1, 0, 5, 0⟩ : Info)]) ([(⟨3, 1, 0, 5, 0⟩ : Info)])).length : Int) = 2)) = true from (by decide +kernel))) (op_load1 (u := (.int .i64 ((bodies ([(⟨1, 0, 0, 5, 0⟩ : Info), (⟨2, 3, 0, 5, 0⟩ : Info), (⟨3, 1, 0, 5, 0⟩ : Info)]) ([(⟨3, 1, 0, 5, 0⟩ : Info)]))[0]'(by decide +kernel)))) Try.isAgg3 rfl p27 ?_)
  refine s_yes 44 rfl (congrArg Value.bool (show (decide (((bodies ([(⟨1, 0, 0, 5, 0⟩ : Info), (⟨2, 3, 0, 5, 0⟩ : Info), (⟨3, 1, 0, 5, 0⟩ : Info)]) ([(⟨3, 1, 0, 5, 0⟩ : Info)])).length : Int) = 2)) = true from (by decide +kernel))) (op_eql (k := .i64) (a := ((bodies ([(⟨1, 0, 0, 5, 0⟩ : Info), (⟨2, 3, 0, 5, 0⟩ : Info), (⟨3, 1, 0, 5, 0⟩ : Info)]) ([(⟨3, 1, 0, 5, 0⟩ : Info)]))[0]'(by decide +kernel))) (b := 2) rfl rfl ?_)
  refine s_cons (op_pick_t (.bool (decide (((bodies ([(⟨1, 0, 0, 5, 0⟩ : Info), (⟨2, 3, 0, 5, 0⟩ : Info), (⟨3, 1, 0, 5, 0⟩ : Info)]) ([(⟨3, 1, 0, 5, 0⟩ : Info)]))[0]'(by decide +kernel)) = 2))) (congrArg Value.bool (show (decide (((bodies ([(⟨1, 0, 0, 5, 0⟩ : Info), (⟨2, 3, 0, 5, 0⟩ : Info), (⟨3, 1, 0, 5, 0⟩ : Info)]) ([(⟨3, 1, 0, 5, 0⟩ : Info)])).length : Int) = 2)) = true from (by decide +kernel))) rfl ?_)
  refine s_cons (op_move (.bool (decide (((bodies ([(⟨1, 0, 0, 5, 0⟩ : Info), (⟨2, 3, 0, 5, 0⟩ : Info), (⟨3, 1, 0, 5, 0⟩ : Info)]) ([(⟨3, 1, 0, 5, 0⟩ : Info)]))[0]'(by decide +kernel)) = 2))) rfl ?_)
  refine s_yes 50 rfl (congrArg Value.bool (show (decide (((bodies ([(⟨1, 0, 0, 5, 0⟩ : Info), (⟨2, 3, 0, 5, 0⟩ : Info), (⟨3, 1, 0, 5, 0⟩ : Info)]) ([(⟨3, 1, 0, 5, 0⟩ : Info)]))[0]'(by decide +kernel)) = 2)) = true from (by decide +kernel))) (op_move r14 rfl ?_)
  refine s_yes 50 rfl (congrArg Value.bool (show (decide (((bodies ([(⟨1, 0, 0, 5, 0⟩ : Info), (⟨2, 3, 0, 5, 0⟩ : Info), (⟨3, 1, 0, 5, 0⟩ : Info)]) ([(⟨3, 1, 0, 5, 0⟩ : Info)]))[0]'(by decide +kernel)) = 2)) = true from (by decide +kernel))) (op_indexAddrN (E := (intE .i64)) (xs := (bodies ([(⟨1, 0, 0, 5, 0⟩ : Info), (⟨2, 3, 0, 5, 0⟩ : Info), (⟨3, 1, 0, 5, 0⟩ : Info)]) ([(⟨3, 1, 0, 5, 0⟩ : Info)]))) 1 Try.underlying24 Try.sizeOf3 rfl (hst.sl 3 rfl) rfl (by omega) (by decide +kernel) (fun a28 o29 p30 => ?_))
  refine s_yes 50 rfl (congrArg Value.bool (show (decide (((bodies ([(⟨1, 0, 0, 5, 0⟩ : Info), (⟨2, 3, 0, 5, 0⟩ : Info), (⟨3, 1, 0, 5, 0⟩ : Info)]) ([(⟨3, 1, 0, 5, 0⟩ : Info)]))[0]'(by decide +kernel)) = 2)) = true from (by decide +kernel))) (op_load1 (u := (.int .i64 ((bodies ([(⟨1, 0, 0, 5, 0⟩ : Info), (⟨2, 3, 0, 5, 0⟩ : Info), (⟨3, 1, 0, 5, 0⟩ : Info)]) ([(⟨3, 1, 0, 5, 0⟩ : Info)]))[1]'(by decide +kernel)))) Try.isAgg3 rfl p30 ?_)
  refine s_yes 50 rfl (congrArg Value.bool (show (decide (((bodies ([(⟨1, 0, 0, 5, 0⟩ : Info), (⟨2, 3, 0, 5, 0⟩ : Info), (⟨3, 1, 0, 5, 0⟩ : Info)]) ([(⟨3, 1, 0, 5, 0⟩ : Info)]))[0]'(by decide +kernel)) = 2)) = true from (by decide +kernel))) (op_eql (k := .i64) (a := ((bodies ([(⟨1, 0, 0, 5, 0⟩ : Info), (⟨2, 3, 0, 5, 0⟩ : Info), (⟨3, 1, 0, 5, 0⟩ : Info)]) ([(⟨3, 1, 0, 5, 0⟩ : Info)]))[1]'(by decide +kernel))) (b := 1) rfl rfl ?_)
  refine s_cons (op_pick_t (.bool (decide (((bodies ([(⟨1, 0, 0, 5, 0⟩ : Info), (⟨2, 3, 0, 5, 0⟩ : Info), (⟨3, 1, 0, 5, 0⟩ : Info)]) ([(⟨3, 1, 0, 5, 0⟩ : Info)]))[1]'(by decide +kernel)) = 1))) (congrArg Value.bool (show (decide (((bodies ([(⟨1, 0, 0, 5, 0⟩ : Info), (⟨2, 3, 0, 5, 0⟩ : Info), (⟨3, 1, 0, 5, 0⟩ : Info)]) ([(⟨3, 1, 0, 5, 0⟩ : Info)]))[0]'(by decide +kernel)) = 2)) = true from (by decide +kernel))) rfl ?_)
  refine s_cons (op_move (.bool (decide (((bodies ([(⟨1, 0, 0, 5, 0⟩ : Info), (⟨2, 3, 0, 5, 0⟩ : Info), (⟨3, 1, 0, 5, 0⟩ : Info)]) ([(⟨3, 1, 0, 5, 0⟩ : Info)]))[1]'(by decide +kernel)) = 1))) rfl ?_)
  refine s_yes 56 rfl (congrArg Value.bool (show (decide (((bodies ([(⟨1, 0, 0, 5, 0⟩ : Info), (⟨2, 3, 0, 5, 0⟩ : Info), (⟨3, 1, 0, 5, 0⟩ : Info)]) ([(⟨3, 1, 0, 5, 0⟩ : Info)]))[1]'(by decide +kernel)) = 1)) = true from (by decide +kernel))) (op_loadN (cs := [(.int .i64 1), (.int .i64 0), (.int .i64 0), (.int .i64 5), (.int .u32 0)]) Try.isAgg34 Try.sizeOf34 rfl (Pt.of (hst.cell 8 rfl) rfl) rfl ?_)
  refine s_yes 56 rfl (congrArg Value.bool (show (decide (((bodies ([(⟨1, 0, 0, 5, 0⟩ : Info), (⟨2, 3, 0, 5, 0⟩ : Info), (⟨3, 1, 0, 5, 0⟩ : Info)]) ([(⟨3, 1, 0, 5, 0⟩ : Info)]))[1]'(by decide +kernel)) = 1)) = true from (by decide +kernel))) (op_buildSlice (E := infoE) [(⟨1, 0, 0, 5, 0⟩ : Info)] hst Try.underlying22 Try.sizeOf34 Try.zeroValue34 (evp_cons (v := (.agg #[(.int .i64 1), (.int .i64 0), (.int .i64 0), (.int .i64 5), (.int .u32 0)])) rfl evp_nil) (parts_cons rfl parts_nil) rfl (by decide) (fun v31 w32 hst => ?_))
  replace hst : St w0 w32 [rowT 34 infoE v31 ([(⟨1, 0, 0, 5, 0⟩ : Info)]), rowT 34 infoE v22 ([(⟨2, 3, 0, 5, 0⟩ : Info)]), rowT 34 infoE v19 ([(⟨1, 0, 0, 5, 0⟩ : Info), (⟨3, 1, 0, 5, 0⟩ : Info)]), rowT 34 infoE v16 ([(⟨1, 0, 0, 5, 0⟩ : Info), (⟨2, 3, 0, 5, 0⟩ : Info)]), rowT 3 (intE .i64) r14 (bodies ([(⟨1, 0, 0, 5, 0⟩ : Info), (⟨2, 3, 0, 5, 0⟩ : Info), (⟨3, 1, 0, 5, 0⟩ : Info)]) ([(⟨3, 1, 0, 5, 0⟩ : Info)])), rowT 34 infoE v12 ([(⟨3, 1, 0, 5, 0⟩ : Info)]), rowT 34 infoE v10 ([(⟨1, 0, 0, 5, 0⟩ : Info), (⟨2, 3, 0, 5, 0⟩ : Info), (⟨3, 1, 0, 5, 0⟩ : Info)]), .blk g7 34 #[(.int .i64 3), (.int .i64 1), (.int .i64 0), (.int .i64 5), (.int .u32 0)], .blk g3 34 #[(.int .i64 2), (.int .i64 3), (.int .i64 0), (.int .i64 5), (.int .u32 0)], .blk g1 34 #[(.int .i64 1), (.int .i64 0), (.int .i64 0), (.int .i64 5), (.int .u32 0)]] := hst
  refine s_yes 56 rfl (congrArg Value.bool (show (decide (((bodies ([(⟨1, 0, 0, 5, 0⟩ : Info), (⟨2, 3, 0, 5, 0⟩ : Info), (⟨3, 1, 0, 5, 0⟩ : Info)]) ([(⟨3, 1, 0, 5, 0⟩ : Info)]))[1]'(by decide +kernel)) = 1)) = true from (by decide +kernel))) (op_call Try.call13 (evs_cons (v := v31) rfl (evs_cons (v := (.slice none 0 0)) rfl evs_nil)) (c_next (w0 := w32) (v_l := v31) (l := [(⟨1, 0, 0, 5, 0⟩ : Info)]) (h_l := (hst.sl 0 rfl)) (v_r := (.slice none 0 0)) (r := []) (h_r := (Sl.nil infoE _)) (hll := (by decide)) (hrl := (by decide))) ?_)
  rintro _ w33 ⟨rfl, hcall⟩
  refine ⟨_, rfl, ?_⟩
  have hst : St w0 w33 [rowT 34 infoE v31 ([(⟨1, 0, 0, 5, 0⟩ : Info)]), rowT 34 infoE v22 ([(⟨2, 3, 0, 5, 0⟩ : Info)]), rowT 34 infoE v19 ([(⟨1, 0, 0, 5, 0⟩ : Info), (⟨3, 1, 0, 5, 0⟩ : Info)]), rowT 34 infoE v16 ([(⟨1, 0, 0, 5, 0⟩ : Info), (⟨2, 3, 0, 5, 0⟩ : Info)]), rowT 3 (intE .i64) r14 (bodies ([(⟨1, 0, 0, 5, 0⟩ : Info), (⟨2, 3, 0, 5, 0⟩ : Info), (⟨3, 1, 0, 5, 0⟩ : Info)]) ([(⟨3, 1, 0, 5, 0⟩ : Info)])), rowT 34 infoE v12 ([(⟨3, 1, 0, 5, 0⟩ : Info)]), rowT 34 infoE v10 ([(⟨1, 0, 0, 5, 0⟩ : Info), (⟨2, 3, 0, 5, 0⟩ : Info), (⟨3, 1, 0, 5, 0⟩ : Info)]), .blk g7 34 #[(.int .i64 3), (.int .i64 1), (.int .i64 0), (.int .i64 5), (.int .u32 0)], .blk g3 34 #[(.int .i64 2), (.int .i64 3), (.int .i64 0), (.int .i64 5), (.int .u32 0)], .blk g1 34 #[(.int .i64 1), (.int .i64 0), (.int .i64 0), (.int .i64 5), (.int .u32 0)]] := hst.call hcall
  refine s_yes 56 rfl (congrArg Value.bool (show (decide (((bodies ([(⟨1, 0, 0, 5, 0⟩ : Info), (⟨2, 3, 0, 5, 0⟩ : Info), (⟨3, 1, 0, 5, 0⟩ : Info)]) ([(⟨3, 1, 0, 5, 0⟩ : Info)]))[1]'(by decide +kernel)) = 1)) = true from (by decide +kernel))) (op_eql (k := .i64) (a := (nextI ([(⟨1, 0, 0, 5, 0⟩ : Info)]) ([]))) (b := 1) rfl rfl ?_)
  refine s_cons (op_pick_t (.bool (decide ((nextI ([(⟨1, 0, 0, 5, 0⟩ : Info)]) ([])) = 1))) (congrArg Value.bool (show (decide (((bodies ([(⟨1, 0, 0, 5, 0⟩ : Info), (⟨2, 3, 0, 5, 0⟩ : Info), (⟨3, 1, 0, 5, 0⟩ : Info)]) ([(⟨3, 1, 0, 5, 0⟩ : Info)]))[1]'(by decide +kernel)) = 1)) = true from (by decide +kernel))) rfl ?_)
  refine s_cons (op_move (.bool (decide ((nextI ([(⟨1, 0, 0, 5, 0⟩ : Info)]) ([])) = 1))) rfl ?_)
  refine s_yes 62 rfl (congrArg Value.bool (show (decide ((nextI ([(⟨1, 0, 0, 5, 0⟩ : Info)]) ([])) = 1)) = true from (by decide +kernel))) (op_call Try.call13 (evs_cons (v := (.slice none 0 0)) rfl (evs_cons (v := (.slice none 0 0)) rfl evs_nil)) (c_next (w0 := w33) (v_l := (.slice none 0 0)) (l := []) (h_l := (Sl.nil infoE _)) (v_r := (.slice none 0 0)) (r := []) (h_r := (Sl.nil infoE _)) (hll := (by decide)) (hrl := (by decide))) ?_)
  rintro _ w34 ⟨rfl, hcall⟩
  refine ⟨_, rfl, ?_⟩
  have hst : St w0 w34 [rowT 34 infoE v31 ([(⟨1, 0, 0, 5, 0⟩ : Info)]), rowT 34 infoE v22 ([(⟨2, 3, 0, 5, 0⟩ : Info)]), rowT 34 infoE v19 ([(⟨1, 0, 0, 5, 0⟩ : Info), (⟨3, 1, 0, 5, 0⟩ : Info)]), rowT 34 infoE v16 ([(⟨1, 0, 0, 5, 0⟩ : Info), (⟨2, 3, 0, 5, 0⟩ : Info)]), rowT 3 (intE .i64) r14 (bodies ([(⟨1, 0, 0, 5, 0⟩ : Info), (⟨2, 3, 0, 5, 0⟩ : Info), (⟨3, 1, 0, 5, 0⟩ : Info)]) ([(⟨3, 1, 0, 5, 0⟩ : Info)])), rowT 34 infoE v12 ([(⟨3, 1, 0, 5, 0⟩ : Info)]), rowT 34 infoE v10 ([(⟨1, 0, 0, 5, 0⟩ : Info), (⟨2, 3, 0, 5, 0⟩ : Info), (⟨3, 1, 0, 5, 0⟩ : Info)]), .blk g7 34 #[(.int .i64 3), (.int .i64 1), (.int .i64 0), (.int .i64 5), (.int .u32 0)], .blk g3 34 #[(.int .i64 2), (.int .i64 3), (.int .i64 0), (.int .i64 5), (.int .u32 0)], .blk g1 34 #[(.int .i64 1), (.int .i64 0), (.int .i64 0), (.int .i64 5), (.int .u32 0)]] := hst.call hcall
  refine s_yes 62 rfl (congrArg Value.bool (show (decide ((nextI ([(⟨1, 0, 0, 5, 0⟩ : Info)]) ([])) = 1)) = true from (by decide +kernel))) (op_eql (k := .i64) (a := (nextI ([]) ([]))) (b := (-1)) rfl rfl ?_)
  refine s_cons (op_pick_t (.bool (decide ((nextI ([]) ([])) = (-1)))) (congrArg Value.bool (show (decide ((nextI ([(⟨1, 0, 0, 5, 0⟩ : Info)]) ([])) = 1)) = true from (by decide +kernel))) rfl ?_)
  refine s_cons (op_move (.bool (decide ((nextI ([]) ([])) = (-1)))) rfl ?_)
  refine s_yes 66 rfl (congrArg Value.bool (show (decide ((nextI ([]) ([])) = (-1))) = true from (by decide +kernel))) (op_move (.int .i64 ((rollI ([(⟨1, 0, 0, 5, 0⟩ : Info), (⟨2, 3, 0, 5, 0⟩ : Info)])).1)) rfl ?_)
  refine s_yes 66 rfl (congrArg Value.bool (show (decide ((nextI ([]) ([])) = (-1))) = true from (by decide +kernel))) (op_eql (k := .i64) (a := (rollI ([(⟨1, 0, 0, 5, 0⟩ : Info), (⟨2, 3, 0, 5, 0⟩ : Info)])).1) (b := 1) rfl rfl ?_)
  refine s_cons (op_pick_t (.bool (decide (((rollI ([(⟨1, 0, 0, 5, 0⟩ : Info), (⟨2, 3, 0, 5, 0⟩ : Info)])).1) = 1))) (congrArg Value.bool (show (decide ((nextI ([]) ([])) = (-1))) = true from (by decide +kernel))) rfl ?_)
  refine s_cons (op_move (.bool (decide (((rollI ([(⟨1, 0, 0, 5, 0⟩ : Info), (⟨2, 3, 0, 5, 0⟩ : Info)])).1) = 1))) rfl ?_)
  refine s_yes 70 rfl (congrArg Value.bool (show (decide (((rollI ([(⟨1, 0, 0, 5, 0⟩ : Info), (⟨2, 3, 0, 5, 0⟩ : Info)])).1) = 1)) = true from (by decide +kernel))) (op_move (.int .i64 ((rollI ([(⟨1, 0, 0, 5, 0⟩ : Info), (⟨2, 3, 0, 5, 0⟩ : Info)])).2)) rfl ?_)
  refine s_yes 70 rfl (congrArg Value.bool (show (decide (((rollI ([(⟨1, 0, 0, 5, 0⟩ : Info), (⟨2, 3, 0, 5, 0⟩ : Info)])).1) = 1)) = true from (by decide +kernel))) (op_eql (k := .i64) (a := (rollI ([(⟨1, 0, 0, 5, 0⟩ : Info), (⟨2, 3, 0, 5, 0⟩ : Info)])).2) (b := 1) rfl rfl ?_)
  refine s_cons (op_pick_t (.bool (decide (((rollI ([(⟨1, 0, 0, 5, 0⟩ : Info), (⟨2, 3, 0, 5, 0⟩ : Info)])).2) = 1))) (congrArg Value.bool (show (decide (((rollI ([(⟨1, 0, 0, 5, 0⟩ : Info), (⟨2, 3, 0, 5, 0⟩ : Info)])).1) = 1)) = true from (by decide +kernel))) rfl ?_)
  refine s_cons (op_move (.bool (decide (((rollI ([(⟨1, 0, 0, 5, 0⟩ : Info), (⟨2, 3, 0, 5, 0⟩ : Info)])).2) = 1))) rfl ?_)
  refine s_yes 74 rfl (congrArg Value.bool (show (decide (((rollI ([(⟨1, 0, 0, 5, 0⟩ : Info), (⟨2, 3, 0, 5, 0⟩ : Info)])).2) = 1)) = true from (by decide +kernel))) (op_move (.int .i64 ((rollI ([(⟨1, 0, 0, 5, 0⟩ : Info), (⟨3, 1, 0, 5, 0⟩ : Info)])).1)) rfl ?_)
  refine s_yes 74 rfl (congrArg Value.bool (show (decide (((rollI ([(⟨1, 0, 0, 5, 0⟩ : Info), (⟨2, 3, 0, 5, 0⟩ : Info)])).2) = 1)) = true from (by decide +kernel))) (op_eql (k := .i64) (a := (rollI ([(⟨1, 0, 0, 5, 0⟩ : Info), (⟨3, 1, 0, 5, 0⟩ : Info)])).1) (b := 3) rfl rfl ?_)
  refine s_cons (op_pick_t (.bool (decide (((rollI ([(⟨1, 0, 0, 5, 0⟩ : Info), (⟨3, 1, 0, 5, 0⟩ : Info)])).1) = 3))) (congrArg Value.bool (show (decide (((rollI ([(⟨1, 0, 0, 5, 0⟩ : Info), (⟨2, 3, 0, 5, 0⟩ : Info)])).2) = 1)) = true from (by decide +kernel))) rfl ?_)
  refine s_cons (op_move (.bool (decide (((rollI ([(⟨1, 0, 0, 5, 0⟩ : Info), (⟨3, 1, 0, 5, 0⟩ : Info)])).1) = 3))) rfl ?_)
  refine s_yes 78 rfl (congrArg Value.bool (show (decide (((rollI ([(⟨1, 0, 0, 5, 0⟩ : Info), (⟨3, 1, 0, 5, 0⟩ : Info)])).1) = 3)) = true from (by decide +kernel))) (op_move (.int .i64 ((rollI ([(⟨1, 0, 0, 5, 0⟩ : Info), (⟨3, 1, 0, 5, 0⟩ : Info)])).2)) rfl ?_)
  refine s_yes 78 rfl (congrArg Value.bool (show (decide (((rollI ([(⟨1, 0, 0, 5, 0⟩ : Info), (⟨3, 1, 0, 5, 0⟩ : Info)])).1) = 3)) = true from (by decide +kernel))) (op_eql (k := .i64) (a := (rollI ([(⟨1, 0, 0, 5, 0⟩ : Info), (⟨3, 1, 0, 5, 0⟩ : Info)])).2) (b := 2) rfl rfl ?_)
  refine s_cons (op_pick_t (.bool (decide (((rollI ([(⟨1, 0, 0, 5, 0⟩ : Info), (⟨3, 1, 0, 5, 0⟩ : Info)])).2) = 2))) (congrArg Value.bool (show (decide (((rollI ([(⟨1, 0, 0, 5, 0⟩ : Info), (⟨3, 1, 0, 5, 0⟩ : Info)])).1) = 3)) = true from (by decide +kernel))) rfl ?_)
  refine s_cons (op_move (.bool (decide (((rollI ([(⟨1, 0, 0, 5, 0⟩ : Info), (⟨3, 1, 0, 5, 0⟩ : Info)])).2) = 2))) rfl ?_)
  refine s_yes 82 rfl (congrArg Value.bool (show (decide (((rollI ([(⟨1, 0, 0, 5, 0⟩ : Info), (⟨3, 1, 0, 5, 0⟩ : Info)])).2) = 2)) = true from (by decide +kernel))) (op_move (.int .i64 ((rollI ([(⟨2, 3, 0, 5, 0⟩ : Info)])).1)) rfl ?_)
  refine s_yes 82 rfl (congrArg Value.bool (show (decide (((rollI ([(⟨1, 0, 0, 5, 0⟩ : Info), (⟨3, 1, 0, 5, 0⟩ : Info)])).2) = 2)) = true from (by decide +kernel))) (op_eql (k := .i64) (a := (rollI ([(⟨2, 3, 0, 5, 0⟩ : Info)])).1) (b := (-1)) rfl rfl ?_)
  refine s_cons (op_pick_t (.bool (decide (((rollI ([(⟨2, 3, 0, 5, 0⟩ : Info)])).1) = (-1)))) (congrArg Value.bool (show (decide (((rollI ([(⟨1, 0, 0, 5, 0⟩ : Info), (⟨3, 1, 0, 5, 0⟩ : Info)])).2) = 2)) = true from (by decide +kernel))) rfl ?_)
  refine s_cons (op_move (.bool (decide (((rollI ([(⟨2, 3, 0, 5, 0⟩ : Info)])).1) = (-1)))) rfl ?_)
  refine s_yes 86 rfl (congrArg Value.bool (show (decide (((rollI ([(⟨2, 3, 0, 5, 0⟩ : Info)])).1) = (-1))) = true from (by decide +kernel))) (op_move (.int .i64 ((rollI ([(⟨2, 3, 0, 5, 0⟩ : Info)])).2)) rfl ?_)
  refine s_yes 86 rfl (congrArg Value.bool (show (decide (((rollI ([(⟨2, 3, 0, 5, 0⟩ : Info)])).1) = (-1))) = true from (by decide +kernel))) (op_eql (k := .i64) (a := (rollI ([(⟨2, 3, 0, 5, 0⟩ : Info)])).2) (b := 0) rfl rfl ?_)
  refine s_cons (op_pick_t (.bool (decide (((rollI ([(⟨2, 3, 0, 5, 0⟩ : Info)])).2) = 0))) (congrArg Value.bool (show (decide (((rollI ([(⟨2, 3, 0, 5, 0⟩ : Info)])).1) = (-1))) = true from (by decide +kernel))) rfl ?_)
  refine s_cons (op_assign (.bool (decide (((rollI ([(⟨2, 3, 0, 5, 0⟩ : Info)])).2) = 0))) rfl ?_)
  refine s_nil ?_
  refine then_n ?_
  refine cE_ret ?_
  refine post_r _ (res1 (v := (.bool true)) (congrArg Value.bool (show (decide (((rollI ([(⟨2, 3, 0, 5, 0⟩ : Info)])).2) = 0)) = true from (by decide +kernel)))) ?_
  exact ⟨rfl, hst.bare⟩

end Go.Proofs.Ytadnedoecbfojaa
