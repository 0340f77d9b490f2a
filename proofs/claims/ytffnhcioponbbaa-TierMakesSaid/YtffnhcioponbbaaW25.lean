/- the reference: twinkeepref1.One -/
import Derived.Test.YtffnhcioponbbaaW24
namespace Go.Proofs.Ytffnhcioponbbaa
open Go.RowKit

theorem c_rOne (w0 : World) (s : Sample) (fr : Int) :
    Calls Try.prog 39 #[(.agg #[(.int .i64 s.T), (.int .i64 s.V)]), (.int .i64 fr)] w0 fun e w' => e = .returned (.agg #[(.int .i64 fr), (.int .i64 1), (.int .i64 s.V), (.int .i64 s.V), (.int .i64 s.V), (.int .i64 s.V), (.int .i64 s.V)]) ∧ St w0 w' [] := by
  refine calls_G (n := 17) (rs := [.cell 4 26]) Try.func39 rfl rfl rfl (by simp) ?_
  have hst := St.start w0
  refine cE_seq ?_
  refine cE_region rfl ?_
  refine s_cons (op_box (v := (.agg #[(.int .i64 s.T), (.int .i64 s.V)])) (cs := #[(.int .i64 s.T), (.int .i64 s.V)]) hst rfl rfl (fun g1 w2 hst _ => ?_))
  replace hst : St w0 w2 [.blk g1 32 #[(.int .i64 s.T), (.int .i64 s.V)]] := hst
  refine s_cons (op_alloc (cs := #[(.int .i64 0), (.int .i64 0), (.int .i64 0), (.int .i64 0), (.int .i64 0), (.int .i64 0), (.int .i64 0)]) hst Try.zeroValue26 rfl (fun g3 w4 hst _ => ?_))
  replace hst : St w0 w4 [.blk g3 26 #[(.int .i64 0), (.int .i64 0), (.int .i64 0), (.int .i64 0), (.int .i64 0), (.int .i64 0), (.int .i64 0)], .blk g1 32 #[(.int .i64 s.T), (.int .i64 s.V)]] := hst
  refine s_nil ?_
  refine then_n ?_
  refine cE_seq ?_
  refine cE_region rfl ?_
  refine s_cons (op_move (.int .i64 fr) rfl ?_)
  refine s_cons (op_fieldAddr (s := 0) Try.underlying32 rfl rfl Try.sizeOf2 rfl ?_)
  refine s_cons (op_load1 (u := (.int .i64 s.V)) Try.isAgg2 rfl ((hst.cell 1 rfl).drop 1) ?_)
  refine s_cons (op_fieldAddr (s := 0) Try.underlying32 rfl rfl Try.sizeOf2 rfl ?_)
  refine s_cons (op_load1 (u := (.int .i64 s.V)) Try.isAgg2 rfl ((hst.cell 1 rfl).drop 1) ?_)
  refine s_cons (op_fieldAddr (s := 0) Try.underlying32 rfl rfl Try.sizeOf2 rfl ?_)
  refine s_cons (op_load1 (u := (.int .i64 s.V)) Try.isAgg2 rfl ((hst.cell 1 rfl).drop 1) ?_)
  refine s_cons (op_fieldAddr (s := 0) Try.underlying32 rfl rfl Try.sizeOf2 rfl ?_)
  refine s_cons (op_load1 (u := (.int .i64 s.V)) Try.isAgg2 rfl ((hst.cell 1 rfl).drop 1) ?_)
  refine s_cons (op_fieldAddr (s := 0) Try.underlying32 rfl rfl Try.sizeOf2 rfl ?_)
  refine s_cons (op_load1 (u := (.int .i64 s.V)) Try.isAgg2 rfl ((hst.cell 1 rfl).drop 1) ?_)
  refine s_cons (op_build (r := (.agg #[(.int .i64 fr), (.int .i64 1), (.int .i64 s.V), (.int .i64 s.V), (.int .i64 s.V), (.int .i64 s.V), (.int .i64 s.V)])) (evp_cons (v := (.int .i64 fr)) rfl (evp_cons (v := (.int .i64 1)) rfl (evp_cons (v := (.int .i64 s.V)) rfl (evp_cons (v := (.int .i64 s.V)) rfl (evp_cons (v := (.int .i64 s.V)) rfl (evp_cons (v := (.int .i64 s.V)) rfl (evp_cons (v := (.int .i64 s.V)) rfl evp_nil))))))) (by simp [Instr.build, Instr.fill, Value.cells, Try.runUnderlying26, Try.zeroValue26]) ?_)
  refine s_cons0 (op_storeAll hst 0 rfl Try.sizeOf26 rfl rfl rfl rfl (by simp [Value.oneCell']) (fun w5 hst => ?_))
  replace hst : St w0 w5 [.blk g3 26 #[(.int .i64 fr), (.int .i64 1), (.int .i64 s.V), (.int .i64 s.V), (.int .i64 s.V), (.int .i64 s.V), (.int .i64 s.V)], .blk g1 32 #[(.int .i64 s.T), (.int .i64 s.V)]] := hst
  refine s_nil ?_
  refine then_n ?_
  refine cE_ret ?_
  refine postG_r _ (rvN (cs := [(.int .i64 fr), (.int .i64 1), (.int .i64 s.V), (.int .i64 s.V), (.int .i64 s.V), (.int .i64 s.V), (.int .i64 s.V)]) Try.isAgg26 Try.sizeOf26 rfl (Pt.of (hst.cell 0 rfl) rfl) rfl rvnil) ?_
  exact ⟨rfl, hst.bare⟩

end Go.Proofs.Ytffnhcioponbbaa
