/- the law FoldThrees -/
import Derived.Test.YtffnhcioponbbaaW2
namespace Go.Proofs.Ytffnhcioponbbaa
open Go.RowKit

theorem c_FoldThrees (w0 : World) (a : Agg) (b : Agg) (c : Agg) (ha : a.ok) (hb : b.ok) (hc : c.ok) :
    Calls Try.prog 6 #[(.agg #[(.int .i64 a.From), (.int .i64 a.Count), (.int .i64 a.Sum), (.int .i64 a.Min), (.int .i64 a.Max), (.int .i64 a.First), (.int .i64 a.Last)]), (.agg #[(.int .i64 b.From), (.int .i64 b.Count), (.int .i64 b.Sum), (.int .i64 b.Min), (.int .i64 b.Max), (.int .i64 b.First), (.int .i64 b.Last)]), (.agg #[(.int .i64 c.From), (.int .i64 c.Count), (.int .i64 c.Sum), (.int .i64 c.Min), (.int .i64 c.Max), (.int .i64 c.First), (.int .i64 c.Last)])] w0 fun e w' => e = .returned (.bool true) ∧ St w0 w' [] := by
  refine calls_E (n := 85) (ts := [6]) Try.func6 rfl rfl rfl (by simp) ?_
  have hst := St.start w0
  refine cE_seq ?_
  refine cE_region rfl ?_
  refine s_cons (op_box (v := (.agg #[(.int .i64 a.From), (.int .i64 a.Count), (.int .i64 a.Sum), (.int .i64 a.Min), (.int .i64 a.Max), (.int .i64 a.First), (.int .i64 a.Last)])) (cs := #[(.int .i64 a.From), (.int .i64 a.Count), (.int .i64 a.Sum), (.int .i64 a.Min), (.int .i64 a.Max), (.int .i64 a.First), (.int .i64 a.Last)]) hst rfl rfl (fun g1 w2 hst _ => ?_))
  replace hst : St w0 w2 [.blk g1 26 #[(.int .i64 a.From), (.int .i64 a.Count), (.int .i64 a.Sum), (.int .i64 a.Min), (.int .i64 a.Max), (.int .i64 a.First), (.int .i64 a.Last)]] := hst
  refine s_cons (op_box (v := (.agg #[(.int .i64 b.From), (.int .i64 b.Count), (.int .i64 b.Sum), (.int .i64 b.Min), (.int .i64 b.Max), (.int .i64 b.First), (.int .i64 b.Last)])) (cs := #[(.int .i64 b.From), (.int .i64 b.Count), (.int .i64 b.Sum), (.int .i64 b.Min), (.int .i64 b.Max), (.int .i64 b.First), (.int .i64 b.Last)]) hst rfl rfl (fun g3 w4 hst _ => ?_))
  replace hst : St w0 w4 [.blk g3 26 #[(.int .i64 b.From), (.int .i64 b.Count), (.int .i64 b.Sum), (.int .i64 b.Min), (.int .i64 b.Max), (.int .i64 b.First), (.int .i64 b.Last)], .blk g1 26 #[(.int .i64 a.From), (.int .i64 a.Count), (.int .i64 a.Sum), (.int .i64 a.Min), (.int .i64 a.Max), (.int .i64 a.First), (.int .i64 a.Last)]] := hst
  refine s_cons (op_box (v := (.agg #[(.int .i64 c.From), (.int .i64 c.Count), (.int .i64 c.Sum), (.int .i64 c.Min), (.int .i64 c.Max), (.int .i64 c.First), (.int .i64 c.Last)])) (cs := #[(.int .i64 c.From), (.int .i64 c.Count), (.int .i64 c.Sum), (.int .i64 c.Min), (.int .i64 c.Max), (.int .i64 c.First), (.int .i64 c.Last)]) hst rfl rfl (fun g5 w6 hst _ => ?_))
  replace hst : St w0 w6 [.blk g5 26 #[(.int .i64 c.From), (.int .i64 c.Count), (.int .i64 c.Sum), (.int .i64 c.Min), (.int .i64 c.Max), (.int .i64 c.First), (.int .i64 c.Last)], .blk g3 26 #[(.int .i64 b.From), (.int .i64 b.Count), (.int .i64 b.Sum), (.int .i64 b.Min), (.int .i64 b.Max), (.int .i64 b.First), (.int .i64 b.Last)], .blk g1 26 #[(.int .i64 a.From), (.int .i64 a.Count), (.int .i64 a.Sum), (.int .i64 a.Min), (.int .i64 a.Max), (.int .i64 a.First), (.int .i64 a.Last)]] := hst
  refine s_cons (op_assign (.bool false) rfl ?_)
  refine s_nil ?_
  refine then_n ?_
  refine cE_seq ?_
  refine cE_region rfl ?_
  refine s_cons (op_loadN (cs := [(.int .i64 a.From), (.int .i64 a.Count), (.int .i64 a.Sum), (.int .i64 a.Min), (.int .i64 a.Max), (.int .i64 a.First), (.int .i64 a.Last)]) Try.isAgg26 Try.sizeOf26 rfl (Pt.of (hst.cell 2 rfl) rfl) rfl ?_)
  refine s_cons (op_loadN (cs := [(.int .i64 b.From), (.int .i64 b.Count), (.int .i64 b.Sum), (.int .i64 b.Min), (.int .i64 b.Max), (.int .i64 b.First), (.int .i64 b.Last)]) Try.isAgg26 Try.sizeOf26 rfl (Pt.of (hst.cell 1 rfl) rfl) rfl ?_)
  refine s_cons (op_call Try.call16 (evs_cons (v := (.agg #[(.int .i64 a.From), (.int .i64 a.Count), (.int .i64 a.Sum), (.int .i64 a.Min), (.int .i64 a.Max), (.int .i64 a.First), (.int .i64 a.Last)])) rfl (evs_cons (v := (.agg #[(.int .i64 b.From), (.int .i64 b.Count), (.int .i64 b.Sum), (.int .i64 b.Min), (.int .i64 b.Max), (.int .i64 b.First), (.int .i64 b.Last)])) rfl evs_nil)) (c_Join (w0 := w6) (a := a) (b := b) (ha := (by first | assumption | exact joinA_ok (by assumption) (by assumption))) (hb := (by first | assumption | exact joinA_ok (by assumption) (by assumption)))) ?_)
  rintro _ w7 ⟨rfl, hcall⟩
  refine ⟨_, rfl, ?_⟩
  have hst : St w0 w7 [.blk g5 26 #[(.int .i64 c.From), (.int .i64 c.Count), (.int .i64 c.Sum), (.int .i64 c.Min), (.int .i64 c.Max), (.int .i64 c.First), (.int .i64 c.Last)], .blk g3 26 #[(.int .i64 b.From), (.int .i64 b.Count), (.int .i64 b.Sum), (.int .i64 b.Min), (.int .i64 b.Max), (.int .i64 b.First), (.int .i64 b.Last)], .blk g1 26 #[(.int .i64 a.From), (.int .i64 a.Count), (.int .i64 a.Sum), (.int .i64 a.Min), (.int .i64 a.Max), (.int .i64 a.First), (.int .i64 a.Last)]] := hst.call hcall
  refine s_cons (op_move (.tuple #[(.agg #[(.int .i64 (((joinA a b).1).From)), (.int .i64 (((joinA a b).1).Count)), (.int .i64 (((joinA a b).1).Sum)), (.int .i64 (((joinA a b).1).Min)), (.int .i64 (((joinA a b).1).Max)), (.int .i64 (((joinA a b).1).First)), (.int .i64 (((joinA a b).1).Last))]), (.int .i64 ((joinA a b).2))]) rfl ?_)
  refine s_cons (op_extract (.agg #[(.int .i64 (((joinA a b).1).From)), (.int .i64 (((joinA a b).1).Count)), (.int .i64 (((joinA a b).1).Sum)), (.int .i64 (((joinA a b).1).Min)), (.int .i64 (((joinA a b).1).Max)), (.int .i64 (((joinA a b).1).First)), (.int .i64 (((joinA a b).1).Last))]) rfl rfl ?_)
  refine s_cons (op_extract (.int .i64 ((joinA a b).2)) rfl rfl ?_)
  refine s_cons (op_alloc (cs := #[(.int .i64 0), (.int .i64 0), (.int .i64 0), (.int .i64 0), (.int .i64 0), (.int .i64 0), (.int .i64 0)]) hst Try.zeroValue26 rfl (fun g8 w9 hst _ => ?_))
  replace hst : St w0 w9 [.blk g8 26 #[(.int .i64 0), (.int .i64 0), (.int .i64 0), (.int .i64 0), (.int .i64 0), (.int .i64 0), (.int .i64 0)], .blk g5 26 #[(.int .i64 c.From), (.int .i64 c.Count), (.int .i64 c.Sum), (.int .i64 c.Min), (.int .i64 c.Max), (.int .i64 c.First), (.int .i64 c.Last)], .blk g3 26 #[(.int .i64 b.From), (.int .i64 b.Count), (.int .i64 b.Sum), (.int .i64 b.Min), (.int .i64 b.Max), (.int .i64 b.First), (.int .i64 b.Last)], .blk g1 26 #[(.int .i64 a.From), (.int .i64 a.Count), (.int .i64 a.Sum), (.int .i64 a.Min), (.int .i64 a.Max), (.int .i64 a.First), (.int .i64 a.Last)]] := hst
  refine s_cons0 (op_storeAll hst 0 rfl Try.sizeOf26 rfl rfl rfl rfl (by simp [Value.oneCell']) (fun w10 hst => ?_))
  replace hst : St w0 w10 [.blk g8 26 #[(.int .i64 (((joinA a b).1).From)), (.int .i64 (((joinA a b).1).Count)), (.int .i64 (((joinA a b).1).Sum)), (.int .i64 (((joinA a b).1).Min)), (.int .i64 (((joinA a b).1).Max)), (.int .i64 (((joinA a b).1).First)), (.int .i64 (((joinA a b).1).Last))], .blk g5 26 #[(.int .i64 c.From), (.int .i64 c.Count), (.int .i64 c.Sum), (.int .i64 c.Min), (.int .i64 c.Max), (.int .i64 c.First), (.int .i64 c.Last)], .blk g3 26 #[(.int .i64 b.From), (.int .i64 b.Count), (.int .i64 b.Sum), (.int .i64 b.Min), (.int .i64 b.Max), (.int .i64 b.First), (.int .i64 b.Last)], .blk g1 26 #[(.int .i64 a.From), (.int .i64 a.Count), (.int .i64 a.Sum), (.int .i64 a.Min), (.int .i64 a.Max), (.int .i64 a.First), (.int .i64 a.Last)]] := hst
  refine s_cons (op_assign (.int .i64 ((joinA a b).2)) rfl ?_)
  refine s_nil ?_
  refine then_n ?_
  refine cE_seq ?_
  refine cE_region rfl ?_
  refine s_cons (op_loadN (cs := [(.int .i64 (((joinA a b).1).From)), (.int .i64 (((joinA a b).1).Count)), (.int .i64 (((joinA a b).1).Sum)), (.int .i64 (((joinA a b).1).Min)), (.int .i64 (((joinA a b).1).Max)), (.int .i64 (((joinA a b).1).First)), (.int .i64 (((joinA a b).1).Last))]) Try.isAgg26 Try.sizeOf26 rfl (Pt.of (hst.cell 0 rfl) rfl) rfl ?_)
  refine s_cons (op_loadN (cs := [(.int .i64 c.From), (.int .i64 c.Count), (.int .i64 c.Sum), (.int .i64 c.Min), (.int .i64 c.Max), (.int .i64 c.First), (.int .i64 c.Last)]) Try.isAgg26 Try.sizeOf26 rfl (Pt.of (hst.cell 1 rfl) rfl) rfl ?_)
  refine s_cons (op_call Try.call16 (evs_cons (v := (.agg #[(.int .i64 (((joinA a b).1).From)), (.int .i64 (((joinA a b).1).Count)), (.int .i64 (((joinA a b).1).Sum)), (.int .i64 (((joinA a b).1).Min)), (.int .i64 (((joinA a b).1).Max)), (.int .i64 (((joinA a b).1).First)), (.int .i64 (((joinA a b).1).Last))])) rfl (evs_cons (v := (.agg #[(.int .i64 c.From), (.int .i64 c.Count), (.int .i64 c.Sum), (.int .i64 c.Min), (.int .i64 c.Max), (.int .i64 c.First), (.int .i64 c.Last)])) rfl evs_nil)) (c_Join (w0 := w10) (a := ((joinA a b).1)) (b := c) (ha := (by first | assumption | exact joinA_ok (by assumption) (by assumption))) (hb := (by first | assumption | exact joinA_ok (by assumption) (by assumption)))) ?_)
  rintro _ w11 ⟨rfl, hcall⟩
  refine ⟨_, rfl, ?_⟩
  have hst : St w0 w11 [.blk g8 26 #[(.int .i64 (((joinA a b).1).From)), (.int .i64 (((joinA a b).1).Count)), (.int .i64 (((joinA a b).1).Sum)), (.int .i64 (((joinA a b).1).Min)), (.int .i64 (((joinA a b).1).Max)), (.int .i64 (((joinA a b).1).First)), (.int .i64 (((joinA a b).1).Last))], .blk g5 26 #[(.int .i64 c.From), (.int .i64 c.Count), (.int .i64 c.Sum), (.int .i64 c.Min), (.int .i64 c.Max), (.int .i64 c.First), (.int .i64 c.Last)], .blk g3 26 #[(.int .i64 b.From), (.int .i64 b.Count), (.int .i64 b.Sum), (.int .i64 b.Min), (.int .i64 b.Max), (.int .i64 b.First), (.int .i64 b.Last)], .blk g1 26 #[(.int .i64 a.From), (.int .i64 a.Count), (.int .i64 a.Sum), (.int .i64 a.Min), (.int .i64 a.Max), (.int .i64 a.First), (.int .i64 a.Last)]] := hst.call hcall
  refine s_cons (op_move (.tuple #[(.agg #[(.int .i64 (((joinA ((joinA a b).1) c).1).From)), (.int .i64 (((joinA ((joinA a b).1) c).1).Count)), (.int .i64 (((joinA ((joinA a b).1) c).1).Sum)), (.int .i64 (((joinA ((joinA a b).1) c).1).Min)), (.int .i64 (((joinA ((joinA a b).1) c).1).Max)), (.int .i64 (((joinA ((joinA a b).1) c).1).First)), (.int .i64 (((joinA ((joinA a b).1) c).1).Last))]), (.int .i64 ((joinA ((joinA a b).1) c).2))]) rfl ?_)
  refine s_cons (op_extract (.agg #[(.int .i64 (((joinA ((joinA a b).1) c).1).From)), (.int .i64 (((joinA ((joinA a b).1) c).1).Count)), (.int .i64 (((joinA ((joinA a b).1) c).1).Sum)), (.int .i64 (((joinA ((joinA a b).1) c).1).Min)), (.int .i64 (((joinA ((joinA a b).1) c).1).Max)), (.int .i64 (((joinA ((joinA a b).1) c).1).First)), (.int .i64 (((joinA ((joinA a b).1) c).1).Last))]) rfl rfl ?_)
  refine s_cons (op_extract (.int .i64 ((joinA ((joinA a b).1) c).2)) rfl rfl ?_)
  refine s_cons (op_alloc (cs := #[(.int .i64 0), (.int .i64 0), (.int .i64 0), (.int .i64 0), (.int .i64 0), (.int .i64 0), (.int .i64 0)]) hst Try.zeroValue26 rfl (fun g12 w13 hst _ => ?_))
  replace hst : St w0 w13 [.blk g12 26 #[(.int .i64 0), (.int .i64 0), (.int .i64 0), (.int .i64 0), (.int .i64 0), (.int .i64 0), (.int .i64 0)], .blk g8 26 #[(.int .i64 (((joinA a b).1).From)), (.int .i64 (((joinA a b).1).Count)), (.int .i64 (((joinA a b).1).Sum)), (.int .i64 (((joinA a b).1).Min)), (.int .i64 (((joinA a b).1).Max)), (.int .i64 (((joinA a b).1).First)), (.int .i64 (((joinA a b).1).Last))], .blk g5 26 #[(.int .i64 c.From), (.int .i64 c.Count), (.int .i64 c.Sum), (.int .i64 c.Min), (.int .i64 c.Max), (.int .i64 c.First), (.int .i64 c.Last)], .blk g3 26 #[(.int .i64 b.From), (.int .i64 b.Count), (.int .i64 b.Sum), (.int .i64 b.Min), (.int .i64 b.Max), (.int .i64 b.First), (.int .i64 b.Last)], .blk g1 26 #[(.int .i64 a.From), (.int .i64 a.Count), (.int .i64 a.Sum), (.int .i64 a.Min), (.int .i64 a.Max), (.int .i64 a.First), (.int .i64 a.Last)]] := hst
  refine s_cons0 (op_storeAll hst 0 rfl Try.sizeOf26 rfl rfl rfl rfl (by simp [Value.oneCell']) (fun w14 hst => ?_))
  replace hst : St w0 w14 [.blk g12 26 #[(.int .i64 (((joinA ((joinA a b).1) c).1).From)), (.int .i64 (((joinA ((joinA a b).1) c).1).Count)), (.int .i64 (((joinA ((joinA a b).1) c).1).Sum)), (.int .i64 (((joinA ((joinA a b).1) c).1).Min)), (.int .i64 (((joinA ((joinA a b).1) c).1).Max)), (.int .i64 (((joinA ((joinA a b).1) c).1).First)), (.int .i64 (((joinA ((joinA a b).1) c).1).Last))], .blk g8 26 #[(.int .i64 (((joinA a b).1).From)), (.int .i64 (((joinA a b).1).Count)), (.int .i64 (((joinA a b).1).Sum)), (.int .i64 (((joinA a b).1).Min)), (.int .i64 (((joinA a b).1).Max)), (.int .i64 (((joinA a b).1).First)), (.int .i64 (((joinA a b).1).Last))], .blk g5 26 #[(.int .i64 c.From), (.int .i64 c.Count), (.int .i64 c.Sum), (.int .i64 c.Min), (.int .i64 c.Max), (.int .i64 c.First), (.int .i64 c.Last)], .blk g3 26 #[(.int .i64 b.From), (.int .i64 b.Count), (.int .i64 b.Sum), (.int .i64 b.Min), (.int .i64 b.Max), (.int .i64 b.First), (.int .i64 b.Last)], .blk g1 26 #[(.int .i64 a.From), (.int .i64 a.Count), (.int .i64 a.Sum), (.int .i64 a.Min), (.int .i64 a.Max), (.int .i64 a.First), (.int .i64 a.Last)]] := hst
  refine s_cons (op_assign (.int .i64 ((joinA ((joinA a b).1) c).2)) rfl ?_)
  refine s_nil ?_
  refine then_n ?_
  refine cE_seq ?_
  refine cE_region rfl ?_
  refine s_cons (op_loadN (cs := [(.int .i64 b.From), (.int .i64 b.Count), (.int .i64 b.Sum), (.int .i64 b.Min), (.int .i64 b.Max), (.int .i64 b.First), (.int .i64 b.Last)]) Try.isAgg26 Try.sizeOf26 rfl (Pt.of (hst.cell 3 rfl) rfl) rfl ?_)
  refine s_cons (op_loadN (cs := [(.int .i64 c.From), (.int .i64 c.Count), (.int .i64 c.Sum), (.int .i64 c.Min), (.int .i64 c.Max), (.int .i64 c.First), (.int .i64 c.Last)]) Try.isAgg26 Try.sizeOf26 rfl (Pt.of (hst.cell 2 rfl) rfl) rfl ?_)
  refine s_cons (op_call Try.call16 (evs_cons (v := (.agg #[(.int .i64 b.From), (.int .i64 b.Count), (.int .i64 b.Sum), (.int .i64 b.Min), (.int .i64 b.Max), (.int .i64 b.First), (.int .i64 b.Last)])) rfl (evs_cons (v := (.agg #[(.int .i64 c.From), (.int .i64 c.Count), (.int .i64 c.Sum), (.int .i64 c.Min), (.int .i64 c.Max), (.int .i64 c.First), (.int .i64 c.Last)])) rfl evs_nil)) (c_Join (w0 := w14) (a := b) (b := c) (ha := (by first | assumption | exact joinA_ok (by assumption) (by assumption))) (hb := (by first | assumption | exact joinA_ok (by assumption) (by assumption)))) ?_)
  rintro _ w15 ⟨rfl, hcall⟩
  refine ⟨_, rfl, ?_⟩
  have hst : St w0 w15 [.blk g12 26 #[(.int .i64 (((joinA ((joinA a b).1) c).1).From)), (.int .i64 (((joinA ((joinA a b).1) c).1).Count)), (.int .i64 (((joinA ((joinA a b).1) c).1).Sum)), (.int .i64 (((joinA ((joinA a b).1) c).1).Min)), (.int .i64 (((joinA ((joinA a b).1) c).1).Max)), (.int .i64 (((joinA ((joinA a b).1) c).1).First)), (.int .i64 (((joinA ((joinA a b).1) c).1).Last))], .blk g8 26 #[(.int .i64 (((joinA a b).1).From)), (.int .i64 (((joinA a b).1).Count)), (.int .i64 (((joinA a b).1).Sum)), (.int .i64 (((joinA a b).1).Min)), (.int .i64 (((joinA a b).1).Max)), (.int .i64 (((joinA a b).1).First)), (.int .i64 (((joinA a b).1).Last))], .blk g5 26 #[(.int .i64 c.From), (.int .i64 c.Count), (.int .i64 c.Sum), (.int .i64 c.Min), (.int .i64 c.Max), (.int .i64 c.First), (.int .i64 c.Last)], .blk g3 26 #[(.int .i64 b.From), (.int .i64 b.Count), (.int .i64 b.Sum), (.int .i64 b.Min), (.int .i64 b.Max), (.int .i64 b.First), (.int .i64 b.Last)], .blk g1 26 #[(.int .i64 a.From), (.int .i64 a.Count), (.int .i64 a.Sum), (.int .i64 a.Min), (.int .i64 a.Max), (.int .i64 a.First), (.int .i64 a.Last)]] := hst.call hcall
  refine s_cons (op_move (.tuple #[(.agg #[(.int .i64 (((joinA b c).1).From)), (.int .i64 (((joinA b c).1).Count)), (.int .i64 (((joinA b c).1).Sum)), (.int .i64 (((joinA b c).1).Min)), (.int .i64 (((joinA b c).1).Max)), (.int .i64 (((joinA b c).1).First)), (.int .i64 (((joinA b c).1).Last))]), (.int .i64 ((joinA b c).2))]) rfl ?_)
  refine s_cons (op_extract (.agg #[(.int .i64 (((joinA b c).1).From)), (.int .i64 (((joinA b c).1).Count)), (.int .i64 (((joinA b c).1).Sum)), (.int .i64 (((joinA b c).1).Min)), (.int .i64 (((joinA b c).1).Max)), (.int .i64 (((joinA b c).1).First)), (.int .i64 (((joinA b c).1).Last))]) rfl rfl ?_)
  refine s_cons (op_extract (.int .i64 ((joinA b c).2)) rfl rfl ?_)
  refine s_cons (op_alloc (cs := #[(.int .i64 0), (.int .i64 0), (.int .i64 0), (.int .i64 0), (.int .i64 0), (.int .i64 0), (.int .i64 0)]) hst Try.zeroValue26 rfl (fun g16 w17 hst _ => ?_))
  replace hst : St w0 w17 [.blk g16 26 #[(.int .i64 0), (.int .i64 0), (.int .i64 0), (.int .i64 0), (.int .i64 0), (.int .i64 0), (.int .i64 0)], .blk g12 26 #[(.int .i64 (((joinA ((joinA a b).1) c).1).From)), (.int .i64 (((joinA ((joinA a b).1) c).1).Count)), (.int .i64 (((joinA ((joinA a b).1) c).1).Sum)), (.int .i64 (((joinA ((joinA a b).1) c).1).Min)), (.int .i64 (((joinA ((joinA a b).1) c).1).Max)), (.int .i64 (((joinA ((joinA a b).1) c).1).First)), (.int .i64 (((joinA ((joinA a b).1) c).1).Last))], .blk g8 26 #[(.int .i64 (((joinA a b).1).From)), (.int .i64 (((joinA a b).1).Count)), (.int .i64 (((joinA a b).1).Sum)), (.int .i64 (((joinA a b).1).Min)), (.int .i64 (((joinA a b).1).Max)), (.int .i64 (((joinA a b).1).First)), (.int .i64 (((joinA a b).1).Last))], .blk g5 26 #[(.int .i64 c.From), (.int .i64 c.Count), (.int .i64 c.Sum), (.int .i64 c.Min), (.int .i64 c.Max), (.int .i64 c.First), (.int .i64 c.Last)], .blk g3 26 #[(.int .i64 b.From), (.int .i64 b.Count), (.int .i64 b.Sum), (.int .i64 b.Min), (.int .i64 b.Max), (.int .i64 b.First), (.int .i64 b.Last)], .blk g1 26 #[(.int .i64 a.From), (.int .i64 a.Count), (.int .i64 a.Sum), (.int .i64 a.Min), (.int .i64 a.Max), (.int .i64 a.First), (.int .i64 a.Last)]] := hst
  refine s_cons0 (op_storeAll hst 0 rfl Try.sizeOf26 rfl rfl rfl rfl (by simp [Value.oneCell']) (fun w18 hst => ?_))
  replace hst : St w0 w18 [.blk g16 26 #[(.int .i64 (((joinA b c).1).From)), (.int .i64 (((joinA b c).1).Count)), (.int .i64 (((joinA b c).1).Sum)), (.int .i64 (((joinA b c).1).Min)), (.int .i64 (((joinA b c).1).Max)), (.int .i64 (((joinA b c).1).First)), (.int .i64 (((joinA b c).1).Last))], .blk g12 26 #[(.int .i64 (((joinA ((joinA a b).1) c).1).From)), (.int .i64 (((joinA ((joinA a b).1) c).1).Count)), (.int .i64 (((joinA ((joinA a b).1) c).1).Sum)), (.int .i64 (((joinA ((joinA a b).1) c).1).Min)), (.int .i64 (((joinA ((joinA a b).1) c).1).Max)), (.int .i64 (((joinA ((joinA a b).1) c).1).First)), (.int .i64 (((joinA ((joinA a b).1) c).1).Last))], .blk g8 26 #[(.int .i64 (((joinA a b).1).From)), (.int .i64 (((joinA a b).1).Count)), (.int .i64 (((joinA a b).1).Sum)), (.int .i64 (((joinA a b).1).Min)), (.int .i64 (((joinA a b).1).Max)), (.int .i64 (((joinA a b).1).First)), (.int .i64 (((joinA a b).1).Last))], .blk g5 26 #[(.int .i64 c.From), (.int .i64 c.Count), (.int .i64 c.Sum), (.int .i64 c.Min), (.int .i64 c.Max), (.int .i64 c.First), (.int .i64 c.Last)], .blk g3 26 #[(.int .i64 b.From), (.int .i64 b.Count), (.int .i64 b.Sum), (.int .i64 b.Min), (.int .i64 b.Max), (.int .i64 b.First), (.int .i64 b.Last)], .blk g1 26 #[(.int .i64 a.From), (.int .i64 a.Count), (.int .i64 a.Sum), (.int .i64 a.Min), (.int .i64 a.Max), (.int .i64 a.First), (.int .i64 a.Last)]] := hst
  refine s_cons (op_assign (.int .i64 ((joinA b c).2)) rfl ?_)
  refine s_nil ?_
  refine then_n ?_
  refine cE_seq ?_
  refine cE_region rfl ?_
  refine s_cons (op_loadN (cs := [(.int .i64 a.From), (.int .i64 a.Count), (.int .i64 a.Sum), (.int .i64 a.Min), (.int .i64 a.Max), (.int .i64 a.First), (.int .i64 a.Last)]) Try.isAgg26 Try.sizeOf26 rfl (Pt.of (hst.cell 5 rfl) rfl) rfl ?_)
  refine s_cons (op_loadN (cs := [(.int .i64 (((joinA b c).1).From)), (.int .i64 (((joinA b c).1).Count)), (.int .i64 (((joinA b c).1).Sum)), (.int .i64 (((joinA b c).1).Min)), (.int .i64 (((joinA b c).1).Max)), (.int .i64 (((joinA b c).1).First)), (.int .i64 (((joinA b c).1).Last))]) Try.isAgg26 Try.sizeOf26 rfl (Pt.of (hst.cell 0 rfl) rfl) rfl ?_)
  refine s_cons (op_call Try.call16 (evs_cons (v := (.agg #[(.int .i64 a.From), (.int .i64 a.Count), (.int .i64 a.Sum), (.int .i64 a.Min), (.int .i64 a.Max), (.int .i64 a.First), (.int .i64 a.Last)])) rfl (evs_cons (v := (.agg #[(.int .i64 (((joinA b c).1).From)), (.int .i64 (((joinA b c).1).Count)), (.int .i64 (((joinA b c).1).Sum)), (.int .i64 (((joinA b c).1).Min)), (.int .i64 (((joinA b c).1).Max)), (.int .i64 (((joinA b c).1).First)), (.int .i64 (((joinA b c).1).Last))])) rfl evs_nil)) (c_Join (w0 := w18) (a := a) (b := ((joinA b c).1)) (ha := (by first | assumption | exact joinA_ok (by assumption) (by assumption))) (hb := (by first | assumption | exact joinA_ok (by assumption) (by assumption)))) ?_)
  rintro _ w19 ⟨rfl, hcall⟩
  refine ⟨_, rfl, ?_⟩
  have hst : St w0 w19 [.blk g16 26 #[(.int .i64 (((joinA b c).1).From)), (.int .i64 (((joinA b c).1).Count)), (.int .i64 (((joinA b c).1).Sum)), (.int .i64 (((joinA b c).1).Min)), (.int .i64 (((joinA b c).1).Max)), (.int .i64 (((joinA b c).1).First)), (.int .i64 (((joinA b c).1).Last))], .blk g12 26 #[(.int .i64 (((joinA ((joinA a b).1) c).1).From)), (.int .i64 (((joinA ((joinA a b).1) c).1).Count)), (.int .i64 (((joinA ((joinA a b).1) c).1).Sum)), (.int .i64 (((joinA ((joinA a b).1) c).1).Min)), (.int .i64 (((joinA ((joinA a b).1) c).1).Max)), (.int .i64 (((joinA ((joinA a b).1) c).1).First)), (.int .i64 (((joinA ((joinA a b).1) c).1).Last))], .blk g8 26 #[(.int .i64 (((joinA a b).1).From)), (.int .i64 (((joinA a b).1).Count)), (.int .i64 (((joinA a b).1).Sum)), (.int .i64 (((joinA a b).1).Min)), (.int .i64 (((joinA a b).1).Max)), (.int .i64 (((joinA a b).1).First)), (.int .i64 (((joinA a b).1).Last))], .blk g5 26 #[(.int .i64 c.From), (.int .i64 c.Count), (.int .i64 c.Sum), (.int .i64 c.Min), (.int .i64 c.Max), (.int .i64 c.First), (.int .i64 c.Last)], .blk g3 26 #[(.int .i64 b.From), (.int .i64 b.Count), (.int .i64 b.Sum), (.int .i64 b.Min), (.int .i64 b.Max), (.int .i64 b.First), (.int .i64 b.Last)], .blk g1 26 #[(.int .i64 a.From), (.int .i64 a.Count), (.int .i64 a.Sum), (.int .i64 a.Min), (.int .i64 a.Max), (.int .i64 a.First), (.int .i64 a.Last)]] := hst.call hcall
  refine s_cons (op_move (.tuple #[(.agg #[(.int .i64 (((joinA a ((joinA b c).1)).1).From)), (.int .i64 (((joinA a ((joinA b c).1)).1).Count)), (.int .i64 (((joinA a ((joinA b c).1)).1).Sum)), (.int .i64 (((joinA a ((joinA b c).1)).1).Min)), (.int .i64 (((joinA a ((joinA b c).1)).1).Max)), (.int .i64 (((joinA a ((joinA b c).1)).1).First)), (.int .i64 (((joinA a ((joinA b c).1)).1).Last))]), (.int .i64 ((joinA a ((joinA b c).1)).2))]) rfl ?_)
  refine s_cons (op_extract (.agg #[(.int .i64 (((joinA a ((joinA b c).1)).1).From)), (.int .i64 (((joinA a ((joinA b c).1)).1).Count)), (.int .i64 (((joinA a ((joinA b c).1)).1).Sum)), (.int .i64 (((joinA a ((joinA b c).1)).1).Min)), (.int .i64 (((joinA a ((joinA b c).1)).1).Max)), (.int .i64 (((joinA a ((joinA b c).1)).1).First)), (.int .i64 (((joinA a ((joinA b c).1)).1).Last))]) rfl rfl ?_)
  refine s_cons (op_extract (.int .i64 ((joinA a ((joinA b c).1)).2)) rfl rfl ?_)
  refine s_cons (op_alloc (cs := #[(.int .i64 0), (.int .i64 0), (.int .i64 0), (.int .i64 0), (.int .i64 0), (.int .i64 0), (.int .i64 0)]) hst Try.zeroValue26 rfl (fun g20 w21 hst _ => ?_))
  replace hst : St w0 w21 [.blk g20 26 #[(.int .i64 0), (.int .i64 0), (.int .i64 0), (.int .i64 0), (.int .i64 0), (.int .i64 0), (.int .i64 0)], .blk g16 26 #[(.int .i64 (((joinA b c).1).From)), (.int .i64 (((joinA b c).1).Count)), (.int .i64 (((joinA b c).1).Sum)), (.int .i64 (((joinA b c).1).Min)), (.int .i64 (((joinA b c).1).Max)), (.int .i64 (((joinA b c).1).First)), (.int .i64 (((joinA b c).1).Last))], .blk g12 26 #[(.int .i64 (((joinA ((joinA a b).1) c).1).From)), (.int .i64 (((joinA ((joinA a b).1) c).1).Count)), (.int .i64 (((joinA ((joinA a b).1) c).1).Sum)), (.int .i64 (((joinA ((joinA a b).1) c).1).Min)), (.int .i64 (((joinA ((joinA a b).1) c).1).Max)), (.int .i64 (((joinA ((joinA a b).1) c).1).First)), (.int .i64 (((joinA ((joinA a b).1) c).1).Last))], .blk g8 26 #[(.int .i64 (((joinA a b).1).From)), (.int .i64 (((joinA a b).1).Count)), (.int .i64 (((joinA a b).1).Sum)), (.int .i64 (((joinA a b).1).Min)), (.int .i64 (((joinA a b).1).Max)), (.int .i64 (((joinA a b).1).First)), (.int .i64 (((joinA a b).1).Last))], .blk g5 26 #[(.int .i64 c.From), (.int .i64 c.Count), (.int .i64 c.Sum), (.int .i64 c.Min), (.int .i64 c.Max), (.int .i64 c.First), (.int .i64 c.Last)], .blk g3 26 #[(.int .i64 b.From), (.int .i64 b.Count), (.int .i64 b.Sum), (.int .i64 b.Min), (.int .i64 b.Max), (.int .i64 b.First), (.int .i64 b.Last)], .blk g1 26 #[(.int .i64 a.From), (.int .i64 a.Count), (.int .i64 a.Sum), (.int .i64 a.Min), (.int .i64 a.Max), (.int .i64 a.First), (.int .i64 a.Last)]] := hst
  refine s_cons0 (op_storeAll hst 0 rfl Try.sizeOf26 rfl rfl rfl rfl (by simp [Value.oneCell']) (fun w22 hst => ?_))
  replace hst : St w0 w22 [.blk g20 26 #[(.int .i64 (((joinA a ((joinA b c).1)).1).From)), (.int .i64 (((joinA a ((joinA b c).1)).1).Count)), (.int .i64 (((joinA a ((joinA b c).1)).1).Sum)), (.int .i64 (((joinA a ((joinA b c).1)).1).Min)), (.int .i64 (((joinA a ((joinA b c).1)).1).Max)), (.int .i64 (((joinA a ((joinA b c).1)).1).First)), (.int .i64 (((joinA a ((joinA b c).1)).1).Last))], .blk g16 26 #[(.int .i64 (((joinA b c).1).From)), (.int .i64 (((joinA b c).1).Count)), (.int .i64 (((joinA b c).1).Sum)), (.int .i64 (((joinA b c).1).Min)), (.int .i64 (((joinA b c).1).Max)), (.int .i64 (((joinA b c).1).First)), (.int .i64 (((joinA b c).1).Last))], .blk g12 26 #[(.int .i64 (((joinA ((joinA a b).1) c).1).From)), (.int .i64 (((joinA ((joinA a b).1) c).1).Count)), (.int .i64 (((joinA ((joinA a b).1) c).1).Sum)), (.int .i64 (((joinA ((joinA a b).1) c).1).Min)), (.int .i64 (((joinA ((joinA a b).1) c).1).Max)), (.int .i64 (((joinA ((joinA a b).1) c).1).First)), (.int .i64 (((joinA ((joinA a b).1) c).1).Last))], .blk g8 26 #[(.int .i64 (((joinA a b).1).From)), (.int .i64 (((joinA a b).1).Count)), (.int .i64 (((joinA a b).1).Sum)), (.int .i64 (((joinA a b).1).Min)), (.int .i64 (((joinA a b).1).Max)), (.int .i64 (((joinA a b).1).First)), (.int .i64 (((joinA a b).1).Last))], .blk g5 26 #[(.int .i64 c.From), (.int .i64 c.Count), (.int .i64 c.Sum), (.int .i64 c.Min), (.int .i64 c.Max), (.int .i64 c.First), (.int .i64 c.Last)], .blk g3 26 #[(.int .i64 b.From), (.int .i64 b.Count), (.int .i64 b.Sum), (.int .i64 b.Min), (.int .i64 b.Max), (.int .i64 b.First), (.int .i64 b.Last)], .blk g1 26 #[(.int .i64 a.From), (.int .i64 a.Count), (.int .i64 a.Sum), (.int .i64 a.Min), (.int .i64 a.Max), (.int .i64 a.First), (.int .i64 a.Last)]] := hst
  refine s_cons (op_assign (.int .i64 ((joinA a ((joinA b c).1)).2)) rfl ?_)
  refine s_nil ?_
  refine then_n ?_
  refine cE_seq ?_
  refine cE_seq ?_
  refine cE_region rfl ?_
  refine s_cons (op_move (.int .i64 ((joinA a b).2)) rfl ?_)
  refine s_cons (op_neq (k := .i64) (a := (joinA a b).2) (b := 0) rfl rfl ?_)
  refine s_cons (op_move (.bool (!decide (((joinA a b).2) = 0))) rfl ?_)
  rcases Bool.eq_false_or_eq_true (decide (((joinA a b).2) = 0)) with b23 | b23
  · have c24 : ((joinA a b).2) = 0 := of_decide_eq_true b23
    refine s_yes 41 rfl (congrArg Value.bool (congrArg (! ·) b23)) (op_move (.int .i64 ((joinA ((joinA a b).1) c).2)) rfl ?_)
    refine s_yes 41 rfl (congrArg Value.bool (congrArg (! ·) b23)) (op_neq (k := .i64) (a := (joinA ((joinA a b).1) c).2) (b := 0) rfl rfl ?_)
    refine s_cons (op_pick_f (.bool (!decide (((joinA ((joinA a b).1) c).2) = 0))) (congrArg Value.bool (congrArg (! ·) b23)) rfl ?_)
    refine s_cons (op_move (.bool (!decide (((joinA ((joinA a b).1) c).2) = 0))) rfl ?_)
    rcases Bool.eq_false_or_eq_true (decide (((joinA ((joinA a b).1) c).2) = 0)) with b25 | b25
    · have c26 : ((joinA ((joinA a b).1) c).2) = 0 := of_decide_eq_true b25
      refine s_yes 45 rfl (congrArg Value.bool (congrArg (! ·) b25)) (op_move (.int .i64 ((joinA b c).2)) rfl ?_)
      refine s_yes 45 rfl (congrArg Value.bool (congrArg (! ·) b25)) (op_neq (k := .i64) (a := (joinA b c).2) (b := 0) rfl rfl ?_)
      refine s_cons (op_pick_f (.bool (!decide (((joinA b c).2) = 0))) (congrArg Value.bool (congrArg (! ·) b25)) rfl ?_)
      refine s_cons (op_move (.bool (!decide (((joinA b c).2) = 0))) rfl ?_)
      rcases Bool.eq_false_or_eq_true (decide (((joinA b c).2) = 0)) with b27 | b27
      · have c28 : ((joinA b c).2) = 0 := of_decide_eq_true b27
        refine s_yes 49 rfl (congrArg Value.bool (congrArg (! ·) b27)) (op_move (.int .i64 ((joinA a ((joinA b c).1)).2)) rfl ?_)
        refine s_yes 49 rfl (congrArg Value.bool (congrArg (! ·) b27)) (op_neq (k := .i64) (a := (joinA a ((joinA b c).1)).2) (b := 0) rfl rfl ?_)
        refine s_cons (op_pick_f (.bool (!decide (((joinA a ((joinA b c).1)).2) = 0))) (congrArg Value.bool (congrArg (! ·) b27)) rfl ?_)
        refine s_nil ?_
        refine then_n ?_
        rcases Bool.eq_false_or_eq_true (decide (((joinA a ((joinA b c).1)).2) = 0)) with b29 | b29
        · have c30 : ((joinA a ((joinA b c).1)).2) = 0 := of_decide_eq_true b29
          refine cE_cond false (congrArg Value.bool (congrArg (! ·) b29)) (fun h => by cases h) (fun _ => ?_)
          refine cE_skip ?_
          refine then_n ?_
          refine cE_seq ?_
          have h3 := join_three (a := a) (b := b) (c := c) (by omega) (by omega) (by omega) (by omega)
          refine cE_region rfl ?_
          refine s_cons (op_call Try.call14 evs_nil (c_told3 (w0 := w22)) ?_)
          rintro _ w31 ⟨rfl, hcall⟩
          refine ⟨_, rfl, ?_⟩
          have hst : St w0 w31 [.blk g20 26 #[(.int .i64 (((joinA a ((joinA b c).1)).1).From)), (.int .i64 (((joinA a ((joinA b c).1)).1).Count)), (.int .i64 (((joinA a ((joinA b c).1)).1).Sum)), (.int .i64 (((joinA a ((joinA b c).1)).1).Min)), (.int .i64 (((joinA a ((joinA b c).1)).1).Max)), (.int .i64 (((joinA a ((joinA b c).1)).1).First)), (.int .i64 (((joinA a ((joinA b c).1)).1).Last))], .blk g16 26 #[(.int .i64 (((joinA b c).1).From)), (.int .i64 (((joinA b c).1).Count)), (.int .i64 (((joinA b c).1).Sum)), (.int .i64 (((joinA b c).1).Min)), (.int .i64 (((joinA b c).1).Max)), (.int .i64 (((joinA b c).1).First)), (.int .i64 (((joinA b c).1).Last))], .blk g12 26 #[(.int .i64 (((joinA ((joinA a b).1) c).1).From)), (.int .i64 (((joinA ((joinA a b).1) c).1).Count)), (.int .i64 (((joinA ((joinA a b).1) c).1).Sum)), (.int .i64 (((joinA ((joinA a b).1) c).1).Min)), (.int .i64 (((joinA ((joinA a b).1) c).1).Max)), (.int .i64 (((joinA ((joinA a b).1) c).1).First)), (.int .i64 (((joinA ((joinA a b).1) c).1).Last))], .blk g8 26 #[(.int .i64 (((joinA a b).1).From)), (.int .i64 (((joinA a b).1).Count)), (.int .i64 (((joinA a b).1).Sum)), (.int .i64 (((joinA a b).1).Min)), (.int .i64 (((joinA a b).1).Max)), (.int .i64 (((joinA a b).1).First)), (.int .i64 (((joinA a b).1).Last))], .blk g5 26 #[(.int .i64 c.From), (.int .i64 c.Count), (.int .i64 c.Sum), (.int .i64 c.Min), (.int .i64 c.Max), (.int .i64 c.First), (.int .i64 c.Last)], .blk g3 26 #[(.int .i64 b.From), (.int .i64 b.Count), (.int .i64 b.Sum), (.int .i64 b.Min), (.int .i64 b.Max), (.int .i64 b.First), (.int .i64 b.Last)], .blk g1 26 #[(.int .i64 a.From), (.int .i64 a.Count), (.int .i64 a.Sum), (.int .i64 a.Min), (.int .i64 a.Max), (.int .i64 a.First), (.int .i64 a.Last)]] := hst.call hcall
          refine s_cons (op_move (.bool true) rfl ?_)
          refine s_yes 55 rfl rfl (op_loadN (cs := [(.int .i64 (((joinA ((joinA a b).1) c).1).From)), (.int .i64 (((joinA ((joinA a b).1) c).1).Count)), (.int .i64 (((joinA ((joinA a b).1) c).1).Sum)), (.int .i64 (((joinA ((joinA a b).1) c).1).Min)), (.int .i64 (((joinA ((joinA a b).1) c).1).Max)), (.int .i64 (((joinA ((joinA a b).1) c).1).First)), (.int .i64 (((joinA ((joinA a b).1) c).1).Last))]) Try.isAgg26 Try.sizeOf26 rfl (Pt.of (hst.cell 2 rfl) rfl) rfl ?_)
          refine s_yes 55 rfl rfl (op_loadN (cs := [(.int .i64 (((joinA a ((joinA b c).1)).1).From)), (.int .i64 (((joinA a ((joinA b c).1)).1).Count)), (.int .i64 (((joinA a ((joinA b c).1)).1).Sum)), (.int .i64 (((joinA a ((joinA b c).1)).1).Min)), (.int .i64 (((joinA a ((joinA b c).1)).1).Max)), (.int .i64 (((joinA a ((joinA b c).1)).1).First)), (.int .i64 (((joinA a ((joinA b c).1)).1).Last))]) Try.isAgg26 Try.sizeOf26 rfl (Pt.of (hst.cell 0 rfl) rfl) rfl ?_)
          refine s_yes 55 rfl rfl (op_eqlG Try.eqGuardType26 (Try.eqAgg ((joinA ((joinA a b).1) c).1) ((joinA a ((joinA b c).1)).1) _) rfl rfl ?_)
          refine s_cons (op_pick_t (.bool (decide (((joinA ((joinA a b).1) c).1) = ((joinA a ((joinA b c).1)).1)))) rfl rfl ?_)
          refine s_cons (op_move (.bool (decide (((joinA ((joinA a b).1) c).1) = ((joinA a ((joinA b c).1)).1)))) rfl ?_)
          refine s_yes 60 rfl (congrArg Value.bool (show (decide (((joinA ((joinA a b).1) c).1) = ((joinA a ((joinA b c).1)).1))) = true from (decide_eq_true h3.1))) (op_loadN (cs := [(.int .i64 (((joinA ((joinA a b).1) c).1).From)), (.int .i64 (((joinA ((joinA a b).1) c).1).Count)), (.int .i64 (((joinA ((joinA a b).1) c).1).Sum)), (.int .i64 (((joinA ((joinA a b).1) c).1).Min)), (.int .i64 (((joinA ((joinA a b).1) c).1).Max)), (.int .i64 (((joinA ((joinA a b).1) c).1).First)), (.int .i64 (((joinA ((joinA a b).1) c).1).Last))]) Try.isAgg26 Try.sizeOf26 rfl (Pt.of (hst.cell 2 rfl) rfl) rfl ?_)
          refine s_yes 60 rfl (congrArg Value.bool (show (decide (((joinA ((joinA a b).1) c).1) = ((joinA a ((joinA b c).1)).1))) = true from (decide_eq_true h3.1))) (op_call Try.call17 (evs_cons (v := (.agg #[(.int .i64 (((joinA ((joinA a b).1) c).1).From)), (.int .i64 (((joinA ((joinA a b).1) c).1).Count)), (.int .i64 (((joinA ((joinA a b).1) c).1).Sum)), (.int .i64 (((joinA ((joinA a b).1) c).1).Min)), (.int .i64 (((joinA ((joinA a b).1) c).1).Max)), (.int .i64 (((joinA ((joinA a b).1) c).1).First)), (.int .i64 (((joinA ((joinA a b).1) c).1).Last))])) rfl evs_nil) (c_May (w0 := w31) (a := ((joinA ((joinA a b).1) c).1))) ?_)
          rintro _ w32 ⟨rfl, hcall⟩
          refine ⟨_, rfl, ?_⟩
          have hst : St w0 w32 [.blk g20 26 #[(.int .i64 (((joinA a ((joinA b c).1)).1).From)), (.int .i64 (((joinA a ((joinA b c).1)).1).Count)), (.int .i64 (((joinA a ((joinA b c).1)).1).Sum)), (.int .i64 (((joinA a ((joinA b c).1)).1).Min)), (.int .i64 (((joinA a ((joinA b c).1)).1).Max)), (.int .i64 (((joinA a ((joinA b c).1)).1).First)), (.int .i64 (((joinA a ((joinA b c).1)).1).Last))], .blk g16 26 #[(.int .i64 (((joinA b c).1).From)), (.int .i64 (((joinA b c).1).Count)), (.int .i64 (((joinA b c).1).Sum)), (.int .i64 (((joinA b c).1).Min)), (.int .i64 (((joinA b c).1).Max)), (.int .i64 (((joinA b c).1).First)), (.int .i64 (((joinA b c).1).Last))], .blk g12 26 #[(.int .i64 (((joinA ((joinA a b).1) c).1).From)), (.int .i64 (((joinA ((joinA a b).1) c).1).Count)), (.int .i64 (((joinA ((joinA a b).1) c).1).Sum)), (.int .i64 (((joinA ((joinA a b).1) c).1).Min)), (.int .i64 (((joinA ((joinA a b).1) c).1).Max)), (.int .i64 (((joinA ((joinA a b).1) c).1).First)), (.int .i64 (((joinA ((joinA a b).1) c).1).Last))], .blk g8 26 #[(.int .i64 (((joinA a b).1).From)), (.int .i64 (((joinA a b).1).Count)), (.int .i64 (((joinA a b).1).Sum)), (.int .i64 (((joinA a b).1).Min)), (.int .i64 (((joinA a b).1).Max)), (.int .i64 (((joinA a b).1).First)), (.int .i64 (((joinA a b).1).Last))], .blk g5 26 #[(.int .i64 c.From), (.int .i64 c.Count), (.int .i64 c.Sum), (.int .i64 c.Min), (.int .i64 c.Max), (.int .i64 c.First), (.int .i64 c.Last)], .blk g3 26 #[(.int .i64 b.From), (.int .i64 b.Count), (.int .i64 b.Sum), (.int .i64 b.Min), (.int .i64 b.Max), (.int .i64 b.First), (.int .i64 b.Last)], .blk g1 26 #[(.int .i64 a.From), (.int .i64 a.Count), (.int .i64 a.Sum), (.int .i64 a.Min), (.int .i64 a.Max), (.int .i64 a.First), (.int .i64 a.Last)]] := hst.call hcall
          refine s_cons (op_pick_t (.bool (mayA ((joinA ((joinA a b).1) c).1))) (congrArg Value.bool (show (decide (((joinA ((joinA a b).1) c).1) = ((joinA a ((joinA b c).1)).1))) = true from (decide_eq_true h3.1))) rfl ?_)
          refine s_cons (op_move (.bool (mayA ((joinA ((joinA a b).1) c).1))) rfl ?_)
          refine s_yes 64 rfl (congrArg Value.bool (show (mayA ((joinA ((joinA a b).1) c).1)) = true from h3.2.1)) (op_fieldAddr (s := 0) Try.underlying26 rfl rfl Try.sizeOf2 rfl ?_)
          refine s_yes 64 rfl (congrArg Value.bool (show (mayA ((joinA ((joinA a b).1) c).1)) = true from h3.2.1)) (op_load1 (u := (.int .i64 (((joinA ((joinA a b).1) c).1).From))) Try.isAgg2 rfl (hst.cell 2 rfl) ?_)
          refine s_yes 64 rfl (congrArg Value.bool (show (mayA ((joinA ((joinA a b).1) c).1)) = true from h3.2.1)) (op_fieldAddr (s := 0) Try.underlying26 rfl rfl Try.sizeOf2 rfl ?_)
          refine s_yes 64 rfl (congrArg Value.bool (show (mayA ((joinA ((joinA a b).1) c).1)) = true from h3.2.1)) (op_load1 (u := (.int .i64 a.From)) Try.isAgg2 rfl (hst.cell 6 rfl) ?_)
          refine s_yes 64 rfl (congrArg Value.bool (show (mayA ((joinA ((joinA a b).1) c).1)) = true from h3.2.1)) (op_eql (k := .i64) (a := ((joinA ((joinA a b).1) c).1).From) (b := a.From) rfl rfl ?_)
          refine s_cons (op_pick_t (.bool (decide ((((joinA ((joinA a b).1) c).1).From) = a.From))) (congrArg Value.bool (show (mayA ((joinA ((joinA a b).1) c).1)) = true from h3.2.1)) rfl ?_)
          refine s_cons (op_move (.bool (decide ((((joinA ((joinA a b).1) c).1).From) = a.From))) rfl ?_)
          refine s_yes 71 rfl (congrArg Value.bool (show (decide ((((joinA ((joinA a b).1) c).1).From) = a.From)) = true from (decide_eq_true h3.2.2.1))) (op_fieldAddr (s := 0) Try.underlying26 rfl rfl Try.sizeOf2 rfl ?_)
          refine s_yes 71 rfl (congrArg Value.bool (show (decide ((((joinA ((joinA a b).1) c).1).From) = a.From)) = true from (decide_eq_true h3.2.2.1))) (op_load1 (u := (.int .i64 (((joinA ((joinA a b).1) c).1).First))) Try.isAgg2 rfl ((hst.cell 2 rfl).drop 5) ?_)
          refine s_yes 71 rfl (congrArg Value.bool (show (decide ((((joinA ((joinA a b).1) c).1).From) = a.From)) = true from (decide_eq_true h3.2.2.1))) (op_fieldAddr (s := 0) Try.underlying26 rfl rfl Try.sizeOf2 rfl ?_)
          refine s_yes 71 rfl (congrArg Value.bool (show (decide ((((joinA ((joinA a b).1) c).1).From) = a.From)) = true from (decide_eq_true h3.2.2.1))) (op_load1 (u := (.int .i64 a.First)) Try.isAgg2 rfl ((hst.cell 6 rfl).drop 5) ?_)
          refine s_yes 71 rfl (congrArg Value.bool (show (decide ((((joinA ((joinA a b).1) c).1).From) = a.From)) = true from (decide_eq_true h3.2.2.1))) (op_eql (k := .i64) (a := ((joinA ((joinA a b).1) c).1).First) (b := a.First) rfl rfl ?_)
          refine s_cons (op_pick_t (.bool (decide ((((joinA ((joinA a b).1) c).1).First) = a.First))) (congrArg Value.bool (show (decide ((((joinA ((joinA a b).1) c).1).From) = a.From)) = true from (decide_eq_true h3.2.2.1))) rfl ?_)
          refine s_cons (op_move (.bool (decide ((((joinA ((joinA a b).1) c).1).First) = a.First))) rfl ?_)
          refine s_yes 78 rfl (congrArg Value.bool (show (decide ((((joinA ((joinA a b).1) c).1).First) = a.First)) = true from (decide_eq_true h3.2.2.2.1))) (op_fieldAddr (s := 0) Try.underlying26 rfl rfl Try.sizeOf2 rfl ?_)
          refine s_yes 78 rfl (congrArg Value.bool (show (decide ((((joinA ((joinA a b).1) c).1).First) = a.First)) = true from (decide_eq_true h3.2.2.2.1))) (op_load1 (u := (.int .i64 (((joinA ((joinA a b).1) c).1).Last))) Try.isAgg2 rfl ((hst.cell 2 rfl).drop 6) ?_)
          refine s_yes 78 rfl (congrArg Value.bool (show (decide ((((joinA ((joinA a b).1) c).1).First) = a.First)) = true from (decide_eq_true h3.2.2.2.1))) (op_fieldAddr (s := 0) Try.underlying26 rfl rfl Try.sizeOf2 rfl ?_)
          refine s_yes 78 rfl (congrArg Value.bool (show (decide ((((joinA ((joinA a b).1) c).1).First) = a.First)) = true from (decide_eq_true h3.2.2.2.1))) (op_load1 (u := (.int .i64 c.Last)) Try.isAgg2 rfl ((hst.cell 4 rfl).drop 6) ?_)
          refine s_yes 78 rfl (congrArg Value.bool (show (decide ((((joinA ((joinA a b).1) c).1).First) = a.First)) = true from (decide_eq_true h3.2.2.2.1))) (op_eql (k := .i64) (a := ((joinA ((joinA a b).1) c).1).Last) (b := c.Last) rfl rfl ?_)
          refine s_cons (op_pick_t (.bool (decide ((((joinA ((joinA a b).1) c).1).Last) = c.Last))) (congrArg Value.bool (show (decide ((((joinA ((joinA a b).1) c).1).First) = a.First)) = true from (decide_eq_true h3.2.2.2.1))) rfl ?_)
          refine s_cons (op_assign (.bool (decide ((((joinA ((joinA a b).1) c).1).Last) = c.Last))) rfl ?_)
          refine s_nil ?_
          refine then_n ?_
          refine cE_ret ?_
          refine post_r _ (res1 (v := (.bool true)) (congrArg Value.bool (show (decide ((((joinA ((joinA a b).1) c).1).Last) = c.Last)) = true from (decide_eq_true h3.2.2.2.2)))) ?_
          exact ⟨rfl, hst.bare⟩
        · have c33 : ¬ (((joinA a ((joinA b c).1)).2) = 0) := of_decide_eq_false b29
          refine cE_cond true (congrArg Value.bool (congrArg (! ·) b29)) (fun _ => ?_) (fun h => by cases h)
          refine cE_seq ?_
          refine cE_region rfl ?_
          refine s_cons (op_call Try.call14 evs_nil (c_told3 (w0 := w22)) ?_)
          rintro _ w34 ⟨rfl, hcall⟩
          refine ⟨_, rfl, ?_⟩
          have hst : St w0 w34 [.blk g20 26 #[(.int .i64 (((joinA a ((joinA b c).1)).1).From)), (.int .i64 (((joinA a ((joinA b c).1)).1).Count)), (.int .i64 (((joinA a ((joinA b c).1)).1).Sum)), (.int .i64 (((joinA a ((joinA b c).1)).1).Min)), (.int .i64 (((joinA a ((joinA b c).1)).1).Max)), (.int .i64 (((joinA a ((joinA b c).1)).1).First)), (.int .i64 (((joinA a ((joinA b c).1)).1).Last))], .blk g16 26 #[(.int .i64 (((joinA b c).1).From)), (.int .i64 (((joinA b c).1).Count)), (.int .i64 (((joinA b c).1).Sum)), (.int .i64 (((joinA b c).1).Min)), (.int .i64 (((joinA b c).1).Max)), (.int .i64 (((joinA b c).1).First)), (.int .i64 (((joinA b c).1).Last))], .blk g12 26 #[(.int .i64 (((joinA ((joinA a b).1) c).1).From)), (.int .i64 (((joinA ((joinA a b).1) c).1).Count)), (.int .i64 (((joinA ((joinA a b).1) c).1).Sum)), (.int .i64 (((joinA ((joinA a b).1) c).1).Min)), (.int .i64 (((joinA ((joinA a b).1) c).1).Max)), (.int .i64 (((joinA ((joinA a b).1) c).1).First)), (.int .i64 (((joinA ((joinA a b).1) c).1).Last))], .blk g8 26 #[(.int .i64 (((joinA a b).1).From)), (.int .i64 (((joinA a b).1).Count)), (.int .i64 (((joinA a b).1).Sum)), (.int .i64 (((joinA a b).1).Min)), (.int .i64 (((joinA a b).1).Max)), (.int .i64 (((joinA a b).1).First)), (.int .i64 (((joinA a b).1).Last))], .blk g5 26 #[(.int .i64 c.From), (.int .i64 c.Count), (.int .i64 c.Sum), (.int .i64 c.Min), (.int .i64 c.Max), (.int .i64 c.First), (.int .i64 c.Last)], .blk g3 26 #[(.int .i64 b.From), (.int .i64 b.Count), (.int .i64 b.Sum), (.int .i64 b.Min), (.int .i64 b.Max), (.int .i64 b.First), (.int .i64 b.Last)], .blk g1 26 #[(.int .i64 a.From), (.int .i64 a.Count), (.int .i64 a.Sum), (.int .i64 a.Min), (.int .i64 a.Max), (.int .i64 a.First), (.int .i64 a.Last)]] := hst.call hcall
          refine s_cons (op_assign (.bool true) rfl ?_)
          refine s_nil ?_
          refine then_n ?_
          refine cE_ret ?_
          refine then_r ?_
          refine post_r _ (res1 (v := (.bool true)) rfl) ?_
          exact ⟨rfl, hst.bare⟩
      · have c35 : ¬ (((joinA b c).2) = 0) := of_decide_eq_false b27
        refine s_no 49 rfl (congrArg Value.bool (congrArg (! ·) b27)) ?_
        refine s_no 49 rfl (congrArg Value.bool (congrArg (! ·) b27)) ?_
        refine s_cons (op_pick_t (.bool true) (congrArg Value.bool (congrArg (! ·) b27)) rfl ?_)
        refine s_nil ?_
        refine then_n ?_
        refine cE_cond true rfl (fun _ => ?_) (fun h => by cases h)
        refine cE_seq ?_
        refine cE_region rfl ?_
        refine s_cons (op_call Try.call14 evs_nil (c_told3 (w0 := w22)) ?_)
        rintro _ w36 ⟨rfl, hcall⟩
        refine ⟨_, rfl, ?_⟩
        have hst : St w0 w36 [.blk g20 26 #[(.int .i64 (((joinA a ((joinA b c).1)).1).From)), (.int .i64 (((joinA a ((joinA b c).1)).1).Count)), (.int .i64 (((joinA a ((joinA b c).1)).1).Sum)), (.int .i64 (((joinA a ((joinA b c).1)).1).Min)), (.int .i64 (((joinA a ((joinA b c).1)).1).Max)), (.int .i64 (((joinA a ((joinA b c).1)).1).First)), (.int .i64 (((joinA a ((joinA b c).1)).1).Last))], .blk g16 26 #[(.int .i64 (((joinA b c).1).From)), (.int .i64 (((joinA b c).1).Count)), (.int .i64 (((joinA b c).1).Sum)), (.int .i64 (((joinA b c).1).Min)), (.int .i64 (((joinA b c).1).Max)), (.int .i64 (((joinA b c).1).First)), (.int .i64 (((joinA b c).1).Last))], .blk g12 26 #[(.int .i64 (((joinA ((joinA a b).1) c).1).From)), (.int .i64 (((joinA ((joinA a b).1) c).1).Count)), (.int .i64 (((joinA ((joinA a b).1) c).1).Sum)), (.int .i64 (((joinA ((joinA a b).1) c).1).Min)), (.int .i64 (((joinA ((joinA a b).1) c).1).Max)), (.int .i64 (((joinA ((joinA a b).1) c).1).First)), (.int .i64 (((joinA ((joinA a b).1) c).1).Last))], .blk g8 26 #[(.int .i64 (((joinA a b).1).From)), (.int .i64 (((joinA a b).1).Count)), (.int .i64 (((joinA a b).1).Sum)), (.int .i64 (((joinA a b).1).Min)), (.int .i64 (((joinA a b).1).Max)), (.int .i64 (((joinA a b).1).First)), (.int .i64 (((joinA a b).1).Last))], .blk g5 26 #[(.int .i64 c.From), (.int .i64 c.Count), (.int .i64 c.Sum), (.int .i64 c.Min), (.int .i64 c.Max), (.int .i64 c.First), (.int .i64 c.Last)], .blk g3 26 #[(.int .i64 b.From), (.int .i64 b.Count), (.int .i64 b.Sum), (.int .i64 b.Min), (.int .i64 b.Max), (.int .i64 b.First), (.int .i64 b.Last)], .blk g1 26 #[(.int .i64 a.From), (.int .i64 a.Count), (.int .i64 a.Sum), (.int .i64 a.Min), (.int .i64 a.Max), (.int .i64 a.First), (.int .i64 a.Last)]] := hst.call hcall
        refine s_cons (op_assign (.bool true) rfl ?_)
        refine s_nil ?_
        refine then_n ?_
        refine cE_ret ?_
        refine then_r ?_
        refine post_r _ (res1 (v := (.bool true)) rfl) ?_
        exact ⟨rfl, hst.bare⟩
    · have c37 : ¬ (((joinA ((joinA a b).1) c).2) = 0) := of_decide_eq_false b25
      refine s_no 45 rfl (congrArg Value.bool (congrArg (! ·) b25)) ?_
      refine s_no 45 rfl (congrArg Value.bool (congrArg (! ·) b25)) ?_
      refine s_cons (op_pick_t (.bool true) (congrArg Value.bool (congrArg (! ·) b25)) rfl ?_)
      refine s_cons (op_move (.bool true) rfl ?_)
      refine s_no 49 rfl rfl ?_
      refine s_no 49 rfl rfl ?_
      refine s_cons (op_pick_t (.bool true) rfl rfl ?_)
      refine s_nil ?_
      refine then_n ?_
      refine cE_cond true rfl (fun _ => ?_) (fun h => by cases h)
      refine cE_seq ?_
      refine cE_region rfl ?_
      refine s_cons (op_call Try.call14 evs_nil (c_told3 (w0 := w22)) ?_)
      rintro _ w38 ⟨rfl, hcall⟩
      refine ⟨_, rfl, ?_⟩
      have hst : St w0 w38 [.blk g20 26 #[(.int .i64 (((joinA a ((joinA b c).1)).1).From)), (.int .i64 (((joinA a ((joinA b c).1)).1).Count)), (.int .i64 (((joinA a ((joinA b c).1)).1).Sum)), (.int .i64 (((joinA a ((joinA b c).1)).1).Min)), (.int .i64 (((joinA a ((joinA b c).1)).1).Max)), (.int .i64 (((joinA a ((joinA b c).1)).1).First)), (.int .i64 (((joinA a ((joinA b c).1)).1).Last))], .blk g16 26 #[(.int .i64 (((joinA b c).1).From)), (.int .i64 (((joinA b c).1).Count)), (.int .i64 (((joinA b c).1).Sum)), (.int .i64 (((joinA b c).1).Min)), (.int .i64 (((joinA b c).1).Max)), (.int .i64 (((joinA b c).1).First)), (.int .i64 (((joinA b c).1).Last))], .blk g12 26 #[(.int .i64 (((joinA ((joinA a b).1) c).1).From)), (.int .i64 (((joinA ((joinA a b).1) c).1).Count)), (.int .i64 (((joinA ((joinA a b).1) c).1).Sum)), (.int .i64 (((joinA ((joinA a b).1) c).1).Min)), (.int .i64 (((joinA ((joinA a b).1) c).1).Max)), (.int .i64 (((joinA ((joinA a b).1) c).1).First)), (.int .i64 (((joinA ((joinA a b).1) c).1).Last))], .blk g8 26 #[(.int .i64 (((joinA a b).1).From)), (.int .i64 (((joinA a b).1).Count)), (.int .i64 (((joinA a b).1).Sum)), (.int .i64 (((joinA a b).1).Min)), (.int .i64 (((joinA a b).1).Max)), (.int .i64 (((joinA a b).1).First)), (.int .i64 (((joinA a b).1).Last))], .blk g5 26 #[(.int .i64 c.From), (.int .i64 c.Count), (.int .i64 c.Sum), (.int .i64 c.Min), (.int .i64 c.Max), (.int .i64 c.First), (.int .i64 c.Last)], .blk g3 26 #[(.int .i64 b.From), (.int .i64 b.Count), (.int .i64 b.Sum), (.int .i64 b.Min), (.int .i64 b.Max), (.int .i64 b.First), (.int .i64 b.Last)], .blk g1 26 #[(.int .i64 a.From), (.int .i64 a.Count), (.int .i64 a.Sum), (.int .i64 a.Min), (.int .i64 a.Max), (.int .i64 a.First), (.int .i64 a.Last)]] := hst.call hcall
      refine s_cons (op_assign (.bool true) rfl ?_)
      refine s_nil ?_
      refine then_n ?_
      refine cE_ret ?_
      refine then_r ?_
      refine post_r _ (res1 (v := (.bool true)) rfl) ?_
      exact ⟨rfl, hst.bare⟩
  · have c39 : ¬ (((joinA a b).2) = 0) := of_decide_eq_false b23
    refine s_no 41 rfl (congrArg Value.bool (congrArg (! ·) b23)) ?_
    refine s_no 41 rfl (congrArg Value.bool (congrArg (! ·) b23)) ?_
    refine s_cons (op_pick_t (.bool true) (congrArg Value.bool (congrArg (! ·) b23)) rfl ?_)
    refine s_cons (op_move (.bool true) rfl ?_)
    refine s_no 45 rfl rfl ?_
    refine s_no 45 rfl rfl ?_
    refine s_cons (op_pick_t (.bool true) rfl rfl ?_)
    refine s_cons (op_move (.bool true) rfl ?_)
    refine s_no 49 rfl rfl ?_
    refine s_no 49 rfl rfl ?_
    refine s_cons (op_pick_t (.bool true) rfl rfl ?_)
    refine s_nil ?_
    refine then_n ?_
    refine cE_cond true rfl (fun _ => ?_) (fun h => by cases h)
    refine cE_seq ?_
    refine cE_region rfl ?_
    refine s_cons (op_call Try.call14 evs_nil (c_told3 (w0 := w22)) ?_)
    rintro _ w40 ⟨rfl, hcall⟩
    refine ⟨_, rfl, ?_⟩
    have hst : St w0 w40 [.blk g20 26 #[(.int .i64 (((joinA a ((joinA b c).1)).1).From)), (.int .i64 (((joinA a ((joinA b c).1)).1).Count)), (.int .i64 (((joinA a ((joinA b c).1)).1).Sum)), (.int .i64 (((joinA a ((joinA b c).1)).1).Min)), (.int .i64 (((joinA a ((joinA b c).1)).1).Max)), (.int .i64 (((joinA a ((joinA b c).1)).1).First)), (.int .i64 (((joinA a ((joinA b c).1)).1).Last))], .blk g16 26 #[(.int .i64 (((joinA b c).1).From)), (.int .i64 (((joinA b c).1).Count)), (.int .i64 (((joinA b c).1).Sum)), (.int .i64 (((joinA b c).1).Min)), (.int .i64 (((joinA b c).1).Max)), (.int .i64 (((joinA b c).1).First)), (.int .i64 (((joinA b c).1).Last))], .blk g12 26 #[(.int .i64 (((joinA ((joinA a b).1) c).1).From)), (.int .i64 (((joinA ((joinA a b).1) c).1).Count)), (.int .i64 (((joinA ((joinA a b).1) c).1).Sum)), (.int .i64 (((joinA ((joinA a b).1) c).1).Min)), (.int .i64 (((joinA ((joinA a b).1) c).1).Max)), (.int .i64 (((joinA ((joinA a b).1) c).1).First)), (.int .i64 (((joinA ((joinA a b).1) c).1).Last))], .blk g8 26 #[(.int .i64 (((joinA a b).1).From)), (.int .i64 (((joinA a b).1).Count)), (.int .i64 (((joinA a b).1).Sum)), (.int .i64 (((joinA a b).1).Min)), (.int .i64 (((joinA a b).1).Max)), (.int .i64 (((joinA a b).1).First)), (.int .i64 (((joinA a b).1).Last))], .blk g5 26 #[(.int .i64 c.From), (.int .i64 c.Count), (.int .i64 c.Sum), (.int .i64 c.Min), (.int .i64 c.Max), (.int .i64 c.First), (.int .i64 c.Last)], .blk g3 26 #[(.int .i64 b.From), (.int .i64 b.Count), (.int .i64 b.Sum), (.int .i64 b.Min), (.int .i64 b.Max), (.int .i64 b.First), (.int .i64 b.Last)], .blk g1 26 #[(.int .i64 a.From), (.int .i64 a.Count), (.int .i64 a.Sum), (.int .i64 a.Min), (.int .i64 a.Max), (.int .i64 a.First), (.int .i64 a.Last)]] := hst.call hcall
    refine s_cons (op_assign (.bool true) rfl ?_)
    refine s_nil ?_
    refine then_n ?_
    refine cE_ret ?_
    refine then_r ?_
    refine post_r _ (res1 (v := (.bool true)) rfl) ?_
    exact ⟨rfl, hst.bare⟩

end Go.Proofs.Ytffnhcioponbbaa
