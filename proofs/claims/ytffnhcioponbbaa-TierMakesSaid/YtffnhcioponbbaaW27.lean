/- the reference: twinkeepref1.Join -/
import Derived.Test.YtffnhcioponbbaaW24
import Derived.Test.YtffnhcioponbbaaW25
import Derived.Test.YtffnhcioponbbaaW26
namespace Go.Proofs.Ytffnhcioponbbaa
open Go.RowKit

set_option maxHeartbeats 4000000 in
theorem c_rJoin (w0 : World) (a : Agg) (b : Agg) (ha : a.ok) (hb : b.ok) :
    Calls Try.prog 37 #[(.agg #[(.int .i64 a.From), (.int .i64 a.Count), (.int .i64 a.Sum), (.int .i64 a.Min), (.int .i64 a.Max), (.int .i64 a.First), (.int .i64 a.Last)]), (.agg #[(.int .i64 b.From), (.int .i64 b.Count), (.int .i64 b.Sum), (.int .i64 b.Min), (.int .i64 b.Max), (.int .i64 b.First), (.int .i64 b.Last)])] w0 fun e w' => e = .returned (.tuple #[(.agg #[(.int .i64 (((joinA a b).1).From)), (.int .i64 (((joinA a b).1).Count)), (.int .i64 (((joinA a b).1).Sum)), (.int .i64 (((joinA a b).1).Min)), (.int .i64 (((joinA a b).1).Max)), (.int .i64 (((joinA a b).1).First)), (.int .i64 (((joinA a b).1).Last))]), (.int .i64 ((joinA a b).2))]) ∧ St w0 w' [] := by
  refine calls_G (n := 59) (rs := [.cell 4 26, .tmp 5]) Try.func37 rfl rfl rfl (by simp) ?_
  have hst := St.start w0
  refine cE_seq ?_
  refine cE_region rfl ?_
  refine s_cons (op_box (v := (.agg #[(.int .i64 a.From), (.int .i64 a.Count), (.int .i64 a.Sum), (.int .i64 a.Min), (.int .i64 a.Max), (.int .i64 a.First), (.int .i64 a.Last)])) (cs := #[(.int .i64 a.From), (.int .i64 a.Count), (.int .i64 a.Sum), (.int .i64 a.Min), (.int .i64 a.Max), (.int .i64 a.First), (.int .i64 a.Last)]) hst rfl rfl (fun g1 w2 hst _ => ?_))
  replace hst : St w0 w2 [.blk g1 26 #[(.int .i64 a.From), (.int .i64 a.Count), (.int .i64 a.Sum), (.int .i64 a.Min), (.int .i64 a.Max), (.int .i64 a.First), (.int .i64 a.Last)]] := hst
  refine s_cons (op_box (v := (.agg #[(.int .i64 b.From), (.int .i64 b.Count), (.int .i64 b.Sum), (.int .i64 b.Min), (.int .i64 b.Max), (.int .i64 b.First), (.int .i64 b.Last)])) (cs := #[(.int .i64 b.From), (.int .i64 b.Count), (.int .i64 b.Sum), (.int .i64 b.Min), (.int .i64 b.Max), (.int .i64 b.First), (.int .i64 b.Last)]) hst rfl rfl (fun g3 w4 hst _ => ?_))
  replace hst : St w0 w4 [.blk g3 26 #[(.int .i64 b.From), (.int .i64 b.Count), (.int .i64 b.Sum), (.int .i64 b.Min), (.int .i64 b.Max), (.int .i64 b.First), (.int .i64 b.Last)], .blk g1 26 #[(.int .i64 a.From), (.int .i64 a.Count), (.int .i64 a.Sum), (.int .i64 a.Min), (.int .i64 a.Max), (.int .i64 a.First), (.int .i64 a.Last)]] := hst
  refine s_cons (op_alloc (cs := #[(.int .i64 0), (.int .i64 0), (.int .i64 0), (.int .i64 0), (.int .i64 0), (.int .i64 0), (.int .i64 0)]) hst Try.zeroValue26 rfl (fun g5 w6 hst _ => ?_))
  replace hst : St w0 w6 [.blk g5 26 #[(.int .i64 0), (.int .i64 0), (.int .i64 0), (.int .i64 0), (.int .i64 0), (.int .i64 0), (.int .i64 0)], .blk g3 26 #[(.int .i64 b.From), (.int .i64 b.Count), (.int .i64 b.Sum), (.int .i64 b.Min), (.int .i64 b.Max), (.int .i64 b.First), (.int .i64 b.Last)], .blk g1 26 #[(.int .i64 a.From), (.int .i64 a.Count), (.int .i64 a.Sum), (.int .i64 a.Min), (.int .i64 a.Max), (.int .i64 a.First), (.int .i64 a.Last)]] := hst
  refine s_cons (op_assign (.int .i64 0) rfl ?_)
  refine s_nil ?_
  refine then_n ?_
  refine cE_seq ?_
  refine cE_seq ?_
  refine cE_region rfl ?_
  refine s_cons (op_loadN (cs := [(.int .i64 a.From), (.int .i64 a.Count), (.int .i64 a.Sum), (.int .i64 a.Min), (.int .i64 a.Max), (.int .i64 a.First), (.int .i64 a.Last)]) Try.isAgg26 Try.sizeOf26 rfl (Pt.of (hst.cell 2 rfl) rfl) rfl ?_)
  refine s_cons (op_call Try.call38 (evs_cons (v := (.agg #[(.int .i64 a.From), (.int .i64 a.Count), (.int .i64 a.Sum), (.int .i64 a.Min), (.int .i64 a.Max), (.int .i64 a.First), (.int .i64 a.Last)])) rfl evs_nil) (c_rMay (w0 := w6) (a := a)) ?_)
  rintro _ w7 ⟨rfl, hcall⟩
  refine ⟨_, rfl, ?_⟩
  have hst : St w0 w7 [.blk g5 26 #[(.int .i64 0), (.int .i64 0), (.int .i64 0), (.int .i64 0), (.int .i64 0), (.int .i64 0), (.int .i64 0)], .blk g3 26 #[(.int .i64 b.From), (.int .i64 b.Count), (.int .i64 b.Sum), (.int .i64 b.Min), (.int .i64 b.Max), (.int .i64 b.First), (.int .i64 b.Last)], .blk g1 26 #[(.int .i64 a.From), (.int .i64 a.Count), (.int .i64 a.Sum), (.int .i64 a.Min), (.int .i64 a.Max), (.int .i64 a.First), (.int .i64 a.Last)]] := hst.call hcall
  refine s_cons (op_not (b := mayA a) rfl ?_)
  refine s_cons (op_move (.bool (!(mayA a))) rfl ?_)
  rcases Bool.eq_false_or_eq_true (mayA a) with b8 | b8
  · have hma := mayA_true b8
    refine s_yes 11 rfl (congrArg Value.bool (congrArg (! ·) b8)) (op_loadN (cs := [(.int .i64 b.From), (.int .i64 b.Count), (.int .i64 b.Sum), (.int .i64 b.Min), (.int .i64 b.Max), (.int .i64 b.First), (.int .i64 b.Last)]) Try.isAgg26 Try.sizeOf26 rfl (Pt.of (hst.cell 1 rfl) rfl) rfl ?_)
    refine s_yes 11 rfl (congrArg Value.bool (congrArg (! ·) b8)) (op_call Try.call38 (evs_cons (v := (.agg #[(.int .i64 b.From), (.int .i64 b.Count), (.int .i64 b.Sum), (.int .i64 b.Min), (.int .i64 b.Max), (.int .i64 b.First), (.int .i64 b.Last)])) rfl evs_nil) (c_rMay (w0 := w7) (a := b)) ?_)
    rintro _ w9 ⟨rfl, hcall⟩
    refine ⟨_, rfl, ?_⟩
    have hst : St w0 w9 [.blk g5 26 #[(.int .i64 0), (.int .i64 0), (.int .i64 0), (.int .i64 0), (.int .i64 0), (.int .i64 0), (.int .i64 0)], .blk g3 26 #[(.int .i64 b.From), (.int .i64 b.Count), (.int .i64 b.Sum), (.int .i64 b.Min), (.int .i64 b.Max), (.int .i64 b.First), (.int .i64 b.Last)], .blk g1 26 #[(.int .i64 a.From), (.int .i64 a.Count), (.int .i64 a.Sum), (.int .i64 a.Min), (.int .i64 a.Max), (.int .i64 a.First), (.int .i64 a.Last)]] := hst.call hcall
    refine s_yes 11 rfl (congrArg Value.bool (congrArg (! ·) b8)) (op_not (b := mayA b) rfl ?_)
    refine s_cons (op_pick_f (.bool (!(mayA b))) (congrArg Value.bool (congrArg (! ·) b8)) rfl ?_)
    refine s_cons (op_move (.bool (!(mayA b))) rfl ?_)
    rcases Bool.eq_false_or_eq_true (mayA b) with b10 | b10
    · have hmb := mayA_true b10
      refine s_yes 16 rfl (congrArg Value.bool (congrArg (! ·) b10)) (op_fieldAddr (s := 0) Try.underlying26 rfl rfl Try.sizeOf2 rfl ?_)
      refine s_yes 16 rfl (congrArg Value.bool (congrArg (! ·) b10)) (op_load1 (u := (.int .i64 a.Count)) Try.isAgg2 rfl ((hst.cell 2 rfl).drop 1) ?_)
      refine s_yes 16 rfl (congrArg Value.bool (congrArg (! ·) b10)) (op_fieldAddr (s := 0) Try.underlying26 rfl rfl Try.sizeOf2 rfl ?_)
      refine s_yes 16 rfl (congrArg Value.bool (congrArg (! ·) b10)) (op_load1 (u := (.int .i64 b.Count)) Try.isAgg2 rfl ((hst.cell 1 rfl).drop 1) ?_)
      refine s_yes 16 rfl (congrArg Value.bool (congrArg (! ·) b10)) (op_add (k := .i64) (a := a.Count) (b := b.Count) (a.Count + b.Count) rfl rfl (xi64 (by omega) (by omega)) ?_)
      refine s_yes 16 rfl (congrArg Value.bool (congrArg (! ·) b10)) (op_gtr (k := .i64) (a := (a.Count + b.Count)) (b := 1099511627776) rfl rfl ?_)
      refine s_cons (op_pick_f (.bool (decide (1099511627776 < (a.Count + b.Count)))) (congrArg Value.bool (congrArg (! ·) b10)) rfl ?_)
      refine s_nil ?_
      refine then_n ?_
      rcases Bool.eq_false_or_eq_true (decide (1099511627776 < (a.Count + b.Count))) with b11 | b11
      · have c12 : 1099511627776 < (a.Count + b.Count) := of_decide_eq_true b11
        refine cE_cond true (congrArg Value.bool b11) (fun _ => ?_) (fun h => by cases h)
        refine cE_seq ?_
        refine cE_region rfl ?_
        refine s_cons (op_build (r := (.agg #[(.int .i64 0), (.int .i64 0), (.int .i64 0), (.int .i64 0), (.int .i64 0), (.int .i64 0), (.int .i64 0)])) evp_nil (by simp [Instr.build, Instr.fill, Value.cells, Try.runUnderlying26, Try.zeroValue26]) ?_)
        refine s_cons0 (op_storeAll hst 0 rfl Try.sizeOf26 rfl rfl rfl rfl (by simp [Value.oneCell']) (fun w13 hst => ?_))
        replace hst : St w0 w13 [.blk g5 26 #[(.int .i64 0), (.int .i64 0), (.int .i64 0), (.int .i64 0), (.int .i64 0), (.int .i64 0), (.int .i64 0)], .blk g3 26 #[(.int .i64 b.From), (.int .i64 b.Count), (.int .i64 b.Sum), (.int .i64 b.Min), (.int .i64 b.Max), (.int .i64 b.First), (.int .i64 b.Last)], .blk g1 26 #[(.int .i64 a.From), (.int .i64 a.Count), (.int .i64 a.Sum), (.int .i64 a.Min), (.int .i64 a.Max), (.int .i64 a.First), (.int .i64 a.Last)]] := hst
        refine s_cons (op_assign (.int .i64 1) rfl ?_)
        refine s_nil ?_
        refine then_n ?_
        refine cE_ret ?_
        refine then_r ?_
        refine postG_r _ (rvN (cs := [(.int .i64 0), (.int .i64 0), (.int .i64 0), (.int .i64 0), (.int .i64 0), (.int .i64 0), (.int .i64 0)]) Try.isAgg26 Try.sizeOf26 rfl (Pt.of (hst.cell 0 rfl) rfl) rfl (rvt (v := (.int .i64 1)) rfl rvnil)) ?_
        exact ⟨(retv2 (congrArg aggV (show (⟨0, 0, 0, 0, 0, 0, 0⟩ : Agg) = (joinA a b).1 from by (unfold joinA; (repeat' split) <;> first | rfl | (exfalso; simp_all; try omega)))) (congrArg (Value.int .i64) (show 1 = (joinA a b).2 from by (unfold joinA; (repeat' split) <;> first | rfl | (exfalso; simp_all; try omega))))), hst.bare⟩
      · have c14 : ¬ (1099511627776 < (a.Count + b.Count)) := of_decide_eq_false b11
        refine cE_cond false (congrArg Value.bool b11) (fun h => by cases h) (fun _ => ?_)
        refine cE_skip ?_
        refine then_n ?_
        refine cE_seq ?_
        refine cE_region rfl ?_
        refine s_cons (op_fieldAddr (s := 0) Try.underlying26 rfl rfl Try.sizeOf2 rfl ?_)
        refine s_cons (op_load1 (u := (.int .i64 a.Sum)) Try.isAgg2 rfl ((hst.cell 2 rfl).drop 2) ?_)
        refine s_cons (op_fieldAddr (s := 0) Try.underlying26 rfl rfl Try.sizeOf2 rfl ?_)
        refine s_cons (op_load1 (u := (.int .i64 b.Sum)) Try.isAgg2 rfl ((hst.cell 1 rfl).drop 2) ?_)
        refine s_cons (op_call Try.call40 (evs_cons (v := (.int .i64 a.Sum)) rfl (evs_cons (v := (.int .i64 b.Sum)) rfl evs_nil)) (c_rAdd (w0 := w9) (a := a.Sum) (b := b.Sum) (a0 := (by omega)) (b0 := (by omega)) (a1 := (by omega)) (b1 := (by omega))) ?_)
        rintro _ w15 ⟨rfl, hcall⟩
        refine ⟨_, rfl, ?_⟩
        have hst : St w0 w15 [.blk g5 26 #[(.int .i64 0), (.int .i64 0), (.int .i64 0), (.int .i64 0), (.int .i64 0), (.int .i64 0), (.int .i64 0)], .blk g3 26 #[(.int .i64 b.From), (.int .i64 b.Count), (.int .i64 b.Sum), (.int .i64 b.Min), (.int .i64 b.Max), (.int .i64 b.First), (.int .i64 b.Last)], .blk g1 26 #[(.int .i64 a.From), (.int .i64 a.Count), (.int .i64 a.Sum), (.int .i64 a.Min), (.int .i64 a.Max), (.int .i64 a.First), (.int .i64 a.Last)]] := hst.call hcall
        refine s_cons (op_move (.tuple #[(.int .i64 (addV a.Sum b.Sum)), (.bool (addB a.Sum b.Sum))]) rfl ?_)
        refine s_cons (op_extract (.int .i64 (addV a.Sum b.Sum)) rfl rfl ?_)
        refine s_cons (op_extract (.bool (addB a.Sum b.Sum)) rfl rfl ?_)
        refine s_cons (op_assign (.int .i64 (addV a.Sum b.Sum)) rfl ?_)
        refine s_cons (op_assign (.bool (addB a.Sum b.Sum)) rfl ?_)
        refine s_nil ?_
        refine then_n ?_
        refine cE_seq ?_
        refine cE_seq ?_
        refine cE_region rfl ?_
        refine s_cons (op_move (.bool (addB a.Sum b.Sum)) rfl ?_)
        refine s_cons (op_not (b := addB a.Sum b.Sum) rfl ?_)
        refine s_nil ?_
        refine then_n ?_
        rcases Bool.eq_false_or_eq_true (addB a.Sum b.Sum) with b16 | b16
        · refine cE_cond false (congrArg Value.bool (congrArg (! ·) b16)) (fun h => by cases h) (fun _ => ?_)
          refine cE_skip ?_
          refine then_n ?_
          refine cE_seq ?_
          refine cE_region rfl ?_
          refine s_cons (op_fieldAddr (s := 0) Try.underlying26 rfl rfl Try.sizeOf2 rfl ?_)
          refine s_cons (op_load1 (u := (.int .i64 a.From)) Try.isAgg2 rfl (hst.cell 2 rfl) ?_)
          refine s_cons (op_fieldAddr (s := 0) Try.underlying26 rfl rfl Try.sizeOf2 rfl ?_)
          refine s_cons (op_load1 (u := (.int .i64 a.Count)) Try.isAgg2 rfl ((hst.cell 2 rfl).drop 1) ?_)
          refine s_cons (op_fieldAddr (s := 0) Try.underlying26 rfl rfl Try.sizeOf2 rfl ?_)
          refine s_cons (op_load1 (u := (.int .i64 b.Count)) Try.isAgg2 rfl ((hst.cell 1 rfl).drop 1) ?_)
          refine s_cons (op_add (k := .i64) (a := a.Count) (b := b.Count) (a.Count + b.Count) rfl rfl (xi64 (by omega) (by omega)) ?_)
          refine s_cons (op_move (.int .i64 (addV a.Sum b.Sum)) rfl ?_)
          refine s_cons (op_fieldAddr (s := 0) Try.underlying26 rfl rfl Try.sizeOf2 rfl ?_)
          refine s_cons (op_load1 (u := (.int .i64 a.Min)) Try.isAgg2 rfl ((hst.cell 2 rfl).drop 3) ?_)
          refine s_cons (op_fieldAddr (s := 0) Try.underlying26 rfl rfl Try.sizeOf2 rfl ?_)
          refine s_cons (op_load1 (u := (.int .i64 b.Min)) Try.isAgg2 rfl ((hst.cell 1 rfl).drop 3) ?_)
          refine s_cons (op_min2 (k := .i64) (a := a.Min) (b := b.Min) rfl rfl ?_)
          refine s_cons (op_fieldAddr (s := 0) Try.underlying26 rfl rfl Try.sizeOf2 rfl ?_)
          refine s_cons (op_load1 (u := (.int .i64 a.Max)) Try.isAgg2 rfl ((hst.cell 2 rfl).drop 4) ?_)
          refine s_cons (op_fieldAddr (s := 0) Try.underlying26 rfl rfl Try.sizeOf2 rfl ?_)
          refine s_cons (op_load1 (u := (.int .i64 b.Max)) Try.isAgg2 rfl ((hst.cell 1 rfl).drop 4) ?_)
          refine s_cons (op_max2 (k := .i64) (a := a.Max) (b := b.Max) rfl rfl ?_)
          refine s_cons (op_fieldAddr (s := 0) Try.underlying26 rfl rfl Try.sizeOf2 rfl ?_)
          refine s_cons (op_load1 (u := (.int .i64 a.First)) Try.isAgg2 rfl ((hst.cell 2 rfl).drop 5) ?_)
          refine s_cons (op_fieldAddr (s := 0) Try.underlying26 rfl rfl Try.sizeOf2 rfl ?_)
          refine s_cons (op_load1 (u := (.int .i64 b.Last)) Try.isAgg2 rfl ((hst.cell 1 rfl).drop 6) ?_)
          refine s_cons (op_build (r := (.agg #[(.int .i64 a.From), (.int .i64 (a.Count + b.Count)), (.int .i64 (addV a.Sum b.Sum)), (.int .i64 (min a.Min b.Min)), (.int .i64 (max a.Max b.Max)), (.int .i64 a.First), (.int .i64 b.Last)])) (evp_cons (v := (.int .i64 a.From)) rfl (evp_cons (v := (.int .i64 (a.Count + b.Count))) rfl (evp_cons (v := (.int .i64 (addV a.Sum b.Sum))) rfl (evp_cons (v := (.int .i64 (min a.Min b.Min))) rfl (evp_cons (v := (.int .i64 (max a.Max b.Max))) rfl (evp_cons (v := (.int .i64 a.First)) rfl (evp_cons (v := (.int .i64 b.Last)) rfl evp_nil))))))) (by simp [Instr.build, Instr.fill, Value.cells, Try.runUnderlying26, Try.zeroValue26]) ?_)
          refine s_cons0 (op_storeAll hst 0 rfl Try.sizeOf26 rfl rfl rfl rfl (by simp [Value.oneCell']) (fun w17 hst => ?_))
          replace hst : St w0 w17 [.blk g5 26 #[(.int .i64 a.From), (.int .i64 (a.Count + b.Count)), (.int .i64 (addV a.Sum b.Sum)), (.int .i64 (min a.Min b.Min)), (.int .i64 (max a.Max b.Max)), (.int .i64 a.First), (.int .i64 b.Last)], .blk g3 26 #[(.int .i64 b.From), (.int .i64 b.Count), (.int .i64 b.Sum), (.int .i64 b.Min), (.int .i64 b.Max), (.int .i64 b.First), (.int .i64 b.Last)], .blk g1 26 #[(.int .i64 a.From), (.int .i64 a.Count), (.int .i64 a.Sum), (.int .i64 a.Min), (.int .i64 a.Max), (.int .i64 a.First), (.int .i64 a.Last)]] := hst
          refine s_cons (op_assign (.int .i64 0) rfl ?_)
          refine s_nil ?_
          refine then_n ?_
          refine cE_ret ?_
          refine postG_r _ (rvN (cs := [(.int .i64 a.From), (.int .i64 (a.Count + b.Count)), (.int .i64 (addV a.Sum b.Sum)), (.int .i64 (min a.Min b.Min)), (.int .i64 (max a.Max b.Max)), (.int .i64 a.First), (.int .i64 b.Last)]) Try.isAgg26 Try.sizeOf26 rfl (Pt.of (hst.cell 0 rfl) rfl) rfl (rvt (v := (.int .i64 0)) rfl rvnil)) ?_
          exact ⟨(retv2 (congrArg aggV (show (⟨a.From, (a.Count + b.Count), (addV a.Sum b.Sum), (min a.Min b.Min), (max a.Max b.Max), a.First, b.Last⟩ : Agg) = (joinA a b).1 from by (unfold joinA; (repeat' split) <;> first | rfl | (exfalso; simp_all; try omega)))) (congrArg (Value.int .i64) (show 0 = (joinA a b).2 from by (unfold joinA; (repeat' split) <;> first | rfl | (exfalso; simp_all; try omega))))), hst.bare⟩
        · refine cE_cond true (congrArg Value.bool (congrArg (! ·) b16)) (fun _ => ?_) (fun h => by cases h)
          refine cE_seq ?_
          refine cE_region rfl ?_
          refine s_cons (op_build (r := (.agg #[(.int .i64 0), (.int .i64 0), (.int .i64 0), (.int .i64 0), (.int .i64 0), (.int .i64 0), (.int .i64 0)])) evp_nil (by simp [Instr.build, Instr.fill, Value.cells, Try.runUnderlying26, Try.zeroValue26]) ?_)
          refine s_cons0 (op_storeAll hst 0 rfl Try.sizeOf26 rfl rfl rfl rfl (by simp [Value.oneCell']) (fun w18 hst => ?_))
          replace hst : St w0 w18 [.blk g5 26 #[(.int .i64 0), (.int .i64 0), (.int .i64 0), (.int .i64 0), (.int .i64 0), (.int .i64 0), (.int .i64 0)], .blk g3 26 #[(.int .i64 b.From), (.int .i64 b.Count), (.int .i64 b.Sum), (.int .i64 b.Min), (.int .i64 b.Max), (.int .i64 b.First), (.int .i64 b.Last)], .blk g1 26 #[(.int .i64 a.From), (.int .i64 a.Count), (.int .i64 a.Sum), (.int .i64 a.Min), (.int .i64 a.Max), (.int .i64 a.First), (.int .i64 a.Last)]] := hst
          refine s_cons (op_assign (.int .i64 3) rfl ?_)
          refine s_nil ?_
          refine then_n ?_
          refine cE_ret ?_
          refine then_r ?_
          refine postG_r _ (rvN (cs := [(.int .i64 0), (.int .i64 0), (.int .i64 0), (.int .i64 0), (.int .i64 0), (.int .i64 0), (.int .i64 0)]) Try.isAgg26 Try.sizeOf26 rfl (Pt.of (hst.cell 0 rfl) rfl) rfl (rvt (v := (.int .i64 3)) rfl rvnil)) ?_
          exact ⟨(retv2 (congrArg aggV (show (⟨0, 0, 0, 0, 0, 0, 0⟩ : Agg) = (joinA a b).1 from by (unfold joinA; (repeat' split) <;> first | rfl | (exfalso; simp_all; try omega)))) (congrArg (Value.int .i64) (show 3 = (joinA a b).2 from by (unfold joinA; (repeat' split) <;> first | rfl | (exfalso; simp_all; try omega))))), hst.bare⟩
    · refine s_no 16 rfl (congrArg Value.bool (congrArg (! ·) b10)) ?_
      refine s_no 16 rfl (congrArg Value.bool (congrArg (! ·) b10)) ?_
      refine s_no 16 rfl (congrArg Value.bool (congrArg (! ·) b10)) ?_
      refine s_no 16 rfl (congrArg Value.bool (congrArg (! ·) b10)) ?_
      refine s_no 16 rfl (congrArg Value.bool (congrArg (! ·) b10)) ?_
      refine s_no 16 rfl (congrArg Value.bool (congrArg (! ·) b10)) ?_
      refine s_cons (op_pick_t (.bool true) (congrArg Value.bool (congrArg (! ·) b10)) rfl ?_)
      refine s_nil ?_
      refine then_n ?_
      refine cE_cond true rfl (fun _ => ?_) (fun h => by cases h)
      refine cE_seq ?_
      refine cE_region rfl ?_
      refine s_cons (op_build (r := (.agg #[(.int .i64 0), (.int .i64 0), (.int .i64 0), (.int .i64 0), (.int .i64 0), (.int .i64 0), (.int .i64 0)])) evp_nil (by simp [Instr.build, Instr.fill, Value.cells, Try.runUnderlying26, Try.zeroValue26]) ?_)
      refine s_cons0 (op_storeAll hst 0 rfl Try.sizeOf26 rfl rfl rfl rfl (by simp [Value.oneCell']) (fun w19 hst => ?_))
      replace hst : St w0 w19 [.blk g5 26 #[(.int .i64 0), (.int .i64 0), (.int .i64 0), (.int .i64 0), (.int .i64 0), (.int .i64 0), (.int .i64 0)], .blk g3 26 #[(.int .i64 b.From), (.int .i64 b.Count), (.int .i64 b.Sum), (.int .i64 b.Min), (.int .i64 b.Max), (.int .i64 b.First), (.int .i64 b.Last)], .blk g1 26 #[(.int .i64 a.From), (.int .i64 a.Count), (.int .i64 a.Sum), (.int .i64 a.Min), (.int .i64 a.Max), (.int .i64 a.First), (.int .i64 a.Last)]] := hst
      refine s_cons (op_assign (.int .i64 1) rfl ?_)
      refine s_nil ?_
      refine then_n ?_
      refine cE_ret ?_
      refine then_r ?_
      refine postG_r _ (rvN (cs := [(.int .i64 0), (.int .i64 0), (.int .i64 0), (.int .i64 0), (.int .i64 0), (.int .i64 0), (.int .i64 0)]) Try.isAgg26 Try.sizeOf26 rfl (Pt.of (hst.cell 0 rfl) rfl) rfl (rvt (v := (.int .i64 1)) rfl rvnil)) ?_
      exact ⟨(retv2 (congrArg aggV (show (⟨0, 0, 0, 0, 0, 0, 0⟩ : Agg) = (joinA a b).1 from by (unfold joinA; (repeat' split) <;> first | rfl | (exfalso; simp_all; try omega)))) (congrArg (Value.int .i64) (show 1 = (joinA a b).2 from by (unfold joinA; (repeat' split) <;> first | rfl | (exfalso; simp_all; try omega))))), hst.bare⟩
  · refine s_no 11 rfl (congrArg Value.bool (congrArg (! ·) b8)) ?_
    refine s_no 11 rfl (congrArg Value.bool (congrArg (! ·) b8)) ?_
    refine s_no 11 rfl (congrArg Value.bool (congrArg (! ·) b8)) ?_
    refine s_cons (op_pick_t (.bool true) (congrArg Value.bool (congrArg (! ·) b8)) rfl ?_)
    refine s_cons (op_move (.bool true) rfl ?_)
    refine s_no 16 rfl rfl ?_
    refine s_no 16 rfl rfl ?_
    refine s_no 16 rfl rfl ?_
    refine s_no 16 rfl rfl ?_
    refine s_no 16 rfl rfl ?_
    refine s_no 16 rfl rfl ?_
    refine s_cons (op_pick_t (.bool true) rfl rfl ?_)
    refine s_nil ?_
    refine then_n ?_
    refine cE_cond true rfl (fun _ => ?_) (fun h => by cases h)
    refine cE_seq ?_
    refine cE_region rfl ?_
    refine s_cons (op_build (r := (.agg #[(.int .i64 0), (.int .i64 0), (.int .i64 0), (.int .i64 0), (.int .i64 0), (.int .i64 0), (.int .i64 0)])) evp_nil (by simp [Instr.build, Instr.fill, Value.cells, Try.runUnderlying26, Try.zeroValue26]) ?_)
    refine s_cons0 (op_storeAll hst 0 rfl Try.sizeOf26 rfl rfl rfl rfl (by simp [Value.oneCell']) (fun w20 hst => ?_))
    replace hst : St w0 w20 [.blk g5 26 #[(.int .i64 0), (.int .i64 0), (.int .i64 0), (.int .i64 0), (.int .i64 0), (.int .i64 0), (.int .i64 0)], .blk g3 26 #[(.int .i64 b.From), (.int .i64 b.Count), (.int .i64 b.Sum), (.int .i64 b.Min), (.int .i64 b.Max), (.int .i64 b.First), (.int .i64 b.Last)], .blk g1 26 #[(.int .i64 a.From), (.int .i64 a.Count), (.int .i64 a.Sum), (.int .i64 a.Min), (.int .i64 a.Max), (.int .i64 a.First), (.int .i64 a.Last)]] := hst
    refine s_cons (op_assign (.int .i64 1) rfl ?_)
    refine s_nil ?_
    refine then_n ?_
    refine cE_ret ?_
    refine then_r ?_
    refine postG_r _ (rvN (cs := [(.int .i64 0), (.int .i64 0), (.int .i64 0), (.int .i64 0), (.int .i64 0), (.int .i64 0), (.int .i64 0)]) Try.isAgg26 Try.sizeOf26 rfl (Pt.of (hst.cell 0 rfl) rfl) rfl (rvt (v := (.int .i64 1)) rfl rvnil)) ?_
    exact ⟨(retv2 (congrArg aggV (show (⟨0, 0, 0, 0, 0, 0, 0⟩ : Agg) = (joinA a b).1 from by (unfold joinA; (repeat' split) <;> first | rfl | (exfalso; simp_all; try omega)))) (congrArg (Value.int .i64) (show 1 = (joinA a b).2 from by (unfold joinA; (repeat' split) <;> first | rfl | (exfalso; simp_all; try omega))))), hst.bare⟩

end Go.Proofs.Ytffnhcioponbbaa
