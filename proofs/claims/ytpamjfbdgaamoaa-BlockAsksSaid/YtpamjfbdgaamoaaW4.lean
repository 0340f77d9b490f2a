/- what samples come to -/
import Derived.Test.YtpamjfbdgaamoaaT
import Derived.Test.YtpamjfbdgaamoaaTR
namespace Go.Proofs.Ytpamjfbdgaamoaa
open Go.RowKit

theorem c_One (w0 : World) (s : Sample) (fr : Int) :
    Calls Try.prog 50 #[(.agg #[(.int .i64 s.T), (.int .i64 s.V)]), (.int .i64 fr)] w0 fun e w' => e = .returned (.agg #[(.int .i64 fr), (.int .i64 1), (.int .i64 s.V), (.int .i64 s.V), (.int .i64 s.V), (.int .i64 s.V), (.int .i64 s.V)]) ∧ St w0 w' [] := by
  refine calls_G (n := 17) (rs := [.cell 4 71]) Try.func50 rfl rfl rfl (by simp) ?_
  have hst := St.start w0
  refine cE_seq ?_
  refine cE_region rfl ?_
  refine s_cons (op_box (v := (.agg #[(.int .i64 s.T), (.int .i64 s.V)])) (cs := #[(.int .i64 s.T), (.int .i64 s.V)]) hst rfl rfl (fun g1 w2 hst _ => ?_))
  replace hst : St w0 w2 [.blk g1 48 #[(.int .i64 s.T), (.int .i64 s.V)]] := hst
  refine s_cons (op_alloc (cs := #[(.int .i64 0), (.int .i64 0), (.int .i64 0), (.int .i64 0), (.int .i64 0), (.int .i64 0), (.int .i64 0)]) hst Try.zeroValue71 rfl (fun g3 w4 hst _ => ?_))
  replace hst : St w0 w4 [.blk g3 71 #[(.int .i64 0), (.int .i64 0), (.int .i64 0), (.int .i64 0), (.int .i64 0), (.int .i64 0), (.int .i64 0)], .blk g1 48 #[(.int .i64 s.T), (.int .i64 s.V)]] := hst
  refine s_nil ?_
  refine then_n ?_
  refine cE_seq ?_
  refine cE_region rfl ?_
  refine s_cons (op_move (.int .i64 fr) rfl ?_)
  refine s_cons (op_fieldAddr (s := 0) Try.underlying48 rfl rfl Try.sizeOf2 rfl ?_)
  refine s_cons (op_load1 (u := (.int .i64 s.V)) Try.isAgg2 rfl ((hst.cell 1 rfl).drop 1) ?_)
  refine s_cons (op_fieldAddr (s := 0) Try.underlying48 rfl rfl Try.sizeOf2 rfl ?_)
  refine s_cons (op_load1 (u := (.int .i64 s.V)) Try.isAgg2 rfl ((hst.cell 1 rfl).drop 1) ?_)
  refine s_cons (op_fieldAddr (s := 0) Try.underlying48 rfl rfl Try.sizeOf2 rfl ?_)
  refine s_cons (op_load1 (u := (.int .i64 s.V)) Try.isAgg2 rfl ((hst.cell 1 rfl).drop 1) ?_)
  refine s_cons (op_fieldAddr (s := 0) Try.underlying48 rfl rfl Try.sizeOf2 rfl ?_)
  refine s_cons (op_load1 (u := (.int .i64 s.V)) Try.isAgg2 rfl ((hst.cell 1 rfl).drop 1) ?_)
  refine s_cons (op_fieldAddr (s := 0) Try.underlying48 rfl rfl Try.sizeOf2 rfl ?_)
  refine s_cons (op_load1 (u := (.int .i64 s.V)) Try.isAgg2 rfl ((hst.cell 1 rfl).drop 1) ?_)
  refine s_cons (op_build (r := (.agg #[(.int .i64 fr), (.int .i64 1), (.int .i64 s.V), (.int .i64 s.V), (.int .i64 s.V), (.int .i64 s.V), (.int .i64 s.V)])) (evp_cons (v := (.int .i64 fr)) rfl (evp_cons (v := (.int .i64 1)) rfl (evp_cons (v := (.int .i64 s.V)) rfl (evp_cons (v := (.int .i64 s.V)) rfl (evp_cons (v := (.int .i64 s.V)) rfl (evp_cons (v := (.int .i64 s.V)) rfl (evp_cons (v := (.int .i64 s.V)) rfl evp_nil))))))) (by simp [Instr.build, Instr.fill, Value.cells, Try.runUnderlying71, Try.zeroValue71]) ?_)
  refine s_cons0 (op_storeAll hst 0 rfl Try.sizeOf71 rfl rfl rfl rfl (by simp [Value.oneCell']) (fun w5 hst => ?_))
  replace hst : St w0 w5 [.blk g3 71 #[(.int .i64 fr), (.int .i64 1), (.int .i64 s.V), (.int .i64 s.V), (.int .i64 s.V), (.int .i64 s.V), (.int .i64 s.V)], .blk g1 48 #[(.int .i64 s.T), (.int .i64 s.V)]] := hst
  refine s_nil ?_
  refine then_n ?_
  refine cE_ret ?_
  refine postG_r _ (rvN (cs := [(.int .i64 fr), (.int .i64 1), (.int .i64 s.V), (.int .i64 s.V), (.int .i64 s.V), (.int .i64 s.V), (.int .i64 s.V)]) Try.isAgg71 Try.sizeOf71 rfl (Pt.of (hst.cell 0 rfl) rfl) rfl rvnil) ?_
  exact ⟨rfl, hst.bare⟩

theorem c_May (w0 : World) (a : Agg) :
    Calls Try.prog 44 #[(.agg #[(.int .i64 a.From), (.int .i64 a.Count), (.int .i64 a.Sum), (.int .i64 a.Min), (.int .i64 a.Max), (.int .i64 a.First), (.int .i64 a.Last)])] w0 fun e w' => e = .returned (.bool (mayA a)) ∧ St w0 w' [] := by
  refine calls_E (n := 52) (ts := [2]) Try.func44 rfl rfl rfl (by simp) ?_
  have hst := St.start w0
  refine cE_seq ?_
  refine cE_region rfl ?_
  refine s_cons (op_box (v := (.agg #[(.int .i64 a.From), (.int .i64 a.Count), (.int .i64 a.Sum), (.int .i64 a.Min), (.int .i64 a.Max), (.int .i64 a.First), (.int .i64 a.Last)])) (cs := #[(.int .i64 a.From), (.int .i64 a.Count), (.int .i64 a.Sum), (.int .i64 a.Min), (.int .i64 a.Max), (.int .i64 a.First), (.int .i64 a.Last)]) hst rfl rfl (fun g6 w7 hst _ => ?_))
  replace hst : St w0 w7 [.blk g6 71 #[(.int .i64 a.From), (.int .i64 a.Count), (.int .i64 a.Sum), (.int .i64 a.Min), (.int .i64 a.Max), (.int .i64 a.First), (.int .i64 a.Last)]] := hst
  refine s_cons (op_assign (.bool false) rfl ?_)
  refine s_nil ?_
  refine then_n ?_
  refine cE_seq ?_
  refine cE_seq ?_
  refine cE_region rfl ?_
  refine s_cons (op_fieldAddr (s := 0) Try.underlying71 rfl rfl Try.sizeOf2 rfl ?_)
  refine s_cons (op_load1 (u := (.int .i64 a.Count)) Try.isAgg2 rfl ((hst.cell 0 rfl).drop 1) ?_)
  refine s_cons (op_lss (k := .i64) (a := a.Count) (b := 1) rfl rfl ?_)
  refine s_cons (op_move (.bool (decide (a.Count < 1))) rfl ?_)
  rcases Bool.eq_false_or_eq_true (decide (a.Count < 1)) with b8 | b8
  · have c9 : a.Count < 1 := of_decide_eq_true b8
    refine s_no 6 rfl (congrArg Value.bool b8) ?_
    refine s_no 6 rfl (congrArg Value.bool b8) ?_
    refine s_no 6 rfl (congrArg Value.bool b8) ?_
    refine s_cons (op_pick_t (.bool true) (congrArg Value.bool b8) rfl ?_)
    refine s_cons (op_move (.bool true) rfl ?_)
    refine s_no 11 rfl rfl ?_
    refine s_no 11 rfl rfl ?_
    refine s_no 11 rfl rfl ?_
    refine s_cons (op_pick_t (.bool true) rfl rfl ?_)
    refine s_cons (op_move (.bool true) rfl ?_)
    refine s_no 16 rfl rfl ?_
    refine s_no 16 rfl rfl ?_
    refine s_no 16 rfl rfl ?_
    refine s_cons (op_pick_t (.bool true) rfl rfl ?_)
    refine s_nil ?_
    refine then_n ?_
    refine cE_cond true rfl (fun _ => ?_) (fun h => by cases h)
    refine cE_seq ?_
    refine cE_region rfl ?_
    refine s_cons (op_assign (.bool false) rfl ?_)
    refine s_nil ?_
    refine then_n ?_
    refine cE_ret ?_
    refine then_r ?_
    refine post_r _ (res1 (v := (.bool false)) rfl) ?_
    exact ⟨(retv1 (congrArg Value.bool (show false = (mayA a) from by (rw [Bool.eq_iff_iff]; simp only [mayA, mayP, i64R, addB, agg_iff, true_and, and_true, decide_eq_true_eq, Bool.false_eq_true, true_iff, false_iff]; omega)))), hst.bare⟩
  have c10 : ¬ (a.Count < 1) := of_decide_eq_false b8
  refine s_yes 6 rfl (congrArg Value.bool b8) (op_fieldAddr (s := 0) Try.underlying71 rfl rfl Try.sizeOf2 rfl ?_)
  refine s_yes 6 rfl (congrArg Value.bool b8) (op_load1 (u := (.int .i64 a.Count)) Try.isAgg2 rfl ((hst.cell 0 rfl).drop 1) ?_)
  refine s_yes 6 rfl (congrArg Value.bool b8) (op_gtr (k := .i64) (a := a.Count) (b := 1099511627776) rfl rfl ?_)
  refine s_cons (op_pick_f (.bool (decide (1099511627776 < a.Count))) (congrArg Value.bool b8) rfl ?_)
  refine s_cons (op_move (.bool (decide (1099511627776 < a.Count))) rfl ?_)
  rcases Bool.eq_false_or_eq_true (decide (1099511627776 < a.Count)) with b11 | b11
  · have c12 : 1099511627776 < a.Count := of_decide_eq_true b11
    refine s_no 11 rfl (congrArg Value.bool b11) ?_
    refine s_no 11 rfl (congrArg Value.bool b11) ?_
    refine s_no 11 rfl (congrArg Value.bool b11) ?_
    refine s_cons (op_pick_t (.bool true) (congrArg Value.bool b11) rfl ?_)
    refine s_cons (op_move (.bool true) rfl ?_)
    refine s_no 16 rfl rfl ?_
    refine s_no 16 rfl rfl ?_
    refine s_no 16 rfl rfl ?_
    refine s_cons (op_pick_t (.bool true) rfl rfl ?_)
    refine s_nil ?_
    refine then_n ?_
    refine cE_cond true rfl (fun _ => ?_) (fun h => by cases h)
    refine cE_seq ?_
    refine cE_region rfl ?_
    refine s_cons (op_assign (.bool false) rfl ?_)
    refine s_nil ?_
    refine then_n ?_
    refine cE_ret ?_
    refine then_r ?_
    refine post_r _ (res1 (v := (.bool false)) rfl) ?_
    exact ⟨(retv1 (congrArg Value.bool (show false = (mayA a) from by (rw [Bool.eq_iff_iff]; simp only [mayA, mayP, i64R, addB, agg_iff, true_and, and_true, decide_eq_true_eq, Bool.false_eq_true, true_iff, false_iff]; omega)))), hst.bare⟩
  have c13 : ¬ (1099511627776 < a.Count) := of_decide_eq_false b11
  refine s_yes 11 rfl (congrArg Value.bool b11) (op_fieldAddr (s := 0) Try.underlying71 rfl rfl Try.sizeOf2 rfl ?_)
  refine s_yes 11 rfl (congrArg Value.bool b11) (op_load1 (u := (.int .i64 a.From)) Try.isAgg2 rfl (hst.cell 0 rfl) ?_)
  refine s_yes 11 rfl (congrArg Value.bool b11) (op_lss (k := .i64) (a := a.From) (b := 0) rfl rfl ?_)
  refine s_cons (op_pick_f (.bool (decide (a.From < 0))) (congrArg Value.bool b11) rfl ?_)
  refine s_cons (op_move (.bool (decide (a.From < 0))) rfl ?_)
  rcases Bool.eq_false_or_eq_true (decide (a.From < 0)) with b14 | b14
  · have c15 : a.From < 0 := of_decide_eq_true b14
    refine s_no 16 rfl (congrArg Value.bool b14) ?_
    refine s_no 16 rfl (congrArg Value.bool b14) ?_
    refine s_no 16 rfl (congrArg Value.bool b14) ?_
    refine s_cons (op_pick_t (.bool true) (congrArg Value.bool b14) rfl ?_)
    refine s_nil ?_
    refine then_n ?_
    refine cE_cond true rfl (fun _ => ?_) (fun h => by cases h)
    refine cE_seq ?_
    refine cE_region rfl ?_
    refine s_cons (op_assign (.bool false) rfl ?_)
    refine s_nil ?_
    refine then_n ?_
    refine cE_ret ?_
    refine then_r ?_
    refine post_r _ (res1 (v := (.bool false)) rfl) ?_
    exact ⟨(retv1 (congrArg Value.bool (show false = (mayA a) from by (rw [Bool.eq_iff_iff]; simp only [mayA, mayP, i64R, addB, agg_iff, true_and, and_true, decide_eq_true_eq, Bool.false_eq_true, true_iff, false_iff]; omega)))), hst.bare⟩
  have c16 : ¬ (a.From < 0) := of_decide_eq_false b14
  refine s_yes 16 rfl (congrArg Value.bool b14) (op_fieldAddr (s := 0) Try.underlying71 rfl rfl Try.sizeOf2 rfl ?_)
  refine s_yes 16 rfl (congrArg Value.bool b14) (op_load1 (u := (.int .i64 a.From)) Try.isAgg2 rfl (hst.cell 0 rfl) ?_)
  refine s_yes 16 rfl (congrArg Value.bool b14) (op_gtr (k := .i64) (a := a.From) (b := 1099511627776) rfl rfl ?_)
  refine s_cons (op_pick_f (.bool (decide (1099511627776 < a.From))) (congrArg Value.bool b14) rfl ?_)
  refine s_nil ?_
  refine then_n ?_
  rcases Bool.eq_false_or_eq_true (decide (1099511627776 < a.From)) with b17 | b17
  · have c18 : 1099511627776 < a.From := of_decide_eq_true b17
    refine cE_cond true (congrArg Value.bool b17) (fun _ => ?_) (fun h => by cases h)
    refine cE_seq ?_
    refine cE_region rfl ?_
    refine s_cons (op_assign (.bool false) rfl ?_)
    refine s_nil ?_
    refine then_n ?_
    refine cE_ret ?_
    refine then_r ?_
    refine post_r _ (res1 (v := (.bool false)) rfl) ?_
    exact ⟨(retv1 (congrArg Value.bool (show false = (mayA a) from by (rw [Bool.eq_iff_iff]; simp only [mayA, mayP, i64R, addB, agg_iff, true_and, and_true, decide_eq_true_eq, Bool.false_eq_true, true_iff, false_iff]; omega)))), hst.bare⟩
  have c19 : ¬ (1099511627776 < a.From) := of_decide_eq_false b17
  refine cE_cond false (congrArg Value.bool b17) (fun h => by cases h) (fun _ => ?_)
  refine cE_skip ?_
  refine then_n ?_
  refine cE_seq ?_
  refine cE_seq ?_
  refine cE_region rfl ?_
  refine s_cons (op_fieldAddr (s := 0) Try.underlying71 rfl rfl Try.sizeOf2 rfl ?_)
  refine s_cons (op_load1 (u := (.int .i64 a.Count)) Try.isAgg2 rfl ((hst.cell 0 rfl).drop 1) ?_)
  refine s_cons (op_eql (k := .i64) (a := a.Count) (b := 1) rfl rfl ?_)
  refine s_nil ?_
  refine then_n ?_
  rcases Bool.eq_false_or_eq_true (decide (a.Count = 1)) with b20 | b20
  · have c21 : a.Count = 1 := of_decide_eq_true b20
    refine cE_cond true (congrArg Value.bool b20) (fun _ => ?_) (fun h => by cases h)
    refine cE_seq ?_
    refine cE_regionL hst [[(1, none)], [(1, none)], [(25, some 1)], [(26, some 2)], [(1, none)], [(28, some 4)], [(27, some 3), (29, some 5)], [(24, some 0), (30, some 6)], [(31, some 7)]] [(rEq (.agg #[(.int .i64 a.From), (.int .i64 a.Count), (.int .i64 a.Sum), (.int .i64 a.Min), (.int .i64 a.Max), (.int .i64 a.First), (.int .i64 a.Last)])), (rEq (.pointer (some ⟨g6, (0 + 2), none⟩))), (rEq (.int .i64 a.Sum)), (rEq (.agg #[(.int .i64 0), (.int .i64 a.Sum)])), (rEq (.pointer (some ⟨g6, (0 + 0), none⟩))), (rEq (.int .i64 a.From)), (rEq (.agg #[(.int .i64 a.From), (.int .i64 1), (.int .i64 a.Sum), (.int .i64 a.Sum), (.int .i64 a.Sum), (.int .i64 a.Sum), (.int .i64 a.Sum)])), (rEq (.bool (decide (a = (⟨a.From, 1, a.Sum, a.Sum, a.Sum, a.Sum, a.Sum⟩ : Agg))))), (rEq (.bool (decide (a = (⟨a.From, 1, a.Sum, a.Sum, a.Sum, a.Sum, a.Sum⟩ : Agg)))))] (by kernel_rfl) rfl (by kernel_rfl) ⟨sEq, sEq, sEq, sEq, sEq, sEq, sEq, sEq, sEq, trivial⟩ ⟨?_, ?_, ?_, ?_, ?_, ?_, ?_, ?_, ?_, trivial⟩ ?_
    · rintro ρ23 w24 hj25 ⟨f1, _⟩
      have hst := hj25.2
      exact go_plain (op_loadN (cs := [(.int .i64 a.From), (.int .i64 a.Count), (.int .i64 a.Sum), (.int .i64 a.Min), (.int .i64 a.Max), (.int .i64 a.First), (.int .i64 a.Last)]) Try.isAgg71 Try.sizeOf71 (f1.trans rfl) (Pt.of (hst.cell 0 rfl) rfl) rfl (kS hj25 rfl))
    · rintro ρ26 w27 hj28 ⟨f1, _⟩
      have hst := hj28.2
      exact go_plain (op_fieldAddr (s := 0) Try.underlying71 rfl rfl Try.sizeOf2 (f1.trans rfl) (kS hj28 rfl))
    · rintro ρ29 w30 hj31 ⟨f25, _⟩
      have hst := hj31.2
      exact go_plain (op_load1 (u := (.int .i64 a.Sum)) Try.isAgg2 f25 ((hst.cell 0 rfl).drop 2) (kS hj31 rfl))
    · rintro ρ32 w33 hj34 ⟨f26, _⟩
      have hst := hj34.2
      exact go_plain (op_build (r := (.agg #[(.int .i64 0), (.int .i64 a.Sum)])) (evp_cons (v := (.int .i64 a.Sum)) f26 evp_nil) (by simp [Instr.build, Instr.fill, Value.cells, Try.runUnderlying48, Try.zeroValue48]) (kS hj34 rfl))
    · rintro ρ35 w36 hj37 ⟨f1, _⟩
      have hst := hj37.2
      exact go_plain (op_fieldAddr (s := 0) Try.underlying71 rfl rfl Try.sizeOf2 (f1.trans rfl) (kS hj37 rfl))
    · rintro ρ38 w39 hj40 ⟨f28, _⟩
      have hst := hj40.2
      exact go_plain (op_load1 (u := (.int .i64 a.From)) Try.isAgg2 f28 (hst.cell 0 rfl) (kS hj40 rfl))
    · rintro ρ41 w42 hj43 ⟨f27, f29, _⟩
      have hst := hj43.2
      refine go_plain (op_call Try.call50 (evs_cons (v := (.agg #[(.int .i64 0), (.int .i64 a.Sum)])) f27 (evs_cons (v := (.int .i64 a.From)) f29 evs_nil)) (c_One (w0 := w42) (s := (⟨0, a.Sum⟩ : Sample)) (fr := a.From)) ?_)
      rintro _ w44 ⟨rfl, hcall⟩
      refine ⟨_, rfl, ?_⟩
      exact kD hj43 hcall rfl
    · rintro ρ45 w46 hj47 ⟨f24, f30, _⟩
      have hst := hj47.2
      exact go_plain (op_eqlG Try.eqGuardType71 (Try.eqAgg a (⟨a.From, 1, a.Sum, a.Sum, a.Sum, a.Sum, a.Sum⟩ : Agg) _) f24 f30 (kS hj47 rfl))
    · rintro ρ48 w49 hj50 ⟨f31, _⟩
      have hst := hj50.2
      exact go_plain (op_assign (.bool (decide (a = (⟨a.From, 1, a.Sum, a.Sum, a.Sum, a.Sum, a.Sum⟩ : Agg)))) f31 (kS hj50 rfl))
    intro ρ51 w52 hbw52 hst hRw52 hkw52
    have uw52_0 : ρ51 0 = (.agg #[(.int .i64 a.From), (.int .i64 a.Count), (.int .i64 a.Sum), (.int .i64 a.Min), (.int .i64 a.Max), (.int .i64 a.First), (.int .i64 a.Last)]) := (hkw52 0 rfl).trans rfl
    have uw52_1 : ρ51 1 = (.pointer (some ⟨g6, 0, none⟩)) := (hkw52 1 rfl).trans rfl
    have uw52_3 : ρ51 3 = (.pointer (some ⟨g6, (0 + 1), none⟩)) := (hkw52 3 rfl).trans rfl
    have uw52_4 : ρ51 4 = (.int .i64 a.Count) := (hkw52 4 rfl).trans rfl
    have uw52_5 : ρ51 5 = (.bool (decide (a.Count < 1))) := (hkw52 5 rfl).trans rfl
    have uw52_6 : ρ51 6 = (.bool (decide (a.Count < 1))) := (hkw52 6 rfl).trans rfl
    have uw52_7 : ρ51 7 = (.pointer (some ⟨g6, (0 + 1), none⟩)) := (hkw52 7 rfl).trans rfl
    have uw52_8 : ρ51 8 = (.int .i64 a.Count) := (hkw52 8 rfl).trans rfl
    have uw52_9 : ρ51 9 = (.bool (decide (1099511627776 < a.Count))) := (hkw52 9 rfl).trans rfl
    have uw52_10 : ρ51 10 = (.bool (decide (1099511627776 < a.Count))) := (hkw52 10 rfl).trans rfl
    have uw52_11 : ρ51 11 = (.bool (decide (1099511627776 < a.Count))) := (hkw52 11 rfl).trans rfl
    have uw52_12 : ρ51 12 = (.pointer (some ⟨g6, (0 + 0), none⟩)) := (hkw52 12 rfl).trans rfl
    have uw52_13 : ρ51 13 = (.int .i64 a.From) := (hkw52 13 rfl).trans rfl
    have uw52_14 : ρ51 14 = (.bool (decide (a.From < 0))) := (hkw52 14 rfl).trans rfl
    have uw52_15 : ρ51 15 = (.bool (decide (a.From < 0))) := (hkw52 15 rfl).trans rfl
    have uw52_16 : ρ51 16 = (.bool (decide (a.From < 0))) := (hkw52 16 rfl).trans rfl
    have uw52_17 : ρ51 17 = (.pointer (some ⟨g6, (0 + 0), none⟩)) := (hkw52 17 rfl).trans rfl
    have uw52_18 : ρ51 18 = (.int .i64 a.From) := (hkw52 18 rfl).trans rfl
    have uw52_19 : ρ51 19 = (.bool (decide (1099511627776 < a.From))) := (hkw52 19 rfl).trans rfl
    have uw52_20 : ρ51 20 = (.bool (decide (1099511627776 < a.From))) := (hkw52 20 rfl).trans rfl
    have uw52_21 : ρ51 21 = (.pointer (some ⟨g6, (0 + 1), none⟩)) := (hkw52 21 rfl).trans rfl
    have uw52_22 : ρ51 22 = (.int .i64 a.Count) := (hkw52 22 rfl).trans rfl
    have uw52_23 : ρ51 23 = (.bool (decide (a.Count = 1))) := (hkw52 23 rfl).trans rfl
    have uw52_2 : ρ51 2 = (.bool (decide (a = (⟨a.From, 1, a.Sum, a.Sum, a.Sum, a.Sum, a.Sum⟩ : Agg)))) := hRw52 8 2 rfl
    refine then_n ?_
    refine cE_ret ?_
    refine then_r ?_
    refine post_r _ (res1 (v := (.bool (decide (a = (⟨a.From, 1, a.Sum, a.Sum, a.Sum, a.Sum, a.Sum⟩ : Agg))))) uw52_2) ?_
    exact ⟨(retv1 (congrArg Value.bool (show (decide (a = (⟨a.From, 1, a.Sum, a.Sum, a.Sum, a.Sum, a.Sum⟩ : Agg))) = (mayA a) from by (rw [Bool.eq_iff_iff]; simp only [mayA, mayP, i64R, addB, agg_iff, true_and, and_true, decide_eq_true_eq, Bool.false_eq_true, true_iff, false_iff]; omega)))), hst.bare⟩
  have c53 : ¬ (a.Count = 1) := of_decide_eq_false b20
  refine cE_cond false (congrArg Value.bool b20) (fun h => by cases h) (fun _ => ?_)
  refine cE_skip ?_
  refine then_n ?_
  refine cE_seq ?_
  refine cE_region rfl ?_
  refine s_cons (op_fieldAddr (s := 0) Try.underlying71 rfl rfl Try.sizeOf2 rfl ?_)
  refine s_cons (op_load1 (u := (.int .i64 a.Min)) Try.isAgg2 rfl ((hst.cell 0 rfl).drop 3) ?_)
  refine s_cons (op_fieldAddr (s := 0) Try.underlying71 rfl rfl Try.sizeOf2 rfl ?_)
  refine s_cons (op_load1 (u := (.int .i64 a.First)) Try.isAgg2 rfl ((hst.cell 0 rfl).drop 5) ?_)
  refine s_cons (op_fieldAddr (s := 0) Try.underlying71 rfl rfl Try.sizeOf2 rfl ?_)
  refine s_cons (op_load1 (u := (.int .i64 a.Last)) Try.isAgg2 rfl ((hst.cell 0 rfl).drop 6) ?_)
  refine s_cons (op_fieldAddr (s := 0) Try.underlying71 rfl rfl Try.sizeOf2 rfl ?_)
  refine s_cons (op_load1 (u := (.int .i64 a.Max)) Try.isAgg2 rfl ((hst.cell 0 rfl).drop 4) ?_)
  refine s_cons (op_min3 (k := .i64) (a := a.First) (b := a.Last) (c := a.Max) rfl rfl rfl ?_)
  refine s_cons (op_leq (k := .i64) (a := a.Min) (b := (min (min a.First a.Last) a.Max)) rfl rfl ?_)
  refine s_cons (op_move (.bool (decide (a.Min ≤ (min (min a.First a.Last) a.Max)))) rfl ?_)
  rcases Bool.eq_false_or_eq_true (decide (a.Min ≤ (min (min a.First a.Last) a.Max))) with b54 | b54
  · have c55 : a.Min ≤ (min (min a.First a.Last) a.Max) := of_decide_eq_true b54
    refine s_yes 42 rfl (congrArg Value.bool b54) (op_fieldAddr (s := 0) Try.underlying71 rfl rfl Try.sizeOf2 rfl ?_)
    refine s_yes 42 rfl (congrArg Value.bool b54) (op_load1 (u := (.int .i64 a.Max)) Try.isAgg2 rfl ((hst.cell 0 rfl).drop 4) ?_)
    refine s_yes 42 rfl (congrArg Value.bool b54) (op_fieldAddr (s := 0) Try.underlying71 rfl rfl Try.sizeOf2 rfl ?_)
    refine s_yes 42 rfl (congrArg Value.bool b54) (op_load1 (u := (.int .i64 a.First)) Try.isAgg2 rfl ((hst.cell 0 rfl).drop 5) ?_)
    refine s_yes 42 rfl (congrArg Value.bool b54) (op_fieldAddr (s := 0) Try.underlying71 rfl rfl Try.sizeOf2 rfl ?_)
    refine s_yes 42 rfl (congrArg Value.bool b54) (op_load1 (u := (.int .i64 a.Last)) Try.isAgg2 rfl ((hst.cell 0 rfl).drop 6) ?_)
    refine s_yes 42 rfl (congrArg Value.bool b54) (op_max2 (k := .i64) (a := a.First) (b := a.Last) rfl rfl ?_)
    refine s_yes 42 rfl (congrArg Value.bool b54) (op_geq (k := .i64) (a := a.Max) (b := (max a.First a.Last)) rfl rfl ?_)
    refine s_cons (op_pick_t (.bool (decide ((max a.First a.Last) ≤ a.Max))) (congrArg Value.bool b54) rfl ?_)
    refine s_cons (op_assign (.bool (decide ((max a.First a.Last) ≤ a.Max))) rfl ?_)
    refine s_nil ?_
    refine then_n ?_
    refine cE_ret ?_
    refine post_r _ (res1 (v := (.bool (decide ((max a.First a.Last) ≤ a.Max)))) rfl) ?_
    exact ⟨(retv1 (congrArg Value.bool (show (decide ((max a.First a.Last) ≤ a.Max)) = (mayA a) from by (rw [Bool.eq_iff_iff]; simp only [mayA, mayP, i64R, addB, agg_iff, true_and, and_true, decide_eq_true_eq, Bool.false_eq_true, true_iff, false_iff]; omega)))), hst.bare⟩
  have c56 : ¬ (a.Min ≤ (min (min a.First a.Last) a.Max)) := of_decide_eq_false b54
  refine s_no 42 rfl (congrArg Value.bool b54) ?_
  refine s_no 42 rfl (congrArg Value.bool b54) ?_
  refine s_no 42 rfl (congrArg Value.bool b54) ?_
  refine s_no 42 rfl (congrArg Value.bool b54) ?_
  refine s_no 42 rfl (congrArg Value.bool b54) ?_
  refine s_no 42 rfl (congrArg Value.bool b54) ?_
  refine s_no 42 rfl (congrArg Value.bool b54) ?_
  refine s_no 42 rfl (congrArg Value.bool b54) ?_
  refine s_cons (op_pick_f (.bool false) (congrArg Value.bool b54) rfl ?_)
  refine s_cons (op_assign (.bool false) rfl ?_)
  refine s_nil ?_
  refine then_n ?_
  refine cE_ret ?_
  refine post_r _ (res1 (v := (.bool false)) rfl) ?_
  exact ⟨(retv1 (congrArg Value.bool (show false = (mayA a) from by (rw [Bool.eq_iff_iff]; simp only [mayA, mayP, i64R, addB, agg_iff, true_and, and_true, decide_eq_true_eq, Bool.false_eq_true, true_iff, false_iff]; omega)))), hst.bare⟩

end Go.Proofs.Ytpamjfbdgaamoaa
