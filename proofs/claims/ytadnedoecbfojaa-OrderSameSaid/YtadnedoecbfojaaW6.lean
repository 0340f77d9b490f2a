/- order.Bodies$2 -/
import Derived.Test.YtadnedoecbfojaaT
import Derived.Test.YtadnedoecbfojaaJ
import Derived.Test.YtadnedoecbfojaaK
import Derived.Test.YtadnedoecbfojaaSM
import Derived.Test.YtadnedoecbfojaaW1
import Derived.Test.YtadnedoecbfojaaW2
import Derived.Test.YtadnedoecbfojaaW3
import Derived.Test.YtadnedoecbfojaaW4
import Derived.Test.YtadnedoecbfojaaW5
namespace Go.Proofs.Ytadnedoecbfojaa
open Go.RowKit

theorem c_cmpB (w0 : World) (a : Info) (b : Info) :
    Calls Try.prog 24 #[(.agg #[(.int .i64 a.Id), (.int .i64 a.Tier), (.int .i64 a.From), (.int .i64 a.To), (.int .u32 a.Sum)]), (.agg #[(.int .i64 b.Id), (.int .i64 b.Tier), (.int .i64 b.From), (.int .i64 b.To), (.int .u32 b.Sum)])] w0 fun e w' => e = .returned (.int .i64 (cmpB a b)) ∧ St w0 w' [] := by
  refine calls_E (n := 22) (ts := [4]) Try.func24 rfl rfl rfl (by simp) ?_
  have hst := St.start w0
  refine cE_seq ?_
  refine cE_region rfl ?_
  refine s_cons (op_box (v := (.agg #[(.int .i64 a.Id), (.int .i64 a.Tier), (.int .i64 a.From), (.int .i64 a.To), (.int .u32 a.Sum)])) (cs := #[(.int .i64 a.Id), (.int .i64 a.Tier), (.int .i64 a.From), (.int .i64 a.To), (.int .u32 a.Sum)]) hst rfl rfl (fun g1 w2 hst _ => ?_))
  replace hst : St w0 w2 [.blk g1 34 #[(.int .i64 a.Id), (.int .i64 a.Tier), (.int .i64 a.From), (.int .i64 a.To), (.int .u32 a.Sum)]] := hst
  refine s_cons (op_box (v := (.agg #[(.int .i64 b.Id), (.int .i64 b.Tier), (.int .i64 b.From), (.int .i64 b.To), (.int .u32 b.Sum)])) (cs := #[(.int .i64 b.Id), (.int .i64 b.Tier), (.int .i64 b.From), (.int .i64 b.To), (.int .u32 b.Sum)]) hst rfl rfl (fun g3 w4 hst _ => ?_))
  replace hst : St w0 w4 [.blk g3 34 #[(.int .i64 b.Id), (.int .i64 b.Tier), (.int .i64 b.From), (.int .i64 b.To), (.int .u32 b.Sum)], .blk g1 34 #[(.int .i64 a.Id), (.int .i64 a.Tier), (.int .i64 a.From), (.int .i64 a.To), (.int .u32 a.Sum)]] := hst
  refine s_cons (op_assign (.int .i64 0) rfl ?_)
  refine s_nil ?_
  refine then_n ?_
  refine cE_seq ?_
  refine cE_regionL hst [[(3, none)], [(5, some 0)], [(2, none)], [(7, some 2)], [(6, some 1), (8, some 3)], [(2, none)], [(10, some 5)], [(3, none)], [(12, some 7)], [(11, some 6), (13, some 8)], [(2, none)], [(15, some 10)], [(3, none)], [(17, some 12)], [(16, some 11), (18, some 13)], [(9, some 4), (14, some 9), (19, some 14)], [(20, some 15)], [(21, some 16)]] [(rEq (.pointer (some ⟨g3, (0 + 1), none⟩))), (rEq (.int .i64 b.Tier)), (rEq (.pointer (some ⟨g1, (0 + 1), none⟩))), (rEq (.int .i64 a.Tier)), (rEq (.int .i64 (cmpI b.Tier a.Tier))), (rEq (.pointer (some ⟨g1, (0 + 2), none⟩))), (rEq (.int .i64 a.From)), (rEq (.pointer (some ⟨g3, (0 + 2), none⟩))), (rEq (.int .i64 b.From)), (rEq (.int .i64 (cmpI a.From b.From))), (rEq (.pointer (some ⟨g1, (0 + 0), none⟩))), (rEq (.int .i64 a.Id)), (rEq (.pointer (some ⟨g3, (0 + 0), none⟩))), (rEq (.int .i64 b.Id)), (rEq (.int .i64 (cmpI a.Id b.Id))), (rSl (intE .i64) ([(cmpI b.Tier a.Tier), (cmpI a.From b.From), (cmpI a.Id b.Id)])), (rEq (.int .i64 (orI ([(cmpI b.Tier a.Tier), (cmpI a.From b.From), (cmpI a.Id b.Id)])))), (rEq (.int .i64 (orI ([(cmpI b.Tier a.Tier), (cmpI a.From b.From), (cmpI a.Id b.Id)]))))] (by kernel_rfl) rfl (by kernel_rfl) ⟨sEq, sEq, sEq, sEq, sEq, sEq, sEq, sEq, sEq, sEq, sEq, sEq, sEq, sEq, sEq, sSl, sEq, sEq, trivial⟩ ⟨?_, ?_, ?_, ?_, ?_, ?_, ?_, ?_, ?_, ?_, ?_, ?_, ?_, ?_, ?_, ?_, ?_, ?_, trivial⟩ ?_
  · rintro ρ11 w12 hj13 ⟨f3, _⟩
    have hst := hj13.2
    exact go_plain (op_fieldAddr (s := 0) Try.underlying34 rfl rfl Try.sizeOf3 (f3.trans rfl) (kS hj13 rfl))
  · rintro ρ14 w15 hj16 ⟨f5, _⟩
    have hst := hj16.2
    exact go_plain (op_load1 (u := (.int .i64 b.Tier)) Try.isAgg3 f5 ((hst.cell 0 rfl).drop 1) (kS hj16 rfl))
  · rintro ρ17 w18 hj19 ⟨f2, _⟩
    have hst := hj19.2
    exact go_plain (op_fieldAddr (s := 0) Try.underlying34 rfl rfl Try.sizeOf3 (f2.trans rfl) (kS hj19 rfl))
  · rintro ρ20 w21 hj22 ⟨f7, _⟩
    have hst := hj22.2
    exact go_plain (op_load1 (u := (.int .i64 a.Tier)) Try.isAgg3 f7 ((hst.cell 1 rfl).drop 1) (kS hj22 rfl))
  · rintro ρ23 w24 hj25 ⟨f6, f8, _⟩
    have hst := hj25.2
    refine go_plain (op_call Try.call19 (evs_cons (v := (.int .i64 b.Tier)) f6 (evs_cons (v := (.int .i64 a.Tier)) f8 evs_nil)) (c_Compare_int (w0 := w24) (x := b.Tier) (y := a.Tier)) ?_)
    rintro _ w26 ⟨rfl, hcall⟩
    refine ⟨_, rfl, ?_⟩
    exact kD hj25 hcall rfl
  · rintro ρ27 w28 hj29 ⟨f2, _⟩
    have hst := hj29.2
    exact go_plain (op_fieldAddr (s := 0) Try.underlying34 rfl rfl Try.sizeOf2 (f2.trans rfl) (kS hj29 rfl))
  · rintro ρ30 w31 hj32 ⟨f10, _⟩
    have hst := hj32.2
    exact go_plain (op_load1 (u := (.int .i64 a.From)) Try.isAgg2 f10 ((hst.cell 1 rfl).drop 2) (kS hj32 rfl))
  · rintro ρ33 w34 hj35 ⟨f3, _⟩
    have hst := hj35.2
    exact go_plain (op_fieldAddr (s := 0) Try.underlying34 rfl rfl Try.sizeOf2 (f3.trans rfl) (kS hj35 rfl))
  · rintro ρ36 w37 hj38 ⟨f12, _⟩
    have hst := hj38.2
    exact go_plain (op_load1 (u := (.int .i64 b.From)) Try.isAgg2 f12 ((hst.cell 0 rfl).drop 2) (kS hj38 rfl))
  · rintro ρ39 w40 hj41 ⟨f11, f13, _⟩
    have hst := hj41.2
    refine go_plain (op_call Try.call20 (evs_cons (v := (.int .i64 a.From)) f11 (evs_cons (v := (.int .i64 b.From)) f13 evs_nil)) (c_Compare_int64 (w0 := w40) (x := a.From) (y := b.From)) ?_)
    rintro _ w42 ⟨rfl, hcall⟩
    refine ⟨_, rfl, ?_⟩
    exact kD hj41 hcall rfl
  · rintro ρ43 w44 hj45 ⟨f2, _⟩
    have hst := hj45.2
    exact go_plain (op_fieldAddr (s := 0) Try.underlying34 rfl rfl Try.sizeOf3 (f2.trans rfl) (kS hj45 rfl))
  · rintro ρ46 w47 hj48 ⟨f15, _⟩
    have hst := hj48.2
    exact go_plain (op_load1 (u := (.int .i64 a.Id)) Try.isAgg3 f15 (hst.cell 1 rfl) (kS hj48 rfl))
  · rintro ρ49 w50 hj51 ⟨f3, _⟩
    have hst := hj51.2
    exact go_plain (op_fieldAddr (s := 0) Try.underlying34 rfl rfl Try.sizeOf3 (f3.trans rfl) (kS hj51 rfl))
  · rintro ρ52 w53 hj54 ⟨f17, _⟩
    have hst := hj54.2
    exact go_plain (op_load1 (u := (.int .i64 b.Id)) Try.isAgg3 f17 (hst.cell 0 rfl) (kS hj54 rfl))
  · rintro ρ55 w56 hj57 ⟨f16, f18, _⟩
    have hst := hj57.2
    refine go_plain (op_call Try.call19 (evs_cons (v := (.int .i64 a.Id)) f16 (evs_cons (v := (.int .i64 b.Id)) f18 evs_nil)) (c_Compare_int (w0 := w56) (x := a.Id) (y := b.Id)) ?_)
    rintro _ w58 ⟨rfl, hcall⟩
    refine ⟨_, rfl, ?_⟩
    exact kD hj57 hcall rfl
  · rintro ρ59 w60 hj61 ⟨f9, f14, f19, _⟩
    have hst := hj61.2
    have hst := St.start w60
    refine go_plain (op_buildSlice (E := (intE .i64)) [(cmpI b.Tier a.Tier), (cmpI a.From b.From), (cmpI a.Id b.Id)] hst Try.underlying24 Try.sizeOf3 Try.zeroValue3 (evp_cons (v := (.int .i64 (cmpI b.Tier a.Tier))) f9 (evp_cons (v := (.int .i64 (cmpI a.From b.From))) f14 (evp_cons (v := (.int .i64 (cmpI a.Id b.Id))) f19 evp_nil))) (parts_cons rfl (parts_cons rfl (parts_cons rfl parts_nil))) rfl (by decide) (fun v62 w63 hst => ?_))
    exact kD hj61 hst (hst.sl 0 rfl)
  · rintro ρ64 w65 hj66 ⟨f20, _⟩
    have hst := hj66.2
    have hs69 : Sl w65 (intE .i64) _ ([(cmpI b.Tier a.Tier), (cmpI a.From b.From), (cmpI a.Id b.Id)]) := f20
    refine go_plain (op_call Try.call18 (evs_cons (v := _) rfl evs_nil) (c_Or (w0 := w65) (v_l := _) (l := [(cmpI b.Tier a.Tier), (cmpI a.From b.From), (cmpI a.Id b.Id)]) (h_l := hs69)) ?_)
    rintro _ w70 ⟨rfl, hcall⟩
    refine ⟨_, rfl, ?_⟩
    exact kD hj66 hcall rfl
  · rintro ρ71 w72 hj73 ⟨f21, _⟩
    have hst := hj73.2
    exact go_plain (op_assign (.int .i64 (orI ([(cmpI b.Tier a.Tier), (cmpI a.From b.From), (cmpI a.Id b.Id)]))) f21 (kS hj73 rfl))
  intro ρ74 w75 hbw75 hst hRw75 hkw75
  have uw75_0 : ρ74 0 = (.agg #[(.int .i64 a.Id), (.int .i64 a.Tier), (.int .i64 a.From), (.int .i64 a.To), (.int .u32 a.Sum)]) := (hkw75 0 rfl).trans rfl
  have uw75_1 : ρ74 1 = (.agg #[(.int .i64 b.Id), (.int .i64 b.Tier), (.int .i64 b.From), (.int .i64 b.To), (.int .u32 b.Sum)]) := (hkw75 1 rfl).trans rfl
  have uw75_4 : ρ74 4 = (.int .i64 (orI ([(cmpI b.Tier a.Tier), (cmpI a.From b.From), (cmpI a.Id b.Id)]))) := hRw75 17 4 rfl
  refine then_n ?_
  refine cE_ret ?_
  refine post_r _ (res1 (v := (.int .i64 (orI ([(cmpI b.Tier a.Tier), (cmpI a.From b.From), (cmpI a.Id b.Id)])))) uw75_4) ?_
  exact ⟨(retv1 (congrArg (Value.int .i64) (show (orI ([(cmpI b.Tier a.Tier), (cmpI a.From b.From), (cmpI a.Id b.Id)])) = (cmpB a b) from by rfl))), hst.bare⟩

end Go.Proofs.Ytadnedoecbfojaa
