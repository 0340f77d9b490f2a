/- block.reader).next -/
import Derived.Test.YtgibfidebdgffaaDoorXW20
import Derived.Test.YtgibfidebdgffaaDoorXLB
namespace Go.Proofs.YtgibfidebdgffaaDoor
open Go.RowKit

set_option maxRecDepth 8000 in
theorem c_kNextE {w0 w : World} {L : List Item} (g_r : Nat) (v_b : Value) (b : List UInt8) (h_b : Sl w0 u8E v_b b) (at_ : Int) (bad : Bool) (hl : b.length ≤ 1000000000) (hst : St w0 w (.blk g_r 88 #[v_b, (iV at_), (.bool bad)] :: L)) :
  Calls Tryd.prog 47 #[(.pointer (some ⟨g_r, 0, none⟩))] w fun e w' => ∃ (n2 : Int), ∃ (p2 : Int), ∃ (d2 : Bool), e = .returned (.int .u64 n2) ∧ St w0 w' (.blk g_r 88 #[v_b, (iV p2), (.bool d2)] :: L) ∧ n2 = (get b at_).1 ∧ p2 = (get b at_).2.1 ∧ d2 = rbad bad b at_ := by
 refine calls_E (n := 29) (ts := [2]) Tryd.func47 rfl rfl rfl (by simp) (cE_seq (cE_region rfl (s_cons (op_assign (.int .u64 0) rfl (s_nil (then_n (cE_seq (cE_regionL hst [[(0, none)], [(7, some 0)], [(8, some 1)], [(9, some 2)], [(0, none)], [(11, some 4)], [(12, some 5)], [(13, some 6)], [(10, some 3), (14, some 7)], [(15, some 8)], [(6, some 9)], [(6, some 9)], [(6, some 9)], [(16, some 10)], [(17, some 11)], [(18, some 12)]] [(rEq (.pointer (some ⟨g_r, 0, none⟩))), (rEq (.pointer (some ⟨g_r, 0, none⟩))), (rEq (.pointer (some ⟨g_r, (0 + 0), none⟩))), (rEq v_b), (rEq (.pointer (some ⟨g_r, 0, none⟩))), (rEq (.pointer (some ⟨g_r, 0, none⟩))), (rEq (.pointer (some ⟨g_r, (0 + 1), none⟩))), (rEq (iV at_)), (rEq (.tuple #[(.int .u64 ((get b at_).1)), (iV ((get b at_).2.1)), (iV ((get b at_).2.2))])), (rEq (.tuple #[(.int .u64 ((get b at_).1)), (iV ((get b at_).2.1)), (iV ((get b at_).2.2))])), (rEq (.int .u64 ((get b at_).1))), (rEq (iV ((get b at_).2.1))), (rEq (iV ((get b at_).2.2))), (rEq (.int .u64 ((get b at_).1))), (rEq (iV ((get b at_).2.1))), (rEq (iV ((get b at_).2.2)))] (by kernel_rfl) rfl (by kernel_rfl) ⟨sEq, sEq, sEq, sEq, sEq, sEq, sEq, sEq, sEq, sEq, sEq, sEq, sEq, sEq, sEq, sEq, trivial⟩ ⟨?_, ?_, ?_, ?_, ?_, ?_, ?_, ?_, ?_, ?_, ?_, ?_, ?_, ?_, ?_, ?_, trivial⟩ ?_))))))))
 ·rintro ρ2 w3 hj4 ⟨f0, _⟩
  have hst := hj4.2
  exact go_plain (op_move (.pointer (some ⟨g_r, 0, none⟩)) (f0.trans rfl) (kS hj4 rfl))
 ·rintro ρ5 w6 hj7 ⟨f7, _⟩
  have hst := hj7.2
  exact go_plain (op_nilCheck f7 (kS hj7 rfl))
 ·rintro ρ8 w9 hj10 ⟨f8, _⟩
  have hst := hj10.2
  exact go_plain (op_fieldAddr (s := 0) Tryd.underlying88 rfl rfl Tryd.sizeOf29 f8 (kS hj10 rfl))
 ·rintro ρ11 w12 hj13 ⟨f9, _⟩
  have hst := hj13.2
  exact go_plain (op_load1 (u := v_b) Tryd.isAgg29 f9 (hst.cell 0 rfl) (kS hj13 rfl))
 ·rintro ρ14 w15 hj16 ⟨f0, _⟩
  have hst := hj16.2
  exact go_plain (op_move (.pointer (some ⟨g_r, 0, none⟩)) (f0.trans rfl) (kS hj16 rfl))
 ·rintro ρ17 w18 hj19 ⟨f11, _⟩
  have hst := hj19.2
  exact go_plain (op_nilCheck f11 (kS hj19 rfl))
 ·rintro ρ20 w21 hj22 ⟨f12, _⟩
  have hst := hj22.2
  exact go_plain (op_fieldAddr (s := 0) Tryd.underlying88 rfl rfl Tryd.sizeOf3 f12 (kS hj22 rfl))
 ·rintro ρ23 w24 hj25 ⟨f13, _⟩
  have hst := hj25.2
  exact go_plain (op_load1 (u := (iV at_)) Tryd.isAgg3 f13 ((hst.cell 0 rfl).drop 1) (kS hj25 rfl))
 ·rintro ρ26 w27 hj28 ⟨f10, f14, _⟩
  have hst := hj28.2
  refine go_plain (op_call Tryd.call28 (evs_cons (v := v_b) f10 (evs_cons (v := (iV at_)) f14 evs_nil)) (c_Get (w0 := w27) (v_b := v_b) (b := b) (h_b := (h_b.below hst.below)) (at_ := at_) (hl := (by omega))) ?_)
  rintro _ w29 ⟨rfl, hcall⟩
  refine ⟨_, rfl, ?_⟩
  exact kD hj28 hcall rfl
 ·rintro ρ30 w31 hj32 ⟨f15, _⟩
  have hst := hj32.2
  exact go_plain (op_move (.tuple #[(.int .u64 ((get b at_).1)), (iV ((get b at_).2.1)), (iV ((get b at_).2.2))]) f15 (kS hj32 rfl))
 ·rintro ρ33 w34 hj35 ⟨f6, _⟩
  have hst := hj35.2
  exact go_plain (op_extract (.int .u64 ((get b at_).1)) f6 rfl (kS hj35 rfl))
 ·rintro ρ36 w37 hj38 ⟨f6, _⟩
  have hst := hj38.2
  exact go_plain (op_extract (iV ((get b at_).2.1)) f6 rfl (kS hj38 rfl))
 ·rintro ρ39 w40 hj41 ⟨f6, _⟩
  have hst := hj41.2
  exact go_plain (op_extract (iV ((get b at_).2.2)) f6 rfl (kS hj41 rfl))
 ·rintro ρ42 w43 hj44 ⟨f16, _⟩
  have hst := hj44.2
  exact go_plain (op_assign (.int .u64 ((get b at_).1)) f16 (kS hj44 rfl))
 ·rintro ρ45 w46 hj47 ⟨f17, _⟩
  have hst := hj47.2
  exact go_plain (op_assign (iV ((get b at_).2.1)) f17 (kS hj47 rfl))
 ·rintro ρ48 w49 hj50 ⟨f18, _⟩
  have hst := hj50.2
  exact go_plain (op_assign (iV ((get b at_).2.2)) f18 (kS hj50 rfl))
 intro ρ51 w52 hbw52 hst hRw52 hkw52
 have uw52_0 : ρ51 0 = (.pointer (some ⟨g_r, 0, none⟩)) := (hkw52 0 rfl).trans rfl
 have uw52_2 : ρ51 2 = (.int .u64 0) := (hkw52 2 rfl).trans rfl
 have uw52_3 : ρ51 3 = (.int .u64 ((get b at_).1)) := hRw52 13 3 rfl
 have uw52_4 : ρ51 4 = (iV ((get b at_).2.1)) := hRw52 14 4 rfl
 have uw52_5 : ρ51 5 = (iV ((get b at_).2.2)) := hRw52 15 5 rfl
 refine then_n (cE_seq (cE_seq (cE_region rfl (s_cons (op_move (iV ((get b at_).2.2)) uw52_5 (s_cons (op_neq (k := .i64) (a := (get b at_).2.2) (b := 0) rfl rfl (s_nil (then_n ?_)))))))))
 rcases Bool.eq_false_or_eq_true (decide (((get b at_).2.2) = 0)) with b53 | b53
 ·have c54 : ((get b at_).2.2) = 0 := of_decide_eq_true b53
  refine cE_cond false (congrArg Value.bool (congrArg (! ·) b53)) (fun h => by cases h) (fun _ => ?_)
  refine cE_skip (then_n (cE_seq (cE_region rfl (s_cons (op_move (.pointer (some ⟨g_r, 0, none⟩)) uw52_0 (s_cons (op_move (iV ((get b at_).2.1)) uw52_4 (s_cons (op_nilCheck rfl (s_cons (op_fieldAddr (s := 0) Tryd.underlying88 rfl rfl Tryd.sizeOf3 rfl (s_cons0 (op_store1 hst 0 rfl Tryd.sizeOf3 rfl rfl rfl (show 1 < 3 from by decide) (fun w55 hst => ?_))))))))))))))
  replace hst : St w0 w55 (.blk g_r 88 #[v_b, (iV ((get b at_).2.1)), (.bool bad)] :: L) := hst
  refine s_nil (then_n (cE_seq (cE_region rfl (s_cons (op_move (.int .u64 ((get b at_).1)) uw52_3 (s_cons (op_assign (.int .u64 ((get b at_).1)) rfl (s_nil (then_n (cE_ret (post_r _ (res1 (v := (.int .u64 ((get b at_).1))) rfl) ?_)))))))))))
  exact ⟨(get b at_).1, (get b at_).2.1, bad, rfl, hst.sub (.cons_cons _ (List.Sublist.refl _)), (by first | rfl | (simp [rbad, *]; done)), (by first | rfl | (simp [rbad, *]; done)), (by first | rfl | (simp [rbad, *]; done))⟩
 have c56 : ¬ (((get b at_).2.2) = 0) := of_decide_eq_false b53
 refine cE_cond true (congrArg Value.bool (congrArg (! ·) b53)) (fun _ => ?_) (fun h => by cases h)
 refine cE_region rfl (s_cons (op_move (.pointer (some ⟨g_r, 0, none⟩)) uw52_0 (s_cons (op_nilCheck rfl (s_cons (op_fieldAddr (s := 0) Tryd.underlying88 rfl rfl Tryd.sizeOf4 rfl (s_cons0 (op_store1 hst 0 rfl Tryd.sizeOf4 rfl rfl rfl (show 2 < 3 from by decide) (fun w57 hst => ?_)))))))))
 replace hst : St w0 w57 (.blk g_r 88 #[v_b, (iV at_), (.bool true)] :: L) := hst
 refine s_nil (then_n (cE_seq (cE_region rfl (s_cons (op_move (.pointer (some ⟨g_r, 0, none⟩)) uw52_0 (s_cons (op_move (iV ((get b at_).2.1)) uw52_4 (s_cons (op_nilCheck rfl (s_cons (op_fieldAddr (s := 0) Tryd.underlying88 rfl rfl Tryd.sizeOf3 rfl (s_cons0 (op_store1 hst 0 rfl Tryd.sizeOf3 rfl rfl rfl (show 1 < 3 from by decide) (fun w58 hst => ?_))))))))))))))
 replace hst : St w0 w58 (.blk g_r 88 #[v_b, (iV ((get b at_).2.1)), (.bool true)] :: L) := hst
 refine s_nil (then_n (cE_seq (cE_region rfl (s_cons (op_move (.int .u64 ((get b at_).1)) uw52_3 (s_cons (op_assign (.int .u64 ((get b at_).1)) rfl (s_nil (then_n (cE_ret (post_r _ (res1 (v := (.int .u64 ((get b at_).1))) rfl) ?_)))))))))))
 exact ⟨(get b at_).1, (get b at_).2.1, true, rfl, hst.sub (.cons_cons _ (List.Sublist.refl _)), (by first | rfl | (simp [rbad, *]; done)), (by first | rfl | (simp [rbad, *]; done)), (by first | rfl | (simp [rbad, *]; done))⟩

end Go.Proofs.YtgibfidebdgffaaDoor
