/- twinkeeplaw23.told -/
import Derived.Test.YtldfnkhccaglmaaXLB
import Derived.Test.YtldfnkhccaglmaaXLA
import Derived.Test.YtldfnkhccaglmaaXW32
import Derived.Test.YtldfnkhccaglmaaXW60
import Derived.Test.YtldfnkhccaglmaaXW62
import Derived.Test.YtldfnkhccaglmaaXW63
import Derived.Test.YtldfnkhccaglmaaXW67
namespace Go.Proofs.Ytldfnkhccaglmaa
open Go.RowKit

set_option maxRecDepth 8000 in
set_option maxHeartbeats 8000000 in
theorem c_told23 (w0 : World) :
  Calls Try.prog 8 #[] w0 fun e w' => e = .returned (.bool true) ∧ St w0 w' [] := by
 refine calls_E (n := 96) (ts := [0]) Try.func8 rfl rfl rfl (by simp) ?_
 have hst := St.start w0
 refine cE_seq (cE_region rfl (s_cons (op_assign (.bool false) rfl (s_nil (then_n (cE_seq (cE_region rfl (s_cons (op_build (r := (.agg #[(iV 3), (iV 5)])) (evp_cons (v := (iV 3)) rfl (evp_cons (v := (iV 5)) rfl evp_nil)) (by simp [Instr.build, Instr.fill, Value.cells, Try.runUnderlying51, Try.zeroValue51]) (s_cons (op_build (r := (.agg #[(iV 4), (iV 6)])) (evp_cons (v := (iV 4)) rfl (evp_cons (v := (iV 6)) rfl evp_nil)) (by simp [Instr.build, Instr.fill, Value.cells, Try.runUnderlying51, Try.zeroValue51]) ?_)))))))))))
 refine s_cons (op_alloc (cs := #[(iV 0), (iV 0)]) hst Try.zeroValue51 rfl (fun g1 w2 hst _ => ?_))
 refine s_cons (op_alloc (cs := #[(iV 0), (iV 0)]) hst Try.zeroValue51 rfl (fun g3 w4 hst _ => ?_))
 refine s_cons0 (op_storeAll hst 1 rfl Try.sizeOf51 rfl rfl rfl rfl (by simp [Value.oneCell']) (fun w5 hst => ?_))
 refine s_cons0 (op_storeAll hst 0 rfl Try.sizeOf51 rfl rfl rfl rfl (by simp [Value.oneCell']) (fun w6 hst => ?_))
 refine s_nil (then_n (cE_seq (cE_region rfl (s_cons (op_loadN (cs := [(iV 3), (iV 5)]) Try.isAgg51 Try.sizeOf51 rfl (Pt.of (hst.cell 1 rfl) rfl) rfl (s_cons (op_build (r := (.agg #[(iV 3), (iV 5), (iV 0), (iV 1), (.bool true)])) (evp_cons (v := (.agg #[(iV 3), (iV 5)])) rfl (evp_cons (v := (iV 1)) rfl (evp_cons (v := (.bool true)) rfl evp_nil))) (by simp [Instr.build, Instr.fill, Value.cells, Try.runUnderlying54, Try.zeroValue54]) ?_)))))))
 refine s_cons (op_loadN (cs := [(iV 4), (iV 6)]) Try.isAgg51 Try.sizeOf51 rfl (Pt.of (hst.cell 0 rfl) rfl) rfl (s_cons (op_build (r := (.agg #[(iV 4), (iV 6), (iV 0), (iV 1), (.bool false)])) (evp_cons (v := (.agg #[(iV 4), (iV 6)])) rfl (evp_cons (v := (iV 1)) rfl evp_nil)) (by simp [Instr.build, Instr.fill, Value.cells, Try.runUnderlying54, Try.zeroValue54]) (s_cons (op_buildSlice (E := toldE) [(⟨(⟨3, 5⟩ : Sample), 0, 1, true⟩ : Told), (⟨(⟨4, 6⟩ : Sample), 0, 1, false⟩ : Told)] hst Try.underlying22 Try.sizeOf54 Try.zeroValue54 (evp_cons (v := (.agg #[(iV 3), (iV 5), (iV 0), (iV 1), (.bool true)])) rfl (evp_cons (v := (.agg #[(iV 4), (iV 6), (iV 0), (iV 1), (.bool false)])) rfl evp_nil)) (parts_cons rfl (parts_cons rfl parts_nil)) rfl (by decide) (fun v7 w8 hst => ?_))))))
 refine s_cons (op_assign v7 rfl (s_nil (then_n (cE_seq (cE_region rfl (s_cons (op_loadN (cs := [(iV 3), (iV 5)]) Try.isAgg51 Try.sizeOf51 rfl (Pt.of (hst.cell 2 rfl) rfl) rfl (s_cons (op_loadN (cs := [(iV 4), (iV 6)]) Try.isAgg51 Try.sizeOf51 rfl (Pt.of (hst.cell 1 rfl) rfl) rfl (s_cons (op_buildSlice (E := sampE) [(⟨3, 5⟩ : Sample), (⟨4, 6⟩ : Sample)] hst Try.underlying23 Try.sizeOf51 Try.zeroValue51 (evp_cons (v := (.agg #[(iV 3), (iV 5)])) rfl (evp_cons (v := (.agg #[(iV 4), (iV 6)])) rfl evp_nil)) (parts_cons rfl (parts_cons rfl parts_nil)) rfl (by decide) (fun v9 w10 hst => ?_))))))))))))
 refine s_cons (op_call Try.call19 (evs_cons (v := nS) rfl (evs_cons (v := v9) rfl (evs_cons (v := (iV 0)) rfl (evs_cons (v := (iV 9)) rfl evs_nil)))) (c_Range (w0 := w10) (v_segs := nS) (segs := []) (h_segs := (Sl.nil segE _)) (v_head := v9) (head := [(⟨3, 5⟩ : Sample), (⟨4, 6⟩ : Sample)]) (h_head := (hst.sl 0 rfl)) (fr := 0) (to := 9) (hsg := (segsIn_nil _)) (hso := (by simp)) (hho := (by decide)) (fr0 := (by omega)) (to0 := (by omega)) (fr1 := (by omega)) (to1 := (by omega)) (hll := (by decide)) (hhl := (by decide)) (hbl := (hb_of (by decide)))) ?_)
 rintro _ w12 ⟨r11, rfl, hcall⟩
 refine ⟨_, rfl, ?_⟩
 have hst := hst.call hcall
 refine s_cons (op_move (.tuple #[r11, (iV ((rangeW (ds ([])) ([(⟨3, 5⟩ : Sample), (⟨4, 6⟩ : Sample)]) 0 9).2))]) rfl (s_cons (op_extract r11 rfl rfl (s_cons (op_extract (iV ((rangeW (ds ([])) ([(⟨3, 5⟩ : Sample), (⟨4, 6⟩ : Sample)]) 0 9).2)) rfl rfl (s_cons (op_assign r11 rfl (s_cons (op_assign (iV ((rangeW (ds ([])) ([(⟨3, 5⟩ : Sample), (⟨4, 6⟩ : Sample)]) 0 9).2)) rfl ?_)))))))))
 refine s_nil (then_n (cE_seq (cE_seq ?_)))
 have hA := told23_A
 replace hst : St w0 w12 [rowT 33 winE r11 t23W, rowT 51 sampE v9 ([(⟨3, 5⟩ : Sample), (⟨4, 6⟩ : Sample)]), rowT 54 toldE v7 ([(⟨(⟨3, 5⟩ : Sample), 0, 1, true⟩ : Told), (⟨(⟨4, 6⟩ : Sample), 0, 1, false⟩ : Told)]), .blk g3 51 #[(iV 4), (iV 6)], .blk g1 51 #[(iV 3), (iV 5)]] := by rw [congrArg Prod.fst hA] at hst; exact hst
 refine cE_region rfl (s_cons (op_move r11 rfl (s_cons (op_len (E := winE) (xs := t23W) Try.underlying27 rfl (hst.sl 0 rfl) (s_cons (op_neq (k := .i64) (a := (t23W.length : Int)) (b := 2) rfl rfl (s_nil (then_n (cE_cond false (congrArg Value.bool (congrArg (! ·) (show (decide ((t23W.length : Int) = 2)) = true from (by decide +kernel)))) (fun h => by cases h) (fun _ => ?_))))))))))
 refine cE_skip (then_n (cE_seq (cE_regionL hst [[(3, none)], [(23, some 0)], [(24, some 1)], [(1, none), (25, some 2)], [(26, some 3), (25, some 2)], [(27, some 4), (25, some 2)], [(28, some 5), (25, some 2)], [(29, some 6), (25, some 2)], [(25, some 2), (30, some 7)], [(31, some 8)], [(3, none), (32, some 9)], [(1, none), (32, some 9)], [(34, some 11), (32, some 9)], [(33, some 10), (35, some 12), (32, some 9)], [(36, some 13), (32, some 9)], [(32, some 9), (37, some 14)], [(38, some 15)], [(3, none), (39, some 16)], [(2, none), (39, some 16)], [(41, some 18), (39, some 16)], [(40, some 17), (42, some 19), (39, some 16)], [(43, some 20), (39, some 16)], [(39, some 16), (44, some 21)], [(45, some 22)], [(3, none), (46, some 23)], [(1, none), (46, some 23)], [(46, some 23)], [(48, some 25), (49, some 26), (46, some 23)], [(47, some 24), (50, some 27), (46, some 23)], [(51, some 28), (46, some 23)], [(46, some 23), (52, some 29)], [(53, some 30)], [(2, none), (54, some 31)], [(1, none), (54, some 31)], [(55, some 32), (56, some 33), (54, some 31)], [(57, some 34), (54, some 31)], [(58, some 35), (54, some 31)], [(54, some 31), (59, some 36)], [(60, some 37)], [(1, none), (61, some 38)], [(2, none), (61, some 38)], [(62, some 39), (63, some 40), (61, some 38)], [(4, none), (61, some 38)], [(64, some 41), (65, some 42), (61, some 38)], [(66, some 43), (61, some 38)], [(61, some 38), (67, some 44)], [(68, some 45)], [(1, none), (69, some 46)], [(2, none), (69, some 46)], [(70, some 47), (71, some 48), (69, some 46)], [(4, none), (69, some 46)], [(73, some 50), (69, some 46)], [(72, some 49), (74, some 51), (69, some 46)], [(75, some 52), (69, some 46)], [(69, some 46), (76, some 53)], [(77, some 54)], [(1, none), (78, some 55)], [(79, some 56), (78, some 55)], [(4, none), (78, some 55)], [(80, some 57), (81, some 58), (78, some 55)], [(82, some 59), (78, some 55)], [(78, some 55), (83, some 60)], [(84, some 61)], [(85, some 62)], [(85, some 62)], [(86, some 63), (87, some 64), (85, some 62)], [(88, some 65), (85, some 62)], [(89, some 66), (85, some 62)], [(85, some 62), (90, some 67)], [(91, some 68)], [(92, some 69)], [(93, some 70), (92, some 69)], [(92, some 69), (94, some 71)], [(95, some 72)]] [(rEq v7), (rEq (.bool (toldJ ([(⟨(⟨3, 5⟩ : Sample), 0, 1, true⟩ : Told), (⟨(⟨4, 6⟩ : Sample), 0, 1, false⟩ : Told)])))), (rEq (.bool (toldJ ([(⟨(⟨3, 5⟩ : Sample), 0, 1, true⟩ : Told), (⟨(⟨4, 6⟩ : Sample), 0, 1, false⟩ : Told)])))), (rEq (.agg #[(iV 3), (iV 5)])), (rEq (.agg #[(iV 3), (iV 5), (iV 0), (iV 0), (.bool false)])), (rSl toldE ([(⟨(⟨3, 5⟩ : Sample), 0, 0, false⟩ : Told)])), (rEq (.bool (toldJ ([(⟨(⟨3, 5⟩ : Sample), 0, 0, false⟩ : Told)])))), (rEq (.bool (!(toldJ ([(⟨(⟨3, 5⟩ : Sample), 0, 0, false⟩ : Told)]))))), (rEq (.bool (!(toldJ ([(⟨(⟨3, 5⟩ : Sample), 0, 0, false⟩ : Told)]))))), (rEq (.bool (!(toldJ ([(⟨(⟨3, 5⟩ : Sample), 0, 0, false⟩ : Told)]))))), (rEq v7), (rEq (.agg #[(iV 3), (iV 5)])), (rSl sampE ([(⟨3, 5⟩ : Sample)])), (rEq (iV (contentC ([(⟨(⟨3, 5⟩ : Sample), 0, 1, true⟩ : Told), (⟨(⟨4, 6⟩ : Sample), 0, 1, false⟩ : Told)]) ([(⟨3, 5⟩ : Sample)])))), (rEq (.bool (decide ((contentC ([(⟨(⟨3, 5⟩ : Sample), 0, 1, true⟩ : Told), (⟨(⟨4, 6⟩ : Sample), 0, 1, false⟩ : Told)]) ([(⟨3, 5⟩ : Sample)])) = 0)))), (rEq (.bool (decide ((contentC ([(⟨(⟨3, 5⟩ : Sample), 0, 1, true⟩ : Told), (⟨(⟨4, 6⟩ : Sample), 0, 1, false⟩ : Told)]) ([(⟨3, 5⟩ : Sample)])) = 0)))), (rEq (.bool (decide ((contentC ([(⟨(⟨3, 5⟩ : Sample), 0, 1, true⟩ : Told), (⟨(⟨4, 6⟩ : Sample), 0, 1, false⟩ : Told)]) ([(⟨3, 5⟩ : Sample)])) = 0)))), (rEq v7), (rEq (.agg #[(iV 4), (iV 6)])), (rSl sampE ([(⟨4, 6⟩ : Sample)])), (rEq (iV (contentC ([(⟨(⟨3, 5⟩ : Sample), 0, 1, true⟩ : Told), (⟨(⟨4, 6⟩ : Sample), 0, 1, false⟩ : Told)]) ([(⟨4, 6⟩ : Sample)])))), (rEq (.bool (decide ((contentC ([(⟨(⟨3, 5⟩ : Sample), 0, 1, true⟩ : Told), (⟨(⟨4, 6⟩ : Sample), 0, 1, false⟩ : Told)]) ([(⟨4, 6⟩ : Sample)])) = 3)))), (rEq (.bool (decide ((contentC ([(⟨(⟨3, 5⟩ : Sample), 0, 1, true⟩ : Told), (⟨(⟨4, 6⟩ : Sample), 0, 1, false⟩ : Told)]) ([(⟨4, 6⟩ : Sample)])) = 3)))), (rEq (.bool (decide ((contentC ([(⟨(⟨3, 5⟩ : Sample), 0, 1, true⟩ : Told), (⟨(⟨4, 6⟩ : Sample), 0, 1, false⟩ : Told)]) ([(⟨4, 6⟩ : Sample)])) = 3)))), (rEq v7), (rEq (.agg #[(iV 3), (iV 5)])), (rEq (.agg #[(iV 9), (iV 0)])), (rSl sampE ([(⟨3, 5⟩ : Sample), (⟨9, 0⟩ : Sample)])), (rEq (iV (contentC ([(⟨(⟨3, 5⟩ : Sample), 0, 1, true⟩ : Told), (⟨(⟨4, 6⟩ : Sample), 0, 1, false⟩ : Told)]) ([(⟨3, 5⟩ : Sample), (⟨9, 0⟩ : Sample)])))), (rEq (.bool (decide ((contentC ([(⟨(⟨3, 5⟩ : Sample), 0, 1, true⟩ : Told), (⟨(⟨4, 6⟩ : Sample), 0, 1, false⟩ : Told)]) ([(⟨3, 5⟩ : Sample), (⟨9, 0⟩ : Sample)])) = 2)))), (rEq (.bool (decide ((contentC ([(⟨(⟨3, 5⟩ : Sample), 0, 1, true⟩ : Told), (⟨(⟨4, 6⟩ : Sample), 0, 1, false⟩ : Told)]) ([(⟨3, 5⟩ : Sample), (⟨9, 0⟩ : Sample)])) = 2)))), (rEq (.bool (decide ((contentC ([(⟨(⟨3, 5⟩ : Sample), 0, 1, true⟩ : Told), (⟨(⟨4, 6⟩ : Sample), 0, 1, false⟩ : Told)]) ([(⟨3, 5⟩ : Sample), (⟨9, 0⟩ : Sample)])) = 2)))), (rEq (.agg #[(iV 4), (iV 6)])), (rEq (.agg #[(iV 3), (iV 5)])), (rSl sampE ([(⟨4, 6⟩ : Sample), (⟨3, 5⟩ : Sample)])), (rEq (iV (contentC ([]) ([(⟨4, 6⟩ : Sample), (⟨3, 5⟩ : Sample)])))), (rEq (.bool (decide ((contentC ([]) ([(⟨4, 6⟩ : Sample), (⟨3, 5⟩ : Sample)])) = 1)))), (rEq (.bool (decide ((contentC ([]) ([(⟨4, 6⟩ : Sample), (⟨3, 5⟩ : Sample)])) = 1)))), (rEq (.bool (decide ((contentC ([]) ([(⟨4, 6⟩ : Sample), (⟨3, 5⟩ : Sample)])) = 1)))), (rEq (.agg #[(iV 3), (iV 5)])), (rEq (.agg #[(iV 4), (iV 6)])), (rSl sampE ([(⟨3, 5⟩ : Sample), (⟨4, 6⟩ : Sample)])), (rEq r11), (rEq (iV (answerC ([(⟨3, 5⟩ : Sample), (⟨4, 6⟩ : Sample)]) t23W 0 9))), (rEq (.bool (decide ((answerC ([(⟨3, 5⟩ : Sample), (⟨4, 6⟩ : Sample)]) t23W 0 9) = 0)))), (rEq (.bool (decide ((answerC ([(⟨3, 5⟩ : Sample), (⟨4, 6⟩ : Sample)]) t23W 0 9) = 0)))), (rEq (.bool (decide ((answerC ([(⟨3, 5⟩ : Sample), (⟨4, 6⟩ : Sample)]) t23W 0 9) = 0)))), (rEq (.agg #[(iV 3), (iV 5)])), (rEq (.agg #[(iV 4), (iV 6)])), (rSl sampE ([(⟨3, 5⟩ : Sample), (⟨4, 6⟩ : Sample)])), (rEq r11), (rSl winE (t23W.take 1)), (rEq (iV (answerC ([(⟨3, 5⟩ : Sample), (⟨4, 6⟩ : Sample)]) (t23W.take 1) 0 9))), (rEq (.bool (decide ((answerC ([(⟨3, 5⟩ : Sample), (⟨4, 6⟩ : Sample)]) (t23W.take 1) 0 9) = 3)))), (rEq (.bool (decide ((answerC ([(⟨3, 5⟩ : Sample), (⟨4, 6⟩ : Sample)]) (t23W.take 1) 0 9) = 3)))), (rEq (.bool (decide ((answerC ([(⟨3, 5⟩ : Sample), (⟨4, 6⟩ : Sample)]) (t23W.take 1) 0 9) = 3)))), (rEq (.agg #[(iV 3), (iV 5)])), (rSl sampE ([(⟨3, 5⟩ : Sample)])), (rEq r11), (rEq (iV (answerC ([(⟨3, 5⟩ : Sample)]) t23W 0 9))), (rEq (.bool (decide ((answerC ([(⟨3, 5⟩ : Sample)]) t23W 0 9) = 4)))), (rEq (.bool (decide ((answerC ([(⟨3, 5⟩ : Sample)]) t23W 0 9) = 4)))), (rEq (.bool (decide ((answerC ([(⟨3, 5⟩ : Sample)]) t23W 0 9) = 4)))), (rEq (.agg #[(iV 1), (iV 0)])), (rEq (.agg #[(iV 1), (iV 0)])), (rSl grantE ([(⟨1, 0⟩ : Grant), (⟨1, 0⟩ : Grant)])), (rEq (iV (grantsC ([(⟨1, 0⟩ : Grant), (⟨1, 0⟩ : Grant)])))), (rEq (.bool (decide ((grantsC ([(⟨1, 0⟩ : Grant), (⟨1, 0⟩ : Grant)])) = 2)))), (rEq (.bool (decide ((grantsC ([(⟨1, 0⟩ : Grant), (⟨1, 0⟩ : Grant)])) = 2)))), (rEq (.bool (decide ((grantsC ([(⟨1, 0⟩ : Grant), (⟨1, 0⟩ : Grant)])) = 2)))), (rEq (iV (grantsC ([])))), (rEq (.bool (decide ((grantsC ([])) = 0)))), (rEq (.bool (decide ((grantsC ([])) = 0)))), (rEq (.bool (decide ((grantsC ([])) = 0))))] (by kernel_rfl) rfl (by kernel_rfl) ⟨sEq, sEq, sEq, sEq, sEq, sSl, sEq, sEq, sEq, sEq, sEq, sEq, sSl, sEq, sEq, sEq, sEq, sEq, sEq, sSl, sEq, sEq, sEq, sEq, sEq, sEq, sEq, sSl, sEq, sEq, sEq, sEq, sEq, sEq, sSl, sEq, sEq, sEq, sEq, sEq, sEq, sSl, sEq, sEq, sEq, sEq, sEq, sEq, sEq, sSl, sEq, sSl, sEq, sEq, sEq, sEq, sEq, sSl, sEq, sEq, sEq, sEq, sEq, sEq, sEq, sSl, sEq, sEq, sEq, sEq, sEq, sEq, sEq, sEq, trivial⟩ ⟨?_, ?_, ?_, ?_, ?_, ?_, ?_, ?_, ?_, ?_, ?_, ?_, ?_, ?_, ?_, ?_, ?_, ?_, ?_, ?_, ?_, ?_, ?_, ?_, ?_, ?_, ?_, ?_, ?_, ?_, ?_, ?_, ?_, ?_, ?_, ?_, ?_, ?_, ?_, ?_, ?_, ?_, ?_, ?_, ?_, ?_, ?_, ?_, ?_, ?_, ?_, ?_, ?_, ?_, ?_, ?_, ?_, ?_, ?_, ?_, ?_, ?_, ?_, ?_, ?_, ?_, ?_, ?_, ?_, ?_, ?_, ?_, ?_, ?_, trivial⟩ ?_)))
 ·rintro ρ44 w45 hj46 ⟨f3, _⟩
  have hst := hj46.2
  exact go_plain (op_move v7 (f3.trans rfl) (kS hj46 rfl))
 ·rintro ρ47 w48 hj49 ⟨f23, _⟩
  have hst := hj49.2
  refine go_plain (op_call Try.call9 (evs_cons (v := v7) f23 evs_nil) (c_Told (w0 := w48) (v_l := v7) (l := [(⟨(⟨3, 5⟩ : Sample), 0, 1, true⟩ : Told), (⟨(⟨4, 6⟩ : Sample), 0, 1, false⟩ : Told)]) (h_l := (hst.sl 2 rfl))) ?_)
  rintro _ w50 ⟨rfl, hcall⟩
  refine ⟨_, rfl, ?_⟩
  exact kD hj49 hcall rfl
 ·rintro ρ51 w52 hj53 ⟨f24, _⟩
  have hst := hj53.2
  exact go_plain (op_move (.bool (toldJ ([(⟨(⟨3, 5⟩ : Sample), 0, 1, true⟩ : Told), (⟨(⟨4, 6⟩ : Sample), 0, 1, false⟩ : Told)]))) f24 (kS hj53 rfl))
 ·rintro ρ54 w55 hj56 ⟨f1, f25, _⟩
  have hst := hj56.2
  exact go_yes 25 rfl (f25.trans (congrArg Value.bool (show (toldJ ([(⟨(⟨3, 5⟩ : Sample), 0, 1, true⟩ : Told), (⟨(⟨4, 6⟩ : Sample), 0, 1, false⟩ : Told)])) = true from (by decide +kernel)))) (op_loadN (cs := [(iV 3), (iV 5)]) Try.isAgg51 Try.sizeOf51 (f1.trans rfl) (Pt.of (hst.cell 4 rfl) rfl) rfl (kS hj56 rfl))
 ·rintro ρ57 w58 hj59 ⟨f26, f25, _⟩
  have hst := hj59.2
  exact go_yes 25 rfl (f25.trans (congrArg Value.bool (show (toldJ ([(⟨(⟨3, 5⟩ : Sample), 0, 1, true⟩ : Told), (⟨(⟨4, 6⟩ : Sample), 0, 1, false⟩ : Told)])) = true from (by decide +kernel)))) (op_build (r := (.agg #[(iV 3), (iV 5), (iV 0), (iV 0), (.bool false)])) (evp_cons (v := (.agg #[(iV 3), (iV 5)])) f26 evp_nil) (by simp [Instr.build, Instr.fill, Value.cells, Try.runUnderlying54, Try.zeroValue54]) (kS hj59 rfl))
 ·rintro ρ60 w61 hj62 ⟨f27, f25, _⟩
  have hst := hj62.2
  have hst := St.start w61
  refine go_yes 25 rfl (f25.trans (congrArg Value.bool (show (toldJ ([(⟨(⟨3, 5⟩ : Sample), 0, 1, true⟩ : Told), (⟨(⟨4, 6⟩ : Sample), 0, 1, false⟩ : Told)])) = true from (by decide +kernel)))) (op_buildSlice (E := toldE) [(⟨(⟨3, 5⟩ : Sample), 0, 0, false⟩ : Told)] hst Try.underlying22 Try.sizeOf54 Try.zeroValue54 (evp_cons (v := (.agg #[(iV 3), (iV 5), (iV 0), (iV 0), (.bool false)])) f27 evp_nil) (parts_cons rfl parts_nil) rfl (by decide) (fun v63 w64 hst => ?_))
  exact kD hj62 hst (hst.sl 0 rfl)
 ·rintro ρ65 w66 hj67 ⟨f28, f25, _⟩
  have hst := hj67.2
  have hs70 : Sl w66 toldE _ ([(⟨(⟨3, 5⟩ : Sample), 0, 0, false⟩ : Told)]) := f28
  refine go_yes 25 rfl (f25.trans (congrArg Value.bool (show (toldJ ([(⟨(⟨3, 5⟩ : Sample), 0, 1, true⟩ : Told), (⟨(⟨4, 6⟩ : Sample), 0, 1, false⟩ : Told)])) = true from (by decide +kernel)))) (op_call Try.call9 (evs_cons (v := _) rfl evs_nil) (c_Told (w0 := w66) (v_l := _) (l := [(⟨(⟨3, 5⟩ : Sample), 0, 0, false⟩ : Told)]) (h_l := hs70)) ?_)
  rintro _ w71 ⟨rfl, hcall⟩
  refine ⟨_, rfl, ?_⟩
  exact kD hj67 hcall rfl
 ·rintro ρ72 w73 hj74 ⟨f29, f25, _⟩
  have hst := hj74.2
  exact go_yes 25 rfl (f25.trans (congrArg Value.bool (show (toldJ ([(⟨(⟨3, 5⟩ : Sample), 0, 1, true⟩ : Told), (⟨(⟨4, 6⟩ : Sample), 0, 1, false⟩ : Told)])) = true from (by decide +kernel)))) (op_not (b := (toldJ ([(⟨(⟨3, 5⟩ : Sample), 0, 0, false⟩ : Told)]))) f29 (kS hj74 rfl))
 ·rintro ρ75 w76 hj77 ⟨f25, f30, _⟩
  have hst := hj77.2
  exact go_plain (op_pick_t (.bool (!(toldJ ([(⟨(⟨3, 5⟩ : Sample), 0, 0, false⟩ : Told)])))) (f25.trans (congrArg Value.bool (show (toldJ ([(⟨(⟨3, 5⟩ : Sample), 0, 1, true⟩ : Told), (⟨(⟨4, 6⟩ : Sample), 0, 1, false⟩ : Told)])) = true from (by decide +kernel)))) f30 (kS hj77 rfl))
 ·rintro ρ78 w79 hj80 ⟨f31, _⟩
  have hst := hj80.2
  exact go_plain (op_move (.bool (!(toldJ ([(⟨(⟨3, 5⟩ : Sample), 0, 0, false⟩ : Told)])))) f31 (kS hj80 rfl))
 ·rintro ρ81 w82 hj83 ⟨f3, f32, _⟩
  have hst := hj83.2
  exact go_yes 32 rfl (f32.trans (congrArg Value.bool (congrArg (! ·) (show (toldJ ([(⟨(⟨3, 5⟩ : Sample), 0, 0, false⟩ : Told)])) = false from (by decide +kernel))))) (op_move v7 (f3.trans rfl) (kS hj83 rfl))
 ·rintro ρ84 w85 hj86 ⟨f1, f32, _⟩
  have hst := hj86.2
  exact go_yes 32 rfl (f32.trans (congrArg Value.bool (congrArg (! ·) (show (toldJ ([(⟨(⟨3, 5⟩ : Sample), 0, 0, false⟩ : Told)])) = false from (by decide +kernel))))) (op_loadN (cs := [(iV 3), (iV 5)]) Try.isAgg51 Try.sizeOf51 (f1.trans rfl) (Pt.of (hst.cell 4 rfl) rfl) rfl (kS hj86 rfl))
 ·rintro ρ87 w88 hj89 ⟨f34, f32, _⟩
  have hst := hj89.2
  have hst := St.start w88
  refine go_yes 32 rfl (f32.trans (congrArg Value.bool (congrArg (! ·) (show (toldJ ([(⟨(⟨3, 5⟩ : Sample), 0, 0, false⟩ : Told)])) = false from (by decide +kernel))))) (op_buildSlice (E := sampE) [(⟨3, 5⟩ : Sample)] hst Try.underlying23 Try.sizeOf51 Try.zeroValue51 (evp_cons (v := (.agg #[(iV 3), (iV 5)])) f34 evp_nil) (parts_cons rfl parts_nil) rfl (by decide) (fun v90 w91 hst => ?_))
  exact kD hj89 hst (hst.sl 0 rfl)
 ·rintro ρ92 w93 hj94 ⟨f33, f35, f32, _⟩
  have hst := hj94.2
  have hs97 : Sl w93 sampE _ ([(⟨3, 5⟩ : Sample)]) := f35
  refine go_yes 32 rfl (f32.trans (congrArg Value.bool (congrArg (! ·) (show (toldJ ([(⟨(⟨3, 5⟩ : Sample), 0, 0, false⟩ : Told)])) = false from (by decide +kernel))))) (op_call Try.call11 (evs_cons (v := v7) f33 (evs_cons (v := _) rfl evs_nil)) (c_Content (w0 := w93) (v_l := v7) (l := [(⟨(⟨3, 5⟩ : Sample), 0, 1, true⟩ : Told), (⟨(⟨4, 6⟩ : Sample), 0, 1, false⟩ : Told)]) (h_l := (hst.sl 2 rfl)) (v_h := _) (h := [(⟨3, 5⟩ : Sample)]) (h_h := hs97) (hho := (by decide))) ?_)
  rintro _ w98 ⟨rfl, hcall⟩
  refine ⟨_, rfl, ?_⟩
  exact kD hj94 hcall rfl
 ·rintro ρ99 w100 hj101 ⟨f36, f32, _⟩
  have hst := hj101.2
  exact go_yes 32 rfl (f32.trans (congrArg Value.bool (congrArg (! ·) (show (toldJ ([(⟨(⟨3, 5⟩ : Sample), 0, 0, false⟩ : Told)])) = false from (by decide +kernel))))) (op_eql (k := .i64) (a := (contentC ([(⟨(⟨3, 5⟩ : Sample), 0, 1, true⟩ : Told), (⟨(⟨4, 6⟩ : Sample), 0, 1, false⟩ : Told)]) ([(⟨3, 5⟩ : Sample)]))) (b := 0) f36 rfl (kS hj101 rfl))
 ·rintro ρ102 w103 hj104 ⟨f32, f37, _⟩
  have hst := hj104.2
  exact go_plain (op_pick_t (.bool (decide ((contentC ([(⟨(⟨3, 5⟩ : Sample), 0, 1, true⟩ : Told), (⟨(⟨4, 6⟩ : Sample), 0, 1, false⟩ : Told)]) ([(⟨3, 5⟩ : Sample)])) = 0))) (f32.trans (congrArg Value.bool (congrArg (! ·) (show (toldJ ([(⟨(⟨3, 5⟩ : Sample), 0, 0, false⟩ : Told)])) = false from (by decide +kernel))))) f37 (kS hj104 rfl))
 ·rintro ρ105 w106 hj107 ⟨f38, _⟩
  have hst := hj107.2
  exact go_plain (op_move (.bool (decide ((contentC ([(⟨(⟨3, 5⟩ : Sample), 0, 1, true⟩ : Told), (⟨(⟨4, 6⟩ : Sample), 0, 1, false⟩ : Told)]) ([(⟨3, 5⟩ : Sample)])) = 0))) f38 (kS hj107 rfl))
 ·rintro ρ108 w109 hj110 ⟨f3, f39, _⟩
  have hst := hj110.2
  exact go_yes 39 rfl (f39.trans (congrArg Value.bool (show (decide ((contentC ([(⟨(⟨3, 5⟩ : Sample), 0, 1, true⟩ : Told), (⟨(⟨4, 6⟩ : Sample), 0, 1, false⟩ : Told)]) ([(⟨3, 5⟩ : Sample)])) = 0)) = true from (by decide +kernel)))) (op_move v7 (f3.trans rfl) (kS hj110 rfl))
 ·rintro ρ111 w112 hj113 ⟨f2, f39, _⟩
  have hst := hj113.2
  exact go_yes 39 rfl (f39.trans (congrArg Value.bool (show (decide ((contentC ([(⟨(⟨3, 5⟩ : Sample), 0, 1, true⟩ : Told), (⟨(⟨4, 6⟩ : Sample), 0, 1, false⟩ : Told)]) ([(⟨3, 5⟩ : Sample)])) = 0)) = true from (by decide +kernel)))) (op_loadN (cs := [(iV 4), (iV 6)]) Try.isAgg51 Try.sizeOf51 (f2.trans rfl) (Pt.of (hst.cell 3 rfl) rfl) rfl (kS hj113 rfl))
 ·rintro ρ114 w115 hj116 ⟨f41, f39, _⟩
  have hst := hj116.2
  have hst := St.start w115
  refine go_yes 39 rfl (f39.trans (congrArg Value.bool (show (decide ((contentC ([(⟨(⟨3, 5⟩ : Sample), 0, 1, true⟩ : Told), (⟨(⟨4, 6⟩ : Sample), 0, 1, false⟩ : Told)]) ([(⟨3, 5⟩ : Sample)])) = 0)) = true from (by decide +kernel)))) (op_buildSlice (E := sampE) [(⟨4, 6⟩ : Sample)] hst Try.underlying23 Try.sizeOf51 Try.zeroValue51 (evp_cons (v := (.agg #[(iV 4), (iV 6)])) f41 evp_nil) (parts_cons rfl parts_nil) rfl (by decide) (fun v117 w118 hst => ?_))
  exact kD hj116 hst (hst.sl 0 rfl)
 ·rintro ρ119 w120 hj121 ⟨f40, f42, f39, _⟩
  have hst := hj121.2
  have hs124 : Sl w120 sampE _ ([(⟨4, 6⟩ : Sample)]) := f42
  refine go_yes 39 rfl (f39.trans (congrArg Value.bool (show (decide ((contentC ([(⟨(⟨3, 5⟩ : Sample), 0, 1, true⟩ : Told), (⟨(⟨4, 6⟩ : Sample), 0, 1, false⟩ : Told)]) ([(⟨3, 5⟩ : Sample)])) = 0)) = true from (by decide +kernel)))) (op_call Try.call11 (evs_cons (v := v7) f40 (evs_cons (v := _) rfl evs_nil)) (c_Content (w0 := w120) (v_l := v7) (l := [(⟨(⟨3, 5⟩ : Sample), 0, 1, true⟩ : Told), (⟨(⟨4, 6⟩ : Sample), 0, 1, false⟩ : Told)]) (h_l := (hst.sl 2 rfl)) (v_h := _) (h := [(⟨4, 6⟩ : Sample)]) (h_h := hs124) (hho := (by decide))) ?_)
  rintro _ w125 ⟨rfl, hcall⟩
  refine ⟨_, rfl, ?_⟩
  exact kD hj121 hcall rfl
 ·rintro ρ126 w127 hj128 ⟨f43, f39, _⟩
  have hst := hj128.2
  exact go_yes 39 rfl (f39.trans (congrArg Value.bool (show (decide ((contentC ([(⟨(⟨3, 5⟩ : Sample), 0, 1, true⟩ : Told), (⟨(⟨4, 6⟩ : Sample), 0, 1, false⟩ : Told)]) ([(⟨3, 5⟩ : Sample)])) = 0)) = true from (by decide +kernel)))) (op_eql (k := .i64) (a := (contentC ([(⟨(⟨3, 5⟩ : Sample), 0, 1, true⟩ : Told), (⟨(⟨4, 6⟩ : Sample), 0, 1, false⟩ : Told)]) ([(⟨4, 6⟩ : Sample)]))) (b := 3) f43 rfl (kS hj128 rfl))
 ·rintro ρ129 w130 hj131 ⟨f39, f44, _⟩
  have hst := hj131.2
  exact go_plain (op_pick_t (.bool (decide ((contentC ([(⟨(⟨3, 5⟩ : Sample), 0, 1, true⟩ : Told), (⟨(⟨4, 6⟩ : Sample), 0, 1, false⟩ : Told)]) ([(⟨4, 6⟩ : Sample)])) = 3))) (f39.trans (congrArg Value.bool (show (decide ((contentC ([(⟨(⟨3, 5⟩ : Sample), 0, 1, true⟩ : Told), (⟨(⟨4, 6⟩ : Sample), 0, 1, false⟩ : Told)]) ([(⟨3, 5⟩ : Sample)])) = 0)) = true from (by decide +kernel)))) f44 (kS hj131 rfl))
 ·rintro ρ132 w133 hj134 ⟨f45, _⟩
  have hst := hj134.2
  exact go_plain (op_move (.bool (decide ((contentC ([(⟨(⟨3, 5⟩ : Sample), 0, 1, true⟩ : Told), (⟨(⟨4, 6⟩ : Sample), 0, 1, false⟩ : Told)]) ([(⟨4, 6⟩ : Sample)])) = 3))) f45 (kS hj134 rfl))
 ·rintro ρ135 w136 hj137 ⟨f3, f46, _⟩
  have hst := hj137.2
  exact go_yes 46 rfl (f46.trans (congrArg Value.bool (show (decide ((contentC ([(⟨(⟨3, 5⟩ : Sample), 0, 1, true⟩ : Told), (⟨(⟨4, 6⟩ : Sample), 0, 1, false⟩ : Told)]) ([(⟨4, 6⟩ : Sample)])) = 3)) = true from (by decide +kernel)))) (op_move v7 (f3.trans rfl) (kS hj137 rfl))
 ·rintro ρ138 w139 hj140 ⟨f1, f46, _⟩
  have hst := hj140.2
  exact go_yes 46 rfl (f46.trans (congrArg Value.bool (show (decide ((contentC ([(⟨(⟨3, 5⟩ : Sample), 0, 1, true⟩ : Told), (⟨(⟨4, 6⟩ : Sample), 0, 1, false⟩ : Told)]) ([(⟨4, 6⟩ : Sample)])) = 3)) = true from (by decide +kernel)))) (op_loadN (cs := [(iV 3), (iV 5)]) Try.isAgg51 Try.sizeOf51 (f1.trans rfl) (Pt.of (hst.cell 4 rfl) rfl) rfl (kS hj140 rfl))
 ·rintro ρ141 w142 hj143 ⟨f46, _⟩
  have hst := hj143.2
  exact go_yes 46 rfl (f46.trans (congrArg Value.bool (show (decide ((contentC ([(⟨(⟨3, 5⟩ : Sample), 0, 1, true⟩ : Told), (⟨(⟨4, 6⟩ : Sample), 0, 1, false⟩ : Told)]) ([(⟨4, 6⟩ : Sample)])) = 3)) = true from (by decide +kernel)))) (op_build (r := (.agg #[(iV 9), (iV 0)])) (evp_cons (v := (iV 9)) rfl evp_nil) (by simp [Instr.build, Instr.fill, Value.cells, Try.runUnderlying51, Try.zeroValue51]) (kS hj143 rfl))
 ·rintro ρ144 w145 hj146 ⟨f48, f49, f46, _⟩
  have hst := hj146.2
  have hst := St.start w145
  refine go_yes 46 rfl (f46.trans (congrArg Value.bool (show (decide ((contentC ([(⟨(⟨3, 5⟩ : Sample), 0, 1, true⟩ : Told), (⟨(⟨4, 6⟩ : Sample), 0, 1, false⟩ : Told)]) ([(⟨4, 6⟩ : Sample)])) = 3)) = true from (by decide +kernel)))) (op_buildSlice (E := sampE) [(⟨3, 5⟩ : Sample), (⟨9, 0⟩ : Sample)] hst Try.underlying23 Try.sizeOf51 Try.zeroValue51 (evp_cons (v := (.agg #[(iV 3), (iV 5)])) f48 (evp_cons (v := (.agg #[(iV 9), (iV 0)])) f49 evp_nil)) (parts_cons rfl (parts_cons rfl parts_nil)) rfl (by decide) (fun v147 w148 hst => ?_))
  exact kD hj146 hst (hst.sl 0 rfl)
 ·rintro ρ149 w150 hj151 ⟨f47, f50, f46, _⟩
  have hst := hj151.2
  have hs154 : Sl w150 sampE _ ([(⟨3, 5⟩ : Sample), (⟨9, 0⟩ : Sample)]) := f50
  refine go_yes 46 rfl (f46.trans (congrArg Value.bool (show (decide ((contentC ([(⟨(⟨3, 5⟩ : Sample), 0, 1, true⟩ : Told), (⟨(⟨4, 6⟩ : Sample), 0, 1, false⟩ : Told)]) ([(⟨4, 6⟩ : Sample)])) = 3)) = true from (by decide +kernel)))) (op_call Try.call11 (evs_cons (v := v7) f47 (evs_cons (v := _) rfl evs_nil)) (c_Content (w0 := w150) (v_l := v7) (l := [(⟨(⟨3, 5⟩ : Sample), 0, 1, true⟩ : Told), (⟨(⟨4, 6⟩ : Sample), 0, 1, false⟩ : Told)]) (h_l := (hst.sl 2 rfl)) (v_h := _) (h := [(⟨3, 5⟩ : Sample), (⟨9, 0⟩ : Sample)]) (h_h := hs154) (hho := (by decide))) ?_)
  rintro _ w155 ⟨rfl, hcall⟩
  refine ⟨_, rfl, ?_⟩
  exact kD hj151 hcall rfl
 ·rintro ρ156 w157 hj158 ⟨f51, f46, _⟩
  have hst := hj158.2
  exact go_yes 46 rfl (f46.trans (congrArg Value.bool (show (decide ((contentC ([(⟨(⟨3, 5⟩ : Sample), 0, 1, true⟩ : Told), (⟨(⟨4, 6⟩ : Sample), 0, 1, false⟩ : Told)]) ([(⟨4, 6⟩ : Sample)])) = 3)) = true from (by decide +kernel)))) (op_eql (k := .i64) (a := (contentC ([(⟨(⟨3, 5⟩ : Sample), 0, 1, true⟩ : Told), (⟨(⟨4, 6⟩ : Sample), 0, 1, false⟩ : Told)]) ([(⟨3, 5⟩ : Sample), (⟨9, 0⟩ : Sample)]))) (b := 2) f51 rfl (kS hj158 rfl))
 ·rintro ρ159 w160 hj161 ⟨f46, f52, _⟩
  have hst := hj161.2
  exact go_plain (op_pick_t (.bool (decide ((contentC ([(⟨(⟨3, 5⟩ : Sample), 0, 1, true⟩ : Told), (⟨(⟨4, 6⟩ : Sample), 0, 1, false⟩ : Told)]) ([(⟨3, 5⟩ : Sample), (⟨9, 0⟩ : Sample)])) = 2))) (f46.trans (congrArg Value.bool (show (decide ((contentC ([(⟨(⟨3, 5⟩ : Sample), 0, 1, true⟩ : Told), (⟨(⟨4, 6⟩ : Sample), 0, 1, false⟩ : Told)]) ([(⟨4, 6⟩ : Sample)])) = 3)) = true from (by decide +kernel)))) f52 (kS hj161 rfl))
 ·rintro ρ162 w163 hj164 ⟨f53, _⟩
  have hst := hj164.2
  exact go_plain (op_move (.bool (decide ((contentC ([(⟨(⟨3, 5⟩ : Sample), 0, 1, true⟩ : Told), (⟨(⟨4, 6⟩ : Sample), 0, 1, false⟩ : Told)]) ([(⟨3, 5⟩ : Sample), (⟨9, 0⟩ : Sample)])) = 2))) f53 (kS hj164 rfl))
 ·rintro ρ165 w166 hj167 ⟨f2, f54, _⟩
  have hst := hj167.2
  exact go_yes 54 rfl (f54.trans (congrArg Value.bool (show (decide ((contentC ([(⟨(⟨3, 5⟩ : Sample), 0, 1, true⟩ : Told), (⟨(⟨4, 6⟩ : Sample), 0, 1, false⟩ : Told)]) ([(⟨3, 5⟩ : Sample), (⟨9, 0⟩ : Sample)])) = 2)) = true from (by decide +kernel)))) (op_loadN (cs := [(iV 4), (iV 6)]) Try.isAgg51 Try.sizeOf51 (f2.trans rfl) (Pt.of (hst.cell 3 rfl) rfl) rfl (kS hj167 rfl))
 ·rintro ρ168 w169 hj170 ⟨f1, f54, _⟩
  have hst := hj170.2
  exact go_yes 54 rfl (f54.trans (congrArg Value.bool (show (decide ((contentC ([(⟨(⟨3, 5⟩ : Sample), 0, 1, true⟩ : Told), (⟨(⟨4, 6⟩ : Sample), 0, 1, false⟩ : Told)]) ([(⟨3, 5⟩ : Sample), (⟨9, 0⟩ : Sample)])) = 2)) = true from (by decide +kernel)))) (op_loadN (cs := [(iV 3), (iV 5)]) Try.isAgg51 Try.sizeOf51 (f1.trans rfl) (Pt.of (hst.cell 4 rfl) rfl) rfl (kS hj170 rfl))
 ·rintro ρ171 w172 hj173 ⟨f55, f56, f54, _⟩
  have hst := hj173.2
  have hst := St.start w172
  refine go_yes 54 rfl (f54.trans (congrArg Value.bool (show (decide ((contentC ([(⟨(⟨3, 5⟩ : Sample), 0, 1, true⟩ : Told), (⟨(⟨4, 6⟩ : Sample), 0, 1, false⟩ : Told)]) ([(⟨3, 5⟩ : Sample), (⟨9, 0⟩ : Sample)])) = 2)) = true from (by decide +kernel)))) (op_buildSlice (E := sampE) [(⟨4, 6⟩ : Sample), (⟨3, 5⟩ : Sample)] hst Try.underlying23 Try.sizeOf51 Try.zeroValue51 (evp_cons (v := (.agg #[(iV 4), (iV 6)])) f55 (evp_cons (v := (.agg #[(iV 3), (iV 5)])) f56 evp_nil)) (parts_cons rfl (parts_cons rfl parts_nil)) rfl (by decide) (fun v174 w175 hst => ?_))
  exact kD hj173 hst (hst.sl 0 rfl)
 ·rintro ρ176 w177 hj178 ⟨f57, f54, _⟩
  have hst := hj178.2
  have hs181 : Sl w177 sampE _ ([(⟨4, 6⟩ : Sample), (⟨3, 5⟩ : Sample)]) := f57
  refine go_yes 54 rfl (f54.trans (congrArg Value.bool (show (decide ((contentC ([(⟨(⟨3, 5⟩ : Sample), 0, 1, true⟩ : Told), (⟨(⟨4, 6⟩ : Sample), 0, 1, false⟩ : Told)]) ([(⟨3, 5⟩ : Sample), (⟨9, 0⟩ : Sample)])) = 2)) = true from (by decide +kernel)))) (op_call Try.call11 (evs_cons (v := nS) rfl (evs_cons (v := _) rfl evs_nil)) (c_Content (w0 := w177) (v_l := nS) (l := []) (h_l := (Sl.nil toldE _)) (v_h := _) (h := [(⟨4, 6⟩ : Sample), (⟨3, 5⟩ : Sample)]) (h_h := hs181) (hho := (by decide))) ?_)
  rintro _ w182 ⟨rfl, hcall⟩
  refine ⟨_, rfl, ?_⟩
  exact kD hj178 hcall rfl
 ·rintro ρ183 w184 hj185 ⟨f58, f54, _⟩
  have hst := hj185.2
  exact go_yes 54 rfl (f54.trans (congrArg Value.bool (show (decide ((contentC ([(⟨(⟨3, 5⟩ : Sample), 0, 1, true⟩ : Told), (⟨(⟨4, 6⟩ : Sample), 0, 1, false⟩ : Told)]) ([(⟨3, 5⟩ : Sample), (⟨9, 0⟩ : Sample)])) = 2)) = true from (by decide +kernel)))) (op_eql (k := .i64) (a := (contentC ([]) ([(⟨4, 6⟩ : Sample), (⟨3, 5⟩ : Sample)]))) (b := 1) f58 rfl (kS hj185 rfl))
 ·rintro ρ186 w187 hj188 ⟨f54, f59, _⟩
  have hst := hj188.2
  exact go_plain (op_pick_t (.bool (decide ((contentC ([]) ([(⟨4, 6⟩ : Sample), (⟨3, 5⟩ : Sample)])) = 1))) (f54.trans (congrArg Value.bool (show (decide ((contentC ([(⟨(⟨3, 5⟩ : Sample), 0, 1, true⟩ : Told), (⟨(⟨4, 6⟩ : Sample), 0, 1, false⟩ : Told)]) ([(⟨3, 5⟩ : Sample), (⟨9, 0⟩ : Sample)])) = 2)) = true from (by decide +kernel)))) f59 (kS hj188 rfl))
 ·rintro ρ189 w190 hj191 ⟨f60, _⟩
  have hst := hj191.2
  exact go_plain (op_move (.bool (decide ((contentC ([]) ([(⟨4, 6⟩ : Sample), (⟨3, 5⟩ : Sample)])) = 1))) f60 (kS hj191 rfl))
 ·rintro ρ192 w193 hj194 ⟨f1, f61, _⟩
  have hst := hj194.2
  exact go_yes 61 rfl (f61.trans (congrArg Value.bool (show (decide ((contentC ([]) ([(⟨4, 6⟩ : Sample), (⟨3, 5⟩ : Sample)])) = 1)) = true from (by decide +kernel)))) (op_loadN (cs := [(iV 3), (iV 5)]) Try.isAgg51 Try.sizeOf51 (f1.trans rfl) (Pt.of (hst.cell 4 rfl) rfl) rfl (kS hj194 rfl))
 ·rintro ρ195 w196 hj197 ⟨f2, f61, _⟩
  have hst := hj197.2
  exact go_yes 61 rfl (f61.trans (congrArg Value.bool (show (decide ((contentC ([]) ([(⟨4, 6⟩ : Sample), (⟨3, 5⟩ : Sample)])) = 1)) = true from (by decide +kernel)))) (op_loadN (cs := [(iV 4), (iV 6)]) Try.isAgg51 Try.sizeOf51 (f2.trans rfl) (Pt.of (hst.cell 3 rfl) rfl) rfl (kS hj197 rfl))
 ·rintro ρ198 w199 hj200 ⟨f62, f63, f61, _⟩
  have hst := hj200.2
  have hst := St.start w199
  refine go_yes 61 rfl (f61.trans (congrArg Value.bool (show (decide ((contentC ([]) ([(⟨4, 6⟩ : Sample), (⟨3, 5⟩ : Sample)])) = 1)) = true from (by decide +kernel)))) (op_buildSlice (E := sampE) [(⟨3, 5⟩ : Sample), (⟨4, 6⟩ : Sample)] hst Try.underlying23 Try.sizeOf51 Try.zeroValue51 (evp_cons (v := (.agg #[(iV 3), (iV 5)])) f62 (evp_cons (v := (.agg #[(iV 4), (iV 6)])) f63 evp_nil)) (parts_cons rfl (parts_cons rfl parts_nil)) rfl (by decide) (fun v201 w202 hst => ?_))
  exact kD hj200 hst (hst.sl 0 rfl)
 ·rintro ρ203 w204 hj205 ⟨f4, f61, _⟩
  have hst := hj205.2
  exact go_yes 61 rfl (f61.trans (congrArg Value.bool (show (decide ((contentC ([]) ([(⟨4, 6⟩ : Sample), (⟨3, 5⟩ : Sample)])) = 1)) = true from (by decide +kernel)))) (op_move r11 (f4.trans rfl) (kS hj205 rfl))
 ·rintro ρ206 w207 hj208 ⟨f64, f65, f61, _⟩
  have hst := hj208.2
  have hs211 : Sl w207 sampE _ ([(⟨3, 5⟩ : Sample), (⟨4, 6⟩ : Sample)]) := f64
  refine go_yes 61 rfl (f61.trans (congrArg Value.bool (show (decide ((contentC ([]) ([(⟨4, 6⟩ : Sample), (⟨3, 5⟩ : Sample)])) = 1)) = true from (by decide +kernel)))) (op_call Try.call13 (evs_cons (v := _) rfl (evs_cons (v := r11) f65 (evs_cons (v := (iV 0)) rfl (evs_cons (v := (iV 9)) rfl evs_nil)))) (c_Answer (w0 := w207) (v_h := _) (h := [(⟨3, 5⟩ : Sample), (⟨4, 6⟩ : Sample)]) (h_h := hs211) (v_ws := r11) (ws := t23W) (h_ws := (hst.sl 0 rfl)) (fr := 0) (to := 9) (hho := (by decide)) (hwo := t23_ok) (hhl := (by decide)) (fr0 := (by omega)) (to0 := (by omega)) (fr1 := (by omega)) (to1 := (by omega))) ?_)
  rintro _ w212 ⟨rfl, hcall⟩
  refine ⟨_, rfl, ?_⟩
  exact kD hj208 hcall rfl
 ·rintro ρ213 w214 hj215 ⟨f66, f61, _⟩
  have hst := hj215.2
  exact go_yes 61 rfl (f61.trans (congrArg Value.bool (show (decide ((contentC ([]) ([(⟨4, 6⟩ : Sample), (⟨3, 5⟩ : Sample)])) = 1)) = true from (by decide +kernel)))) (op_eql (k := .i64) (a := (answerC ([(⟨3, 5⟩ : Sample), (⟨4, 6⟩ : Sample)]) t23W 0 9)) (b := 0) f66 rfl (kS hj215 rfl))
 ·rintro ρ216 w217 hj218 ⟨f61, f67, _⟩
  have hst := hj218.2
  exact go_plain (op_pick_t (.bool (decide ((answerC ([(⟨3, 5⟩ : Sample), (⟨4, 6⟩ : Sample)]) t23W 0 9) = 0))) (f61.trans (congrArg Value.bool (show (decide ((contentC ([]) ([(⟨4, 6⟩ : Sample), (⟨3, 5⟩ : Sample)])) = 1)) = true from (by decide +kernel)))) f67 (kS hj218 rfl))
 ·rintro ρ219 w220 hj221 ⟨f68, _⟩
  have hst := hj221.2
  exact go_plain (op_move (.bool (decide ((answerC ([(⟨3, 5⟩ : Sample), (⟨4, 6⟩ : Sample)]) t23W 0 9) = 0))) f68 (kS hj221 rfl))
 ·rintro ρ222 w223 hj224 ⟨f1, f69, _⟩
  have hst := hj224.2
  exact go_yes 69 rfl (f69.trans (congrArg Value.bool (show (decide ((answerC ([(⟨3, 5⟩ : Sample), (⟨4, 6⟩ : Sample)]) t23W 0 9) = 0)) = true from (by decide +kernel)))) (op_loadN (cs := [(iV 3), (iV 5)]) Try.isAgg51 Try.sizeOf51 (f1.trans rfl) (Pt.of (hst.cell 4 rfl) rfl) rfl (kS hj224 rfl))
 ·rintro ρ225 w226 hj227 ⟨f2, f69, _⟩
  have hst := hj227.2
  exact go_yes 69 rfl (f69.trans (congrArg Value.bool (show (decide ((answerC ([(⟨3, 5⟩ : Sample), (⟨4, 6⟩ : Sample)]) t23W 0 9) = 0)) = true from (by decide +kernel)))) (op_loadN (cs := [(iV 4), (iV 6)]) Try.isAgg51 Try.sizeOf51 (f2.trans rfl) (Pt.of (hst.cell 3 rfl) rfl) rfl (kS hj227 rfl))
 ·rintro ρ228 w229 hj230 ⟨f70, f71, f69, _⟩
  have hst := hj230.2
  have hst := St.start w229
  refine go_yes 69 rfl (f69.trans (congrArg Value.bool (show (decide ((answerC ([(⟨3, 5⟩ : Sample), (⟨4, 6⟩ : Sample)]) t23W 0 9) = 0)) = true from (by decide +kernel)))) (op_buildSlice (E := sampE) [(⟨3, 5⟩ : Sample), (⟨4, 6⟩ : Sample)] hst Try.underlying23 Try.sizeOf51 Try.zeroValue51 (evp_cons (v := (.agg #[(iV 3), (iV 5)])) f70 (evp_cons (v := (.agg #[(iV 4), (iV 6)])) f71 evp_nil)) (parts_cons rfl (parts_cons rfl parts_nil)) rfl (by decide) (fun v231 w232 hst => ?_))
  exact kD hj230 hst (hst.sl 0 rfl)
 ·rintro ρ233 w234 hj235 ⟨f4, f69, _⟩
  have hst := hj235.2
  exact go_yes 69 rfl (f69.trans (congrArg Value.bool (show (decide ((answerC ([(⟨3, 5⟩ : Sample), (⟨4, 6⟩ : Sample)]) t23W 0 9) = 0)) = true from (by decide +kernel)))) (op_move r11 (f4.trans rfl) (kS hj235 rfl))
 ·rintro ρ236 w237 hj238 ⟨f73, f69, _⟩
  have hst := hj238.2
  refine go_yes 69 rfl (f69.trans (congrArg Value.bool (show (decide ((answerC ([(⟨3, 5⟩ : Sample), (⟨4, 6⟩ : Sample)]) t23W 0 9) = 0)) = true from (by decide +kernel)))) (op_slice_toN 1 (E := winE) (xs := t23W) Try.underlying27 Try.sizeOf33 f73 (hst.sl 0 rfl) rfl (by omega) (by decide +kernel) (fun v239 hs240 => ?_))
  exact kS hj238 hs240
 ·rintro ρ241 w242 hj243 ⟨f72, f74, f69, _⟩
  have hst := hj243.2
  have hs246 : Sl w242 sampE _ ([(⟨3, 5⟩ : Sample), (⟨4, 6⟩ : Sample)]) := f72
  have hs249 : Sl w242 winE _ (t23W.take 1) := f74
  refine go_yes 69 rfl (f69.trans (congrArg Value.bool (show (decide ((answerC ([(⟨3, 5⟩ : Sample), (⟨4, 6⟩ : Sample)]) t23W 0 9) = 0)) = true from (by decide +kernel)))) (op_call Try.call13 (evs_cons (v := _) rfl (evs_cons (v := _) rfl (evs_cons (v := (iV 0)) rfl (evs_cons (v := (iV 9)) rfl evs_nil)))) (c_Answer (w0 := w242) (v_h := _) (h := [(⟨3, 5⟩ : Sample), (⟨4, 6⟩ : Sample)]) (h_h := hs246) (v_ws := _) (ws := (t23W.take 1)) (h_ws := hs249) (fr := 0) (to := 9) (hho := (by decide)) (hwo := t23_ok1) (hhl := (by decide)) (fr0 := (by omega)) (to0 := (by omega)) (fr1 := (by omega)) (to1 := (by omega))) ?_)
  rintro _ w250 ⟨rfl, hcall⟩
  refine ⟨_, rfl, ?_⟩
  exact kD hj243 hcall rfl
 ·rintro ρ251 w252 hj253 ⟨f75, f69, _⟩
  have hst := hj253.2
  exact go_yes 69 rfl (f69.trans (congrArg Value.bool (show (decide ((answerC ([(⟨3, 5⟩ : Sample), (⟨4, 6⟩ : Sample)]) t23W 0 9) = 0)) = true from (by decide +kernel)))) (op_eql (k := .i64) (a := (answerC ([(⟨3, 5⟩ : Sample), (⟨4, 6⟩ : Sample)]) (t23W.take 1) 0 9)) (b := 3) f75 rfl (kS hj253 rfl))
 ·rintro ρ254 w255 hj256 ⟨f69, f76, _⟩
  have hst := hj256.2
  exact go_plain (op_pick_t (.bool (decide ((answerC ([(⟨3, 5⟩ : Sample), (⟨4, 6⟩ : Sample)]) (t23W.take 1) 0 9) = 3))) (f69.trans (congrArg Value.bool (show (decide ((answerC ([(⟨3, 5⟩ : Sample), (⟨4, 6⟩ : Sample)]) t23W 0 9) = 0)) = true from (by decide +kernel)))) f76 (kS hj256 rfl))
 ·rintro ρ257 w258 hj259 ⟨f77, _⟩
  have hst := hj259.2
  exact go_plain (op_move (.bool (decide ((answerC ([(⟨3, 5⟩ : Sample), (⟨4, 6⟩ : Sample)]) (t23W.take 1) 0 9) = 3))) f77 (kS hj259 rfl))
 ·rintro ρ260 w261 hj262 ⟨f1, f78, _⟩
  have hst := hj262.2
  exact go_yes 78 rfl (f78.trans (congrArg Value.bool (show (decide ((answerC ([(⟨3, 5⟩ : Sample), (⟨4, 6⟩ : Sample)]) (t23W.take 1) 0 9) = 3)) = true from (by decide +kernel)))) (op_loadN (cs := [(iV 3), (iV 5)]) Try.isAgg51 Try.sizeOf51 (f1.trans rfl) (Pt.of (hst.cell 4 rfl) rfl) rfl (kS hj262 rfl))
 ·rintro ρ263 w264 hj265 ⟨f79, f78, _⟩
  have hst := hj265.2
  have hst := St.start w264
  refine go_yes 78 rfl (f78.trans (congrArg Value.bool (show (decide ((answerC ([(⟨3, 5⟩ : Sample), (⟨4, 6⟩ : Sample)]) (t23W.take 1) 0 9) = 3)) = true from (by decide +kernel)))) (op_buildSlice (E := sampE) [(⟨3, 5⟩ : Sample)] hst Try.underlying23 Try.sizeOf51 Try.zeroValue51 (evp_cons (v := (.agg #[(iV 3), (iV 5)])) f79 evp_nil) (parts_cons rfl parts_nil) rfl (by decide) (fun v266 w267 hst => ?_))
  exact kD hj265 hst (hst.sl 0 rfl)
 ·rintro ρ268 w269 hj270 ⟨f4, f78, _⟩
  have hst := hj270.2
  exact go_yes 78 rfl (f78.trans (congrArg Value.bool (show (decide ((answerC ([(⟨3, 5⟩ : Sample), (⟨4, 6⟩ : Sample)]) (t23W.take 1) 0 9) = 3)) = true from (by decide +kernel)))) (op_move r11 (f4.trans rfl) (kS hj270 rfl))
 ·rintro ρ271 w272 hj273 ⟨f80, f81, f78, _⟩
  have hst := hj273.2
  have hs276 : Sl w272 sampE _ ([(⟨3, 5⟩ : Sample)]) := f80
  refine go_yes 78 rfl (f78.trans (congrArg Value.bool (show (decide ((answerC ([(⟨3, 5⟩ : Sample), (⟨4, 6⟩ : Sample)]) (t23W.take 1) 0 9) = 3)) = true from (by decide +kernel)))) (op_call Try.call13 (evs_cons (v := _) rfl (evs_cons (v := r11) f81 (evs_cons (v := (iV 0)) rfl (evs_cons (v := (iV 9)) rfl evs_nil)))) (c_Answer (w0 := w272) (v_h := _) (h := [(⟨3, 5⟩ : Sample)]) (h_h := hs276) (v_ws := r11) (ws := t23W) (h_ws := (hst.sl 0 rfl)) (fr := 0) (to := 9) (hho := (by decide)) (hwo := t23_ok) (hhl := (by decide)) (fr0 := (by omega)) (to0 := (by omega)) (fr1 := (by omega)) (to1 := (by omega))) ?_)
  rintro _ w277 ⟨rfl, hcall⟩
  refine ⟨_, rfl, ?_⟩
  exact kD hj273 hcall rfl
 ·rintro ρ278 w279 hj280 ⟨f82, f78, _⟩
  have hst := hj280.2
  exact go_yes 78 rfl (f78.trans (congrArg Value.bool (show (decide ((answerC ([(⟨3, 5⟩ : Sample), (⟨4, 6⟩ : Sample)]) (t23W.take 1) 0 9) = 3)) = true from (by decide +kernel)))) (op_eql (k := .i64) (a := (answerC ([(⟨3, 5⟩ : Sample)]) t23W 0 9)) (b := 4) f82 rfl (kS hj280 rfl))
 ·rintro ρ281 w282 hj283 ⟨f78, f83, _⟩
  have hst := hj283.2
  exact go_plain (op_pick_t (.bool (decide ((answerC ([(⟨3, 5⟩ : Sample)]) t23W 0 9) = 4))) (f78.trans (congrArg Value.bool (show (decide ((answerC ([(⟨3, 5⟩ : Sample), (⟨4, 6⟩ : Sample)]) (t23W.take 1) 0 9) = 3)) = true from (by decide +kernel)))) f83 (kS hj283 rfl))
 ·rintro ρ284 w285 hj286 ⟨f84, _⟩
  have hst := hj286.2
  exact go_plain (op_move (.bool (decide ((answerC ([(⟨3, 5⟩ : Sample)]) t23W 0 9) = 4))) f84 (kS hj286 rfl))
 ·rintro ρ287 w288 hj289 ⟨f85, _⟩
  have hst := hj289.2
  exact go_yes 85 rfl (f85.trans (congrArg Value.bool (show (decide ((answerC ([(⟨3, 5⟩ : Sample)]) t23W 0 9) = 4)) = true from (by decide +kernel)))) (op_build (r := (.agg #[(iV 1), (iV 0)])) (evp_cons (v := (iV 1)) rfl evp_nil) (by simp [Instr.build, Instr.fill, Value.cells, Try.runUnderlying58, Try.zeroValue58]) (kS hj289 rfl))
 ·rintro ρ290 w291 hj292 ⟨f85, _⟩
  have hst := hj292.2
  exact go_yes 85 rfl (f85.trans (congrArg Value.bool (show (decide ((answerC ([(⟨3, 5⟩ : Sample)]) t23W 0 9) = 4)) = true from (by decide +kernel)))) (op_build (r := (.agg #[(iV 1), (iV 0)])) (evp_cons (v := (iV 1)) rfl evp_nil) (by simp [Instr.build, Instr.fill, Value.cells, Try.runUnderlying58, Try.zeroValue58]) (kS hj292 rfl))
 ·rintro ρ293 w294 hj295 ⟨f86, f87, f85, _⟩
  have hst := hj295.2
  have hst := St.start w294
  refine go_yes 85 rfl (f85.trans (congrArg Value.bool (show (decide ((answerC ([(⟨3, 5⟩ : Sample)]) t23W 0 9) = 4)) = true from (by decide +kernel)))) (op_buildSlice (E := grantE) [(⟨1, 0⟩ : Grant), (⟨1, 0⟩ : Grant)] hst Try.underlying25 Try.sizeOf58 Try.zeroValue58 (evp_cons (v := (.agg #[(iV 1), (iV 0)])) f86 (evp_cons (v := (.agg #[(iV 1), (iV 0)])) f87 evp_nil)) (parts_cons rfl (parts_cons rfl parts_nil)) rfl (by decide) (fun v296 w297 hst => ?_))
  exact kD hj295 hst (hst.sl 0 rfl)
 ·rintro ρ298 w299 hj300 ⟨f88, f85, _⟩
  have hst := hj300.2
  have hs303 : Sl w299 grantE _ ([(⟨1, 0⟩ : Grant), (⟨1, 0⟩ : Grant)]) := f88
  refine go_yes 85 rfl (f85.trans (congrArg Value.bool (show (decide ((answerC ([(⟨3, 5⟩ : Sample)]) t23W 0 9) = 4)) = true from (by decide +kernel)))) (op_call Try.call16 (evs_cons (v := _) rfl evs_nil) (c_Grants (w0 := w299) (v_l := _) (l := [(⟨1, 0⟩ : Grant), (⟨1, 0⟩ : Grant)]) (h_l := hs303)) ?_)
  rintro _ w304 ⟨rfl, hcall⟩
  refine ⟨_, rfl, ?_⟩
  exact kD hj300 hcall rfl
 ·rintro ρ305 w306 hj307 ⟨f89, f85, _⟩
  have hst := hj307.2
  exact go_yes 85 rfl (f85.trans (congrArg Value.bool (show (decide ((answerC ([(⟨3, 5⟩ : Sample)]) t23W 0 9) = 4)) = true from (by decide +kernel)))) (op_eql (k := .i64) (a := (grantsC ([(⟨1, 0⟩ : Grant), (⟨1, 0⟩ : Grant)]))) (b := 2) f89 rfl (kS hj307 rfl))
 ·rintro ρ308 w309 hj310 ⟨f85, f90, _⟩
  have hst := hj310.2
  exact go_plain (op_pick_t (.bool (decide ((grantsC ([(⟨1, 0⟩ : Grant), (⟨1, 0⟩ : Grant)])) = 2))) (f85.trans (congrArg Value.bool (show (decide ((answerC ([(⟨3, 5⟩ : Sample)]) t23W 0 9) = 4)) = true from (by decide +kernel)))) f90 (kS hj310 rfl))
 ·rintro ρ311 w312 hj313 ⟨f91, _⟩
  have hst := hj313.2
  exact go_plain (op_move (.bool (decide ((grantsC ([(⟨1, 0⟩ : Grant), (⟨1, 0⟩ : Grant)])) = 2))) f91 (kS hj313 rfl))
 ·rintro ρ314 w315 hj316 ⟨f92, _⟩
  have hst := hj316.2
  refine go_yes 92 rfl (f92.trans (congrArg Value.bool (show (decide ((grantsC ([(⟨1, 0⟩ : Grant), (⟨1, 0⟩ : Grant)])) = 2)) = true from (by decide +kernel)))) (op_call Try.call16 (evs_cons (v := nS) rfl evs_nil) (c_Grants (w0 := w315) (v_l := nS) (l := []) (h_l := (Sl.nil grantE _))) ?_)
  rintro _ w317 ⟨rfl, hcall⟩
  refine ⟨_, rfl, ?_⟩
  exact kD hj316 hcall rfl
 ·rintro ρ318 w319 hj320 ⟨f93, f92, _⟩
  have hst := hj320.2
  exact go_yes 92 rfl (f92.trans (congrArg Value.bool (show (decide ((grantsC ([(⟨1, 0⟩ : Grant), (⟨1, 0⟩ : Grant)])) = 2)) = true from (by decide +kernel)))) (op_eql (k := .i64) (a := (grantsC ([]))) (b := 0) f93 rfl (kS hj320 rfl))
 ·rintro ρ321 w322 hj323 ⟨f92, f94, _⟩
  have hst := hj323.2
  exact go_plain (op_pick_t (.bool (decide ((grantsC ([])) = 0))) (f92.trans (congrArg Value.bool (show (decide ((grantsC ([(⟨1, 0⟩ : Grant), (⟨1, 0⟩ : Grant)])) = 2)) = true from (by decide +kernel)))) f94 (kS hj323 rfl))
 ·rintro ρ324 w325 hj326 ⟨f95, _⟩
  have hst := hj326.2
  exact go_plain (op_assign (.bool (decide ((grantsC ([])) = 0))) f95 (kS hj326 rfl))
 intro ρ327 w328 hbw328 hst hRw328 hkw328
 have uw328_0 : ρ327 0 = (.bool (decide ((grantsC ([])) = 0))) := hRw328 73 0 rfl
 refine then_n (cE_ret (post_r _ (res1 (v := (.bool true)) (uw328_0.trans (congrArg Value.bool (show (decide ((grantsC ([])) = 0)) = true from (by decide +kernel))))) ?_))
 exact ⟨rfl, hst.bare⟩

end Go.Proofs.Ytldfnkhccaglmaa
