/- frames: twinkeepref5.C).Text -/
import Derived.Test.YtfljkaigfmedeaaW1
import Derived.Test.YtfljkaigfmedeaaW2
import Derived.Test.YtfljkaigfmedeaaW3
import Derived.Test.YtfljkaigfmedeaaFC
import Derived.Test.YtfljkaigfmedeaaW10
import Derived.Test.YtfljkaigfmedeaaW11
import Derived.Test.YtfljkaigfmedeaaW12
import Derived.Test.YtfljkaigfmedeaaW13
import Derived.Test.YtfljkaigfmedeaaW14
import Derived.Test.YtfljkaigfmedeaaW15
import Derived.Test.YtfljkaigfmedeaaW16
import Derived.Test.YtfljkaigfmedeaaW17
import Derived.Test.YtfljkaigfmedeaaW18
namespace Go.Proofs.Ytfljkaigfmedeaa
open Go.RowKit

theorem c_cText {w0 w : World} {L : List Item} (g_c : Nat) (b : List UInt8) (at_ : Int) (bad : Bool) (n : Int) (h0 : 0 ≤ at_) (h1 : at_ ≤ (b.length : Int)) (hl : b.length ≤ 1000000000) (n0 : 0 ≤ n) (n1 : n ≤ 18446744073709551615) (hst : St w0 w (.blk g_c 54 #[(.string (str b)), (.int .i64 at_), (.bool bad)] :: L)) :
    Calls Try.prog 29 #[(.pointer (some ⟨g_c, 0, none⟩)), (.int .u64 n)] w fun e w' => e = .returned (.string (str (rtx bad b at_ n))) ∧ St w0 w' (.blk g_c 54 #[(.string (str b)), (.int .i64 (rtxAt bad b at_ n)), (.bool (rtxBad bad b at_ n))] :: L) := by
  refine calls_E (n := 53) (ts := [4]) Try.func29 rfl rfl rfl (by simp) ?_
  refine cE_seq ?_
  refine cE_region rfl ?_
  refine s_cons (op_assign (.string (str ([] : List UInt8))) rfl ?_)
  refine s_nil ?_
  refine then_n ?_
  refine cE_seq ?_
  refine cE_seq ?_
  rcases Bool.eq_false_or_eq_true bad with b1 | b1
  · refine cE_regionL hst [[(0, none)], [(5, some 0)], [(6, some 1)], [(7, some 2)], [(8, some 3)], [(1, none), (9, some 4)], [(0, none), (9, some 4)], [(11, some 6), (9, some 4)], [(12, some 7), (9, some 4)], [(13, some 8), (9, some 4)], [(14, some 9), (9, some 4)], [(0, none), (9, some 4)], [(16, some 11), (9, some 4)], [(17, some 12), (9, some 4)], [(18, some 13), (9, some 4)], [(15, some 10), (19, some 14), (9, some 4)], [(20, some 15), (9, some 4)], [(10, some 5), (21, some 16), (9, some 4)], [(9, some 4), (22, some 17)]] [(rEq (.pointer (some ⟨g_c, 0, none⟩))), (rEq (.pointer (some ⟨g_c, 0, none⟩))), (rEq (.pointer (some ⟨g_c, (0 + 2), none⟩))), (rEq (.bool bad)), (rEq (.bool bad)), (rEq undef), (rEq undef), (rEq undef), (rEq undef), (rEq undef), (rEq undef), (rEq undef), (rEq undef), (rEq undef), (rEq undef), (rEq undef), (rEq undef), (rEq undef), (rEq (.bool true))] (by kernel_rfl) rfl (by kernel_rfl) ⟨sEq, sEq, sEq, sEq, sEq, sEq, sEq, sEq, sEq, sEq, sEq, sEq, sEq, sEq, sEq, sEq, sEq, sEq, sEq, trivial⟩ ⟨?_, ?_, ?_, ?_, ?_, ?_, ?_, ?_, ?_, ?_, ?_, ?_, ?_, ?_, ?_, ?_, ?_, ?_, ?_, trivial⟩ ?_
    · rintro ρ2 w3 hj4 ⟨f0, _⟩
      have hst := hj4.2
      exact go_plain (op_move (.pointer (some ⟨g_c, 0, none⟩)) (f0.trans rfl) (kS hj4 rfl))
    · rintro ρ5 w6 hj7 ⟨f5, _⟩
      have hst := hj7.2
      exact go_plain (op_nilCheck f5 (kS hj7 rfl))
    · rintro ρ8 w9 hj10 ⟨f6, _⟩
      have hst := hj10.2
      exact go_plain (op_fieldAddr (s := 0) Try.underlying54 rfl rfl Try.sizeOf4 f6 (kS hj10 rfl))
    · rintro ρ11 w12 hj13 ⟨f7, _⟩
      have hst := hj13.2
      exact go_plain (op_load1 (u := (.bool bad)) Try.isAgg4 f7 ((hst.cell 0 rfl).drop 2) (kS hj13 rfl))
    · rintro ρ14 w15 hj16 ⟨f8, _⟩
      have hst := hj16.2
      exact go_plain (op_move (.bool bad) f8 (kS hj16 rfl))
    · rintro ρ17 w18 hj19 ⟨f1, f9, _⟩
      have hst := hj19.2
      exact go_no 9 rfl (f9.trans (congrArg Value.bool b1)) (kS hj19 rfl)
    · rintro ρ20 w21 hj22 ⟨f0, f9, _⟩
      have hst := hj22.2
      exact go_no 9 rfl (f9.trans (congrArg Value.bool b1)) (kS hj22 rfl)
    · rintro ρ23 w24 hj25 ⟨f11, f9, _⟩
      have hst := hj25.2
      exact go_no 9 rfl (f9.trans (congrArg Value.bool b1)) (kS hj25 rfl)
    · rintro ρ26 w27 hj28 ⟨f12, f9, _⟩
      have hst := hj28.2
      exact go_no 9 rfl (f9.trans (congrArg Value.bool b1)) (kS hj28 rfl)
    · rintro ρ29 w30 hj31 ⟨f13, f9, _⟩
      have hst := hj31.2
      exact go_no 9 rfl (f9.trans (congrArg Value.bool b1)) (kS hj31 rfl)
    · rintro ρ32 w33 hj34 ⟨f14, f9, _⟩
      have hst := hj34.2
      exact go_no 9 rfl (f9.trans (congrArg Value.bool b1)) (kS hj34 rfl)
    · rintro ρ35 w36 hj37 ⟨f0, f9, _⟩
      have hst := hj37.2
      exact go_no 9 rfl (f9.trans (congrArg Value.bool b1)) (kS hj37 rfl)
    · rintro ρ38 w39 hj40 ⟨f16, f9, _⟩
      have hst := hj40.2
      exact go_no 9 rfl (f9.trans (congrArg Value.bool b1)) (kS hj40 rfl)
    · rintro ρ41 w42 hj43 ⟨f17, f9, _⟩
      have hst := hj43.2
      exact go_no 9 rfl (f9.trans (congrArg Value.bool b1)) (kS hj43 rfl)
    · rintro ρ44 w45 hj46 ⟨f18, f9, _⟩
      have hst := hj46.2
      exact go_no 9 rfl (f9.trans (congrArg Value.bool b1)) (kS hj46 rfl)
    · rintro ρ47 w48 hj49 ⟨f15, f19, f9, _⟩
      have hst := hj49.2
      exact go_no 9 rfl (f9.trans (congrArg Value.bool b1)) (kS hj49 rfl)
    · rintro ρ50 w51 hj52 ⟨f20, f9, _⟩
      have hst := hj52.2
      exact go_no 9 rfl (f9.trans (congrArg Value.bool b1)) (kS hj52 rfl)
    · rintro ρ53 w54 hj55 ⟨f10, f21, f9, _⟩
      have hst := hj55.2
      exact go_no 9 rfl (f9.trans (congrArg Value.bool b1)) (kS hj55 rfl)
    · rintro ρ56 w57 hj58 ⟨f9, f22, _⟩
      have hst := hj58.2
      exact go_plain (op_pick_t (.bool true) (f9.trans (congrArg Value.bool b1)) rfl (kS hj58 rfl))
    · intro ρ59 w60 hbw60 hst hRw60 hkw60
      have uw60_0 : ρ59 0 = (.pointer (some ⟨g_c, 0, none⟩)) := (hkw60 0 rfl).trans rfl
      have uw60_1 : ρ59 1 = (.int .u64 n) := (hkw60 1 rfl).trans rfl
      have uw60_4 : ρ59 4 = (.string (str ([] : List UInt8))) := (hkw60 4 rfl).trans rfl
      have uw60_23 : ρ59 23 = (.bool true) := hRw60 18 23 rfl
      refine then_n ?_
      refine cE_cond true uw60_23 (fun _ => ?_) (fun h => by cases h)
      refine cE_seq ?_
      refine cE_region rfl ?_
      refine s_cons (op_move (.pointer (some ⟨g_c, 0, none⟩)) uw60_0 ?_)
      refine s_cons (op_nilCheck rfl ?_)
      refine s_cons (op_fieldAddr (s := 0) Try.underlying54 rfl rfl Try.sizeOf4 rfl ?_)
      refine s_cons0 (op_store1 hst 0 rfl Try.sizeOf4 rfl rfl rfl (show 2 < 3 from by decide) (fun w61 hst => ?_))
      replace hst : St w0 w61 (.blk g_c 54 #[(.string (str b)), (.int .i64 at_), (.bool true)] :: L) := hst
      refine s_nil ?_
      refine then_n ?_
      refine cE_seq ?_
      refine cE_region rfl ?_
      refine s_cons (op_assign (.string (str ([] : List UInt8))) rfl ?_)
      refine s_nil ?_
      refine then_n ?_
      refine cE_ret ?_
      refine then_r ?_
      refine post_r _ (res1 (v := (.string (str ([] : List UInt8)))) rfl) ?_
      have e62 : ((.int .i64 at_) : Value) = (.int .i64 (rtxAt bad b at_ n)) := (congrArg (Value.int .i64) (show at_ = (rtxAt bad b at_ n) from by first | rfl | exact rtx_yes (by assumption) (by omega) (by omega) (by assumption) | (simp [rtx, rtxAt, rtxBad, b1]; done) | (simp [rtx, rtxAt, rtxBad, b1]; omega)))
      replace hst : St w0 w61 (.blk g_c 54 #[(.string (str b)), (.int .i64 (rtxAt bad b at_ n)), (.bool true)] :: L) := by rw [e62] at hst; exact hst
      have e63 : ((.bool true) : Value) = (.bool (rtxBad bad b at_ n)) := (congrArg Value.bool (show true = (rtxBad bad b at_ n) from by first | rfl | exact rtx_yes (by assumption) (by omega) (by omega) (by assumption) | (simp [rtx, rtxAt, rtxBad, b1]; done) | (simp [rtx, rtxAt, rtxBad, b1]; omega)))
      replace hst : St w0 w61 (.blk g_c 54 #[(.string (str b)), (.int .i64 (rtxAt bad b at_ n)), (.bool (rtxBad bad b at_ n))] :: L) := by rw [e63] at hst; exact hst
      exact ⟨(retv1 (congrArg (fun l => Value.string (str l)) (show ([] : List UInt8) = (rtx bad b at_ n) from by first | rfl | exact rtx_yes (by assumption) (by omega) (by omega) (by assumption) | (simp [rtx, rtxAt, rtxBad, b1]; done) | (simp [rtx, rtxAt, rtxBad, b1]; omega)))), hst.sub (.cons_cons _ (List.Sublist.refl _))⟩
  · refine cE_regionL hst [[(0, none)], [(5, some 0)], [(6, some 1)], [(7, some 2)], [(8, some 3)], [(1, none), (9, some 4)], [(0, none), (9, some 4)], [(11, some 6), (9, some 4)], [(12, some 7), (9, some 4)], [(13, some 8), (9, some 4)], [(14, some 9), (9, some 4)], [(0, none), (9, some 4)], [(16, some 11), (9, some 4)], [(17, some 12), (9, some 4)], [(18, some 13), (9, some 4)], [(15, some 10), (19, some 14), (9, some 4)], [(20, some 15), (9, some 4)], [(10, some 5), (21, some 16), (9, some 4)], [(9, some 4), (22, some 17)]] [(rEq (.pointer (some ⟨g_c, 0, none⟩))), (rEq (.pointer (some ⟨g_c, 0, none⟩))), (rEq (.pointer (some ⟨g_c, (0 + 2), none⟩))), (rEq (.bool bad)), (rEq (.bool bad)), (rEq (.int .u64 n)), (rEq (.pointer (some ⟨g_c, 0, none⟩))), (rEq (.pointer (some ⟨g_c, 0, none⟩))), (rEq (.pointer (some ⟨g_c, (0 + 0), none⟩))), (rEq (.string (str b))), (rEq (.int .i64 (b.length : Int))), (rEq (.pointer (some ⟨g_c, 0, none⟩))), (rEq (.pointer (some ⟨g_c, 0, none⟩))), (rEq (.pointer (some ⟨g_c, (0 + 1), none⟩))), (rEq (.int .i64 at_)), (rEq (.int .i64 ((b.length : Int) - at_))), (rEq (.int .u64 ((b.length : Int) - at_))), (rEq (.bool (decide (((b.length : Int) - at_) < n)))), (rEq (.bool (decide (((b.length : Int) - at_) < n))))] (by kernel_rfl) rfl (by kernel_rfl) ⟨sEq, sEq, sEq, sEq, sEq, sEq, sEq, sEq, sEq, sEq, sEq, sEq, sEq, sEq, sEq, sEq, sEq, sEq, sEq, trivial⟩ ⟨?_, ?_, ?_, ?_, ?_, ?_, ?_, ?_, ?_, ?_, ?_, ?_, ?_, ?_, ?_, ?_, ?_, ?_, ?_, trivial⟩ ?_
    · rintro ρ64 w65 hj66 ⟨f0, _⟩
      have hst := hj66.2
      exact go_plain (op_move (.pointer (some ⟨g_c, 0, none⟩)) (f0.trans rfl) (kS hj66 rfl))
    · rintro ρ67 w68 hj69 ⟨f5, _⟩
      have hst := hj69.2
      exact go_plain (op_nilCheck f5 (kS hj69 rfl))
    · rintro ρ70 w71 hj72 ⟨f6, _⟩
      have hst := hj72.2
      exact go_plain (op_fieldAddr (s := 0) Try.underlying54 rfl rfl Try.sizeOf4 f6 (kS hj72 rfl))
    · rintro ρ73 w74 hj75 ⟨f7, _⟩
      have hst := hj75.2
      exact go_plain (op_load1 (u := (.bool bad)) Try.isAgg4 f7 ((hst.cell 0 rfl).drop 2) (kS hj75 rfl))
    · rintro ρ76 w77 hj78 ⟨f8, _⟩
      have hst := hj78.2
      exact go_plain (op_move (.bool bad) f8 (kS hj78 rfl))
    · rintro ρ79 w80 hj81 ⟨f1, f9, _⟩
      have hst := hj81.2
      exact go_yes 9 rfl (f9.trans (congrArg Value.bool b1)) (op_move (.int .u64 n) (f1.trans rfl) (kS hj81 rfl))
    · rintro ρ82 w83 hj84 ⟨f0, f9, _⟩
      have hst := hj84.2
      exact go_yes 9 rfl (f9.trans (congrArg Value.bool b1)) (op_move (.pointer (some ⟨g_c, 0, none⟩)) (f0.trans rfl) (kS hj84 rfl))
    · rintro ρ85 w86 hj87 ⟨f11, f9, _⟩
      have hst := hj87.2
      exact go_yes 9 rfl (f9.trans (congrArg Value.bool b1)) (op_nilCheck f11 (kS hj87 rfl))
    · rintro ρ88 w89 hj90 ⟨f12, f9, _⟩
      have hst := hj90.2
      exact go_yes 9 rfl (f9.trans (congrArg Value.bool b1)) (op_fieldAddr (s := 0) Try.underlying54 rfl rfl Try.sizeOf9 f12 (kS hj90 rfl))
    · rintro ρ91 w92 hj93 ⟨f13, f9, _⟩
      have hst := hj93.2
      exact go_yes 9 rfl (f9.trans (congrArg Value.bool b1)) (op_load1 (u := (.string (str b))) Try.isAgg9 f13 (hst.cell 0 rfl) (kS hj93 rfl))
    · rintro ρ94 w95 hj96 ⟨f14, f9, _⟩
      have hst := hj96.2
      exact go_yes 9 rfl (f9.trans (congrArg Value.bool b1)) (op_lenL Try.underlying9 (s := b) f14 (kS hj96 rfl))
    · rintro ρ97 w98 hj99 ⟨f0, f9, _⟩
      have hst := hj99.2
      exact go_yes 9 rfl (f9.trans (congrArg Value.bool b1)) (op_move (.pointer (some ⟨g_c, 0, none⟩)) (f0.trans rfl) (kS hj99 rfl))
    · rintro ρ100 w101 hj102 ⟨f16, f9, _⟩
      have hst := hj102.2
      exact go_yes 9 rfl (f9.trans (congrArg Value.bool b1)) (op_nilCheck f16 (kS hj102 rfl))
    · rintro ρ103 w104 hj105 ⟨f17, f9, _⟩
      have hst := hj105.2
      exact go_yes 9 rfl (f9.trans (congrArg Value.bool b1)) (op_fieldAddr (s := 0) Try.underlying54 rfl rfl Try.sizeOf3 f17 (kS hj105 rfl))
    · rintro ρ106 w107 hj108 ⟨f18, f9, _⟩
      have hst := hj108.2
      exact go_yes 9 rfl (f9.trans (congrArg Value.bool b1)) (op_load1 (u := (.int .i64 at_)) Try.isAgg3 f18 ((hst.cell 0 rfl).drop 1) (kS hj108 rfl))
    · rintro ρ109 w110 hj111 ⟨f15, f19, f9, _⟩
      have hst := hj111.2
      exact go_yes 9 rfl (f9.trans (congrArg Value.bool b1)) (op_sub (k := .i64) (a := (b.length : Int)) (b := at_) ((b.length : Int) - at_) f15 f19 (xi64 (by omega) (by omega)) (kS hj111 rfl))
    · rintro ρ112 w113 hj114 ⟨f20, f9, _⟩
      have hst := hj114.2
      exact go_yes 9 rfl (f9.trans (congrArg Value.bool b1)) (op_conv (k := .i64) (a := ((b.length : Int) - at_)) ((b.length : Int) - at_) Try.underlying41 (by rw [Try.underlying3]; rfl) f20 (xu64 (by omega) (by omega)) (kS hj114 rfl))
    · rintro ρ115 w116 hj117 ⟨f10, f21, f9, _⟩
      have hst := hj117.2
      exact go_yes 9 rfl (f9.trans (congrArg Value.bool b1)) (op_gtr (k := .u64) (a := n) (b := ((b.length : Int) - at_)) f10 f21 (kS hj117 rfl))
    · rintro ρ118 w119 hj120 ⟨f9, f22, _⟩
      have hst := hj120.2
      exact go_plain (op_pick_f (.bool (decide (((b.length : Int) - at_) < n))) (f9.trans (congrArg Value.bool b1)) f22 (kS hj120 rfl))
    · intro ρ121 w122 hbw122 hst hRw122 hkw122
      have uw122_0 : ρ121 0 = (.pointer (some ⟨g_c, 0, none⟩)) := (hkw122 0 rfl).trans rfl
      have uw122_1 : ρ121 1 = (.int .u64 n) := (hkw122 1 rfl).trans rfl
      have uw122_4 : ρ121 4 = (.string (str ([] : List UInt8))) := (hkw122 4 rfl).trans rfl
      have uw122_23 : ρ121 23 = (.bool (decide (((b.length : Int) - at_) < n))) := hRw122 18 23 rfl
      refine then_n ?_
      rcases Bool.eq_false_or_eq_true (decide (((b.length : Int) - at_) < n)) with b123 | b123
      · have c124 : ((b.length : Int) - at_) < n := of_decide_eq_true b123
        refine cE_cond true (uw122_23.trans (congrArg Value.bool b123)) (fun _ => ?_) (fun h => by cases h)
        refine cE_seq ?_
        refine cE_region rfl ?_
        refine s_cons (op_move (.pointer (some ⟨g_c, 0, none⟩)) uw122_0 ?_)
        refine s_cons (op_nilCheck rfl ?_)
        refine s_cons (op_fieldAddr (s := 0) Try.underlying54 rfl rfl Try.sizeOf4 rfl ?_)
        refine s_cons0 (op_store1 hst 0 rfl Try.sizeOf4 rfl rfl rfl (show 2 < 3 from by decide) (fun w125 hst => ?_))
        replace hst : St w0 w125 (.blk g_c 54 #[(.string (str b)), (.int .i64 at_), (.bool true)] :: L) := hst
        refine s_nil ?_
        refine then_n ?_
        refine cE_seq ?_
        refine cE_region rfl ?_
        refine s_cons (op_assign (.string (str ([] : List UInt8))) rfl ?_)
        refine s_nil ?_
        refine then_n ?_
        refine cE_ret ?_
        refine then_r ?_
        refine post_r _ (res1 (v := (.string (str ([] : List UInt8)))) rfl) ?_
        have e126 : ((.int .i64 at_) : Value) = (.int .i64 (rtxAt bad b at_ n)) := (congrArg (Value.int .i64) (show at_ = (rtxAt bad b at_ n) from by first | rfl | exact rtx_yes (by assumption) (by omega) (by omega) (by assumption) | (simp [rtx, rtxAt, rtxBad, b1, b123]; done) | (simp [rtx, rtxAt, rtxBad, b1, b123]; omega)))
        replace hst : St w0 w125 (.blk g_c 54 #[(.string (str b)), (.int .i64 (rtxAt bad b at_ n)), (.bool true)] :: L) := by rw [e126] at hst; exact hst
        have e127 : ((.bool true) : Value) = (.bool (rtxBad bad b at_ n)) := (congrArg Value.bool (show true = (rtxBad bad b at_ n) from by first | rfl | exact rtx_yes (by assumption) (by omega) (by omega) (by assumption) | (simp [rtx, rtxAt, rtxBad, b1, b123]; done) | (simp [rtx, rtxAt, rtxBad, b1, b123]; omega)))
        replace hst : St w0 w125 (.blk g_c 54 #[(.string (str b)), (.int .i64 (rtxAt bad b at_ n)), (.bool (rtxBad bad b at_ n))] :: L) := by rw [e127] at hst; exact hst
        exact ⟨(retv1 (congrArg (fun l => Value.string (str l)) (show ([] : List UInt8) = (rtx bad b at_ n) from by first | rfl | exact rtx_yes (by assumption) (by omega) (by omega) (by assumption) | (simp [rtx, rtxAt, rtxBad, b1, b123]; done) | (simp [rtx, rtxAt, rtxBad, b1, b123]; omega)))), hst.sub (.cons_cons _ (List.Sublist.refl _))⟩
      · have c128 : ¬ (((b.length : Int) - at_) < n) := of_decide_eq_false b123
        refine cE_cond false (uw122_23.trans (congrArg Value.bool b123)) (fun h => by cases h) (fun _ => ?_)
        refine cE_skip ?_
        refine then_n ?_
        refine cE_seq ?_
        refine cE_region rfl ?_
        refine s_cons (op_move (.pointer (some ⟨g_c, 0, none⟩)) uw122_0 ?_)
        refine s_cons (op_move (.pointer (some ⟨g_c, 0, none⟩)) uw122_0 ?_)
        refine s_cons (op_nilCheck rfl ?_)
        refine s_cons (op_fieldAddr (s := 0) Try.underlying54 rfl rfl Try.sizeOf3 rfl ?_)
        refine s_cons (op_load1 (u := (.int .i64 at_)) Try.isAgg3 rfl ((hst.cell 0 rfl).drop 1) ?_)
        refine s_cons (op_move (.int .u64 n) uw122_1 ?_)
        refine s_cons (op_conv (k := .u64) (a := n) n Try.underlying3 (by rw [Try.underlying41]; rfl) rfl (xi64 (by omega) (by omega)) ?_)
        refine s_cons (op_add (k := .i64) (a := at_) (b := n) (at_ + n) rfl rfl (xi64 (by omega) (by omega)) ?_)
        refine s_cons (op_nilCheck rfl ?_)
        refine s_cons (op_fieldAddr (s := 0) Try.underlying54 rfl rfl Try.sizeOf3 rfl ?_)
        refine s_cons0 (op_store1 hst 0 rfl Try.sizeOf3 rfl rfl rfl (show 1 < 3 from by decide) (fun w129 hst => ?_))
        replace hst : St w0 w129 (.blk g_c 54 #[(.string (str b)), (.int .i64 (at_ + n)), (.bool bad)] :: L) := hst
        refine s_nil ?_
        refine then_n ?_
        refine cE_seq ?_
        refine cE_regionL hst [[(0, none)], [(37, some 0)], [(38, some 1)], [(39, some 2)], [(0, none)], [(41, some 4)], [(42, some 5)], [(43, some 6)], [(1, none)], [(45, some 8)], [(44, some 7), (46, some 9)], [(0, none)], [(48, some 11)], [(49, some 12)], [(50, some 13)], [(40, some 3), (47, some 10), (51, some 14)], [(52, some 15)]] [(rEq (.pointer (some ⟨g_c, 0, none⟩))), (rEq (.pointer (some ⟨g_c, 0, none⟩))), (rEq (.pointer (some ⟨g_c, (0 + 0), none⟩))), (rEq (.string (str b))), (rEq (.pointer (some ⟨g_c, 0, none⟩))), (rEq (.pointer (some ⟨g_c, 0, none⟩))), (rEq (.pointer (some ⟨g_c, (0 + 1), none⟩))), (rEq (.int .i64 (at_ + n))), (rEq (.int .u64 n)), (rEq (.int .i64 n)), (rEq (.int .i64 ((at_ + n) - n))), (rEq (.pointer (some ⟨g_c, 0, none⟩))), (rEq (.pointer (some ⟨g_c, 0, none⟩))), (rEq (.pointer (some ⟨g_c, (0 + 1), none⟩))), (rEq (.int .i64 (at_ + n))), (rEq (.string (str ((b.take (Int.toNat (at_ + n))).drop (Int.toNat ((at_ + n) - n)))))), (rEq (.string (str ((b.take (Int.toNat (at_ + n))).drop (Int.toNat ((at_ + n) - n))))))] (by kernel_rfl) rfl (by kernel_rfl) ⟨sEq, sEq, sEq, sEq, sEq, sEq, sEq, sEq, sEq, sEq, sEq, sEq, sEq, sEq, sEq, sEq, sEq, trivial⟩ ⟨?_, ?_, ?_, ?_, ?_, ?_, ?_, ?_, ?_, ?_, ?_, ?_, ?_, ?_, ?_, ?_, ?_, trivial⟩ ?_
        · rintro ρ130 w131 hj132 ⟨f0, _⟩
          have hst := hj132.2
          exact go_plain (op_move (.pointer (some ⟨g_c, 0, none⟩)) (f0.trans uw122_0) (kS hj132 rfl))
        · rintro ρ133 w134 hj135 ⟨f37, _⟩
          have hst := hj135.2
          exact go_plain (op_nilCheck f37 (kS hj135 rfl))
        · rintro ρ136 w137 hj138 ⟨f38, _⟩
          have hst := hj138.2
          exact go_plain (op_fieldAddr (s := 0) Try.underlying54 rfl rfl Try.sizeOf9 f38 (kS hj138 rfl))
        · rintro ρ139 w140 hj141 ⟨f39, _⟩
          have hst := hj141.2
          exact go_plain (op_load1 (u := (.string (str b))) Try.isAgg9 f39 (hst.cell 0 rfl) (kS hj141 rfl))
        · rintro ρ142 w143 hj144 ⟨f0, _⟩
          have hst := hj144.2
          exact go_plain (op_move (.pointer (some ⟨g_c, 0, none⟩)) (f0.trans uw122_0) (kS hj144 rfl))
        · rintro ρ145 w146 hj147 ⟨f41, _⟩
          have hst := hj147.2
          exact go_plain (op_nilCheck f41 (kS hj147 rfl))
        · rintro ρ148 w149 hj150 ⟨f42, _⟩
          have hst := hj150.2
          exact go_plain (op_fieldAddr (s := 0) Try.underlying54 rfl rfl Try.sizeOf3 f42 (kS hj150 rfl))
        · rintro ρ151 w152 hj153 ⟨f43, _⟩
          have hst := hj153.2
          exact go_plain (op_load1 (u := (.int .i64 (at_ + n))) Try.isAgg3 f43 ((hst.cell 0 rfl).drop 1) (kS hj153 rfl))
        · rintro ρ154 w155 hj156 ⟨f1, _⟩
          have hst := hj156.2
          exact go_plain (op_move (.int .u64 n) (f1.trans uw122_1) (kS hj156 rfl))
        · rintro ρ157 w158 hj159 ⟨f45, _⟩
          have hst := hj159.2
          exact go_plain (op_conv (k := .u64) (a := n) n Try.underlying3 (by rw [Try.underlying41]; rfl) f45 (xi64 (by omega) (by omega)) (kS hj159 rfl))
        · rintro ρ160 w161 hj162 ⟨f44, f46, _⟩
          have hst := hj162.2
          exact go_plain (op_sub (k := .i64) (a := (at_ + n)) (b := n) ((at_ + n) - n) f44 f46 (xi64 (by omega) (by omega)) (kS hj162 rfl))
        · rintro ρ163 w164 hj165 ⟨f0, _⟩
          have hst := hj165.2
          exact go_plain (op_move (.pointer (some ⟨g_c, 0, none⟩)) (f0.trans uw122_0) (kS hj165 rfl))
        · rintro ρ166 w167 hj168 ⟨f48, _⟩
          have hst := hj168.2
          exact go_plain (op_nilCheck f48 (kS hj168 rfl))
        · rintro ρ169 w170 hj171 ⟨f49, _⟩
          have hst := hj171.2
          exact go_plain (op_fieldAddr (s := 0) Try.underlying54 rfl rfl Try.sizeOf3 f49 (kS hj171 rfl))
        · rintro ρ172 w173 hj174 ⟨f50, _⟩
          have hst := hj174.2
          exact go_plain (op_load1 (u := (.int .i64 (at_ + n))) Try.isAgg3 f50 ((hst.cell 0 rfl).drop 1) (kS hj174 rfl))
        · rintro ρ175 w176 hj177 ⟨f40, f47, f51, _⟩
          have hst := hj177.2
          exact go_plain (op_sliceStr (s := b) (Int.toNat ((at_ + n) - n)) (Int.toNat (at_ + n)) Try.underlying9 f40 f47 f51 (by omega) (by omega) (by omega) (by omega) (kS hj177 rfl))
        · rintro ρ178 w179 hj180 ⟨f52, _⟩
          have hst := hj180.2
          exact go_plain (op_assign (.string (str ((b.take (Int.toNat (at_ + n))).drop (Int.toNat ((at_ + n) - n))))) f52 (kS hj180 rfl))
        · intro ρ181 w182 hbw182 hst hRw182 hkw182
          have uw182_0 : ρ181 0 = (.pointer (some ⟨g_c, 0, none⟩)) := (hkw182 0 rfl).trans uw122_0
          have uw182_1 : ρ181 1 = (.int .u64 n) := (hkw182 1 rfl).trans uw122_1
          have uw182_23 : ρ181 23 = (.bool (decide (((b.length : Int) - at_) < n))) := (hkw182 23 rfl).trans uw122_23
          have uw182_27 : ρ181 27 = (.pointer (some ⟨g_c, 0, none⟩)) := (hkw182 27 rfl).trans rfl
          have uw182_28 : ρ181 28 = (.pointer (some ⟨g_c, 0, none⟩)) := (hkw182 28 rfl).trans rfl
          have uw182_29 : ρ181 29 = (.pointer (some ⟨g_c, 0, none⟩)) := (hkw182 29 rfl).trans rfl
          have uw182_30 : ρ181 30 = (.pointer (some ⟨g_c, (0 + 1), none⟩)) := (hkw182 30 rfl).trans rfl
          have uw182_31 : ρ181 31 = (.int .i64 at_) := (hkw182 31 rfl).trans rfl
          have uw182_32 : ρ181 32 = (.int .u64 n) := (hkw182 32 rfl).trans rfl
          have uw182_33 : ρ181 33 = (.int .i64 n) := (hkw182 33 rfl).trans rfl
          have uw182_34 : ρ181 34 = (.int .i64 (at_ + n)) := (hkw182 34 rfl).trans rfl
          have uw182_35 : ρ181 35 = (.pointer (some ⟨g_c, 0, none⟩)) := (hkw182 35 rfl).trans rfl
          have uw182_36 : ρ181 36 = (.pointer (some ⟨g_c, (0 + 1), none⟩)) := (hkw182 36 rfl).trans rfl
          have uw182_4 : ρ181 4 = (.string (str ((b.take (Int.toNat (at_ + n))).drop (Int.toNat ((at_ + n) - n))))) := hRw182 16 4 rfl
          refine then_n ?_
          refine cE_ret ?_
          refine post_r _ (res1 (v := (.string (str ((b.take (Int.toNat (at_ + n))).drop (Int.toNat ((at_ + n) - n)))))) uw182_4) ?_
          have e183 : ((.int .i64 (at_ + n)) : Value) = (.int .i64 (rtxAt bad b at_ n)) := (congrArg (Value.int .i64) (show (at_ + n) = (rtxAt bad b at_ n) from by first | rfl | exact rtx_yes (by assumption) (by omega) (by omega) (by assumption) | (simp [rtx, rtxAt, rtxBad, b1, b123]; done) | (simp [rtx, rtxAt, rtxBad, b1, b123]; omega)))
          replace hst : St w0 w182 (.blk g_c 54 #[(.string (str b)), (.int .i64 (rtxAt bad b at_ n)), (.bool bad)] :: L) := by rw [e183] at hst; exact hst
          have e184 : ((.bool bad) : Value) = (.bool (rtxBad bad b at_ n)) := (congrArg Value.bool (show bad = (rtxBad bad b at_ n) from by first | rfl | exact rtx_yes (by assumption) (by omega) (by omega) (by assumption) | (simp [rtx, rtxAt, rtxBad, b1, b123]; done) | (simp [rtx, rtxAt, rtxBad, b1, b123]; omega)))
          replace hst : St w0 w182 (.blk g_c 54 #[(.string (str b)), (.int .i64 (rtxAt bad b at_ n)), (.bool (rtxBad bad b at_ n))] :: L) := by rw [e184] at hst; exact hst
          exact ⟨(retv1 (congrArg (fun l => Value.string (str l)) (show ((b.take (Int.toNat (at_ + n))).drop (Int.toNat ((at_ + n) - n))) = (rtx bad b at_ n) from by first | rfl | exact rtx_yes (by assumption) (by omega) (by omega) (by assumption) | (simp [rtx, rtxAt, rtxBad, b1, b123]; done) | (simp [rtx, rtxAt, rtxBad, b1, b123]; omega)))), hst.sub (.cons_cons _ (List.Sublist.refl _))⟩

end Go.Proofs.Ytfljkaigfmedeaa
