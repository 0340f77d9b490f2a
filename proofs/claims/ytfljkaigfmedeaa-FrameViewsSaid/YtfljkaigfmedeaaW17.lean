/- frames: twinkeepref5.C).Byte -/
import Derived.Test.YtfljkaigfmedeaaW1
import Derived.Test.YtfljkaigfmedeaaW2
import Derived.Test.YtfljkaigfmedeaaW3
import Derived.Test.YtfljkaigfmedeaaFC
import Derived.Test.YtfljkaigfmedeaaW10
import Derived.Test.YtfljkaigfmedeaaW11
import Derived.Test.YtfljkaigfmedeaaW12
import Derived.Test.YtfljkaigfmedeaaW13
import Derived.Test.YtfljkaigfmedeaaW14
import Derived.Test.YtfljkaigfmedeaaW15
import Derived.Test.YtfljkaigfmedeaaW16
namespace Go.Proofs.Ytfljkaigfmedeaa
open Go.RowKit

theorem c_cByte {w0 w : World} {L : List Item} (g_c : Nat) (b : List UInt8) (at_ : Int) (bad : Bool) (h0 : 0 ≤ at_) (h1 : at_ ≤ (b.length : Int)) (hl : b.length ≤ 1000000000) (hst : St w0 w (.blk g_c 54 #[(.string (str b)), (.int .i64 at_), (.bool bad)] :: L)) :
    Calls Try.prog 26 #[(.pointer (some ⟨g_c, 0, none⟩))] w fun e w' => e = .returned (.int .u8 (rby bad b at_)) ∧ St w0 w' (.blk g_c 54 #[(.string (str b)), (.int .i64 (rbyAt bad b at_)), (.bool (rbyBad bad b at_))] :: L) := by
  refine calls_E (n := 39) (ts := [2]) Try.func26 rfl rfl rfl (by simp) ?_
  refine cE_seq ?_
  refine cE_region rfl ?_
  refine s_cons (op_assign (.int .u8 0) rfl ?_)
  refine s_nil ?_
  refine then_n ?_
  refine cE_seq ?_
  refine cE_seq ?_
  rcases Bool.eq_false_or_eq_true bad with b1 | b1
  · refine cE_regionL hst [[(0, none)], [(3, some 0)], [(4, some 1)], [(5, some 2)], [(6, some 3)], [(0, none), (7, some 4)], [(8, some 5), (7, some 4)], [(9, some 6), (7, some 4)], [(10, some 7), (7, some 4)], [(0, none), (7, some 4)], [(12, some 9), (7, some 4)], [(13, some 10), (7, some 4)], [(14, some 11), (7, some 4)], [(15, some 12), (7, some 4)], [(11, some 8), (16, some 13), (7, some 4)], [(7, some 4), (17, some 14)]] [(rEq (.pointer (some ⟨g_c, 0, none⟩))), (rEq (.pointer (some ⟨g_c, 0, none⟩))), (rEq (.pointer (some ⟨g_c, (0 + 2), none⟩))), (rEq (.bool bad)), (rEq (.bool bad)), (rEq undef), (rEq undef), (rEq undef), (rEq undef), (rEq undef), (rEq undef), (rEq undef), (rEq undef), (rEq undef), (rEq undef), (rEq (.bool true))] (by kernel_rfl) rfl (by kernel_rfl) ⟨sEq, sEq, sEq, sEq, sEq, sEq, sEq, sEq, sEq, sEq, sEq, sEq, sEq, sEq, sEq, sEq, trivial⟩ ⟨?_, ?_, ?_, ?_, ?_, ?_, ?_, ?_, ?_, ?_, ?_, ?_, ?_, ?_, ?_, ?_, trivial⟩ ?_
    · rintro ρ2 w3 hj4 ⟨f0, _⟩
      have hst := hj4.2
      exact go_plain (op_move (.pointer (some ⟨g_c, 0, none⟩)) (f0.trans rfl) (kS hj4 rfl))
    · rintro ρ5 w6 hj7 ⟨f3, _⟩
      have hst := hj7.2
      exact go_plain (op_nilCheck f3 (kS hj7 rfl))
    · rintro ρ8 w9 hj10 ⟨f4, _⟩
      have hst := hj10.2
      exact go_plain (op_fieldAddr (s := 0) Try.underlying54 rfl rfl Try.sizeOf4 f4 (kS hj10 rfl))
    · rintro ρ11 w12 hj13 ⟨f5, _⟩
      have hst := hj13.2
      exact go_plain (op_load1 (u := (.bool bad)) Try.isAgg4 f5 ((hst.cell 0 rfl).drop 2) (kS hj13 rfl))
    · rintro ρ14 w15 hj16 ⟨f6, _⟩
      have hst := hj16.2
      exact go_plain (op_move (.bool bad) f6 (kS hj16 rfl))
    · rintro ρ17 w18 hj19 ⟨f0, f7, _⟩
      have hst := hj19.2
      exact go_no 7 rfl (f7.trans (congrArg Value.bool b1)) (kS hj19 rfl)
    · rintro ρ20 w21 hj22 ⟨f8, f7, _⟩
      have hst := hj22.2
      exact go_no 7 rfl (f7.trans (congrArg Value.bool b1)) (kS hj22 rfl)
    · rintro ρ23 w24 hj25 ⟨f9, f7, _⟩
      have hst := hj25.2
      exact go_no 7 rfl (f7.trans (congrArg Value.bool b1)) (kS hj25 rfl)
    · rintro ρ26 w27 hj28 ⟨f10, f7, _⟩
      have hst := hj28.2
      exact go_no 7 rfl (f7.trans (congrArg Value.bool b1)) (kS hj28 rfl)
    · rintro ρ29 w30 hj31 ⟨f0, f7, _⟩
      have hst := hj31.2
      exact go_no 7 rfl (f7.trans (congrArg Value.bool b1)) (kS hj31 rfl)
    · rintro ρ32 w33 hj34 ⟨f12, f7, _⟩
      have hst := hj34.2
      exact go_no 7 rfl (f7.trans (congrArg Value.bool b1)) (kS hj34 rfl)
    · rintro ρ35 w36 hj37 ⟨f13, f7, _⟩
      have hst := hj37.2
      exact go_no 7 rfl (f7.trans (congrArg Value.bool b1)) (kS hj37 rfl)
    · rintro ρ38 w39 hj40 ⟨f14, f7, _⟩
      have hst := hj40.2
      exact go_no 7 rfl (f7.trans (congrArg Value.bool b1)) (kS hj40 rfl)
    · rintro ρ41 w42 hj43 ⟨f15, f7, _⟩
      have hst := hj43.2
      exact go_no 7 rfl (f7.trans (congrArg Value.bool b1)) (kS hj43 rfl)
    · rintro ρ44 w45 hj46 ⟨f11, f16, f7, _⟩
      have hst := hj46.2
      exact go_no 7 rfl (f7.trans (congrArg Value.bool b1)) (kS hj46 rfl)
    · rintro ρ47 w48 hj49 ⟨f7, f17, _⟩
      have hst := hj49.2
      exact go_plain (op_pick_t (.bool true) (f7.trans (congrArg Value.bool b1)) rfl (kS hj49 rfl))
    · intro ρ50 w51 hbw51 hst hRw51 hkw51
      have uw51_0 : ρ50 0 = (.pointer (some ⟨g_c, 0, none⟩)) := (hkw51 0 rfl).trans rfl
      have uw51_2 : ρ50 2 = (.int .u8 0) := (hkw51 2 rfl).trans rfl
      have uw51_18 : ρ50 18 = (.bool true) := hRw51 15 18 rfl
      refine then_n ?_
      refine cE_cond true uw51_18 (fun _ => ?_) (fun h => by cases h)
      refine cE_seq ?_
      refine cE_region rfl ?_
      refine s_cons (op_move (.pointer (some ⟨g_c, 0, none⟩)) uw51_0 ?_)
      refine s_cons (op_nilCheck rfl ?_)
      refine s_cons (op_fieldAddr (s := 0) Try.underlying54 rfl rfl Try.sizeOf4 rfl ?_)
      refine s_cons0 (op_store1 hst 0 rfl Try.sizeOf4 rfl rfl rfl (show 2 < 3 from by decide) (fun w52 hst => ?_))
      replace hst : St w0 w52 (.blk g_c 54 #[(.string (str b)), (.int .i64 at_), (.bool true)] :: L) := hst
      refine s_nil ?_
      refine then_n ?_
      refine cE_seq ?_
      refine cE_region rfl ?_
      refine s_cons (op_assign (.int .u8 0) rfl ?_)
      refine s_nil ?_
      refine then_n ?_
      refine cE_ret ?_
      refine then_r ?_
      refine post_r _ (res1 (v := (.int .u8 0)) rfl) ?_
      have e53 : ((.int .i64 at_) : Value) = (.int .i64 (rbyAt bad b at_)) := (congrArg (Value.int .i64) (show at_ = (rbyAt bad b at_) from by first | rfl | exact rby_at (by assumption) (by omega) (by omega) (by omega) | (simp [rby, rbyAt, rbyBad, b1]; done) | (simp [rby, rbyAt, rbyBad, b1]; omega)))
      replace hst : St w0 w52 (.blk g_c 54 #[(.string (str b)), (.int .i64 (rbyAt bad b at_)), (.bool true)] :: L) := by rw [e53] at hst; exact hst
      have e54 : ((.bool true) : Value) = (.bool (rbyBad bad b at_)) := (congrArg Value.bool (show true = (rbyBad bad b at_) from by first | rfl | exact rby_at (by assumption) (by omega) (by omega) (by omega) | (simp [rby, rbyAt, rbyBad, b1]; done) | (simp [rby, rbyAt, rbyBad, b1]; omega)))
      replace hst : St w0 w52 (.blk g_c 54 #[(.string (str b)), (.int .i64 (rbyAt bad b at_)), (.bool (rbyBad bad b at_))] :: L) := by rw [e54] at hst; exact hst
      exact ⟨(retv1 (congrArg (Value.int .u8) (show 0 = (rby bad b at_) from by first | rfl | exact rby_at (by assumption) (by omega) (by omega) (by omega) | (simp [rby, rbyAt, rbyBad, b1]; done) | (simp [rby, rbyAt, rbyBad, b1]; omega)))), hst.sub (.cons_cons _ (List.Sublist.refl _))⟩
  · refine cE_regionL hst [[(0, none)], [(3, some 0)], [(4, some 1)], [(5, some 2)], [(6, some 3)], [(0, none), (7, some 4)], [(8, some 5), (7, some 4)], [(9, some 6), (7, some 4)], [(10, some 7), (7, some 4)], [(0, none), (7, some 4)], [(12, some 9), (7, some 4)], [(13, some 10), (7, some 4)], [(14, some 11), (7, some 4)], [(15, some 12), (7, some 4)], [(11, some 8), (16, some 13), (7, some 4)], [(7, some 4), (17, some 14)]] [(rEq (.pointer (some ⟨g_c, 0, none⟩))), (rEq (.pointer (some ⟨g_c, 0, none⟩))), (rEq (.pointer (some ⟨g_c, (0 + 2), none⟩))), (rEq (.bool bad)), (rEq (.bool bad)), (rEq (.pointer (some ⟨g_c, 0, none⟩))), (rEq (.pointer (some ⟨g_c, 0, none⟩))), (rEq (.pointer (some ⟨g_c, (0 + 1), none⟩))), (rEq (.int .i64 at_)), (rEq (.pointer (some ⟨g_c, 0, none⟩))), (rEq (.pointer (some ⟨g_c, 0, none⟩))), (rEq (.pointer (some ⟨g_c, (0 + 0), none⟩))), (rEq (.string (str b))), (rEq (.int .i64 (b.length : Int))), (rEq (.bool (decide ((b.length : Int) ≤ at_)))), (rEq (.bool (decide ((b.length : Int) ≤ at_))))] (by kernel_rfl) rfl (by kernel_rfl) ⟨sEq, sEq, sEq, sEq, sEq, sEq, sEq, sEq, sEq, sEq, sEq, sEq, sEq, sEq, sEq, sEq, trivial⟩ ⟨?_, ?_, ?_, ?_, ?_, ?_, ?_, ?_, ?_, ?_, ?_, ?_, ?_, ?_, ?_, ?_, trivial⟩ ?_
    · rintro ρ55 w56 hj57 ⟨f0, _⟩
      have hst := hj57.2
      exact go_plain (op_move (.pointer (some ⟨g_c, 0, none⟩)) (f0.trans rfl) (kS hj57 rfl))
    · rintro ρ58 w59 hj60 ⟨f3, _⟩
      have hst := hj60.2
      exact go_plain (op_nilCheck f3 (kS hj60 rfl))
    · rintro ρ61 w62 hj63 ⟨f4, _⟩
      have hst := hj63.2
      exact go_plain (op_fieldAddr (s := 0) Try.underlying54 rfl rfl Try.sizeOf4 f4 (kS hj63 rfl))
    · rintro ρ64 w65 hj66 ⟨f5, _⟩
      have hst := hj66.2
      exact go_plain (op_load1 (u := (.bool bad)) Try.isAgg4 f5 ((hst.cell 0 rfl).drop 2) (kS hj66 rfl))
    · rintro ρ67 w68 hj69 ⟨f6, _⟩
      have hst := hj69.2
      exact go_plain (op_move (.bool bad) f6 (kS hj69 rfl))
    · rintro ρ70 w71 hj72 ⟨f0, f7, _⟩
      have hst := hj72.2
      exact go_yes 7 rfl (f7.trans (congrArg Value.bool b1)) (op_move (.pointer (some ⟨g_c, 0, none⟩)) (f0.trans rfl) (kS hj72 rfl))
    · rintro ρ73 w74 hj75 ⟨f8, f7, _⟩
      have hst := hj75.2
      exact go_yes 7 rfl (f7.trans (congrArg Value.bool b1)) (op_nilCheck f8 (kS hj75 rfl))
    · rintro ρ76 w77 hj78 ⟨f9, f7, _⟩
      have hst := hj78.2
      exact go_yes 7 rfl (f7.trans (congrArg Value.bool b1)) (op_fieldAddr (s := 0) Try.underlying54 rfl rfl Try.sizeOf3 f9 (kS hj78 rfl))
    · rintro ρ79 w80 hj81 ⟨f10, f7, _⟩
      have hst := hj81.2
      exact go_yes 7 rfl (f7.trans (congrArg Value.bool b1)) (op_load1 (u := (.int .i64 at_)) Try.isAgg3 f10 ((hst.cell 0 rfl).drop 1) (kS hj81 rfl))
    · rintro ρ82 w83 hj84 ⟨f0, f7, _⟩
      have hst := hj84.2
      exact go_yes 7 rfl (f7.trans (congrArg Value.bool b1)) (op_move (.pointer (some ⟨g_c, 0, none⟩)) (f0.trans rfl) (kS hj84 rfl))
    · rintro ρ85 w86 hj87 ⟨f12, f7, _⟩
      have hst := hj87.2
      exact go_yes 7 rfl (f7.trans (congrArg Value.bool b1)) (op_nilCheck f12 (kS hj87 rfl))
    · rintro ρ88 w89 hj90 ⟨f13, f7, _⟩
      have hst := hj90.2
      exact go_yes 7 rfl (f7.trans (congrArg Value.bool b1)) (op_fieldAddr (s := 0) Try.underlying54 rfl rfl Try.sizeOf9 f13 (kS hj90 rfl))
    · rintro ρ91 w92 hj93 ⟨f14, f7, _⟩
      have hst := hj93.2
      exact go_yes 7 rfl (f7.trans (congrArg Value.bool b1)) (op_load1 (u := (.string (str b))) Try.isAgg9 f14 (hst.cell 0 rfl) (kS hj93 rfl))
    · rintro ρ94 w95 hj96 ⟨f15, f7, _⟩
      have hst := hj96.2
      exact go_yes 7 rfl (f7.trans (congrArg Value.bool b1)) (op_lenL Try.underlying9 (s := b) f15 (kS hj96 rfl))
    · rintro ρ97 w98 hj99 ⟨f11, f16, f7, _⟩
      have hst := hj99.2
      exact go_yes 7 rfl (f7.trans (congrArg Value.bool b1)) (op_geq (k := .i64) (a := at_) (b := (b.length : Int)) f11 f16 (kS hj99 rfl))
    · rintro ρ100 w101 hj102 ⟨f7, f17, _⟩
      have hst := hj102.2
      exact go_plain (op_pick_f (.bool (decide ((b.length : Int) ≤ at_))) (f7.trans (congrArg Value.bool b1)) f17 (kS hj102 rfl))
    · intro ρ103 w104 hbw104 hst hRw104 hkw104
      have uw104_0 : ρ103 0 = (.pointer (some ⟨g_c, 0, none⟩)) := (hkw104 0 rfl).trans rfl
      have uw104_2 : ρ103 2 = (.int .u8 0) := (hkw104 2 rfl).trans rfl
      have uw104_18 : ρ103 18 = (.bool (decide ((b.length : Int) ≤ at_))) := hRw104 15 18 rfl
      refine then_n ?_
      rcases Bool.eq_false_or_eq_true (decide ((b.length : Int) ≤ at_)) with b105 | b105
      · have c106 : (b.length : Int) ≤ at_ := of_decide_eq_true b105
        refine cE_cond true (uw104_18.trans (congrArg Value.bool b105)) (fun _ => ?_) (fun h => by cases h)
        refine cE_seq ?_
        refine cE_region rfl ?_
        refine s_cons (op_move (.pointer (some ⟨g_c, 0, none⟩)) uw104_0 ?_)
        refine s_cons (op_nilCheck rfl ?_)
        refine s_cons (op_fieldAddr (s := 0) Try.underlying54 rfl rfl Try.sizeOf4 rfl ?_)
        refine s_cons0 (op_store1 hst 0 rfl Try.sizeOf4 rfl rfl rfl (show 2 < 3 from by decide) (fun w107 hst => ?_))
        replace hst : St w0 w107 (.blk g_c 54 #[(.string (str b)), (.int .i64 at_), (.bool true)] :: L) := hst
        refine s_nil ?_
        refine then_n ?_
        refine cE_seq ?_
        refine cE_region rfl ?_
        refine s_cons (op_assign (.int .u8 0) rfl ?_)
        refine s_nil ?_
        refine then_n ?_
        refine cE_ret ?_
        refine then_r ?_
        refine post_r _ (res1 (v := (.int .u8 0)) rfl) ?_
        have e108 : ((.int .i64 at_) : Value) = (.int .i64 (rbyAt bad b at_)) := (congrArg (Value.int .i64) (show at_ = (rbyAt bad b at_) from by first | rfl | exact rby_at (by assumption) (by omega) (by omega) (by omega) | (simp [rby, rbyAt, rbyBad, b1, b105]; done) | (simp [rby, rbyAt, rbyBad, b1, b105]; omega)))
        replace hst : St w0 w107 (.blk g_c 54 #[(.string (str b)), (.int .i64 (rbyAt bad b at_)), (.bool true)] :: L) := by rw [e108] at hst; exact hst
        have e109 : ((.bool true) : Value) = (.bool (rbyBad bad b at_)) := (congrArg Value.bool (show true = (rbyBad bad b at_) from by first | rfl | exact rby_at (by assumption) (by omega) (by omega) (by omega) | (simp [rby, rbyAt, rbyBad, b1, b105]; done) | (simp [rby, rbyAt, rbyBad, b1, b105]; omega)))
        replace hst : St w0 w107 (.blk g_c 54 #[(.string (str b)), (.int .i64 (rbyAt bad b at_)), (.bool (rbyBad bad b at_))] :: L) := by rw [e109] at hst; exact hst
        exact ⟨(retv1 (congrArg (Value.int .u8) (show 0 = (rby bad b at_) from by first | rfl | exact rby_at (by assumption) (by omega) (by omega) (by omega) | (simp [rby, rbyAt, rbyBad, b1, b105]; done) | (simp [rby, rbyAt, rbyBad, b1, b105]; omega)))), hst.sub (.cons_cons _ (List.Sublist.refl _))⟩
      · have c110 : ¬ ((b.length : Int) ≤ at_) := of_decide_eq_false b105
        refine cE_cond false (uw104_18.trans (congrArg Value.bool b105)) (fun h => by cases h) (fun _ => ?_)
        refine cE_skip ?_
        refine then_n ?_
        refine cE_seq ?_
        refine cE_region rfl ?_
        refine s_cons (op_move (.pointer (some ⟨g_c, 0, none⟩)) uw104_0 ?_)
        refine s_cons (op_nilCheck rfl ?_)
        refine s_cons (op_fieldAddr (s := 0) Try.underlying54 rfl rfl Try.sizeOf3 rfl ?_)
        refine s_cons (op_load1 (u := (.int .i64 at_)) Try.isAgg3 rfl ((hst.cell 0 rfl).drop 1) ?_)
        refine s_cons (op_add (k := .i64) (a := at_) (b := 1) (at_ + 1) rfl rfl (xi64 (by omega) (by omega)) ?_)
        refine s_cons (op_nilCheck rfl ?_)
        refine s_cons (op_fieldAddr (s := 0) Try.underlying54 rfl rfl Try.sizeOf3 rfl ?_)
        refine s_cons0 (op_store1 hst 0 rfl Try.sizeOf3 rfl rfl rfl (show 1 < 3 from by decide) (fun w111 hst => ?_))
        replace hst : St w0 w111 (.blk g_c 54 #[(.string (str b)), (.int .i64 (at_ + 1)), (.bool bad)] :: L) := hst
        refine s_nil ?_
        refine then_n ?_
        refine cE_seq ?_
        refine cE_regionL hst [[(0, none)], [(29, some 0)], [(30, some 1)], [(31, some 2)], [(0, none)], [(33, some 4)], [(34, some 5)], [(35, some 6)], [(36, some 7)], [(32, some 3), (37, some 8)], [(38, some 9)]] [(rEq (.pointer (some ⟨g_c, 0, none⟩))), (rEq (.pointer (some ⟨g_c, 0, none⟩))), (rEq (.pointer (some ⟨g_c, (0 + 0), none⟩))), (rEq (.string (str b))), (rEq (.pointer (some ⟨g_c, 0, none⟩))), (rEq (.pointer (some ⟨g_c, 0, none⟩))), (rEq (.pointer (some ⟨g_c, (0 + 1), none⟩))), (rEq (.int .i64 (at_ + 1))), (rEq (.int .i64 ((at_ + 1) - 1))), (rEq (.int .u8 ((b[(Int.toNat ((at_ + 1) - 1))]'(by omega)).toNat : Int))), (rEq (.int .u8 ((b[(Int.toNat ((at_ + 1) - 1))]'(by omega)).toNat : Int)))] (by kernel_rfl) rfl (by kernel_rfl) ⟨sEq, sEq, sEq, sEq, sEq, sEq, sEq, sEq, sEq, sEq, sEq, trivial⟩ ⟨?_, ?_, ?_, ?_, ?_, ?_, ?_, ?_, ?_, ?_, ?_, trivial⟩ ?_
        · rintro ρ113 w114 hj115 ⟨f0, _⟩
          have hst := hj115.2
          exact go_plain (op_move (.pointer (some ⟨g_c, 0, none⟩)) (f0.trans uw104_0) (kS hj115 rfl))
        · rintro ρ116 w117 hj118 ⟨f29, _⟩
          have hst := hj118.2
          exact go_plain (op_nilCheck f29 (kS hj118 rfl))
        · rintro ρ119 w120 hj121 ⟨f30, _⟩
          have hst := hj121.2
          exact go_plain (op_fieldAddr (s := 0) Try.underlying54 rfl rfl Try.sizeOf9 f30 (kS hj121 rfl))
        · rintro ρ122 w123 hj124 ⟨f31, _⟩
          have hst := hj124.2
          exact go_plain (op_load1 (u := (.string (str b))) Try.isAgg9 f31 (hst.cell 0 rfl) (kS hj124 rfl))
        · rintro ρ125 w126 hj127 ⟨f0, _⟩
          have hst := hj127.2
          exact go_plain (op_move (.pointer (some ⟨g_c, 0, none⟩)) (f0.trans uw104_0) (kS hj127 rfl))
        · rintro ρ128 w129 hj130 ⟨f33, _⟩
          have hst := hj130.2
          exact go_plain (op_nilCheck f33 (kS hj130 rfl))
        · rintro ρ131 w132 hj133 ⟨f34, _⟩
          have hst := hj133.2
          exact go_plain (op_fieldAddr (s := 0) Try.underlying54 rfl rfl Try.sizeOf3 f34 (kS hj133 rfl))
        · rintro ρ134 w135 hj136 ⟨f35, _⟩
          have hst := hj136.2
          exact go_plain (op_load1 (u := (.int .i64 (at_ + 1))) Try.isAgg3 f35 ((hst.cell 0 rfl).drop 1) (kS hj136 rfl))
        · rintro ρ137 w138 hj139 ⟨f36, _⟩
          have hst := hj139.2
          exact go_plain (op_sub (k := .i64) (a := (at_ + 1)) (b := 1) ((at_ + 1) - 1) f36 rfl (xi64 (by omega) (by omega)) (kS hj139 rfl))
        · rintro ρ140 w141 hj142 ⟨f32, f37, _⟩
          have hst := hj142.2
          exact go_plain (op_index_strN (s := b) (Int.toNat ((at_ + 1) - 1)) Try.underlying9 f32 f37 (by omega) (by omega) (kS hj142 rfl))
        · rintro ρ144 w145 hj146 ⟨f38, _⟩
          have hst := hj146.2
          exact go_plain (op_assign (.int .u8 ((b[(Int.toNat ((at_ + 1) - 1))]'(by omega)).toNat : Int)) f38 (kS hj146 rfl))
        · intro ρ147 w148 hbw148 hst hRw148 hkw148
          have uw148_0 : ρ147 0 = (.pointer (some ⟨g_c, 0, none⟩)) := (hkw148 0 rfl).trans uw104_0
          have uw148_18 : ρ147 18 = (.bool (decide ((b.length : Int) ≤ at_))) := (hkw148 18 rfl).trans uw104_18
          have uw148_22 : ρ147 22 = (.pointer (some ⟨g_c, 0, none⟩)) := (hkw148 22 rfl).trans rfl
          have uw148_23 : ρ147 23 = (.pointer (some ⟨g_c, 0, none⟩)) := (hkw148 23 rfl).trans rfl
          have uw148_24 : ρ147 24 = (.pointer (some ⟨g_c, (0 + 1), none⟩)) := (hkw148 24 rfl).trans rfl
          have uw148_25 : ρ147 25 = (.int .i64 at_) := (hkw148 25 rfl).trans rfl
          have uw148_26 : ρ147 26 = (.int .i64 (at_ + 1)) := (hkw148 26 rfl).trans rfl
          have uw148_27 : ρ147 27 = (.pointer (some ⟨g_c, 0, none⟩)) := (hkw148 27 rfl).trans rfl
          have uw148_28 : ρ147 28 = (.pointer (some ⟨g_c, (0 + 1), none⟩)) := (hkw148 28 rfl).trans rfl
          have uw148_2 : ρ147 2 = (.int .u8 ((b[(Int.toNat ((at_ + 1) - 1))]'(by omega)).toNat : Int)) := hRw148 10 2 rfl
          refine then_n ?_
          refine cE_ret ?_
          refine post_r _ (res1 (v := (.int .u8 ((b[(Int.toNat ((at_ + 1) - 1))]'(by omega)).toNat : Int))) uw148_2) ?_
          have e149 : ((.int .i64 (at_ + 1)) : Value) = (.int .i64 (rbyAt bad b at_)) := (congrArg (Value.int .i64) (show (at_ + 1) = (rbyAt bad b at_) from by first | rfl | exact rby_at (by assumption) (by omega) (by omega) (by omega) | (simp [rby, rbyAt, rbyBad, b1, b105]; done) | (simp [rby, rbyAt, rbyBad, b1, b105]; omega)))
          replace hst : St w0 w148 (.blk g_c 54 #[(.string (str b)), (.int .i64 (rbyAt bad b at_)), (.bool bad)] :: L) := by rw [e149] at hst; exact hst
          have e150 : ((.bool bad) : Value) = (.bool (rbyBad bad b at_)) := (congrArg Value.bool (show bad = (rbyBad bad b at_) from by first | rfl | exact rby_at (by assumption) (by omega) (by omega) (by omega) | (simp [rby, rbyAt, rbyBad, b1, b105]; done) | (simp [rby, rbyAt, rbyBad, b1, b105]; omega)))
          replace hst : St w0 w148 (.blk g_c 54 #[(.string (str b)), (.int .i64 (rbyAt bad b at_)), (.bool (rbyBad bad b at_))] :: L) := by rw [e150] at hst; exact hst
          exact ⟨(retv1 (congrArg (Value.int .u8) (show ((b[(Int.toNat ((at_ + 1) - 1))]'(by omega)).toNat : Int) = (rby bad b at_) from by first | rfl | exact rby_at (by assumption) (by omega) (by omega) (by omega) | (simp [rby, rbyAt, rbyBad, b1, b105]; done) | (simp [rby, rbyAt, rbyBad, b1, b105]; omega)))), hst.sub (.cons_cons _ (List.Sublist.refl _))⟩

end Go.Proofs.Ytfljkaigfmedeaa
