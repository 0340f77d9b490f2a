/- frames: twinkeepref5.C).Num -/
import Derived.Test.YtfljkaigfmedeaaW1
import Derived.Test.YtfljkaigfmedeaaW2
import Derived.Test.YtfljkaigfmedeaaW3
import Derived.Test.YtfljkaigfmedeaaFC
import Derived.Test.YtfljkaigfmedeaaW10
import Derived.Test.YtfljkaigfmedeaaW11
import Derived.Test.YtfljkaigfmedeaaW12
import Derived.Test.YtfljkaigfmedeaaW13
import Derived.Test.YtfljkaigfmedeaaW14
import Derived.Test.YtfljkaigfmedeaaW15
import Derived.Test.YtfljkaigfmedeaaW16
import Derived.Test.YtfljkaigfmedeaaW17
namespace Go.Proofs.Ytfljkaigfmedeaa
open Go.RowKit

theorem c_cNum {w0 w : World} {L : List Item} (g_c : Nat) (b : List UInt8) (at_ : Int) (bad : Bool) (hl : b.length ≤ 1000000000) (hst : St w0 w (.blk g_c 54 #[(.string (str b)), (.int .i64 at_), (.bool bad)] :: L)) :
    Calls Try.prog 28 #[(.pointer (some ⟨g_c, 0, none⟩))] w fun e w' => e = .returned (.int .u64 (rnum bad b at_)) ∧ St w0 w' (.blk g_c 54 #[(.string (str b)), (.int .i64 (rto bad b at_)), (.bool (rbad bad b at_))] :: L) := by
  refine calls_E (n := 33) (ts := [2]) Try.func28 rfl rfl rfl (by simp) ?_
  refine cE_seq ?_
  refine cE_region rfl ?_
  refine s_cons (op_assign (.int .u64 0) rfl ?_)
  refine s_nil ?_
  refine then_n ?_
  refine cE_seq ?_
  refine cE_seq ?_
  refine cE_region rfl ?_
  refine s_cons (op_move (.pointer (some ⟨g_c, 0, none⟩)) rfl ?_)
  refine s_cons (op_nilCheck rfl ?_)
  refine s_cons (op_fieldAddr (s := 0) Try.underlying54 rfl rfl Try.sizeOf4 rfl ?_)
  refine s_cons (op_load1 (u := (.bool bad)) Try.isAgg4 rfl ((hst.cell 0 rfl).drop 2) ?_)
  refine s_nil ?_
  refine then_n ?_
  rcases Bool.eq_false_or_eq_true bad with b1 | b1
  · refine cE_cond true (congrArg Value.bool b1) (fun _ => ?_) (fun h => by cases h)
    refine cE_seq ?_
    refine cE_region rfl ?_
    refine s_cons (op_assign (.int .u64 0) rfl ?_)
    refine s_nil ?_
    refine then_n ?_
    refine cE_ret ?_
    refine then_r ?_
    refine post_r _ (res1 (v := (.int .u64 0)) rfl) ?_
    have e2 : ((.int .i64 at_) : Value) = (.int .i64 (rto bad b at_)) := (congrArg (Value.int .i64) (show at_ = (rto bad b at_) from by first | rfl | (simp [rnum, rto, rbad, b1]; done)))
    replace hst : St w0 w (.blk g_c 54 #[(.string (str b)), (.int .i64 (rto bad b at_)), (.bool bad)] :: L) := by rw [e2] at hst; exact hst
    have e3 : ((.bool bad) : Value) = (.bool (rbad bad b at_)) := (congrArg Value.bool (show bad = (rbad bad b at_) from by first | rfl | (simp [rnum, rto, rbad, b1]; done)))
    replace hst : St w0 w (.blk g_c 54 #[(.string (str b)), (.int .i64 (rto bad b at_)), (.bool (rbad bad b at_))] :: L) := by rw [e3] at hst; exact hst
    exact ⟨(retv1 (congrArg (Value.int .u64) (show 0 = (rnum bad b at_) from by first | rfl | (simp [rnum, rto, rbad, b1]; done)))), hst.sub (.cons_cons _ (List.Sublist.refl _))⟩
  · refine cE_cond false (congrArg Value.bool b1) (fun h => by cases h) (fun _ => ?_)
    refine cE_skip ?_
    refine then_n ?_
    refine cE_seq ?_
    refine cE_regionL hst [[(0, none)], [(11, some 0)], [(12, some 1)], [(13, some 2)], [(0, none)], [(15, some 4)], [(16, some 5)], [(17, some 6)], [(14, some 3), (18, some 7)], [(19, some 8)], [(10, some 9)], [(10, some 9)], [(10, some 9)], [(20, some 10)], [(21, some 11)], [(22, some 12)]] [(rEq (.pointer (some ⟨g_c, 0, none⟩))), (rEq (.pointer (some ⟨g_c, 0, none⟩))), (rEq (.pointer (some ⟨g_c, (0 + 0), none⟩))), (rEq (.string (str b))), (rEq (.pointer (some ⟨g_c, 0, none⟩))), (rEq (.pointer (some ⟨g_c, 0, none⟩))), (rEq (.pointer (some ⟨g_c, (0 + 1), none⟩))), (rEq (.int .i64 at_)), (rEq (.tuple #[(.int .u64 ((get b at_).1)), (.int .i64 ((get b at_).2.1)), (.int .i64 ((get b at_).2.2))])), (rEq (.tuple #[(.int .u64 ((get b at_).1)), (.int .i64 ((get b at_).2.1)), (.int .i64 ((get b at_).2.2))])), (rEq (.int .u64 ((get b at_).1))), (rEq (.int .i64 ((get b at_).2.1))), (rEq (.int .i64 ((get b at_).2.2))), (rEq (.int .u64 ((get b at_).1))), (rEq (.int .i64 ((get b at_).2.1))), (rEq (.int .i64 ((get b at_).2.2)))] (by kernel_rfl) rfl (by kernel_rfl) ⟨sEq, sEq, sEq, sEq, sEq, sEq, sEq, sEq, sEq, sEq, sEq, sEq, sEq, sEq, sEq, sEq, trivial⟩ ⟨?_, ?_, ?_, ?_, ?_, ?_, ?_, ?_, ?_, ?_, ?_, ?_, ?_, ?_, ?_, ?_, trivial⟩ ?_
    · rintro ρ5 w6 hj7 ⟨f0, _⟩
      have hst := hj7.2
      exact go_plain (op_move (.pointer (some ⟨g_c, 0, none⟩)) (f0.trans rfl) (kS hj7 rfl))
    · rintro ρ8 w9 hj10 ⟨f11, _⟩
      have hst := hj10.2
      exact go_plain (op_nilCheck f11 (kS hj10 rfl))
    · rintro ρ11 w12 hj13 ⟨f12, _⟩
      have hst := hj13.2
      exact go_plain (op_fieldAddr (s := 0) Try.underlying54 rfl rfl Try.sizeOf9 f12 (kS hj13 rfl))
    · rintro ρ14 w15 hj16 ⟨f13, _⟩
      have hst := hj16.2
      exact go_plain (op_load1 (u := (.string (str b))) Try.isAgg9 f13 (hst.cell 0 rfl) (kS hj16 rfl))
    · rintro ρ17 w18 hj19 ⟨f0, _⟩
      have hst := hj19.2
      exact go_plain (op_move (.pointer (some ⟨g_c, 0, none⟩)) (f0.trans rfl) (kS hj19 rfl))
    · rintro ρ20 w21 hj22 ⟨f15, _⟩
      have hst := hj22.2
      exact go_plain (op_nilCheck f15 (kS hj22 rfl))
    · rintro ρ23 w24 hj25 ⟨f16, _⟩
      have hst := hj25.2
      exact go_plain (op_fieldAddr (s := 0) Try.underlying54 rfl rfl Try.sizeOf3 f16 (kS hj25 rfl))
    · rintro ρ26 w27 hj28 ⟨f17, _⟩
      have hst := hj28.2
      exact go_plain (op_load1 (u := (.int .i64 at_)) Try.isAgg3 f17 ((hst.cell 0 rfl).drop 1) (kS hj28 rfl))
    · rintro ρ29 w30 hj31 ⟨f14, f18, _⟩
      have hst := hj31.2
      refine go_plain (op_call Try.call32 (evs_cons (v := (.string (str b))) f14 (evs_cons (v := (.int .i64 at_)) f18 evs_nil)) (c_rGet (w0 := w30) (b := b) (at_ := at_) (hl := (by omega))) ?_)
      rintro _ w32 ⟨rfl, hcall⟩
      refine ⟨_, rfl, ?_⟩
      exact kD hj31 hcall rfl
    · rintro ρ33 w34 hj35 ⟨f19, _⟩
      have hst := hj35.2
      exact go_plain (op_move (.tuple #[(.int .u64 ((get b at_).1)), (.int .i64 ((get b at_).2.1)), (.int .i64 ((get b at_).2.2))]) f19 (kS hj35 rfl))
    · rintro ρ36 w37 hj38 ⟨f10, _⟩
      have hst := hj38.2
      exact go_plain (op_extract (.int .u64 ((get b at_).1)) f10 rfl (kS hj38 rfl))
    · rintro ρ39 w40 hj41 ⟨f10, _⟩
      have hst := hj41.2
      exact go_plain (op_extract (.int .i64 ((get b at_).2.1)) f10 rfl (kS hj41 rfl))
    · rintro ρ42 w43 hj44 ⟨f10, _⟩
      have hst := hj44.2
      exact go_plain (op_extract (.int .i64 ((get b at_).2.2)) f10 rfl (kS hj44 rfl))
    · rintro ρ45 w46 hj47 ⟨f20, _⟩
      have hst := hj47.2
      exact go_plain (op_assign (.int .u64 ((get b at_).1)) f20 (kS hj47 rfl))
    · rintro ρ48 w49 hj50 ⟨f21, _⟩
      have hst := hj50.2
      exact go_plain (op_assign (.int .i64 ((get b at_).2.1)) f21 (kS hj50 rfl))
    · rintro ρ51 w52 hj53 ⟨f22, _⟩
      have hst := hj53.2
      exact go_plain (op_assign (.int .i64 ((get b at_).2.2)) f22 (kS hj53 rfl))
    · intro ρ54 w55 hbw55 hst hRw55 hkw55
      have uw55_0 : ρ54 0 = (.pointer (some ⟨g_c, 0, none⟩)) := (hkw55 0 rfl).trans rfl
      have uw55_2 : ρ54 2 = (.int .u64 0) := (hkw55 2 rfl).trans rfl
      have uw55_6 : ρ54 6 = (.pointer (some ⟨g_c, 0, none⟩)) := (hkw55 6 rfl).trans rfl
      have uw55_7 : ρ54 7 = (.pointer (some ⟨g_c, 0, none⟩)) := (hkw55 7 rfl).trans rfl
      have uw55_8 : ρ54 8 = (.pointer (some ⟨g_c, (0 + 2), none⟩)) := (hkw55 8 rfl).trans rfl
      have uw55_9 : ρ54 9 = (.bool bad) := (hkw55 9 rfl).trans rfl
      have uw55_3 : ρ54 3 = (.int .u64 ((get b at_).1)) := hRw55 13 3 rfl
      have uw55_4 : ρ54 4 = (.int .i64 ((get b at_).2.1)) := hRw55 14 4 rfl
      have uw55_5 : ρ54 5 = (.int .i64 ((get b at_).2.2)) := hRw55 15 5 rfl
      refine then_n ?_
      refine cE_seq ?_
      refine cE_region rfl ?_
      refine s_cons (op_move (.pointer (some ⟨g_c, 0, none⟩)) uw55_0 ?_)
      refine s_cons (op_move (.pointer (some ⟨g_c, 0, none⟩)) uw55_0 ?_)
      refine s_cons (op_move (.int .i64 ((get b at_).2.1)) uw55_4 ?_)
      refine s_cons (op_move (.int .i64 ((get b at_).2.2)) uw55_5 ?_)
      refine s_cons (op_neq (k := .i64) (a := (get b at_).2.2) (b := 0) rfl rfl ?_)
      refine s_cons (op_nilCheck rfl ?_)
      refine s_cons (op_fieldAddr (s := 0) Try.underlying54 rfl rfl Try.sizeOf3 rfl ?_)
      refine s_cons0 (op_store1 hst 0 rfl Try.sizeOf3 rfl rfl rfl (show 1 < 3 from by decide) (fun w56 hst => ?_))
      replace hst : St w0 w56 (.blk g_c 54 #[(.string (str b)), (.int .i64 ((get b at_).2.1)), (.bool bad)] :: L) := hst
      refine s_cons (op_nilCheck rfl ?_)
      refine s_cons (op_fieldAddr (s := 0) Try.underlying54 rfl rfl Try.sizeOf4 rfl ?_)
      refine s_cons0 (op_store1 hst 0 rfl Try.sizeOf4 rfl rfl rfl (show 2 < 3 from by decide) (fun w57 hst => ?_))
      replace hst : St w0 w57 (.blk g_c 54 #[(.string (str b)), (.int .i64 ((get b at_).2.1)), (.bool (!decide (((get b at_).2.2) = 0)))] :: L) := hst
      refine s_nil ?_
      refine then_n ?_
      refine cE_seq ?_
      refine cE_region rfl ?_
      refine s_cons (op_move (.int .u64 ((get b at_).1)) uw55_3 ?_)
      refine s_cons (op_assign (.int .u64 ((get b at_).1)) rfl ?_)
      refine s_nil ?_
      refine then_n ?_
      refine cE_ret ?_
      refine post_r _ (res1 (v := (.int .u64 ((get b at_).1))) rfl) ?_
      have e58 : ((.int .i64 ((get b at_).2.1)) : Value) = (.int .i64 (rto bad b at_)) := (congrArg (Value.int .i64) (show (get b at_).2.1 = (rto bad b at_) from by first | rfl | (simp [rnum, rto, rbad, b1]; done)))
      replace hst : St w0 w57 (.blk g_c 54 #[(.string (str b)), (.int .i64 (rto bad b at_)), (.bool (!decide (((get b at_).2.2) = 0)))] :: L) := by rw [e58] at hst; exact hst
      have e59 : ((.bool (!decide (((get b at_).2.2) = 0))) : Value) = (.bool (rbad bad b at_)) := (congrArg Value.bool (show (!decide (((get b at_).2.2) = 0)) = (rbad bad b at_) from by first | rfl | (simp [rnum, rto, rbad, b1]; done)))
      replace hst : St w0 w57 (.blk g_c 54 #[(.string (str b)), (.int .i64 (rto bad b at_)), (.bool (rbad bad b at_))] :: L) := by rw [e59] at hst; exact hst
      exact ⟨(retv1 (congrArg (Value.int .u64) (show (get b at_).1 = (rnum bad b at_) from by first | rfl | (simp [rnum, rto, rbad, b1]; done)))), hst.sub (.cons_cons _ (List.Sublist.refl _))⟩

end Go.Proofs.Ytfljkaigfmedeaa
