/- twinkeepref5.C).Num, twinkeepref1.Zag -/
import Derived.Test.YtpamjfbdgaamoaaW30
import Derived.Test.YtpamjfbdgaamoaaW1
import Derived.Test.YtpamjfbdgaamoaaW6
import Derived.Test.YtpamjfbdgaamoaaBI
namespace Go.Proofs.Ytpamjfbdgaamoaa
open Go.RowKit

theorem c_cNumE {w0 w : World} {L : List Item} (g_c : Nat) (b : List UInt8) (at_ : Int) (bad : Bool) (hl : b.length ≤ 1000000000) (hst : St w0 w (.blk g_c 66 #[(.string (str b)), (.int .i64 at_), (.bool bad)] :: L)) :
    Calls Try.prog 41 #[(.pointer (some ⟨g_c, 0, none⟩))] w fun e w' => ∃ (n2 : Int), ∃ (p2 : Int), ∃ (d2 : Bool), e = .returned (.int .u64 n2) ∧ St w0 w' (.blk g_c 66 #[(.string (str b)), (.int .i64 p2), (.bool d2)] :: L) ∧ n2 = rnum bad b at_ ∧ p2 = rto bad b at_ ∧ d2 = rbad bad b at_ := by
  refine calls_E (n := 33) (ts := [2]) Try.func41 rfl rfl rfl (by simp) ?_
  refine cE_seq ?_
  refine cE_region rfl ?_
  refine s_cons (op_assign (.int .u64 0) rfl ?_)
  refine s_nil ?_
  refine then_n ?_
  refine cE_seq ?_
  refine cE_seq ?_
  refine cE_region rfl ?_
  refine s_cons (op_move (.pointer (some ⟨g_c, 0, none⟩)) rfl ?_)
  refine s_cons (op_nilCheck rfl ?_)
  refine s_cons (op_fieldAddr (s := 0) Try.underlying66 rfl rfl Try.sizeOf4 rfl ?_)
  refine s_cons (op_load1 (u := (.bool bad)) Try.isAgg4 rfl ((hst.cell 0 rfl).drop 2) ?_)
  refine s_nil ?_
  refine then_n ?_
  rcases Bool.eq_false_or_eq_true bad with b1 | b1
  · refine cE_cond true (congrArg Value.bool b1) (fun _ => ?_) (fun h => by cases h)
    refine cE_seq ?_
    refine cE_region rfl ?_
    refine s_cons (op_assign (.int .u64 0) rfl ?_)
    refine s_nil ?_
    refine then_n ?_
    refine cE_ret ?_
    refine then_r ?_
    refine post_r _ (res1 (v := (.int .u64 0)) rfl) ?_
    exact ⟨0, at_, bad, rfl, hst.sub (.cons_cons _ (List.Sublist.refl _)), (by first | rfl | (simp [rnum, rto, rbad, *]; done)), (by first | rfl | (simp [rnum, rto, rbad, *]; done)), (by first | rfl | (simp [rnum, rto, rbad, *]; done))⟩
  refine cE_cond false (congrArg Value.bool b1) (fun h => by cases h) (fun _ => ?_)
  refine cE_skip ?_
  refine then_n ?_
  refine cE_seq ?_
  refine cE_regionL hst [[(0, none)], [(11, some 0)], [(12, some 1)], [(13, some 2)], [(0, none)], [(15, some 4)], [(16, some 5)], [(17, some 6)], [(14, some 3), (18, some 7)], [(19, some 8)], [(10, some 9)], [(10, some 9)], [(10, some 9)], [(20, some 10)], [(21, some 11)], [(22, some 12)]] [(rEq (.pointer (some ⟨g_c, 0, none⟩))), (rEq (.pointer (some ⟨g_c, 0, none⟩))), (rEq (.pointer (some ⟨g_c, (0 + 0), none⟩))), (rEq (.string (str b))), (rEq (.pointer (some ⟨g_c, 0, none⟩))), (rEq (.pointer (some ⟨g_c, 0, none⟩))), (rEq (.pointer (some ⟨g_c, (0 + 1), none⟩))), (rEq (.int .i64 at_)), (rEq (.tuple #[(.int .u64 ((get b at_).1)), (.int .i64 ((get b at_).2.1)), (.int .i64 ((get b at_).2.2))])), (rEq (.tuple #[(.int .u64 ((get b at_).1)), (.int .i64 ((get b at_).2.1)), (.int .i64 ((get b at_).2.2))])), (rEq (.int .u64 ((get b at_).1))), (rEq (.int .i64 ((get b at_).2.1))), (rEq (.int .i64 ((get b at_).2.2))), (rEq (.int .u64 ((get b at_).1))), (rEq (.int .i64 ((get b at_).2.1))), (rEq (.int .i64 ((get b at_).2.2)))] (by kernel_rfl) rfl (by kernel_rfl) ⟨sEq, sEq, sEq, sEq, sEq, sEq, sEq, sEq, sEq, sEq, sEq, sEq, sEq, sEq, sEq, sEq, trivial⟩ ⟨?_, ?_, ?_, ?_, ?_, ?_, ?_, ?_, ?_, ?_, ?_, ?_, ?_, ?_, ?_, ?_, trivial⟩ ?_
  · rintro ρ3 w4 hj5 ⟨f0, _⟩
    have hst := hj5.2
    exact go_plain (op_move (.pointer (some ⟨g_c, 0, none⟩)) (f0.trans rfl) (kS hj5 rfl))
  · rintro ρ6 w7 hj8 ⟨f11, _⟩
    have hst := hj8.2
    exact go_plain (op_nilCheck f11 (kS hj8 rfl))
  · rintro ρ9 w10 hj11 ⟨f12, _⟩
    have hst := hj11.2
    exact go_plain (op_fieldAddr (s := 0) Try.underlying66 rfl rfl Try.sizeOf9 f12 (kS hj11 rfl))
  · rintro ρ12 w13 hj14 ⟨f13, _⟩
    have hst := hj14.2
    exact go_plain (op_load1 (u := (.string (str b))) Try.isAgg9 f13 (hst.cell 0 rfl) (kS hj14 rfl))
  · rintro ρ15 w16 hj17 ⟨f0, _⟩
    have hst := hj17.2
    exact go_plain (op_move (.pointer (some ⟨g_c, 0, none⟩)) (f0.trans rfl) (kS hj17 rfl))
  · rintro ρ18 w19 hj20 ⟨f15, _⟩
    have hst := hj20.2
    exact go_plain (op_nilCheck f15 (kS hj20 rfl))
  · rintro ρ21 w22 hj23 ⟨f16, _⟩
    have hst := hj23.2
    exact go_plain (op_fieldAddr (s := 0) Try.underlying66 rfl rfl Try.sizeOf3 f16 (kS hj23 rfl))
  · rintro ρ24 w25 hj26 ⟨f17, _⟩
    have hst := hj26.2
    exact go_plain (op_load1 (u := (.int .i64 at_)) Try.isAgg3 f17 ((hst.cell 0 rfl).drop 1) (kS hj26 rfl))
  · rintro ρ27 w28 hj29 ⟨f14, f18, _⟩
    have hst := hj29.2
    refine go_plain (op_call Try.call49 (evs_cons (v := (.string (str b))) f14 (evs_cons (v := (.int .i64 at_)) f18 evs_nil)) (c_rGet (w0 := w28) (b := b) (at_ := at_) (hl := (by omega))) ?_)
    rintro _ w30 ⟨rfl, hcall⟩
    refine ⟨_, rfl, ?_⟩
    exact kD hj29 hcall rfl
  · rintro ρ31 w32 hj33 ⟨f19, _⟩
    have hst := hj33.2
    exact go_plain (op_move (.tuple #[(.int .u64 ((get b at_).1)), (.int .i64 ((get b at_).2.1)), (.int .i64 ((get b at_).2.2))]) f19 (kS hj33 rfl))
  · rintro ρ34 w35 hj36 ⟨f10, _⟩
    have hst := hj36.2
    exact go_plain (op_extract (.int .u64 ((get b at_).1)) f10 rfl (kS hj36 rfl))
  · rintro ρ37 w38 hj39 ⟨f10, _⟩
    have hst := hj39.2
    exact go_plain (op_extract (.int .i64 ((get b at_).2.1)) f10 rfl (kS hj39 rfl))
  · rintro ρ40 w41 hj42 ⟨f10, _⟩
    have hst := hj42.2
    exact go_plain (op_extract (.int .i64 ((get b at_).2.2)) f10 rfl (kS hj42 rfl))
  · rintro ρ43 w44 hj45 ⟨f20, _⟩
    have hst := hj45.2
    exact go_plain (op_assign (.int .u64 ((get b at_).1)) f20 (kS hj45 rfl))
  · rintro ρ46 w47 hj48 ⟨f21, _⟩
    have hst := hj48.2
    exact go_plain (op_assign (.int .i64 ((get b at_).2.1)) f21 (kS hj48 rfl))
  · rintro ρ49 w50 hj51 ⟨f22, _⟩
    have hst := hj51.2
    exact go_plain (op_assign (.int .i64 ((get b at_).2.2)) f22 (kS hj51 rfl))
  intro ρ52 w53 hbw53 hst hRw53 hkw53
  have uw53_0 : ρ52 0 = (.pointer (some ⟨g_c, 0, none⟩)) := (hkw53 0 rfl).trans rfl
  have uw53_2 : ρ52 2 = (.int .u64 0) := (hkw53 2 rfl).trans rfl
  have uw53_6 : ρ52 6 = (.pointer (some ⟨g_c, 0, none⟩)) := (hkw53 6 rfl).trans rfl
  have uw53_7 : ρ52 7 = (.pointer (some ⟨g_c, 0, none⟩)) := (hkw53 7 rfl).trans rfl
  have uw53_8 : ρ52 8 = (.pointer (some ⟨g_c, (0 + 2), none⟩)) := (hkw53 8 rfl).trans rfl
  have uw53_9 : ρ52 9 = (.bool bad) := (hkw53 9 rfl).trans rfl
  have uw53_3 : ρ52 3 = (.int .u64 ((get b at_).1)) := hRw53 13 3 rfl
  have uw53_4 : ρ52 4 = (.int .i64 ((get b at_).2.1)) := hRw53 14 4 rfl
  have uw53_5 : ρ52 5 = (.int .i64 ((get b at_).2.2)) := hRw53 15 5 rfl
  refine then_n ?_
  refine cE_seq ?_
  refine cE_region rfl ?_
  refine s_cons (op_move (.pointer (some ⟨g_c, 0, none⟩)) uw53_0 ?_)
  refine s_cons (op_move (.pointer (some ⟨g_c, 0, none⟩)) uw53_0 ?_)
  refine s_cons (op_move (.int .i64 ((get b at_).2.1)) uw53_4 ?_)
  refine s_cons (op_move (.int .i64 ((get b at_).2.2)) uw53_5 ?_)
  refine s_cons (op_neq (k := .i64) (a := (get b at_).2.2) (b := 0) rfl rfl ?_)
  refine s_cons (op_nilCheck rfl ?_)
  refine s_cons (op_fieldAddr (s := 0) Try.underlying66 rfl rfl Try.sizeOf3 rfl ?_)
  refine s_cons0 (op_store1 hst 0 rfl Try.sizeOf3 rfl rfl rfl (show 1 < 3 from by decide) (fun w54 hst => ?_))
  replace hst : St w0 w54 (.blk g_c 66 #[(.string (str b)), (.int .i64 ((get b at_).2.1)), (.bool bad)] :: L) := hst
  refine s_cons (op_nilCheck rfl ?_)
  refine s_cons (op_fieldAddr (s := 0) Try.underlying66 rfl rfl Try.sizeOf4 rfl ?_)
  refine s_cons0 (op_store1 hst 0 rfl Try.sizeOf4 rfl rfl rfl (show 2 < 3 from by decide) (fun w55 hst => ?_))
  replace hst : St w0 w55 (.blk g_c 66 #[(.string (str b)), (.int .i64 ((get b at_).2.1)), (.bool (!decide (((get b at_).2.2) = 0)))] :: L) := hst
  refine s_nil ?_
  refine then_n ?_
  refine cE_seq ?_
  refine cE_region rfl ?_
  refine s_cons (op_move (.int .u64 ((get b at_).1)) uw53_3 ?_)
  refine s_cons (op_assign (.int .u64 ((get b at_).1)) rfl ?_)
  refine s_nil ?_
  refine then_n ?_
  refine cE_ret ?_
  refine post_r _ (res1 (v := (.int .u64 ((get b at_).1))) rfl) ?_
  exact ⟨(get b at_).1, (get b at_).2.1, !decide (((get b at_).2.2) = 0), rfl, hst.sub (.cons_cons _ (List.Sublist.refl _)), (by first | rfl | (simp [rnum, rto, rbad, *]; done)), (by first | rfl | (simp [rnum, rto, rbad, *]; done)), (by first | rfl | (simp [rnum, rto, rbad, *]; done))⟩

theorem c_rZagE (w0 : World) (n : Int) (h0 : 0 ≤ n) (h1 : n ≤ 18446744073709551615) :
    Calls Try.prog 42 #[(.int .u64 n)] w0 fun e w' => ∃ (m2 : Int), e = .returned (.int .i64 m2) ∧ St w0 w' [] ∧ m2 = zag n := by
  refine calls_E (n := 14) (ts := [2]) Try.func42 rfl rfl rfl (by simp) ?_
  have hst := St.start w0
  refine cE_seq ?_
  refine cE_region rfl ?_
  refine s_cons (op_assign (.int .i64 0) rfl ?_)
  refine s_nil ?_
  refine then_n ?_
  refine cE_seq ?_
  refine cE_seq ?_
  refine cE_region rfl ?_
  refine s_cons (op_move (.int .u64 n) rfl ?_)
  refine s_cons (op_rem (k := .u64) (a := n) (b := 2) (n % 2) rfl rfl (by omega) (tmod_nn (by omega)) ?_)
  refine s_cons (op_eql (k := .u64) (a := (n % 2)) (b := 0) rfl rfl ?_)
  refine s_nil ?_
  refine then_n ?_
  rcases Bool.eq_false_or_eq_true (decide ((n % 2) = 0)) with b56 | b56
  · have c57 : (n % 2) = 0 := of_decide_eq_true b56
    refine cE_cond true (congrArg Value.bool b56) (fun _ => ?_) (fun h => by cases h)
    refine cE_seq ?_
    refine cE_region rfl ?_
    refine s_cons (op_move (.int .u64 n) rfl ?_)
    refine s_cons (op_quo (k := .u64) (a := n) (b := 2) (n / 2) rfl rfl (by omega) (quo_x (by omega) (by omega) (xu64 (by omega) (by omega))) ?_)
    refine s_cons (op_conv (k := .u64) (a := (n / 2)) (n / 2) Try.underlying2 (by rw [Try.underlying54]; rfl) rfl (xi64 (by omega) (by omega)) ?_)
    refine s_cons (op_assign (.int .i64 (n / 2)) rfl ?_)
    refine s_nil ?_
    refine then_n ?_
    refine cE_ret ?_
    refine then_r ?_
    refine post_r _ (res1 (v := (.int .i64 (n / 2))) rfl) ?_
    exact ⟨(n / 2), rfl, hst.bare, (by unfold zag; split <;> omega)⟩
  have c58 : ¬ ((n % 2) = 0) := of_decide_eq_false b56
  refine cE_cond false (congrArg Value.bool b56) (fun h => by cases h) (fun _ => ?_)
  refine cE_skip ?_
  refine then_n ?_
  refine cE_seq ?_
  refine cE_region rfl ?_
  refine s_cons (op_move (.int .u64 n) rfl ?_)
  refine s_cons (op_quo (k := .u64) (a := n) (b := 2) (n / 2) rfl rfl (by omega) (quo_x (by omega) (by omega) (xu64 (by omega) (by omega))) ?_)
  refine s_cons (op_conv (k := .u64) (a := (n / 2)) (n / 2) Try.underlying2 (by rw [Try.underlying54]; rfl) rfl (xi64 (by omega) (by omega)) ?_)
  refine s_cons (op_neg (k := .i64) (a := (n / 2)) (-(n / 2)) rfl (xi64 (by omega) (by omega)) ?_)
  refine s_cons (op_sub (k := .i64) (a := -(n / 2)) (b := 1) ((-(n / 2)) - 1) rfl rfl (xi64 (by omega) (by omega)) ?_)
  refine s_cons (op_assign (.int .i64 ((-(n / 2)) - 1)) rfl ?_)
  refine s_nil ?_
  refine then_n ?_
  refine cE_ret ?_
  refine post_r _ (res1 (v := (.int .i64 ((-(n / 2)) - 1))) rfl) ?_
  exact ⟨((-(n / 2)) - 1), rfl, hst.bare, (by unfold zag; split <;> omega)⟩

end Go.Proofs.Ytpamjfbdgaamoaa
