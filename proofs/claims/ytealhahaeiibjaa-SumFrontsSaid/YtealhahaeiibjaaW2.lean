/- the laws of sums -/
import Derived.Test.YtealhahaeiibjaaW1
namespace Go.Proofs.Ytealhahaeiibjaa
open Go.RowKit

theorem c_SumAsks (w0 : World) (v_b : Value) (b : List UInt8) (h_b : Sl w0 u8E v_b b) (s : Int) (h0 : 0 ≤ s) (h1 : s ≤ 4294967295) :
    Calls Try.prog 3 #[v_b, (.int .u32 s)] w0 fun e w' => e = .returned (.bool true) ∧ St w0 w' [] := by
  refine calls_E (n := 28) (ts := [4]) Try.func3 rfl rfl rfl (by simp) ?_
  have hst := St.start w0
  refine cE_seq ?_
  refine cE_region rfl ?_
  refine s_cons (op_assign (.bool false) rfl ?_)
  refine s_nil ?_
  refine then_n ?_
  refine cE_seq ?_
  refine cE_seq ?_
  refine cE_region rfl ?_
  refine s_cons (op_move v_b rfl ?_)
  refine s_cons (op_len (E := u8E) (xs := b) Try.underlying22 rfl h_b ?_)
  refine s_cons (op_gtr (k := .i64) (a := (b.length : Int)) (b := 300) rfl rfl ?_)
  refine s_nil ?_
  refine then_n ?_
  rcases Bool.eq_false_or_eq_true (decide (300 < (b.length : Int))) with b1 | b1
  · have c2 : 300 < (b.length : Int) := of_decide_eq_true b1
    refine cE_cond true (congrArg Value.bool b1) (fun _ => ?_) (fun h => by cases h)
    refine cE_seq ?_
    refine cE_region rfl ?_
    refine s_cons (op_call Try.call14 evs_nil (c_told2 (w0 := w0)) ?_)
    rintro _ w3 ⟨rfl, hcall⟩
    refine ⟨_, rfl, ?_⟩
    have hst : St w0 w3 [] := hst.call hcall
    refine s_cons (op_assign (.bool true) rfl ?_)
    refine s_nil ?_
    refine then_n ?_
    refine cE_ret ?_
    refine then_r ?_
    refine post_r _ (res1 (v := (.bool true)) rfl) ?_
    exact ⟨rfl, hst.bare⟩
  · have c4 : ¬ (300 < (b.length : Int)) := of_decide_eq_false b1
    refine cE_cond false (congrArg Value.bool b1) (fun h => by cases h) (fun _ => ?_)
    refine cE_skip ?_
    refine then_n ?_
    refine cE_seq ?_
    refine cE_regionL hst [[], [(9, some 0)], [(0, none), (10, some 1)], [(11, some 2), (10, some 1)], [(0, none), (10, some 1)], [(13, some 4), (10, some 1)], [(14, some 5), (10, some 1)], [(12, some 3), (15, some 6), (10, some 1)], [(10, some 1), (16, some 7)], [(17, some 8)], [(1, none), (18, some 9)], [(0, none), (18, some 9)], [(19, some 10), (20, some 11), (18, some 9)], [(1, none), (18, some 9)], [(0, none), (18, some 9)], [(23, some 14), (18, some 9)], [(22, some 13), (24, some 15), (18, some 9)], [(21, some 12), (25, some 16), (18, some 9)], [(18, some 9), (26, some 17)], [(27, some 18)]] [(rEq (.bool true)), (rEq (.bool true)), (rEq v_b), (rEq (.int .u32 (more 1 b))), (rEq v_b), (rEq (.string (str b))), (rEq (.int .u32 (more 1 b))), (rEq (.bool (decide ((more 1 b) = (more 1 b))))), (rEq (.bool (decide ((more 1 b) = (more 1 b))))), (rEq (.bool (decide ((more 1 b) = (more 1 b))))), (rEq (.int .u32 s)), (rEq v_b), (rEq (.int .u32 (more s b))), (rEq (.int .u32 s)), (rEq v_b), (rEq (.string (str b))), (rEq (.int .u32 (more s b))), (rEq (.bool (decide ((more s b) = (more s b))))), (rEq (.bool (decide ((more s b) = (more s b))))), (rEq (.bool (decide ((more s b) = (more s b)))))] (by kernel_rfl) rfl (by kernel_rfl) ⟨sEq, sEq, sEq, sEq, sEq, sEq, sEq, sEq, sEq, sEq, sEq, sEq, sEq, sEq, sEq, sEq, sEq, sEq, sEq, sEq, trivial⟩ ⟨?_, ?_, ?_, ?_, ?_, ?_, ?_, ?_, ?_, ?_, ?_, ?_, ?_, ?_, ?_, ?_, ?_, ?_, ?_, ?_, trivial⟩ ?_
    · rintro ρ10 w11 hj12 ⟨_⟩
      have hst := hj12.2
      refine go_plain (op_call Try.call14 evs_nil (c_told2 (w0 := w11)) ?_)
      rintro _ w13 ⟨rfl, hcall⟩
      refine ⟨_, rfl, ?_⟩
      exact kD hj12 hcall rfl
    · rintro ρ14 w15 hj16 ⟨f9, _⟩
      have hst := hj16.2
      exact go_plain (op_move (.bool true) f9 (kS hj16 rfl))
    · rintro ρ17 w18 hj19 ⟨f0, f10, _⟩
      have hst := hj19.2
      exact go_yes 10 rfl f10 (op_move v_b (f0.trans rfl) (kS hj19 rfl))
    · rintro ρ20 w21 hj22 ⟨f11, f10, _⟩
      have hst := hj22.2
      refine go_yes 10 rfl f10 (op_call Try.call15 (evs_cons (v := v_b) f11 evs_nil) (c_Of (w0 := w21) (v_b := v_b) (b := b) (h_b := (h_b.below hst.below))) ?_)
      rintro _ w23 ⟨rfl, hcall⟩
      refine ⟨_, rfl, ?_⟩
      exact kD hj22 hcall rfl
    · rintro ρ24 w25 hj26 ⟨f0, f10, _⟩
      have hst := hj26.2
      exact go_yes 10 rfl f10 (op_move v_b (f0.trans rfl) (kS hj26 rfl))
    · rintro ρ27 w28 hj29 ⟨f13, f10, _⟩
      have hst := hj29.2
      exact go_yes 10 rfl f10 (op_str (xs := b) Try.underlying22 Try.underlying5 Try.underlying9 f13 (h_b.below hst.below) (kS hj29 rfl))
    · rintro ρ30 w31 hj32 ⟨f14, f10, _⟩
      have hst := hj32.2
      refine go_yes 10 rfl f10 (op_call Try.call16 (evs_cons (v := (.string (str b))) f14 evs_nil) (c_rOf (w0 := w31) (b := b) (hl := (by omega))) ?_)
      rintro _ w33 ⟨rfl, hcall⟩
      refine ⟨_, rfl, ?_⟩
      exact kD hj32 hcall rfl
    · rintro ρ34 w35 hj36 ⟨f12, f15, f10, _⟩
      have hst := hj36.2
      exact go_yes 10 rfl f10 (op_eql (k := .u32) (a := (more 1 b)) (b := (more 1 b)) f12 f15 (kS hj36 rfl))
    · rintro ρ37 w38 hj39 ⟨f10, f16, _⟩
      have hst := hj39.2
      exact go_plain (op_pick_t (.bool (decide ((more 1 b) = (more 1 b)))) f10 f16 (kS hj39 rfl))
    · rintro ρ40 w41 hj42 ⟨f17, _⟩
      have hst := hj42.2
      exact go_plain (op_move (.bool (decide ((more 1 b) = (more 1 b)))) f17 (kS hj42 rfl))
    · rintro ρ43 w44 hj45 ⟨f1, f18, _⟩
      have hst := hj45.2
      exact go_yes 18 rfl (f18.trans (congrArg Value.bool (show (decide ((more 1 b) = (more 1 b))) = true from (decide_eq_true rfl)))) (op_move (.int .u32 s) (f1.trans rfl) (kS hj45 rfl))
    · rintro ρ46 w47 hj48 ⟨f0, f18, _⟩
      have hst := hj48.2
      exact go_yes 18 rfl (f18.trans (congrArg Value.bool (show (decide ((more 1 b) = (more 1 b))) = true from (decide_eq_true rfl)))) (op_move v_b (f0.trans rfl) (kS hj48 rfl))
    · rintro ρ49 w50 hj51 ⟨f19, f20, f18, _⟩
      have hst := hj51.2
      refine go_yes 18 rfl (f18.trans (congrArg Value.bool (show (decide ((more 1 b) = (more 1 b))) = true from (decide_eq_true rfl)))) (op_call Try.call17 (evs_cons (v := (.int .u32 s)) f19 (evs_cons (v := v_b) f20 evs_nil)) (c_More (w0 := w50) (s := s) (v_b := v_b) (b := b) (h_b := (h_b.below hst.below)) (h0 := (by omega)) (h1 := (by omega))) ?_)
      rintro _ w52 ⟨rfl, hcall⟩
      refine ⟨_, rfl, ?_⟩
      exact kD hj51 hcall rfl
    · rintro ρ53 w54 hj55 ⟨f1, f18, _⟩
      have hst := hj55.2
      exact go_yes 18 rfl (f18.trans (congrArg Value.bool (show (decide ((more 1 b) = (more 1 b))) = true from (decide_eq_true rfl)))) (op_move (.int .u32 s) (f1.trans rfl) (kS hj55 rfl))
    · rintro ρ56 w57 hj58 ⟨f0, f18, _⟩
      have hst := hj58.2
      exact go_yes 18 rfl (f18.trans (congrArg Value.bool (show (decide ((more 1 b) = (more 1 b))) = true from (decide_eq_true rfl)))) (op_move v_b (f0.trans rfl) (kS hj58 rfl))
    · rintro ρ59 w60 hj61 ⟨f23, f18, _⟩
      have hst := hj61.2
      exact go_yes 18 rfl (f18.trans (congrArg Value.bool (show (decide ((more 1 b) = (more 1 b))) = true from (decide_eq_true rfl)))) (op_str (xs := b) Try.underlying22 Try.underlying5 Try.underlying9 f23 (h_b.below hst.below) (kS hj61 rfl))
    · rintro ρ62 w63 hj64 ⟨f22, f24, f18, _⟩
      have hst := hj64.2
      refine go_yes 18 rfl (f18.trans (congrArg Value.bool (show (decide ((more 1 b) = (more 1 b))) = true from (decide_eq_true rfl)))) (op_call Try.call18 (evs_cons (v := (.int .u32 s)) f22 (evs_cons (v := (.string (str b))) f24 evs_nil)) (c_rMore (w0 := w63) (s := s) (b := b) (h0 := (by omega)) (h1 := (by omega)) (hl := (by omega))) ?_)
      rintro _ w65 ⟨rfl, hcall⟩
      refine ⟨_, rfl, ?_⟩
      exact kD hj64 hcall rfl
    · rintro ρ66 w67 hj68 ⟨f21, f25, f18, _⟩
      have hst := hj68.2
      exact go_yes 18 rfl (f18.trans (congrArg Value.bool (show (decide ((more 1 b) = (more 1 b))) = true from (decide_eq_true rfl)))) (op_eql (k := .u32) (a := (more s b)) (b := (more s b)) f21 f25 (kS hj68 rfl))
    · rintro ρ69 w70 hj71 ⟨f18, f26, _⟩
      have hst := hj71.2
      exact go_plain (op_pick_t (.bool (decide ((more s b) = (more s b)))) (f18.trans (congrArg Value.bool (show (decide ((more 1 b) = (more 1 b))) = true from (decide_eq_true rfl)))) f26 (kS hj71 rfl))
    · rintro ρ72 w73 hj74 ⟨f27, _⟩
      have hst := hj74.2
      exact go_plain (op_assign (.bool (decide ((more s b) = (more s b)))) f27 (kS hj74 rfl))
    · intro ρ75 w76 hbw76 hst hRw76 hkw76
      have uw76_0 : ρ75 0 = v_b := (hkw76 0 rfl).trans rfl
      have uw76_5 : ρ75 5 = v_b := (hkw76 5 rfl).trans rfl
      have uw76_6 : ρ75 6 = (.int .i64 (b.length : Int)) := (hkw76 6 rfl).trans rfl
      have uw76_7 : ρ75 7 = (.bool (decide (300 < (b.length : Int)))) := (hkw76 7 rfl).trans rfl
      have uw76_4 : ρ75 4 = (.bool (decide ((more s b) = (more s b)))) := hRw76 19 4 rfl
      refine then_n ?_
      refine cE_ret ?_
      refine post_r _ (res1 (v := (.bool true)) (uw76_4.trans (congrArg Value.bool (show (decide ((more s b) = (more s b))) = true from (decide_eq_true rfl))))) ?_
      exact ⟨rfl, hst.bare⟩

theorem c_SumParts (w0 : World) (v_b : Value) (b : List UInt8) (h_b : Sl w0 u8E v_b b) (cut : Int) :
    Calls Try.prog 4 #[v_b, (.int .i64 cut)] w0 fun e w' => e = .returned (.bool true) ∧ St w0 w' [] := by
  refine calls_E (n := 37) (ts := [4]) Try.func4 rfl rfl rfl (by simp) ?_
  have hst := St.start w0
  refine cE_seq ?_
  refine cE_region rfl ?_
  refine s_cons (op_assign (.bool false) rfl ?_)
  refine s_nil ?_
  refine then_n ?_
  refine cE_seq ?_
  refine cE_seq ?_
  refine cE_region rfl ?_
  refine s_cons (op_move v_b rfl ?_)
  refine s_cons (op_len (E := u8E) (xs := b) Try.underlying22 rfl h_b ?_)
  refine s_cons (op_gtr (k := .i64) (a := (b.length : Int)) (b := 300) rfl rfl ?_)
  refine s_nil ?_
  refine then_n ?_
  rcases Bool.eq_false_or_eq_true (decide (300 < (b.length : Int))) with b77 | b77
  · have c78 : 300 < (b.length : Int) := of_decide_eq_true b77
    refine cE_cond true (congrArg Value.bool b77) (fun _ => ?_) (fun h => by cases h)
    refine cE_seq ?_
    refine cE_region rfl ?_
    refine s_cons (op_call Try.call14 evs_nil (c_told2 (w0 := w0)) ?_)
    rintro _ w79 ⟨rfl, hcall⟩
    refine ⟨_, rfl, ?_⟩
    have hst : St w0 w79 [] := hst.call hcall
    refine s_cons (op_assign (.bool true) rfl ?_)
    refine s_nil ?_
    refine then_n ?_
    refine cE_ret ?_
    refine then_r ?_
    refine post_r _ (res1 (v := (.bool true)) rfl) ?_
    exact ⟨rfl, hst.bare⟩
  · have c80 : ¬ (300 < (b.length : Int)) := of_decide_eq_false b77
    refine cE_cond false (congrArg Value.bool b77) (fun h => by cases h) (fun _ => ?_)
    refine cE_skip ?_
    refine then_n ?_
    refine cE_seq ?_
    refine cE_region rfl ?_
    refine s_cons (op_move (.int .i64 cut) rfl ?_)
    refine s_cons (op_conv (k := .i64) (a := cut) (cut % 18446744073709551616) Try.underlying30 (by rw [Try.underlying3]; rfl) rfl (IntKind.wrap_u64 _) ?_)
    refine s_cons (op_move v_b rfl ?_)
    refine s_cons (op_len (E := u8E) (xs := b) Try.underlying22 rfl h_b ?_)
    refine s_cons (op_add (k := .i64) (a := (b.length : Int)) (b := 1) ((b.length : Int) + 1) rfl rfl (xi64 (by omega) (by omega)) ?_)
    refine s_cons (op_conv (k := .i64) (a := ((b.length : Int) + 1)) ((b.length : Int) + 1) Try.underlying30 (by rw [Try.underlying3]; rfl) rfl (xu64 (by omega) (by omega)) ?_)
    obtain ⟨k, hk, hkl⟩ := rem_nat (a := (cut % 18446744073709551616)) (b := ((b.length : Int) + 1)) (by omega) (by omega)
    refine s_cons (op_rem (k := .u64) (a := (cut % 18446744073709551616)) (b := ((b.length : Int) + 1)) (k : Int) rfl rfl (by omega) hk ?_)
    refine s_cons (op_conv (k := .u64) (a := (k : Int)) (k : Int) Try.underlying3 (by rw [Try.underlying30]; rfl) rfl (xi64 (by omega) (by omega)) ?_)
    refine s_cons (op_assign (.int .i64 (k : Int)) rfl ?_)
    refine s_nil ?_
    refine then_n ?_
    refine cE_seq ?_
    have hm1 := more_range 1 (b.take k)
    have hm2 := more_range 1 b
    refine cE_regionL hst [[], [(18, some 0)], [(0, none), (19, some 1)], [(5, none), (19, some 1)], [(20, some 2), (21, some 3), (19, some 1)], [(22, some 4), (19, some 1)], [(0, none), (19, some 1)], [(5, none), (19, some 1)], [(24, some 6), (25, some 7), (19, some 1)], [(23, some 5), (26, some 8), (19, some 1)], [(0, none), (19, some 1)], [(28, some 10), (19, some 1)], [(27, some 9), (29, some 11), (19, some 1)], [(19, some 1), (30, some 12)], [(31, some 13)], [(0, none), (32, some 14)], [(33, some 15), (32, some 14)], [(34, some 16), (32, some 14)], [(32, some 14), (35, some 17)], [(36, some 18)]] [(rEq (.bool true)), (rEq (.bool true)), (rEq v_b), (rEq (.int .i64 (k : Int))), (rSl u8E (b.take k)), (rEq (.int .u32 (more 1 (b.take k)))), (rEq v_b), (rEq (.int .i64 (k : Int))), (rSl u8E (b.drop k)), (rEq (.int .u32 (more (more 1 (b.take k)) (b.drop k)))), (rEq v_b), (rEq (.int .u32 (more 1 b))), (rEq (.bool (decide ((more (more 1 (b.take k)) (b.drop k)) = (more 1 b))))), (rEq (.bool (decide ((more (more 1 (b.take k)) (b.drop k)) = (more 1 b))))), (rEq (.bool (decide ((more (more 1 (b.take k)) (b.drop k)) = (more 1 b))))), (rEq v_b), (rEq (.int .u32 (more 1 b))), (rEq (.bool (decide ((more 1 b) < 4294967291)))), (rEq (.bool (decide ((more 1 b) < 4294967291)))), (rEq (.bool (decide ((more 1 b) < 4294967291))))] (by kernel_rfl) rfl (by kernel_rfl) ⟨sEq, sEq, sEq, sEq, sSl, sEq, sEq, sEq, sSl, sEq, sEq, sEq, sEq, sEq, sEq, sEq, sEq, sEq, sEq, sEq, trivial⟩ ⟨?_, ?_, ?_, ?_, ?_, ?_, ?_, ?_, ?_, ?_, ?_, ?_, ?_, ?_, ?_, ?_, ?_, ?_, ?_, ?_, trivial⟩ ?_
    · rintro ρ90 w91 hj92 ⟨_⟩
      have hst := hj92.2
      refine go_plain (op_call Try.call14 evs_nil (c_told2 (w0 := w91)) ?_)
      rintro _ w93 ⟨rfl, hcall⟩
      refine ⟨_, rfl, ?_⟩
      exact kD hj92 hcall rfl
    · rintro ρ94 w95 hj96 ⟨f18, _⟩
      have hst := hj96.2
      exact go_plain (op_move (.bool true) f18 (kS hj96 rfl))
    · rintro ρ97 w98 hj99 ⟨f0, f19, _⟩
      have hst := hj99.2
      exact go_yes 19 rfl f19 (op_move v_b (f0.trans rfl) (kS hj99 rfl))
    · rintro ρ100 w101 hj102 ⟨f5, f19, _⟩
      have hst := hj102.2
      exact go_yes 19 rfl f19 (op_move (.int .i64 (k : Int)) (f5.trans rfl) (kS hj102 rfl))
    · rintro ρ103 w104 hj105 ⟨f20, f21, f19, _⟩
      have hst := hj105.2
      refine go_yes 19 rfl f19 (op_slice_toN k (E := u8E) (xs := b) Try.underlying22 Try.sizeOf5 f20 h_b f21 (by omega) (by omega) (fun v106 hs107 => ?_))
      exact kS hj105 (hs107.below hst.below)
    · rintro ρ108 w109 hj110 ⟨f22, f19, _⟩
      have hst := hj110.2
      have hs113 : Sl w109 u8E _ (b.take k) := f22
      refine go_yes 19 rfl f19 (op_call Try.call15 (evs_cons (v := _) rfl evs_nil) (c_Of (w0 := w109) (v_b := _) (b := (b.take k)) (h_b := hs113)) ?_)
      rintro _ w114 ⟨rfl, hcall⟩
      refine ⟨_, rfl, ?_⟩
      exact kD hj110 hcall rfl
    · rintro ρ115 w116 hj117 ⟨f0, f19, _⟩
      have hst := hj117.2
      exact go_yes 19 rfl f19 (op_move v_b (f0.trans rfl) (kS hj117 rfl))
    · rintro ρ118 w119 hj120 ⟨f5, f19, _⟩
      have hst := hj120.2
      exact go_yes 19 rfl f19 (op_move (.int .i64 (k : Int)) (f5.trans rfl) (kS hj120 rfl))
    · rintro ρ121 w122 hj123 ⟨f24, f25, f19, _⟩
      have hst := hj123.2
      refine go_yes 19 rfl f19 (op_slice_fromN k (E := u8E) (xs := b) Try.underlying22 Try.sizeOf5 f24 h_b f25 (by omega) (by omega) (fun v124 hs125 => ?_))
      exact kS hj123 (hs125.below hst.below)
    · rintro ρ126 w127 hj128 ⟨f23, f26, f19, _⟩
      have hst := hj128.2
      have hs131 : Sl w127 u8E _ (b.drop k) := f26
      refine go_yes 19 rfl f19 (op_call Try.call17 (evs_cons (v := (.int .u32 (more 1 (b.take k)))) f23 (evs_cons (v := _) rfl evs_nil)) (c_More (w0 := w127) (s := (more 1 (b.take k))) (v_b := _) (b := (b.drop k)) (h_b := hs131) (h0 := (by omega)) (h1 := (by omega))) ?_)
      rintro _ w132 ⟨rfl, hcall⟩
      refine ⟨_, rfl, ?_⟩
      exact kD hj128 hcall rfl
    · rintro ρ133 w134 hj135 ⟨f0, f19, _⟩
      have hst := hj135.2
      exact go_yes 19 rfl f19 (op_move v_b (f0.trans rfl) (kS hj135 rfl))
    · rintro ρ136 w137 hj138 ⟨f28, f19, _⟩
      have hst := hj138.2
      refine go_yes 19 rfl f19 (op_call Try.call15 (evs_cons (v := v_b) f28 evs_nil) (c_Of (w0 := w137) (v_b := v_b) (b := b) (h_b := (h_b.below hst.below))) ?_)
      rintro _ w139 ⟨rfl, hcall⟩
      refine ⟨_, rfl, ?_⟩
      exact kD hj138 hcall rfl
    · rintro ρ140 w141 hj142 ⟨f27, f29, f19, _⟩
      have hst := hj142.2
      exact go_yes 19 rfl f19 (op_eql (k := .u32) (a := (more (more 1 (b.take k)) (b.drop k))) (b := (more 1 b)) f27 f29 (kS hj142 rfl))
    · rintro ρ143 w144 hj145 ⟨f19, f30, _⟩
      have hst := hj145.2
      exact go_plain (op_pick_t (.bool (decide ((more (more 1 (b.take k)) (b.drop k)) = (more 1 b)))) f19 f30 (kS hj145 rfl))
    · rintro ρ146 w147 hj148 ⟨f31, _⟩
      have hst := hj148.2
      exact go_plain (op_move (.bool (decide ((more (more 1 (b.take k)) (b.drop k)) = (more 1 b)))) f31 (kS hj148 rfl))
    · rintro ρ149 w150 hj151 ⟨f0, f32, _⟩
      have hst := hj151.2
      exact go_yes 32 rfl (f32.trans (congrArg Value.bool (show (decide ((more (more 1 (b.take k)) (b.drop k)) = (more 1 b))) = true from (decide_eq_true (more_parts b k))))) (op_move v_b (f0.trans rfl) (kS hj151 rfl))
    · rintro ρ152 w153 hj154 ⟨f33, f32, _⟩
      have hst := hj154.2
      refine go_yes 32 rfl (f32.trans (congrArg Value.bool (show (decide ((more (more 1 (b.take k)) (b.drop k)) = (more 1 b))) = true from (decide_eq_true (more_parts b k))))) (op_call Try.call15 (evs_cons (v := v_b) f33 evs_nil) (c_Of (w0 := w153) (v_b := v_b) (b := b) (h_b := (h_b.below hst.below))) ?_)
      rintro _ w155 ⟨rfl, hcall⟩
      refine ⟨_, rfl, ?_⟩
      exact kD hj154 hcall rfl
    · rintro ρ156 w157 hj158 ⟨f34, f32, _⟩
      have hst := hj158.2
      exact go_yes 32 rfl (f32.trans (congrArg Value.bool (show (decide ((more (more 1 (b.take k)) (b.drop k)) = (more 1 b))) = true from (decide_eq_true (more_parts b k))))) (op_lss (k := .u32) (a := (more 1 b)) (b := 4294967291) f34 rfl (kS hj158 rfl))
    · rintro ρ159 w160 hj161 ⟨f32, f35, _⟩
      have hst := hj161.2
      exact go_plain (op_pick_t (.bool (decide ((more 1 b) < 4294967291))) (f32.trans (congrArg Value.bool (show (decide ((more (more 1 (b.take k)) (b.drop k)) = (more 1 b))) = true from (decide_eq_true (more_parts b k))))) f35 (kS hj161 rfl))
    · rintro ρ162 w163 hj164 ⟨f36, _⟩
      have hst := hj164.2
      exact go_plain (op_assign (.bool (decide ((more 1 b) < 4294967291))) f36 (kS hj164 rfl))
    · intro ρ165 w166 hbw166 hst hRw166 hkw166
      have uw166_0 : ρ165 0 = v_b := (hkw166 0 rfl).trans rfl
      have uw166_1 : ρ165 1 = (.int .i64 cut) := (hkw166 1 rfl).trans rfl
      have uw166_6 : ρ165 6 = v_b := (hkw166 6 rfl).trans rfl
      have uw166_7 : ρ165 7 = (.int .i64 (b.length : Int)) := (hkw166 7 rfl).trans rfl
      have uw166_8 : ρ165 8 = (.bool (decide (300 < (b.length : Int)))) := (hkw166 8 rfl).trans rfl
      have uw166_10 : ρ165 10 = (.int .i64 cut) := (hkw166 10 rfl).trans rfl
      have uw166_11 : ρ165 11 = (.int .u64 (cut % 18446744073709551616)) := (hkw166 11 rfl).trans rfl
      have uw166_12 : ρ165 12 = v_b := (hkw166 12 rfl).trans rfl
      have uw166_13 : ρ165 13 = (.int .i64 (b.length : Int)) := (hkw166 13 rfl).trans rfl
      have uw166_14 : ρ165 14 = (.int .i64 ((b.length : Int) + 1)) := (hkw166 14 rfl).trans rfl
      have uw166_15 : ρ165 15 = (.int .u64 ((b.length : Int) + 1)) := (hkw166 15 rfl).trans rfl
      have uw166_16 : ρ165 16 = (.int .u64 (k : Int)) := (hkw166 16 rfl).trans rfl
      have uw166_17 : ρ165 17 = (.int .i64 (k : Int)) := (hkw166 17 rfl).trans rfl
      have uw166_4 : ρ165 4 = (.bool (decide ((more 1 b) < 4294967291))) := hRw166 19 4 rfl
      refine then_n ?_
      refine cE_ret ?_
      refine post_r _ (res1 (v := (.bool true)) (uw166_4.trans (congrArg Value.bool (show (decide ((more 1 b) < 4294967291)) = true from (decide_eq_true (more_range 1 b).2))))) ?_
      exact ⟨rfl, hst.bare⟩

theorem c_SumTells (w0 : World) (v_b : Value) (b : List UInt8) (h_b : Sl w0 u8E v_b b) (at_ : Int) (c : UInt8) :
    Calls Try.prog 5 #[v_b, (.int .i64 at_), (.int .u8 (c.toNat : Int))] w0 fun e w' => e = .returned (.bool true) ∧ St w0 w' [] := by
  refine calls_E (n := 47) (ts := [6]) Try.func5 rfl rfl rfl (by simp) ?_
  have hst := St.start w0
  refine cE_seq ?_
  refine cE_region rfl ?_
  refine s_cons (op_assign (.bool false) rfl ?_)
  refine s_nil ?_
  refine then_n ?_
  refine cE_seq ?_
  refine cE_seq ?_
  refine cE_region rfl ?_
  refine s_cons (op_move v_b rfl ?_)
  refine s_cons (op_len (E := u8E) (xs := b) Try.underlying22 rfl h_b ?_)
  refine s_cons (op_lss (k := .i64) (a := (b.length : Int)) (b := 1) rfl rfl ?_)
  refine s_cons (op_move (.bool (decide ((b.length : Int) < 1))) rfl ?_)
  rcases Bool.eq_false_or_eq_true (decide ((b.length : Int) < 1)) with b167 | b167
  · have c168 : (b.length : Int) < 1 := of_decide_eq_true b167
    refine s_no 12 rfl (congrArg Value.bool b167) ?_
    refine s_no 12 rfl (congrArg Value.bool b167) ?_
    refine s_no 12 rfl (congrArg Value.bool b167) ?_
    refine s_cons (op_pick_t (.bool true) (congrArg Value.bool b167) rfl ?_)
    refine s_nil ?_
    refine then_n ?_
    refine cE_cond true rfl (fun _ => ?_) (fun h => by cases h)
    refine cE_seq ?_
    refine cE_region rfl ?_
    refine s_cons (op_call Try.call14 evs_nil (c_told2 (w0 := w0)) ?_)
    rintro _ w169 ⟨rfl, hcall⟩
    refine ⟨_, rfl, ?_⟩
    have hst : St w0 w169 [] := hst.call hcall
    refine s_cons (op_assign (.bool true) rfl ?_)
    refine s_nil ?_
    refine then_n ?_
    refine cE_ret ?_
    refine then_r ?_
    refine post_r _ (res1 (v := (.bool true)) rfl) ?_
    exact ⟨rfl, hst.bare⟩
  · have c170 : ¬ ((b.length : Int) < 1) := of_decide_eq_false b167
    refine s_yes 12 rfl (congrArg Value.bool b167) (op_move v_b rfl ?_)
    refine s_yes 12 rfl (congrArg Value.bool b167) (op_len (E := u8E) (xs := b) Try.underlying22 rfl h_b ?_)
    refine s_yes 12 rfl (congrArg Value.bool b167) (op_gtr (k := .i64) (a := (b.length : Int)) (b := 300) rfl rfl ?_)
    refine s_cons (op_pick_f (.bool (decide (300 < (b.length : Int)))) (congrArg Value.bool b167) rfl ?_)
    refine s_nil ?_
    refine then_n ?_
    rcases Bool.eq_false_or_eq_true (decide (300 < (b.length : Int))) with b171 | b171
    · have c172 : 300 < (b.length : Int) := of_decide_eq_true b171
      refine cE_cond true (congrArg Value.bool b171) (fun _ => ?_) (fun h => by cases h)
      refine cE_seq ?_
      refine cE_region rfl ?_
      refine s_cons (op_call Try.call14 evs_nil (c_told2 (w0 := w0)) ?_)
      rintro _ w173 ⟨rfl, hcall⟩
      refine ⟨_, rfl, ?_⟩
      have hst : St w0 w173 [] := hst.call hcall
      refine s_cons (op_assign (.bool true) rfl ?_)
      refine s_nil ?_
      refine then_n ?_
      refine cE_ret ?_
      refine then_r ?_
      refine post_r _ (res1 (v := (.bool true)) rfl) ?_
      exact ⟨rfl, hst.bare⟩
    · have c174 : ¬ (300 < (b.length : Int)) := of_decide_eq_false b171
      refine cE_cond false (congrArg Value.bool b171) (fun h => by cases h) (fun _ => ?_)
      refine cE_skip ?_
      refine then_n ?_
      refine cE_seq ?_
      refine cE_region rfl ?_
      refine s_cons (op_move (.int .i64 at_) rfl ?_)
      refine s_cons (op_conv (k := .i64) (a := at_) (at_ % 18446744073709551616) Try.underlying30 (by rw [Try.underlying3]; rfl) rfl (IntKind.wrap_u64 _) ?_)
      refine s_cons (op_move v_b rfl ?_)
      refine s_cons (op_len (E := u8E) (xs := b) Try.underlying22 rfl h_b ?_)
      refine s_cons (op_conv (k := .i64) (a := (b.length : Int)) (b.length : Int) Try.underlying30 (by rw [Try.underlying3]; rfl) rfl (xu64 (by omega) (by omega)) ?_)
      obtain ⟨k, hk, hkl⟩ := rem_nat (a := (at_ % 18446744073709551616)) (b := (b.length : Int)) (by omega) (by omega)
      refine s_cons (op_rem (k := .u64) (a := (at_ % 18446744073709551616)) (b := (b.length : Int)) (k : Int) rfl rfl (by omega) hk ?_)
      refine s_cons (op_conv (k := .u64) (a := (k : Int)) (k : Int) Try.underlying3 (by rw [Try.underlying30]; rfl) rfl (xi64 (by omega) (by omega)) ?_)
      refine s_cons (op_assign (.int .i64 (k : Int)) rfl ?_)
      refine s_nil ?_
      refine then_n ?_
      refine cE_seq ?_
      refine cE_region rfl ?_
      refine s_cons (op_buildSlice (E := u8E) [] hst Try.underlying22 Try.sizeOf5 Try.zeroValue5 evp_nil parts_nil rfl (by decide) (fun v175 w176 hst => ?_))
      replace hst : St w0 w176 [rowT 5 u8E v175 ([])] := hst
      refine s_cons (op_move v_b rfl ?_)
      refine s_cons (op_append (E := u8E) (xs := []) (ys := b) (z := (.int .u8 0)) (bytes := 1) hst 0 rfl Try.underlying22 (by kernel_rfl) rfl rfl rfl (h_b.below hst.below) (by first | omega | (simp only [List.length_append, List.length_cons, List.length_nil, List.length_take, List.length_drop, List.length_set]; omega)) (by first | omega | (simp only [List.length_append, List.length_cons, List.length_nil, List.length_take, List.length_drop, List.length_set]; omega)) (fun v177 w178 hst => ?_))
      replace hst : St w0 w178 [rowT 5 u8E v177 b] := hst
      refine s_cons (op_assign v177 rfl ?_)
      refine s_nil ?_
      refine then_n ?_
      refine cE_seq ?_
      refine cE_region rfl ?_
      refine s_cons (op_move v177 rfl ?_)
      refine s_cons (op_move (.int .i64 (k : Int)) rfl ?_)
      refine s_cons (op_move (.int .u8 (c.toNat : Int)) rfl ?_)
      refine s_cons (op_indexRowN hst 0 rfl k Try.underlying22 Try.sizeOf5 rfl rfl (by omega) (by omega) (fun g183 hb182 p181 => ?_))
      refine s_cons0 (op_storeRow1 (y := c) hst 0 rfl hb182 Try.sizeOf5 rfl rfl rfl (k) 0 rfl (by omega) (by decide) rfl (fun w184 hst => ?_))
      replace hst : St w0 w184 [rowT 5 u8E v177 (b.set (k) c)] := hst
      refine s_nil ?_
      refine then_n ?_
      refine cE_seq ?_
      refine cE_regionL hst [[], [(32, some 0)], [(8, none), (33, some 1)], [(34, some 2), (33, some 1)], [(0, none), (33, some 1)], [(36, some 4), (33, some 1)], [(35, some 3), (37, some 5), (33, some 1)], [(2, none), (33, some 1)], [(0, none), (33, some 1)], [(7, none), (33, some 1)], [(40, some 8), (41, some 9), (33, some 1)], [(42, some 10), (33, some 1)], [(39, some 7), (43, some 11), (33, some 1)], [(38, some 6), (44, some 12), (33, some 1)], [(33, some 1), (45, some 13)], [(46, some 14)]] [(rEq (.bool true)), (rEq (.bool true)), (rEq v177), (rEq (.int .u32 (more 1 (b.set (k) c)))), (rEq v_b), (rEq (.int .u32 (more 1 b))), (rEq (.bool (decide ((more 1 (b.set (k) c)) = (more 1 b))))), (rEq (.int .u8 (c.toNat : Int))), (rEq v_b), (rEq (.int .i64 (k : Int))), (rPt [(.int .u8 ((b[k]'(by omega)).toNat : Int))]), (rEq (.int .u8 ((b[k]'(by omega)).toNat : Int))), (rEq (.bool (decide ((c.toNat : Int) = ((b[k]'(by omega)).toNat : Int))))), (rEq (.bool ((decide ((more 1 (b.set (k) c)) = (more 1 b))) == (decide ((c.toNat : Int) = ((b[k]'(by omega)).toNat : Int)))))), (rEq (.bool ((decide ((more 1 (b.set (k) c)) = (more 1 b))) == (decide ((c.toNat : Int) = ((b[k]'(by omega)).toNat : Int)))))), (rEq (.bool ((decide ((more 1 (b.set (k) c)) = (more 1 b))) == (decide ((c.toNat : Int) = ((b[k]'(by omega)).toNat : Int))))))] (by kernel_rfl) rfl (by kernel_rfl) ⟨sEq, sEq, sEq, sEq, sEq, sEq, sEq, sEq, sEq, sEq, sPt, sEq, sEq, sEq, sEq, sEq, trivial⟩ ⟨?_, ?_, ?_, ?_, ?_, ?_, ?_, ?_, ?_, ?_, ?_, ?_, ?_, ?_, ?_, ?_, trivial⟩ ?_
      · rintro ρ192 w193 hj194 ⟨_⟩
        have hst := hj194.2
        refine go_plain (op_call Try.call14 evs_nil (c_told2 (w0 := w193)) ?_)
        rintro _ w195 ⟨rfl, hcall⟩
        refine ⟨_, rfl, ?_⟩
        exact kD hj194 hcall rfl
      · rintro ρ196 w197 hj198 ⟨f32, _⟩
        have hst := hj198.2
        exact go_plain (op_move (.bool true) f32 (kS hj198 rfl))
      · rintro ρ199 w200 hj201 ⟨f8, f33, _⟩
        have hst := hj201.2
        exact go_yes 33 rfl f33 (op_move v177 (f8.trans rfl) (kS hj201 rfl))
      · rintro ρ202 w203 hj204 ⟨f34, f33, _⟩
        have hst := hj204.2
        refine go_yes 33 rfl f33 (op_call Try.call15 (evs_cons (v := v177) f34 evs_nil) (c_Of (w0 := w203) (v_b := v177) (b := (b.set (k) c)) (h_b := (hst.sl 0 rfl))) ?_)
        rintro _ w205 ⟨rfl, hcall⟩
        refine ⟨_, rfl, ?_⟩
        exact kD hj204 hcall rfl
      · rintro ρ206 w207 hj208 ⟨f0, f33, _⟩
        have hst := hj208.2
        exact go_yes 33 rfl f33 (op_move v_b (f0.trans rfl) (kS hj208 rfl))
      · rintro ρ209 w210 hj211 ⟨f36, f33, _⟩
        have hst := hj211.2
        refine go_yes 33 rfl f33 (op_call Try.call15 (evs_cons (v := v_b) f36 evs_nil) (c_Of (w0 := w210) (v_b := v_b) (b := b) (h_b := (h_b.below hst.below))) ?_)
        rintro _ w212 ⟨rfl, hcall⟩
        refine ⟨_, rfl, ?_⟩
        exact kD hj211 hcall rfl
      · rintro ρ213 w214 hj215 ⟨f35, f37, f33, _⟩
        have hst := hj215.2
        exact go_yes 33 rfl f33 (op_eql (k := .u32) (a := (more 1 (b.set (k) c))) (b := (more 1 b)) f35 f37 (kS hj215 rfl))
      · rintro ρ216 w217 hj218 ⟨f2, f33, _⟩
        have hst := hj218.2
        exact go_yes 33 rfl f33 (op_move (.int .u8 (c.toNat : Int)) (f2.trans rfl) (kS hj218 rfl))
      · rintro ρ219 w220 hj221 ⟨f0, f33, _⟩
        have hst := hj221.2
        exact go_yes 33 rfl f33 (op_move v_b (f0.trans rfl) (kS hj221 rfl))
      · rintro ρ222 w223 hj224 ⟨f7, f33, _⟩
        have hst := hj224.2
        exact go_yes 33 rfl f33 (op_move (.int .i64 (k : Int)) (f7.trans rfl) (kS hj224 rfl))
      · rintro ρ225 w226 hj227 ⟨f40, f41, f33, _⟩
        have hst := hj227.2
        refine go_yes 33 rfl f33 (op_indexAddrN (E := u8E) (xs := b) k Try.underlying22 Try.sizeOf5 f40 h_b f41 (by omega) (by omega) (fun a228 o229 p230 => ?_))
        exact kS hj227 ⟨_, _, rfl, p230.below hst.below⟩
      · rintro ρ231 w232 hj233 ⟨f42, f33, _⟩
        have hst := hj233.2
        obtain ⟨a234, o235, e236, p237⟩ := f42
        exact go_yes 33 rfl f33 (op_load1 (u := (.int .u8 ((b[k]'(by omega)).toNat : Int))) Try.isAgg5 e236 p237 (kS hj233 rfl))
      · rintro ρ239 w240 hj241 ⟨f39, f43, f33, _⟩
        have hst := hj241.2
        exact go_yes 33 rfl f33 (op_eql (k := .u8) (a := (c.toNat : Int)) (b := ((b[k]'(by omega)).toNat : Int)) f39 f43 (kS hj241 rfl))
      · rintro ρ242 w243 hj244 ⟨f38, f44, f33, _⟩
        have hst := hj244.2
        exact go_yes 33 rfl f33 (op_eqlb (a := decide ((more 1 (b.set (k) c)) = (more 1 b))) (b := decide ((c.toNat : Int) = ((b[k]'(by omega)).toNat : Int))) Try.underlying4 f38 f44 (kS hj244 rfl))
      · rintro ρ245 w246 hj247 ⟨f33, f45, _⟩
        have hst := hj247.2
        exact go_plain (op_pick_t (.bool ((decide ((more 1 (b.set (k) c)) = (more 1 b))) == (decide ((c.toNat : Int) = ((b[k]'(by omega)).toNat : Int))))) f33 f45 (kS hj247 rfl))
      · rintro ρ248 w249 hj250 ⟨f46, _⟩
        have hst := hj250.2
        exact go_plain (op_assign (.bool ((decide ((more 1 (b.set (k) c)) = (more 1 b))) == (decide ((c.toNat : Int) = ((b[k]'(by omega)).toNat : Int))))) f46 (kS hj250 rfl))
      · intro ρ251 w252 hbw252 hst hRw252 hkw252
        have uw252_0 : ρ251 0 = v_b := (hkw252 0 rfl).trans rfl
        have uw252_1 : ρ251 1 = (.int .i64 at_) := (hkw252 1 rfl).trans rfl
        have uw252_2 : ρ251 2 = (.int .u8 (c.toNat : Int)) := (hkw252 2 rfl).trans rfl
        have uw252_9 : ρ251 9 = v_b := (hkw252 9 rfl).trans rfl
        have uw252_10 : ρ251 10 = (.int .i64 (b.length : Int)) := (hkw252 10 rfl).trans rfl
        have uw252_11 : ρ251 11 = (.bool (decide ((b.length : Int) < 1))) := (hkw252 11 rfl).trans rfl
        have uw252_12 : ρ251 12 = (.bool (decide ((b.length : Int) < 1))) := (hkw252 12 rfl).trans rfl
        have uw252_13 : ρ251 13 = v_b := (hkw252 13 rfl).trans rfl
        have uw252_14 : ρ251 14 = (.int .i64 (b.length : Int)) := (hkw252 14 rfl).trans rfl
        have uw252_15 : ρ251 15 = (.bool (decide (300 < (b.length : Int)))) := (hkw252 15 rfl).trans rfl
        have uw252_16 : ρ251 16 = (.bool (decide (300 < (b.length : Int)))) := (hkw252 16 rfl).trans rfl
        have uw252_18 : ρ251 18 = (.int .i64 at_) := (hkw252 18 rfl).trans rfl
        have uw252_19 : ρ251 19 = (.int .u64 (at_ % 18446744073709551616)) := (hkw252 19 rfl).trans rfl
        have uw252_20 : ρ251 20 = v_b := (hkw252 20 rfl).trans rfl
        have uw252_21 : ρ251 21 = (.int .i64 (b.length : Int)) := (hkw252 21 rfl).trans rfl
        have uw252_22 : ρ251 22 = (.int .u64 (b.length : Int)) := (hkw252 22 rfl).trans rfl
        have uw252_23 : ρ251 23 = (.int .u64 (k : Int)) := (hkw252 23 rfl).trans rfl
        have uw252_24 : ρ251 24 = (.int .i64 (k : Int)) := (hkw252 24 rfl).trans rfl
        have uw252_7 : ρ251 7 = (.int .i64 (k : Int)) := (hkw252 7 rfl).trans rfl
        have uw252_25 : ρ251 25 = v175 := (hkw252 25 rfl).trans rfl
        have uw252_26 : ρ251 26 = v_b := (hkw252 26 rfl).trans rfl
        have uw252_27 : ρ251 27 = v177 := (hkw252 27 rfl).trans rfl
        have uw252_8 : ρ251 8 = v177 := (hkw252 8 rfl).trans rfl
        have uw252_28 : ρ251 28 = v177 := (hkw252 28 rfl).trans rfl
        have uw252_29 : ρ251 29 = (.int .i64 (k : Int)) := (hkw252 29 rfl).trans rfl
        have uw252_30 : ρ251 30 = (.int .u8 (c.toNat : Int)) := (hkw252 30 rfl).trans rfl
        have uw252_31 : ρ251 31 = (.pointer (some ⟨g183, (k * u8E.size), none⟩)) := (hkw252 31 rfl).trans rfl
        have uw252_6 : ρ251 6 = (.bool ((decide ((more 1 (b.set (k) c)) = (more 1 b))) == (decide ((c.toNat : Int) = ((b[k]'(by omega)).toNat : Int))))) := hRw252 15 6 rfl
        refine then_n ?_
        refine cE_ret ?_
        refine post_r _ (res1 (v := (.bool true)) (uw252_6.trans (congrArg Value.bool (show ((decide ((more 1 (b.set (k) c)) = (more 1 b))) == (decide ((c.toNat : Int) = ((b[k]'(by omega)).toNat : Int)))) = true from (more_tells b k c (by omega)))))) ?_
        exact ⟨rfl, hst.bare⟩

theorem c_SumFronts (w0 : World) (v_b : Value) (b : List UInt8) (h_b : Sl w0 u8E v_b b) (c : UInt8) :
    Calls Try.prog 7 #[v_b, (.int .u8 (c.toNat : Int))] w0 fun e w' => e = .returned (.bool true) ∧ St w0 w' [] := by
  refine calls_E (n := 42) (ts := [4]) Try.func7 rfl rfl rfl (by simp) ?_
  have hst := St.start w0
  refine cE_seq ?_
  refine cE_region rfl ?_
  refine s_cons (op_assign (.bool false) rfl ?_)
  refine s_nil ?_
  refine then_n ?_
  refine cE_seq ?_
  refine cE_seq ?_
  refine cE_region rfl ?_
  refine s_cons (op_move v_b rfl ?_)
  refine s_cons (op_len (E := u8E) (xs := b) Try.underlying22 rfl h_b ?_)
  refine s_cons (op_gtr (k := .i64) (a := (b.length : Int)) (b := 100) rfl rfl ?_)
  refine s_nil ?_
  refine then_n ?_
  rcases Bool.eq_false_or_eq_true (decide (100 < (b.length : Int))) with b253 | b253
  · have c254 : 100 < (b.length : Int) := of_decide_eq_true b253
    refine cE_cond true (congrArg Value.bool b253) (fun _ => ?_) (fun h => by cases h)
    refine cE_seq ?_
    refine cE_region rfl ?_
    refine s_cons (op_call Try.call14 evs_nil (c_told2 (w0 := w0)) ?_)
    rintro _ w255 ⟨rfl, hcall⟩
    refine ⟨_, rfl, ?_⟩
    have hst : St w0 w255 [] := hst.call hcall
    refine s_cons (op_assign (.bool true) rfl ?_)
    refine s_nil ?_
    refine then_n ?_
    refine cE_ret ?_
    refine then_r ?_
    refine post_r _ (res1 (v := (.bool true)) rfl) ?_
    exact ⟨rfl, hst.bare⟩
  · have c256 : ¬ (100 < (b.length : Int)) := of_decide_eq_false b253
    refine cE_cond false (congrArg Value.bool b253) (fun h => by cases h) (fun _ => ?_)
    refine cE_skip ?_
    refine then_n ?_
    refine cE_seq ?_
    have hm := more_range 1 b
    have hc := u8_lt c
    refine cE_region rfl ?_
    refine s_cons (op_move v_b rfl ?_)
    refine s_cons (op_call Try.call15 (evs_cons (v := v_b) rfl evs_nil) (c_Of (w0 := w0) (v_b := v_b) (b := b) (h_b := (h_b.below hst.below))) ?_)
    rintro _ w257 ⟨rfl, hcall⟩
    refine ⟨_, rfl, ?_⟩
    have hst : St w0 w257 [] := hst.call hcall
    refine s_cons (op_assign (.int .u32 (more 1 b)) rfl ?_)
    refine s_nil ?_
    refine then_n ?_
    refine cE_seq ?_
    refine cE_region rfl ?_
    refine s_cons (op_move (.int .u32 (more 1 b)) rfl ?_)
    refine s_cons (op_conv (k := .u32) (a := (more 1 b)) (more 1 b) Try.underlying33 (by rw [Try.underlying23]; rfl) rfl (xu64 (by omega) (by omega)) ?_)
    refine s_cons (op_mul (k := .u64) (a := (more 1 b)) (b := 257) ((more 1 b) * 257) rfl rfl (xu64 (by omega) (by omega)) ?_)
    refine s_cons (op_move (.int .u8 (c.toNat : Int)) rfl ?_)
    refine s_cons (op_conv (k := .u8) (a := (c.toNat : Int)) (c.toNat : Int) Try.underlying33 (by rw [Try.underlying5]; rfl) rfl (xu64 (by omega) (by omega)) ?_)
    refine s_cons (op_add (k := .u64) (a := ((more 1 b) * 257)) (b := (c.toNat : Int)) (((more 1 b) * 257) + (c.toNat : Int)) rfl rfl (xu64 (by omega) (by omega)) ?_)
    refine s_cons (op_add (k := .u64) (a := (((more 1 b) * 257) + (c.toNat : Int))) (b := 1) ((((more 1 b) * 257) + (c.toNat : Int)) + 1) rfl rfl (xu64 (by omega) (by omega)) ?_)
    refine s_cons (op_rem (k := .u64) (a := ((((more 1 b) * 257) + (c.toNat : Int)) + 1)) (b := 4294967291) (((((more 1 b) * 257) + (c.toNat : Int)) + 1) % 4294967291) rfl rfl (by omega) (tmod_nn (by omega)) ?_)
    refine s_cons (op_conv (k := .u64) (a := (((((more 1 b) * 257) + (c.toNat : Int)) + 1) % 4294967291)) (((((more 1 b) * 257) + (c.toNat : Int)) + 1) % 4294967291) Try.underlying23 (by rw [Try.underlying33]; rfl) rfl (xu32 (by omega) (by omega)) ?_)
    refine s_cons (op_assign (.int .u32 (((((more 1 b) * 257) + (c.toNat : Int)) + 1) % 4294967291)) rfl ?_)
    refine s_nil ?_
    refine then_n ?_
    refine cE_seq ?_
    refine cE_region rfl ?_
    refine s_cons (op_call Try.call14 evs_nil (c_told2 (w0 := w257)) ?_)
    rintro _ w258 ⟨rfl, hcall⟩
    refine ⟨_, rfl, ?_⟩
    have hst : St w0 w258 [] := hst.call hcall
    refine s_cons (op_move (.bool true) rfl ?_)
    refine s_yes 23 rfl rfl (op_buildSlice (E := u8E) [] hst Try.underlying22 Try.sizeOf5 Try.zeroValue5 evp_nil parts_nil rfl (by decide) (fun v259 w260 hst => ?_))
    replace hst : St w0 w260 [rowT 5 u8E v259 ([])] := hst
    refine s_yes 23 rfl rfl (op_move v_b rfl ?_)
    refine s_yes 23 rfl rfl (op_append (E := u8E) (xs := []) (ys := b) (z := (.int .u8 0)) (bytes := 1) hst 0 rfl Try.underlying22 (by kernel_rfl) rfl rfl rfl (h_b.below hst.below) (by first | omega | (simp only [List.length_append, List.length_cons, List.length_nil, List.length_take, List.length_drop, List.length_set]; omega)) (by first | omega | (simp only [List.length_append, List.length_cons, List.length_nil, List.length_take, List.length_drop, List.length_set]; omega)) (fun v261 w262 hst => ?_))
    replace hst : St w0 w262 [rowT 5 u8E v261 b] := hst
    refine s_yes 23 rfl rfl (op_move (.int .u8 (c.toNat : Int)) rfl ?_)
    refine s_yes 23 rfl rfl (op_buildSlice (E := u8E) [c] hst Try.underlying22 Try.sizeOf5 Try.zeroValue5 (evp_cons (v := (.int .u8 (c.toNat : Int))) rfl evp_nil) (parts_cons rfl parts_nil) rfl (by decide) (fun v263 w264 hst => ?_))
    replace hst : St w0 w264 [rowT 5 u8E v263 ([c]), rowT 5 u8E v261 b] := hst
    refine s_yes 23 rfl rfl (op_append (E := u8E) (xs := b) (ys := [c]) (z := (.int .u8 0)) (bytes := 1) hst 1 rfl Try.underlying22 (by kernel_rfl) rfl rfl rfl (hst.sl 0 rfl) (by first | omega | (simp only [List.length_append, List.length_cons, List.length_nil, List.length_take, List.length_drop, List.length_set]; omega)) (by first | omega | (simp only [List.length_append, List.length_cons, List.length_nil, List.length_take, List.length_drop, List.length_set]; omega)) (fun v265 w266 hst => ?_))
    replace hst : St w0 w266 [rowT 5 u8E v263 ([c]), rowT 5 u8E v265 (b ++ ([c]))] := hst
    refine s_yes 23 rfl rfl (op_call Try.call15 (evs_cons (v := v265) rfl evs_nil) (c_Of (w0 := w266) (v_b := v265) (b := (b ++ ([c]))) (h_b := (hst.sl 1 rfl))) ?_)
    rintro _ w267 ⟨rfl, hcall⟩
    refine ⟨_, rfl, ?_⟩
    have hst : St w0 w267 [rowT 5 u8E v263 ([c]), rowT 5 u8E v265 (b ++ ([c]))] := hst.call hcall
    refine s_yes 23 rfl rfl (op_move (.int .u32 (((((more 1 b) * 257) + (c.toNat : Int)) + 1) % 4294967291)) rfl ?_)
    refine s_yes 23 rfl rfl (op_eql (k := .u32) (a := (more 1 (b ++ ([c])))) (b := (((((more 1 b) * 257) + (c.toNat : Int)) + 1) % 4294967291)) rfl rfl ?_)
    refine s_cons (op_pick_t (.bool (decide ((more 1 (b ++ ([c]))) = (((((more 1 b) * 257) + (c.toNat : Int)) + 1) % 4294967291)))) rfl rfl ?_)
    refine s_cons (op_move (.bool (decide ((more 1 (b ++ ([c]))) = (((((more 1 b) * 257) + (c.toNat : Int)) + 1) % 4294967291)))) rfl ?_)
    refine s_yes 34 rfl (congrArg Value.bool (show (decide ((more 1 (b ++ ([c]))) = (((((more 1 b) * 257) + (c.toNat : Int)) + 1) % 4294967291))) = true from (decide_eq_true (more_snoc 1 b c)))) (op_move (.int .u32 (more 1 b)) rfl ?_)
    refine s_yes 34 rfl (congrArg Value.bool (show (decide ((more 1 (b ++ ([c]))) = (((((more 1 b) * 257) + (c.toNat : Int)) + 1) % 4294967291))) = true from (decide_eq_true (more_snoc 1 b c)))) (op_move (.int .u8 (c.toNat : Int)) rfl ?_)
    refine s_yes 34 rfl (congrArg Value.bool (show (decide ((more 1 (b ++ ([c]))) = (((((more 1 b) * 257) + (c.toNat : Int)) + 1) % 4294967291))) = true from (decide_eq_true (more_snoc 1 b c)))) (op_buildSlice (E := u8E) [c] hst Try.underlying22 Try.sizeOf5 Try.zeroValue5 (evp_cons (v := (.int .u8 (c.toNat : Int))) rfl evp_nil) (parts_cons rfl parts_nil) rfl (by decide) (fun v268 w269 hst => ?_))
    replace hst : St w0 w269 [rowT 5 u8E v268 ([c]), rowT 5 u8E v263 ([c]), rowT 5 u8E v265 (b ++ ([c]))] := hst
    refine s_yes 34 rfl (congrArg Value.bool (show (decide ((more 1 (b ++ ([c]))) = (((((more 1 b) * 257) + (c.toNat : Int)) + 1) % 4294967291))) = true from (decide_eq_true (more_snoc 1 b c)))) (op_call Try.call17 (evs_cons (v := (.int .u32 (more 1 b))) rfl (evs_cons (v := v268) rfl evs_nil)) (c_More (w0 := w269) (s := (more 1 b)) (v_b := v268) (b := [c]) (h_b := (hst.sl 0 rfl)) (h0 := (by omega)) (h1 := (by omega))) ?_)
    rintro _ w270 ⟨rfl, hcall⟩
    refine ⟨_, rfl, ?_⟩
    have hst : St w0 w270 [rowT 5 u8E v268 ([c]), rowT 5 u8E v263 ([c]), rowT 5 u8E v265 (b ++ ([c]))] := hst.call hcall
    refine s_yes 34 rfl (congrArg Value.bool (show (decide ((more 1 (b ++ ([c]))) = (((((more 1 b) * 257) + (c.toNat : Int)) + 1) % 4294967291))) = true from (decide_eq_true (more_snoc 1 b c)))) (op_move (.int .u32 (((((more 1 b) * 257) + (c.toNat : Int)) + 1) % 4294967291)) rfl ?_)
    refine s_yes 34 rfl (congrArg Value.bool (show (decide ((more 1 (b ++ ([c]))) = (((((more 1 b) * 257) + (c.toNat : Int)) + 1) % 4294967291))) = true from (decide_eq_true (more_snoc 1 b c)))) (op_eql (k := .u32) (a := (more (more 1 b) ([c]))) (b := (((((more 1 b) * 257) + (c.toNat : Int)) + 1) % 4294967291)) rfl rfl ?_)
    refine s_cons (op_pick_t (.bool (decide ((more (more 1 b) ([c])) = (((((more 1 b) * 257) + (c.toNat : Int)) + 1) % 4294967291)))) (congrArg Value.bool (show (decide ((more 1 (b ++ ([c]))) = (((((more 1 b) * 257) + (c.toNat : Int)) + 1) % 4294967291))) = true from (decide_eq_true (more_snoc 1 b c)))) rfl ?_)
    refine s_cons (op_assign (.bool (decide ((more (more 1 b) ([c])) = (((((more 1 b) * 257) + (c.toNat : Int)) + 1) % 4294967291)))) rfl ?_)
    refine s_nil ?_
    refine then_n ?_
    refine cE_ret ?_
    refine post_r _ (res1 (v := (.bool true)) (congrArg Value.bool (show (decide ((more (more 1 b) ([c])) = (((((more 1 b) * 257) + (c.toNat : Int)) + 1) % 4294967291))) = true from (decide_eq_true (more_one b c))))) ?_
    exact ⟨rfl, hst.bare⟩

end Go.Proofs.Ytealhahaeiibjaa
