/- the law TierWrong -/
import Derived.Test.YtffnhcioponbbaaW13
import Derived.Test.YtffnhcioponbbaaW15
import Derived.Test.YtffnhcioponbbaaA
import Derived.Test.YtffnhcioponbbaaN
namespace Go.Proofs.Ytffnhcioponbbaa
open Go.RowKit

set_option maxHeartbeats 4000000 in
theorem c_TierWrong (w0 : World) (v_steps : Value) (steps : List Int) (h_steps : Sl w0 (intE .i64) v_steps steps) (at_ : Int) (k : Int) (hs : ∀ v ∈ steps, i64R v) (at_0 : -9223372036854775808 ≤ at_) (k0 : -9223372036854775808 ≤ k) (at_1 : at_ ≤ 9223372036854775807) (k1 : k ≤ 9223372036854775807) :
    Calls Try.prog 8 #[v_steps, (.int .i64 at_), (.int .i64 k)] w0 fun e w' => e = .returned (.bool true) ∧ St w0 w' [] := by
  have hNN : riseN steps 30 ≤ 30 := Nat.le_trans (riseN_le2 steps 30) (by decide)
  have hLO := rise_ok (steps := steps) (values := []) (n := riseN steps 30) (riseN_le _ _) (by omega) (by intro v h; cases h)
  have hLL := rise_length steps [] (riseN steps 30)
  have hLR := rise_rises (steps := steps) (values := []) (n := riseN steps 30) (riseN_le _ _) (by omega)
  have hLS := rise_small (steps := steps) (n := riseN steps 30) (by omega)
  refine calls_E (n := 126) (ts := [6]) Try.func8 rfl rfl rfl (by simp) ?_
  have hst := St.start w0
  refine cE_seq ?_
  refine cE_region rfl ?_
  refine s_cons (op_assign (.bool false) rfl ?_)
  refine s_nil ?_
  refine then_n ?_
  refine cE_seq ?_
  refine cE_region rfl ?_
  refine s_cons (op_move v_steps rfl ?_)
  refine s_cons (op_call Try.call19 (evs_cons (v := v_steps) rfl (evs_cons (v := (.slice none 0 0)) rfl (evs_cons (v := (.int .i64 30)) rfl evs_nil))) (c_Rise (w0 := w0) (v_steps := v_steps) (steps := steps) (h_steps := (h_steps.below hst.below)) (v_values := (.slice none 0 0)) (values := []) (h_values := (Sl.nil (intE .i64) _)) (most := 30) (m0 := (by omega)) (m1 := (by omega)) (hv := (by intro v h; cases h)) (hs := hs)) ?_)
  rintro _ w2 ⟨r1, rfl, hcall⟩
  refine ⟨_, rfl, ?_⟩
  have hst : St w0 w2 [rowT 32 sampE r1 (riseL steps ([]) (riseN steps 30))] := hst.call hcall
  refine s_cons (op_assign r1 rfl ?_)
  refine s_nil ?_
  refine then_n ?_
  refine cE_seq ?_
  refine cE_seq ?_
  refine cE_region rfl ?_
  refine s_cons (op_move r1 rfl ?_)
  refine s_cons (op_len (E := sampE) (xs := (riseL steps ([]) (riseN steps 30))) Try.underlying22 rfl (hst.sl 0 rfl) ?_)
  refine s_cons (op_lss (k := .i64) (a := ((riseL steps ([]) (riseN steps 30)).length : Int)) (b := 2) rfl rfl ?_)
  refine s_nil ?_
  refine then_n ?_
  rcases Bool.eq_false_or_eq_true (decide (((riseL steps ([]) (riseN steps 30)).length : Int) < 2)) with b3 | b3
  · have c4 : ((riseL steps ([]) (riseN steps 30)).length : Int) < 2 := of_decide_eq_true b3
    refine cE_cond true (congrArg Value.bool b3) (fun _ => ?_) (fun h => by cases h)
    refine cE_seq ?_
    refine cE_region rfl ?_
    refine s_cons (op_call Try.call20 evs_nil (c_told4 (w0 := w2)) ?_)
    rintro _ w5 ⟨rfl, hcall⟩
    refine ⟨_, rfl, ?_⟩
    have hst : St w0 w5 [rowT 32 sampE r1 (riseL steps ([]) (riseN steps 30))] := hst.call hcall
    refine s_cons (op_assign (.bool true) rfl ?_)
    refine s_nil ?_
    refine then_n ?_
    refine cE_ret ?_
    refine then_r ?_
    refine post_r _ (res1 (v := (.bool true)) rfl) ?_
    exact ⟨rfl, hst.bare⟩
  · have c6 : ¬ (((riseL steps ([]) (riseN steps 30)).length : Int) < 2) := of_decide_eq_false b3
    refine cE_cond false (congrArg Value.bool b3) (fun h => by cases h) (fun _ => ?_)
    refine cE_skip ?_
    refine then_n ?_
    refine cE_seq ?_
    refine cE_region rfl ?_
    refine s_cons (op_move (.int .i64 at_) rfl ?_)
    refine s_cons (op_conv (k := .i64) (a := at_) (at_ % 18446744073709551616) Try.underlying24 (by rw [Try.underlying3]; rfl) rfl (IntKind.wrap_u64 _) ?_)
    refine s_cons (op_move r1 rfl ?_)
    refine s_cons (op_len (E := sampE) (xs := (riseL steps ([]) (riseN steps 30))) Try.underlying22 rfl (hst.sl 0 rfl) ?_)
    refine s_cons (op_sub (k := .i64) (a := ((riseL steps ([]) (riseN steps 30)).length : Int)) (b := 1) (((riseL steps ([]) (riseN steps 30)).length : Int) - 1) rfl rfl (xi64 (by omega) (by omega)) ?_)
    refine s_cons (op_conv (k := .i64) (a := (((riseL steps ([]) (riseN steps 30)).length : Int) - 1)) (((riseL steps ([]) (riseN steps 30)).length : Int) - 1) Try.underlying24 (by rw [Try.underlying3]; rfl) rfl (xu64 (by omega) (by omega)) ?_)
    obtain ⟨i, hi, hil⟩ := rem_nat (a := (at_ % 18446744073709551616)) (b := (((riseL steps ([]) (riseN steps 30)).length : Int) - 1)) (by omega) (by omega)
    refine s_cons (op_rem (k := .u64) (a := (at_ % 18446744073709551616)) (b := (((riseL steps ([]) (riseN steps 30)).length : Int) - 1)) (i : Int) rfl rfl (by omega) hi ?_)
    refine s_cons (op_conv (k := .u64) (a := (i : Int)) (i : Int) Try.underlying3 (by rw [Try.underlying24]; rfl) rfl (xi64 (by omega) (by omega)) ?_)
    refine s_cons (op_assign (.int .i64 (i : Int)) rfl ?_)
    refine s_nil ?_
    refine then_n ?_
    refine cE_seq ?_
    refine cE_region rfl ?_
    refine s_cons (op_buildSlice (E := sampE) [] hst Try.underlying22 Try.sizeOf32 Try.zeroValue32 evp_nil parts_nil rfl (by decide) (fun v7 w8 hst => ?_))
    replace hst : St w0 w8 [rowT 32 sampE v7 ([]), rowT 32 sampE r1 (riseL steps ([]) (riseN steps 30))] := hst
    refine s_cons (op_move r1 rfl ?_)
    refine s_cons (op_append (E := sampE) (xs := []) (ys := (riseL steps ([]) (riseN steps 30))) (z := (.agg #[(.int .i64 0), (.int .i64 0)])) (bytes := 16) hst 0 rfl Try.underlying22 (by kernel_rfl) rfl rfl rfl (hst.sl 1 rfl) (by first | omega | (simp only [List.length_append, List.length_cons, List.length_nil, List.length_take, List.length_drop, List.length_set, List.length_map, List.length_reverse]; omega)) (by first | omega | (simp only [List.length_append, List.length_cons, List.length_nil, List.length_take, List.length_drop, List.length_set, List.length_map, List.length_reverse]; omega)) (fun v9 w10 hst => ?_))
    replace hst : St w0 w10 [rowT 32 sampE v9 (riseL steps ([]) (riseN steps 30)), rowT 32 sampE r1 (riseL steps ([]) (riseN steps 30))] := hst
    refine s_cons (op_assign v9 rfl ?_)
    refine s_nil ?_
    refine then_n ?_
    refine cE_seq ?_
    have hM29 : stabML [15, 17] [(kEq v9), (kEq (.int .i64 (i : Int))), (kEq v9), (kEq (.int .i64 (i : Int))), (kEq (.int .i64 ((i : Int) + 1))), (kEq r1), (kEq (.int .i64 (i : Int))), (kEq (.int .i64 ((i : Int) + 1))), (kPtU [15, 17] [(.int .i64 (((riseL steps ([]) (riseN steps 30))[(i + 1)]'(by first | omega | (simp only [List.length_set]; omega))).T)), (.int .i64 (((riseL steps ([]) (riseN steps 30))[(i + 1)]'(by first | omega | (simp only [List.length_set]; omega))).V))]), (kEq (.agg #[(.int .i64 (((riseL steps ([]) (riseN steps 30))[(i + 1)]'(by first | omega | (simp only [List.length_set]; omega))).T)), (.int .i64 (((riseL steps ([]) (riseN steps 30))[(i + 1)]'(by first | omega | (simp only [List.length_set]; omega))).V))])), (kEq r1), (kEq (.int .i64 (i : Int))), (kPtU [15, 17] [(.int .i64 (((riseL steps ([]) (riseN steps 30))[i]'(by first | omega | (simp only [List.length_set]; omega))).T)), (.int .i64 (((riseL steps ([]) (riseN steps 30))[i]'(by first | omega | (simp only [List.length_set]; omega))).V))]), (kEq (.agg #[(.int .i64 (((riseL steps ([]) (riseN steps 30))[i]'(by first | omega | (simp only [List.length_set]; omega))).T)), (.int .i64 (((riseL steps ([]) (riseN steps 30))[i]'(by first | omega | (simp only [List.length_set]; omega))).V))])), (kRow v9 (i * sampE.size)), kAny, (kRow v9 ((i + 1) * sampE.size)), kAny] := ⟨mEq, mEq, mEq, mEq, mEq, mEq, mEq, mEq, mPtU, mEq, mEq, mEq, mPtU, mEq, mRow, mAny, mRow, mAny, trivial⟩
    refine cE_regionK (fun (D : Nat → Bool) (w : World) => St w0 w [rowT 32 sampE r1 (riseL steps ([]) (riseN steps 30))] ∧ (D 15 = false → St w0 w [rowT 32 sampE v9 (riseL steps ([]) (riseN steps 30)), rowT 32 sampE r1 (riseL steps ([]) (riseN steps 30))]) ∧ (D 15 = true → D 17 = false → St w0 w [rowT 32 sampE v9 ((riseL steps ([]) (riseN steps 30)).set (i) ((riseL steps ([]) (riseN steps 30))[(i + 1)]'(by first | omega | (simp only [List.length_set]; omega)))), rowT 32 sampE r1 (riseL steps ([]) (riseN steps 30))]) ∧ (D 17 = true → St w0 w [rowT 32 sampE v9 (((riseL steps ([]) (riseN steps 30)).set (i) ((riseL steps ([]) (riseN steps 30))[(i + 1)]'(by first | omega | (simp only [List.length_set]; omega)))).set ((i + 1)) ((riseL steps ([]) (riseN steps 30))[i]'(by first | omega | (simp only [List.length_set]; omega)))), rowT 32 sampE r1 (riseL steps ([]) (riseN steps 30))])) [[(9, none)], [(8, none)], [(9, none)], [(8, none)], [(38, some 3)], [(7, none)], [(8, none)], [(41, some 6)], [(40, some 5), (42, some 7)], [(43, some 8)], [(7, none)], [(8, none)], [(45, some 10), (46, some 11)], [(47, some 12)], [(35, some 0), (36, some 1)], [(49, some 14), (44, some 9)], [(37, some 2), (39, some 4)], [(50, some 16), (48, some 13)]] (RofK [(kEq v9), (kEq (.int .i64 (i : Int))), (kEq v9), (kEq (.int .i64 (i : Int))), (kEq (.int .i64 ((i : Int) + 1))), (kEq r1), (kEq (.int .i64 (i : Int))), (kEq (.int .i64 ((i : Int) + 1))), (kPtU [15, 17] [(.int .i64 (((riseL steps ([]) (riseN steps 30))[(i + 1)]'(by first | omega | (simp only [List.length_set]; omega))).T)), (.int .i64 (((riseL steps ([]) (riseN steps 30))[(i + 1)]'(by first | omega | (simp only [List.length_set]; omega))).V))]), (kEq (.agg #[(.int .i64 (((riseL steps ([]) (riseN steps 30))[(i + 1)]'(by first | omega | (simp only [List.length_set]; omega))).T)), (.int .i64 (((riseL steps ([]) (riseN steps 30))[(i + 1)]'(by first | omega | (simp only [List.length_set]; omega))).V))])), (kEq r1), (kEq (.int .i64 (i : Int))), (kPtU [15, 17] [(.int .i64 (((riseL steps ([]) (riseN steps 30))[i]'(by first | omega | (simp only [List.length_set]; omega))).T)), (.int .i64 (((riseL steps ([]) (riseN steps 30))[i]'(by first | omega | (simp only [List.length_set]; omega))).V))]), (kEq (.agg #[(.int .i64 (((riseL steps ([]) (riseN steps 30))[i]'(by first | omega | (simp only [List.length_set]; omega))).T)), (.int .i64 (((riseL steps ([]) (riseN steps 30))[i]'(by first | omega | (simp only [List.length_set]; omega))).V))])), (kRow v9 (i * sampE.size)), kAny, (kRow v9 ((i + 1) * sampE.size)), kAny]) (by kernel_rfl) rfl (by kernel_rfl) ⟨hst.drewW.sub (.cons _ (.cons_cons _ .slnil)), (fun _ => hst.drewW), (fun h => absurd h Bool.false_ne_true), (fun h => absurd h Bool.false_ne_true)⟩ ⟨?_, ?_, ?_, ?_, ?_, ?_, ?_, ?_, ?_, ?_, ?_, ?_, ?_, ?_, ?_, ?_, ?_, ?_, trivial⟩ ?_
    · rintro D30 ρ31 w32 hD33 hE34 hC35 hJ36 ⟨f9, _⟩
      have hst := hJ36.2.1 (not_yet hD33 (fun hm => (hC35 15 0 hm (by kernel_rfl))))
      exact go_plain (op_move v9 (f9.trans rfl) (kN0 (i := 0) hM29 (by decide) (by exact hJ36) (by exact rfl)))
    · rintro D37 ρ38 w39 hD40 hE41 hC42 hJ43 ⟨f8, _⟩
      have hst := hJ43.2.1 (not_yet hD40 (fun hm => (hC42 15 1 hm (by kernel_rfl))))
      exact go_plain (op_move (.int .i64 (i : Int)) (f8.trans rfl) (kN0 (i := 1) hM29 (by decide) (by exact hJ43) (by exact rfl)))
    · rintro D44 ρ45 w46 hD47 hE48 hC49 hJ50 ⟨f9, _⟩
      have hst := hJ50.1
      exact go_plain (op_move v9 (f9.trans rfl) (kN0 (i := 2) hM29 (by decide) (by exact hJ50) (by exact rfl)))
    · rintro D51 ρ52 w53 hD54 hE55 hC56 hJ57 ⟨f8, _⟩
      have hst := hJ57.1
      exact go_plain (op_move (.int .i64 (i : Int)) (f8.trans rfl) (kN0 (i := 3) hM29 (by decide) (by exact hJ57) (by exact rfl)))
    · rintro D58 ρ59 w60 hD61 hE62 hC63 hJ64 ⟨f38, _⟩
      have hst := hJ64.1
      exact go_plain (op_add (k := .i64) (a := (i : Int)) (b := 1) ((i : Int) + 1) f38 rfl (xi64 (by omega) (by omega)) (kN0 (i := 4) hM29 (by decide) (by exact hJ64) (by exact rfl)))
    · rintro D65 ρ66 w67 hD68 hE69 hC70 hJ71 ⟨f7, _⟩
      have hst := hJ71.2.1 (not_yet hD68 (fun hm => (hC70 15 5 hm (by kernel_rfl))))
      exact go_plain (op_move r1 (f7.trans rfl) (kN0 (i := 5) hM29 (by decide) (by exact hJ71) (by exact rfl)))
    · rintro D72 ρ73 w74 hD75 hE76 hC77 hJ78 ⟨f8, _⟩
      have hst := hJ78.2.1 (not_yet hD75 (fun hm => (hC77 15 6 hm (by kernel_rfl))))
      exact go_plain (op_move (.int .i64 (i : Int)) (f8.trans rfl) (kN0 (i := 6) hM29 (by decide) (by exact hJ78) (by exact rfl)))
    · rintro D79 ρ80 w81 hD82 hE83 hC84 hJ85 ⟨f41, _⟩
      have hst := hJ85.2.1 (not_yet hD82 (fun hm => (hC84 15 7 hm (by kernel_rfl))))
      exact go_plain (op_add (k := .i64) (a := (i : Int)) (b := 1) ((i : Int) + 1) f41 rfl (xi64 (by omega) (by omega)) (kN0 (i := 7) hM29 (by decide) (by exact hJ85) (by exact rfl)))
    · rintro D86 ρ87 w88 hD89 hE90 hC91 hJ92 ⟨f40, f42, _⟩
      have hst := hJ92.2.1 (not_yet hD89 (fun hm => (hC91 15 8 hm (by kernel_rfl))))
      refine go_plain (op_indexAddrN (E := sampE) (xs := (riseL steps ([]) (riseN steps 30))) (i + 1) Try.underlying22 Try.sizeOf32 f40 (hst.sl 1 rfl) f42 (by omega) (by first | omega | (simp only [List.length_set]; omega)) (fun a93 o94 p95 => ?_))
      exact (kN0 (i := 8) hM29 (by decide) (by exact hJ92) (by exact ⟨_, _, rfl, fun _ => p95⟩))
    · rintro D96 ρ97 w98 hD99 hE100 hC101 hJ102 ⟨f43, _⟩
      have hst := hJ102.2.1 (not_yet hD99 (fun hm => (hC101 15 9 hm (by kernel_rfl))))
      obtain ⟨a103, o104, e105, p106⟩ := f43
      have p106 := p106 (by intro m hm; simp only [List.mem_cons, List.not_mem_nil, or_false] at hm; rcases hm with rfl | rfl; exact (not_yet hD99 (fun hm => (hC101 15 9 hm (by kernel_rfl)))); exact (not_yet hD99 (fun hm => (hC101 17 9 hm (by kernel_rfl)))))
      exact go_plain (op_loadN (cs := [(.int .i64 (((riseL steps ([]) (riseN steps 30))[(i + 1)]'(by first | omega | (simp only [List.length_set]; omega))).T)), (.int .i64 (((riseL steps ([]) (riseN steps 30))[(i + 1)]'(by first | omega | (simp only [List.length_set]; omega))).V))]) Try.isAgg32 Try.sizeOf32 e105 (Pt.of p106 rfl) rfl (kN0 (i := 9) hM29 (by decide) (by exact hJ102) (by exact rfl)))
    · rintro D107 ρ108 w109 hD110 hE111 hC112 hJ113 ⟨f7, _⟩
      have hst := hJ113.2.1 (not_yet hD110 (fun hm => (hC112 12 10 (hC112 13 12 (hC112 15 13 hm (by kernel_rfl)) (by kernel_rfl)) (by kernel_rfl))))
      exact go_plain (op_move r1 (f7.trans rfl) (kN0 (i := 10) hM29 (by decide) (by exact hJ113) (by exact rfl)))
    · rintro D114 ρ115 w116 hD117 hE118 hC119 hJ120 ⟨f8, _⟩
      have hst := hJ120.2.1 (not_yet hD117 (fun hm => (hC119 12 11 (hC119 13 12 (hC119 15 13 hm (by kernel_rfl)) (by kernel_rfl)) (by kernel_rfl))))
      exact go_plain (op_move (.int .i64 (i : Int)) (f8.trans rfl) (kN0 (i := 11) hM29 (by decide) (by exact hJ120) (by exact rfl)))
    · rintro D121 ρ122 w123 hD124 hE125 hC126 hJ127 ⟨f45, f46, _⟩
      have hst := hJ127.2.1 (not_yet hD124 (fun hm => (hC126 13 12 (hC126 15 13 hm (by kernel_rfl)) (by kernel_rfl))))
      refine go_plain (op_indexAddrN (E := sampE) (xs := (riseL steps ([]) (riseN steps 30))) i Try.underlying22 Try.sizeOf32 f45 (hst.sl 1 rfl) f46 (by omega) (by first | omega | (simp only [List.length_set]; omega)) (fun a128 o129 p130 => ?_))
      exact (kN0 (i := 12) hM29 (by decide) (by exact hJ127) (by exact ⟨_, _, rfl, fun _ => p130⟩))
    · rintro D131 ρ132 w133 hD134 hE135 hC136 hJ137 ⟨f47, _⟩
      have hst := hJ137.2.1 (not_yet hD134 (fun hm => (hC136 15 13 hm (by kernel_rfl))))
      obtain ⟨a138, o139, e140, p141⟩ := f47
      have p141 := p141 (by intro m hm; simp only [List.mem_cons, List.not_mem_nil, or_false] at hm; rcases hm with rfl | rfl; exact (not_yet hD134 (fun hm => (hC136 15 13 hm (by kernel_rfl)))); exact (not_yet hD134 (fun hm => (hC136 17 13 hm (by kernel_rfl)))))
      exact go_plain (op_loadN (cs := [(.int .i64 (((riseL steps ([]) (riseN steps 30))[i]'(by first | omega | (simp only [List.length_set]; omega))).T)), (.int .i64 (((riseL steps ([]) (riseN steps 30))[i]'(by first | omega | (simp only [List.length_set]; omega))).V))]) Try.isAgg32 Try.sizeOf32 e140 (Pt.of p141 rfl) rfl (kN0 (i := 13) hM29 (by decide) (by exact hJ137) (by exact rfl)))
    · rintro D142 ρ143 w144 hD145 hE146 hC147 hJ148 ⟨f35, f36, _⟩
      have hst := hJ148.2.1 (not_yet hD145 (fun hm => (hC147 15 14 hm (by kernel_rfl))))
      refine go_plain (op_indexRowN hst 0 rfl i Try.underlying22 Try.sizeOf32 f35 f36 (by omega) (by first | omega | (simp only [List.length_set]; omega)) (fun g153 hb152 p151 => ?_))
      exact (kN0 (i := 14) hM29 (by decide) (by exact hJ148) (by exact ⟨_, hb152, rfl⟩))
    · rintro D154 ρ155 w156 hD157 hE158 hC159 hJ160 ⟨f49, f44, _⟩
      have hst := hJ160.2.1 hD157
      obtain ⟨g161, hb163, e162⟩ := f49
      have hI165 : stabIL 15 D154 0 [(kEq v9), (kEq (.int .i64 (i : Int))), (kEq v9), (kEq (.int .i64 (i : Int))), (kEq (.int .i64 ((i : Int) + 1))), (kEq r1), (kEq (.int .i64 (i : Int))), (kEq (.int .i64 ((i : Int) + 1))), (kPtU [15, 17] [(.int .i64 (((riseL steps ([]) (riseN steps 30))[(i + 1)]'(by first | omega | (simp only [List.length_set]; omega))).T)), (.int .i64 (((riseL steps ([]) (riseN steps 30))[(i + 1)]'(by first | omega | (simp only [List.length_set]; omega))).V))]), (kEq (.agg #[(.int .i64 (((riseL steps ([]) (riseN steps 30))[(i + 1)]'(by first | omega | (simp only [List.length_set]; omega))).T)), (.int .i64 (((riseL steps ([]) (riseN steps 30))[(i + 1)]'(by first | omega | (simp only [List.length_set]; omega))).V))])), (kEq r1), (kEq (.int .i64 (i : Int))), (kPtU [15, 17] [(.int .i64 (((riseL steps ([]) (riseN steps 30))[i]'(by first | omega | (simp only [List.length_set]; omega))).T)), (.int .i64 (((riseL steps ([]) (riseN steps 30))[i]'(by first | omega | (simp only [List.length_set]; omega))).V))]), (kEq (.agg #[(.int .i64 (((riseL steps ([]) (riseN steps 30))[i]'(by first | omega | (simp only [List.length_set]; omega))).T)), (.int .i64 (((riseL steps ([]) (riseN steps 30))[i]'(by first | omega | (simp only [List.length_set]; omega))).V))])), (kRow v9 (i * sampE.size)), kAny, (kRow v9 ((i + 1) * sampE.size)), kAny] := ⟨Or.inr (Or.inr iEq), Or.inr (Or.inr iEq), Or.inr (Or.inr iEq), Or.inr (Or.inr iEq), Or.inr (Or.inr iEq), Or.inr (Or.inr iEq), Or.inr (Or.inr iEq), Or.inr (Or.inr iEq), Or.inr (Or.inr (iPtU (by decide))), Or.inr (Or.inr iEq), Or.inr (Or.inr iEq), Or.inr (Or.inr iEq), Or.inr (Or.inr (iPtU (by decide))), Or.inr (Or.inr iEq), Or.inr (Or.inr iRow), Or.inl rfl, Or.inr (Or.inr iRow), Or.inr (Or.inr iAny), trivial⟩
      refine go_plain (op_storeRowN (y := ((riseL steps ([]) (riseN steps 30))[(i + 1)]'(by first | omega | (simp only [List.length_set]; omega)))) hst 0 rfl hb163 Try.sizeOf32 e162 f44 (i) rfl (by first | omega | (simp only [List.length_set]; omega)) rfl (fun w164 hst => ?_))
      replace hst : St w0 w164 [rowT 32 sampE v9 ((riseL steps ([]) (riseN steps 30)).set (i) ((riseL steps ([]) (riseN steps 30))[(i + 1)]'(by first | omega | (simp only [List.length_set]; omega)))), rowT 32 sampE r1 (riseL steps ([]) (riseN steps 30))] := hst
      exact kI (i := 15) hI165 (by exact ⟨hst.sub (.cons _ (.cons_cons _ .slnil)), (fun h => absurd h (fun h => Bool.noConfusion h)), (fun _ _ => hst), (fun h => absurd (show D154 17 = true from h) (by rw [(not_yet hD157 (fun hm => (hC159 17 15 hm (by kernel_rfl))))]; decide))⟩) (by exact trivial)
    · rintro D166 ρ167 w168 hD169 hE170 hC171 hJ172 ⟨f37, f39, _⟩
      have hst := hJ172.2.2.1 (hE170 15 (by kernel_rfl)) (not_yet hD169 (fun hm => (hC171 17 16 hm (by kernel_rfl))))
      refine go_plain (op_indexRowN hst 0 rfl (i + 1) Try.underlying22 Try.sizeOf32 f37 f39 (by omega) (by first | omega | (simp only [List.length_set]; omega)) (fun g177 hb176 p175 => ?_))
      exact (kN0 (i := 16) hM29 (by decide) (by exact hJ172) (by exact ⟨_, hb176, rfl⟩))
    · rintro D178 ρ179 w180 hD181 hE182 hC183 hJ184 ⟨f50, f48, _⟩
      have hst := hJ184.2.2.1 (hE182 15 (by kernel_rfl)) hD181
      obtain ⟨g185, hb187, e186⟩ := f50
      have hI189 : stabIL 17 D178 0 [(kEq v9), (kEq (.int .i64 (i : Int))), (kEq v9), (kEq (.int .i64 (i : Int))), (kEq (.int .i64 ((i : Int) + 1))), (kEq r1), (kEq (.int .i64 (i : Int))), (kEq (.int .i64 ((i : Int) + 1))), (kPtU [15, 17] [(.int .i64 (((riseL steps ([]) (riseN steps 30))[(i + 1)]'(by first | omega | (simp only [List.length_set]; omega))).T)), (.int .i64 (((riseL steps ([]) (riseN steps 30))[(i + 1)]'(by first | omega | (simp only [List.length_set]; omega))).V))]), (kEq (.agg #[(.int .i64 (((riseL steps ([]) (riseN steps 30))[(i + 1)]'(by first | omega | (simp only [List.length_set]; omega))).T)), (.int .i64 (((riseL steps ([]) (riseN steps 30))[(i + 1)]'(by first | omega | (simp only [List.length_set]; omega))).V))])), (kEq r1), (kEq (.int .i64 (i : Int))), (kPtU [15, 17] [(.int .i64 (((riseL steps ([]) (riseN steps 30))[i]'(by first | omega | (simp only [List.length_set]; omega))).T)), (.int .i64 (((riseL steps ([]) (riseN steps 30))[i]'(by first | omega | (simp only [List.length_set]; omega))).V))]), (kEq (.agg #[(.int .i64 (((riseL steps ([]) (riseN steps 30))[i]'(by first | omega | (simp only [List.length_set]; omega))).T)), (.int .i64 (((riseL steps ([]) (riseN steps 30))[i]'(by first | omega | (simp only [List.length_set]; omega))).V))])), (kRow v9 (i * sampE.size)), kAny, (kRow v9 ((i + 1) * sampE.size)), kAny] := ⟨Or.inr (Or.inr iEq), Or.inr (Or.inr iEq), Or.inr (Or.inr iEq), Or.inr (Or.inr iEq), Or.inr (Or.inr iEq), Or.inr (Or.inr iEq), Or.inr (Or.inr iEq), Or.inr (Or.inr iEq), Or.inr (Or.inr (iPtU (by decide))), Or.inr (Or.inr iEq), Or.inr (Or.inr iEq), Or.inr (Or.inr iEq), Or.inr (Or.inr (iPtU (by decide))), Or.inr (Or.inr iEq), Or.inr (Or.inr iRow), Or.inr (Or.inr iAny), Or.inr (Or.inr iRow), Or.inl rfl, trivial⟩
      refine go_plain (op_storeRowN (y := ((riseL steps ([]) (riseN steps 30))[i]'(by first | omega | (simp only [List.length_set]; omega)))) hst 0 rfl hb187 Try.sizeOf32 e186 f48 ((i + 1)) rfl (by first | omega | (simp only [List.length_set]; omega)) rfl (fun w188 hst => ?_))
      replace hst : St w0 w188 [rowT 32 sampE v9 (((riseL steps ([]) (riseN steps 30)).set (i) ((riseL steps ([]) (riseN steps 30))[(i + 1)]'(by first | omega | (simp only [List.length_set]; omega)))).set ((i + 1)) ((riseL steps ([]) (riseN steps 30))[i]'(by first | omega | (simp only [List.length_set]; omega)))), rowT 32 sampE r1 (riseL steps ([]) (riseN steps 30))] := hst
      exact kI (i := 17) hI189 (by exact ⟨hst.sub (.cons _ (.cons_cons _ .slnil)), (fun h => absurd (show D178 15 = false from h) (by rw [(hE182 15 (by kernel_rfl))]; decide)), (fun _ h => absurd h (fun h => Bool.noConfusion h)), (fun _ => hst)⟩) (by exact trivial)
    · intro ρ190 w191 Dw191 hallw191 hJw191 hRw191 hkw191
      have hst := hJw191.2.2.2 (hallw191 17 (show 17 < 18 from by decide))
      have uw191_0 : ρ190 0 = v_steps := (hkw191 0 rfl).trans rfl
      have uw191_1 : ρ190 1 = (.int .i64 at_) := (hkw191 1 rfl).trans rfl
      have uw191_2 : ρ190 2 = (.int .i64 k) := (hkw191 2 rfl).trans rfl
      have uw191_6 : ρ190 6 = (.bool false) := (hkw191 6 rfl).trans rfl
      have uw191_18 : ρ190 18 = v_steps := (hkw191 18 rfl).trans rfl
      have uw191_19 : ρ190 19 = r1 := (hkw191 19 rfl).trans rfl
      have uw191_7 : ρ190 7 = r1 := (hkw191 7 rfl).trans rfl
      have uw191_20 : ρ190 20 = r1 := (hkw191 20 rfl).trans rfl
      have uw191_21 : ρ190 21 = (.int .i64 ((riseL steps ([]) (riseN steps 30)).length : Int)) := (hkw191 21 rfl).trans rfl
      have uw191_22 : ρ190 22 = (.bool (decide (((riseL steps ([]) (riseN steps 30)).length : Int) < 2))) := (hkw191 22 rfl).trans rfl
      have uw191_24 : ρ190 24 = (.int .i64 at_) := (hkw191 24 rfl).trans rfl
      have uw191_25 : ρ190 25 = (.int .u64 (at_ % 18446744073709551616)) := (hkw191 25 rfl).trans rfl
      have uw191_26 : ρ190 26 = r1 := (hkw191 26 rfl).trans rfl
      have uw191_27 : ρ190 27 = (.int .i64 ((riseL steps ([]) (riseN steps 30)).length : Int)) := (hkw191 27 rfl).trans rfl
      have uw191_28 : ρ190 28 = (.int .i64 (((riseL steps ([]) (riseN steps 30)).length : Int) - 1)) := (hkw191 28 rfl).trans rfl
      have uw191_29 : ρ190 29 = (.int .u64 (((riseL steps ([]) (riseN steps 30)).length : Int) - 1)) := (hkw191 29 rfl).trans rfl
      have uw191_30 : ρ190 30 = (.int .u64 (i : Int)) := (hkw191 30 rfl).trans rfl
      have uw191_31 : ρ190 31 = (.int .i64 (i : Int)) := (hkw191 31 rfl).trans rfl
      have uw191_32 : ρ190 32 = v7 := (hkw191 32 rfl).trans rfl
      have uw191_33 : ρ190 33 = r1 := (hkw191 33 rfl).trans rfl
      have uw191_34 : ρ190 34 = v9 := (hkw191 34 rfl).trans rfl
      have uw191_9 : ρ190 9 = v9 := (hkw191 9 rfl).trans rfl
      refine then_n ?_
      refine cE_seq ?_
      have hsw : risingA (((riseL steps [] (riseN steps 30)).set i ((riseL steps [] (riseN steps 30))[i + 1]'(by omega))).set (i + 1) ((riseL steps [] (riseN steps 30))[i]'(by omega))) = false := swap_falls (by omega) hLR
      have hmo : ∀ s ∈ (((riseL steps [] (riseN steps 30)).set i ((riseL steps [] (riseN steps 30))[i + 1]'(by omega))).set (i + 1) ((riseL steps [] (riseN steps 30))[i]'(by omega))), s.ok := set_ok (set_ok hLO (hLO _ (List.getElem_mem _))) (hLO _ (List.getElem_mem _))
      refine cE_region rfl ?_
      refine s_cons (op_move v9 uw191_9 ?_)
      refine s_cons (op_call Try.call21 (evs_cons (v := v9) rfl (evs_cons (v := (.int .i64 1)) rfl evs_nil)) (c_Raw (w0 := w191) (v_l := v9) (l := (((riseL steps ([]) (riseN steps 30)).set (i) ((riseL steps ([]) (riseN steps 30))[(i + 1)]'(by first | omega | (simp only [List.length_set]; omega)))).set ((i + 1)) ((riseL steps ([]) (riseN steps 30))[i]'(by first | omega | (simp only [List.length_set]; omega))))) (h_l := (hst.sl 0 rfl)) (k := 1) (hl := (by first | exact hmo | exact hLO)) (hn := (by first | omega | (simp only [List.length_set]; omega))) (k0 := (by omega)) (k1 := (by omega))) ?_)
      rintro _ w193 ⟨r192, rfl, hcall⟩
      refine ⟨_, rfl, ?_⟩
      have hst : St w0 w193 [rowT 26 aggE r192 ((rawA (((riseL steps ([]) (riseN steps 30)).set (i) ((riseL steps ([]) (riseN steps 30))[(i + 1)]'(by first | omega | (simp only [List.length_set]; omega)))).set ((i + 1)) ((riseL steps ([]) (riseN steps 30))[i]'(by first | omega | (simp only [List.length_set]; omega)))) 1).1), rowT 32 sampE v9 (((riseL steps ([]) (riseN steps 30)).set (i) ((riseL steps ([]) (riseN steps 30))[(i + 1)]'(by first | omega | (simp only [List.length_set]; omega)))).set ((i + 1)) ((riseL steps ([]) (riseN steps 30))[i]'(by first | omega | (simp only [List.length_set]; omega)))), rowT 32 sampE r1 (riseL steps ([]) (riseN steps 30))] := hst.call hcall
      refine s_cons (op_move (.tuple #[r192, (.int .i64 ((rawA (((riseL steps ([]) (riseN steps 30)).set (i) ((riseL steps ([]) (riseN steps 30))[(i + 1)]'(by first | omega | (simp only [List.length_set]; omega)))).set ((i + 1)) ((riseL steps ([]) (riseN steps 30))[i]'(by first | omega | (simp only [List.length_set]; omega)))) 1).2))]) rfl ?_)
      refine s_cons (op_extract r192 rfl rfl ?_)
      refine s_cons (op_extract (.int .i64 ((rawA (((riseL steps ([]) (riseN steps 30)).set (i) ((riseL steps ([]) (riseN steps 30))[(i + 1)]'(by first | omega | (simp only [List.length_set]; omega)))).set ((i + 1)) ((riseL steps ([]) (riseN steps 30))[i]'(by first | omega | (simp only [List.length_set]; omega)))) 1).2)) rfl rfl ?_)
      refine s_cons (op_assign r192 rfl ?_)
      refine s_cons (op_assign (.int .i64 ((rawA (((riseL steps ([]) (riseN steps 30)).set (i) ((riseL steps ([]) (riseN steps 30))[(i + 1)]'(by first | omega | (simp only [List.length_set]; omega)))).set ((i + 1)) ((riseL steps ([]) (riseN steps 30))[i]'(by first | omega | (simp only [List.length_set]; omega)))) 1).2)) rfl ?_)
      refine s_nil ?_
      refine then_n ?_
      refine cE_seq ?_
      refine cE_region rfl ?_
      refine s_cons (op_move r1 uw191_7 ?_)
      refine s_cons (op_move (.int .i64 k) uw191_2 ?_)
      refine s_cons (op_conv (k := .i64) (a := k) (k % 18446744073709551616) Try.underlying24 (by rw [Try.underlying3]; rfl) rfl (IntKind.wrap_u64 _) ?_)
      obtain ⟨q, hq, hql⟩ := rem_nat (a := (k % 18446744073709551616)) (b := 9) (by omega) (by omega)
      refine s_cons (op_rem (k := .u64) (a := (k % 18446744073709551616)) (b := 9) (q : Int) rfl rfl (by omega) hq ?_)
      refine s_cons (op_conv (k := .u64) (a := (q : Int)) (q : Int) Try.underlying3 (by rw [Try.underlying24]; rfl) rfl (xi64 (by omega) (by omega)) ?_)
      refine s_cons (op_add (k := .i64) (a := 4) (b := (q : Int)) (4 + (q : Int)) rfl rfl (xi64 (by omega) (by omega)) ?_)
      refine s_cons (op_call Try.call21 (evs_cons (v := r1) rfl (evs_cons (v := (.int .i64 (4 + (q : Int)))) rfl evs_nil)) (c_Raw (w0 := w193) (v_l := r1) (l := (riseL steps ([]) (riseN steps 30))) (h_l := (hst.sl 2 rfl)) (k := (4 + (q : Int))) (hl := (by first | exact hmo | exact hLO)) (hn := (by first | omega | (simp only [List.length_set]; omega))) (k0 := (by omega)) (k1 := (by omega))) ?_)
      rintro _ w195 ⟨r194, rfl, hcall⟩
      refine ⟨_, rfl, ?_⟩
      have hst : St w0 w195 [rowT 26 aggE r194 ((rawA (riseL steps ([]) (riseN steps 30)) (4 + (q : Int))).1), rowT 26 aggE r192 ((rawA (((riseL steps ([]) (riseN steps 30)).set (i) ((riseL steps ([]) (riseN steps 30))[(i + 1)]'(by first | omega | (simp only [List.length_set]; omega)))).set ((i + 1)) ((riseL steps ([]) (riseN steps 30))[i]'(by first | omega | (simp only [List.length_set]; omega)))) 1).1), rowT 32 sampE v9 (((riseL steps ([]) (riseN steps 30)).set (i) ((riseL steps ([]) (riseN steps 30))[(i + 1)]'(by first | omega | (simp only [List.length_set]; omega)))).set ((i + 1)) ((riseL steps ([]) (riseN steps 30))[i]'(by first | omega | (simp only [List.length_set]; omega)))), rowT 32 sampE r1 (riseL steps ([]) (riseN steps 30))] := hst.call hcall
      refine s_cons (op_move (.tuple #[r194, (.int .i64 ((rawA (riseL steps ([]) (riseN steps 30)) (4 + (q : Int))).2))]) rfl ?_)
      refine s_cons (op_extract r194 rfl rfl ?_)
      refine s_cons (op_extract (.int .i64 ((rawA (riseL steps ([]) (riseN steps 30)) (4 + (q : Int))).2)) rfl rfl ?_)
      refine s_cons (op_assign r194 rfl ?_)
      refine s_cons (op_assign (.int .i64 ((rawA (riseL steps ([]) (riseN steps 30)) (4 + (q : Int))).2)) rfl ?_)
      refine s_nil ?_
      refine then_n ?_
      refine cE_seq ?_
      refine cE_region rfl ?_
      refine s_cons (op_move r1 uw191_7 ?_)
      refine s_cons (op_call Try.call21 (evs_cons (v := r1) rfl (evs_cons (v := (.int .i64 1)) rfl evs_nil)) (c_Raw (w0 := w195) (v_l := r1) (l := (riseL steps ([]) (riseN steps 30))) (h_l := (hst.sl 3 rfl)) (k := 1) (hl := (by first | exact hmo | exact hLO)) (hn := (by first | omega | (simp only [List.length_set]; omega))) (k0 := (by omega)) (k1 := (by omega))) ?_)
      rintro _ w197 ⟨r196, rfl, hcall⟩
      refine ⟨_, rfl, ?_⟩
      have hst : St w0 w197 [rowT 26 aggE r196 ((rawA (riseL steps ([]) (riseN steps 30)) 1).1), rowT 26 aggE r194 ((rawA (riseL steps ([]) (riseN steps 30)) (4 + (q : Int))).1), rowT 26 aggE r192 ((rawA (((riseL steps ([]) (riseN steps 30)).set (i) ((riseL steps ([]) (riseN steps 30))[(i + 1)]'(by first | omega | (simp only [List.length_set]; omega)))).set ((i + 1)) ((riseL steps ([]) (riseN steps 30))[i]'(by first | omega | (simp only [List.length_set]; omega)))) 1).1), rowT 32 sampE v9 (((riseL steps ([]) (riseN steps 30)).set (i) ((riseL steps ([]) (riseN steps 30))[(i + 1)]'(by first | omega | (simp only [List.length_set]; omega)))).set ((i + 1)) ((riseL steps ([]) (riseN steps 30))[i]'(by first | omega | (simp only [List.length_set]; omega)))), rowT 32 sampE r1 (riseL steps ([]) (riseN steps 30))] := hst.call hcall
      refine s_cons (op_move (.tuple #[r196, (.int .i64 ((rawA (riseL steps ([]) (riseN steps 30)) 1).2))]) rfl ?_)
      refine s_cons (op_extract r196 rfl rfl ?_)
      refine s_cons (op_extract (.int .i64 ((rawA (riseL steps ([]) (riseN steps 30)) 1).2)) rfl rfl ?_)
      refine s_cons (op_assign r196 rfl ?_)
      refine s_cons (op_assign (.int .i64 ((rawA (riseL steps ([]) (riseN steps 30)) 1).2)) rfl ?_)
      refine s_nil ?_
      refine then_n ?_
      refine cE_seq ?_
      have hrr := raw_rising (l := (riseL steps [] (riseN steps 30))) (k := 1) (by decide) (by decide) hLR (by omega) hLS
      have hwn := raw_wn (l := (riseL steps [] (riseN steps 30))) (k := 1) (by decide) (by decide) hLR (by omega) hLS
      have hcA : cntA (rawA (riseL steps [] (riseN steps 30)) 1).1 = ((riseL steps [] (riseN steps 30)).length : Int) := hrr.2.2.1
      have hlc := len_cnt (A := (rawA (riseL steps [] (riseN steps 30)) 1).1) hwn
      have hd2 := down_two (c := (rawA (riseL steps [] (riseN steps 30)) 1).1) (k := 3) (by decide) (by decide) hwn (by omega)
      refine cE_region rfl ?_
      refine s_cons (op_move r196 rfl ?_)
      refine s_cons (op_call Try.call22 (evs_cons (v := r196) rfl (evs_cons (v := (.int .i64 3)) rfl evs_nil)) (c_Down (w0 := w197) (v_l := r196) (l := (rawA (riseL steps ([]) (riseN steps 30)) 1).1) (h_l := (hst.sl 0 rfl)) (k := 3) (hl := (rawA_ok hLO)) (hn := (by omega)) (k0 := (by omega)) (k1 := (by omega))) ?_)
      rintro _ w199 ⟨r198, rfl, hcall⟩
      refine ⟨_, rfl, ?_⟩
      have hst : St w0 w199 [rowT 26 aggE r198 ((downA ((rawA (riseL steps ([]) (riseN steps 30)) 1).1) 3).1), rowT 26 aggE r196 ((rawA (riseL steps ([]) (riseN steps 30)) 1).1), rowT 26 aggE r194 ((rawA (riseL steps ([]) (riseN steps 30)) (4 + (q : Int))).1), rowT 26 aggE r192 ((rawA (((riseL steps ([]) (riseN steps 30)).set (i) ((riseL steps ([]) (riseN steps 30))[(i + 1)]'(by first | omega | (simp only [List.length_set]; omega)))).set ((i + 1)) ((riseL steps ([]) (riseN steps 30))[i]'(by first | omega | (simp only [List.length_set]; omega)))) 1).1), rowT 32 sampE v9 (((riseL steps ([]) (riseN steps 30)).set (i) ((riseL steps ([]) (riseN steps 30))[(i + 1)]'(by first | omega | (simp only [List.length_set]; omega)))).set ((i + 1)) ((riseL steps ([]) (riseN steps 30))[i]'(by first | omega | (simp only [List.length_set]; omega)))), rowT 32 sampE r1 (riseL steps ([]) (riseN steps 30))] := hst.call hcall
      refine s_cons (op_move (.tuple #[r198, (.int .i64 ((downA ((rawA (riseL steps ([]) (riseN steps 30)) 1).1) 3).2))]) rfl ?_)
      refine s_cons (op_extract r198 rfl rfl ?_)
      refine s_cons (op_extract (.int .i64 ((downA ((rawA (riseL steps ([]) (riseN steps 30)) 1).1) 3).2)) rfl rfl ?_)
      refine s_cons (op_assign r198 rfl ?_)
      refine s_cons (op_assign (.int .i64 ((downA ((rawA (riseL steps ([]) (riseN steps 30)) 1).1) 3).2)) rfl ?_)
      refine s_nil ?_
      refine then_n ?_
      refine cE_seq ?_
      refine cE_region rfl ?_
      refine s_cons (op_call Try.call20 evs_nil (c_told4 (w0 := w199)) ?_)
      rintro _ w200 ⟨rfl, hcall⟩
      refine ⟨_, rfl, ?_⟩
      have hst : St w0 w200 [rowT 26 aggE r198 ((downA ((rawA (riseL steps ([]) (riseN steps 30)) 1).1) 3).1), rowT 26 aggE r196 ((rawA (riseL steps ([]) (riseN steps 30)) 1).1), rowT 26 aggE r194 ((rawA (riseL steps ([]) (riseN steps 30)) (4 + (q : Int))).1), rowT 26 aggE r192 ((rawA (((riseL steps ([]) (riseN steps 30)).set (i) ((riseL steps ([]) (riseN steps 30))[(i + 1)]'(by first | omega | (simp only [List.length_set]; omega)))).set ((i + 1)) ((riseL steps ([]) (riseN steps 30))[i]'(by first | omega | (simp only [List.length_set]; omega)))) 1).1), rowT 32 sampE v9 (((riseL steps ([]) (riseN steps 30)).set (i) ((riseL steps ([]) (riseN steps 30))[(i + 1)]'(by first | omega | (simp only [List.length_set]; omega)))).set ((i + 1)) ((riseL steps ([]) (riseN steps 30))[i]'(by first | omega | (simp only [List.length_set]; omega)))), rowT 32 sampE r1 (riseL steps ([]) (riseN steps 30))] := hst.call hcall
      refine s_cons (op_move (.bool true) rfl ?_)
      refine s_yes 77 rfl rfl (op_move (.int .i64 ((rawA (((riseL steps ([]) (riseN steps 30)).set (i) ((riseL steps ([]) (riseN steps 30))[(i + 1)]'(by first | omega | (simp only [List.length_set]; omega)))).set ((i + 1)) ((riseL steps ([]) (riseN steps 30))[i]'(by first | omega | (simp only [List.length_set]; omega)))) 1).2)) rfl ?_)
      refine s_yes 77 rfl rfl (op_eql (k := .i64) (a := (rawA (((riseL steps ([]) (riseN steps 30)).set (i) ((riseL steps ([]) (riseN steps 30))[(i + 1)]'(by first | omega | (simp only [List.length_set]; omega)))).set ((i + 1)) ((riseL steps ([]) (riseN steps 30))[i]'(by first | omega | (simp only [List.length_set]; omega)))) 1).2) (b := 1) rfl rfl ?_)
      refine s_cons (op_pick_t (.bool (decide (((rawA (((riseL steps ([]) (riseN steps 30)).set (i) ((riseL steps ([]) (riseN steps 30))[(i + 1)]'(by first | omega | (simp only [List.length_set]; omega)))).set ((i + 1)) ((riseL steps ([]) (riseN steps 30))[i]'(by first | omega | (simp only [List.length_set]; omega)))) 1).2) = 1))) rfl rfl ?_)
      refine s_cons (op_move (.bool (decide (((rawA (((riseL steps ([]) (riseN steps 30)).set (i) ((riseL steps ([]) (riseN steps 30))[(i + 1)]'(by first | omega | (simp only [List.length_set]; omega)))).set ((i + 1)) ((riseL steps ([]) (riseN steps 30))[i]'(by first | omega | (simp only [List.length_set]; omega)))) 1).2) = 1))) rfl ?_)
      refine s_yes 81 rfl (congrArg Value.bool (show (decide (((rawA (((riseL steps ([]) (riseN steps 30)).set (i) ((riseL steps ([]) (riseN steps 30))[(i + 1)]'(by first | omega | (simp only [List.length_set]; omega)))).set ((i + 1)) ((riseL steps ([]) (riseN steps 30))[i]'(by first | omega | (simp only [List.length_set]; omega)))) 1).2) = 1)) = true from (decide_eq_true (by rw [raw_none (Or.inl hsw)])))) (op_move r192 rfl ?_)
      refine s_yes 81 rfl (congrArg Value.bool (show (decide (((rawA (((riseL steps ([]) (riseN steps 30)).set (i) ((riseL steps ([]) (riseN steps 30))[(i + 1)]'(by first | omega | (simp only [List.length_set]; omega)))).set ((i + 1)) ((riseL steps ([]) (riseN steps 30))[i]'(by first | omega | (simp only [List.length_set]; omega)))) 1).2) = 1)) = true from (decide_eq_true (by rw [raw_none (Or.inl hsw)])))) (op_len (E := aggE) (xs := (rawA (((riseL steps ([]) (riseN steps 30)).set (i) ((riseL steps ([]) (riseN steps 30))[(i + 1)]'(by first | omega | (simp only [List.length_set]; omega)))).set ((i + 1)) ((riseL steps ([]) (riseN steps 30))[i]'(by first | omega | (simp only [List.length_set]; omega)))) 1).1) Try.underlying41 rfl (hst.sl 3 rfl) ?_)
      refine s_yes 81 rfl (congrArg Value.bool (show (decide (((rawA (((riseL steps ([]) (riseN steps 30)).set (i) ((riseL steps ([]) (riseN steps 30))[(i + 1)]'(by first | omega | (simp only [List.length_set]; omega)))).set ((i + 1)) ((riseL steps ([]) (riseN steps 30))[i]'(by first | omega | (simp only [List.length_set]; omega)))) 1).2) = 1)) = true from (decide_eq_true (by rw [raw_none (Or.inl hsw)])))) (op_eql (k := .i64) (a := (((rawA (((riseL steps ([]) (riseN steps 30)).set (i) ((riseL steps ([]) (riseN steps 30))[(i + 1)]'(by first | omega | (simp only [List.length_set]; omega)))).set ((i + 1)) ((riseL steps ([]) (riseN steps 30))[i]'(by first | omega | (simp only [List.length_set]; omega)))) 1).1).length : Int)) (b := 0) rfl rfl ?_)
      refine s_cons (op_pick_t (.bool (decide ((((rawA (((riseL steps ([]) (riseN steps 30)).set (i) ((riseL steps ([]) (riseN steps 30))[(i + 1)]'(by first | omega | (simp only [List.length_set]; omega)))).set ((i + 1)) ((riseL steps ([]) (riseN steps 30))[i]'(by first | omega | (simp only [List.length_set]; omega)))) 1).1).length : Int) = 0))) (congrArg Value.bool (show (decide (((rawA (((riseL steps ([]) (riseN steps 30)).set (i) ((riseL steps ([]) (riseN steps 30))[(i + 1)]'(by first | omega | (simp only [List.length_set]; omega)))).set ((i + 1)) ((riseL steps ([]) (riseN steps 30))[i]'(by first | omega | (simp only [List.length_set]; omega)))) 1).2) = 1)) = true from (decide_eq_true (by rw [raw_none (Or.inl hsw)])))) rfl ?_)
      refine s_cons (op_move (.bool (decide ((((rawA (((riseL steps ([]) (riseN steps 30)).set (i) ((riseL steps ([]) (riseN steps 30))[(i + 1)]'(by first | omega | (simp only [List.length_set]; omega)))).set ((i + 1)) ((riseL steps ([]) (riseN steps 30))[i]'(by first | omega | (simp only [List.length_set]; omega)))) 1).1).length : Int) = 0))) rfl ?_)
      refine s_yes 86 rfl (congrArg Value.bool (show (decide ((((rawA (((riseL steps ([]) (riseN steps 30)).set (i) ((riseL steps ([]) (riseN steps 30))[(i + 1)]'(by first | omega | (simp only [List.length_set]; omega)))).set ((i + 1)) ((riseL steps ([]) (riseN steps 30))[i]'(by first | omega | (simp only [List.length_set]; omega)))) 1).1).length : Int) = 0)) = true from (decide_eq_true (by rw [raw_none (Or.inl hsw)]; rfl)))) (op_move (.int .i64 ((rawA (riseL steps ([]) (riseN steps 30)) (4 + (q : Int))).2)) rfl ?_)
      refine s_yes 86 rfl (congrArg Value.bool (show (decide ((((rawA (((riseL steps ([]) (riseN steps 30)).set (i) ((riseL steps ([]) (riseN steps 30))[(i + 1)]'(by first | omega | (simp only [List.length_set]; omega)))).set ((i + 1)) ((riseL steps ([]) (riseN steps 30))[i]'(by first | omega | (simp only [List.length_set]; omega)))) 1).1).length : Int) = 0)) = true from (decide_eq_true (by rw [raw_none (Or.inl hsw)]; rfl)))) (op_eql (k := .i64) (a := (rawA (riseL steps ([]) (riseN steps 30)) (4 + (q : Int))).2) (b := 1) rfl rfl ?_)
      refine s_cons (op_pick_t (.bool (decide (((rawA (riseL steps ([]) (riseN steps 30)) (4 + (q : Int))).2) = 1))) (congrArg Value.bool (show (decide ((((rawA (((riseL steps ([]) (riseN steps 30)).set (i) ((riseL steps ([]) (riseN steps 30))[(i + 1)]'(by first | omega | (simp only [List.length_set]; omega)))).set ((i + 1)) ((riseL steps ([]) (riseN steps 30))[i]'(by first | omega | (simp only [List.length_set]; omega)))) 1).1).length : Int) = 0)) = true from (decide_eq_true (by rw [raw_none (Or.inl hsw)]; rfl)))) rfl ?_)
      refine s_cons (op_move (.bool (decide (((rawA (riseL steps ([]) (riseN steps 30)) (4 + (q : Int))).2) = 1))) rfl ?_)
      refine s_yes 90 rfl (congrArg Value.bool (show (decide (((rawA (riseL steps ([]) (riseN steps 30)) (4 + (q : Int))).2) = 1)) = true from (decide_eq_true (by rw [raw_none (Or.inr (coarse_none (by omega)))])))) (op_move r194 rfl ?_)
      refine s_yes 90 rfl (congrArg Value.bool (show (decide (((rawA (riseL steps ([]) (riseN steps 30)) (4 + (q : Int))).2) = 1)) = true from (decide_eq_true (by rw [raw_none (Or.inr (coarse_none (by omega)))])))) (op_len (E := aggE) (xs := (rawA (riseL steps ([]) (riseN steps 30)) (4 + (q : Int))).1) Try.underlying41 rfl (hst.sl 2 rfl) ?_)
      refine s_yes 90 rfl (congrArg Value.bool (show (decide (((rawA (riseL steps ([]) (riseN steps 30)) (4 + (q : Int))).2) = 1)) = true from (decide_eq_true (by rw [raw_none (Or.inr (coarse_none (by omega)))])))) (op_eql (k := .i64) (a := (((rawA (riseL steps ([]) (riseN steps 30)) (4 + (q : Int))).1).length : Int)) (b := 0) rfl rfl ?_)
      refine s_cons (op_pick_t (.bool (decide ((((rawA (riseL steps ([]) (riseN steps 30)) (4 + (q : Int))).1).length : Int) = 0))) (congrArg Value.bool (show (decide (((rawA (riseL steps ([]) (riseN steps 30)) (4 + (q : Int))).2) = 1)) = true from (decide_eq_true (by rw [raw_none (Or.inr (coarse_none (by omega)))])))) rfl ?_)
      refine s_cons (op_move (.bool (decide ((((rawA (riseL steps ([]) (riseN steps 30)) (4 + (q : Int))).1).length : Int) = 0))) rfl ?_)
      refine s_yes 95 rfl (congrArg Value.bool (show (decide ((((rawA (riseL steps ([]) (riseN steps 30)) (4 + (q : Int))).1).length : Int) = 0)) = true from (decide_eq_true (by rw [raw_none (Or.inr (coarse_none (by omega)))]; rfl)))) (op_move (.int .i64 ((rawA (riseL steps ([]) (riseN steps 30)) 1).2)) rfl ?_)
      refine s_yes 95 rfl (congrArg Value.bool (show (decide ((((rawA (riseL steps ([]) (riseN steps 30)) (4 + (q : Int))).1).length : Int) = 0)) = true from (decide_eq_true (by rw [raw_none (Or.inr (coarse_none (by omega)))]; rfl)))) (op_eql (k := .i64) (a := (rawA (riseL steps ([]) (riseN steps 30)) 1).2) (b := 0) rfl rfl ?_)
      refine s_cons (op_pick_t (.bool (decide (((rawA (riseL steps ([]) (riseN steps 30)) 1).2) = 0))) (congrArg Value.bool (show (decide ((((rawA (riseL steps ([]) (riseN steps 30)) (4 + (q : Int))).1).length : Int) = 0)) = true from (decide_eq_true (by rw [raw_none (Or.inr (coarse_none (by omega)))]; rfl)))) rfl ?_)
      refine s_cons (op_move (.bool (decide (((rawA (riseL steps ([]) (riseN steps 30)) 1).2) = 0))) rfl ?_)
      refine s_yes 99 rfl (congrArg Value.bool (show (decide (((rawA (riseL steps ([]) (riseN steps 30)) 1).2) = 0)) = true from (decide_eq_true hrr.1))) (op_move r196 rfl ?_)
      refine s_yes 99 rfl (congrArg Value.bool (show (decide (((rawA (riseL steps ([]) (riseN steps 30)) 1).2) = 0)) = true from (decide_eq_true hrr.1))) (op_len (E := aggE) (xs := (rawA (riseL steps ([]) (riseN steps 30)) 1).1) Try.underlying41 rfl (hst.sl 1 rfl) ?_)
      refine s_yes 99 rfl (congrArg Value.bool (show (decide (((rawA (riseL steps ([]) (riseN steps 30)) 1).2) = 0)) = true from (decide_eq_true hrr.1))) (op_gtr (k := .i64) (a := (((rawA (riseL steps ([]) (riseN steps 30)) 1).1).length : Int)) (b := 0) rfl rfl ?_)
      refine s_cons (op_pick_t (.bool (decide (0 < (((rawA (riseL steps ([]) (riseN steps 30)) 1).1).length : Int)))) (congrArg Value.bool (show (decide (((rawA (riseL steps ([]) (riseN steps 30)) 1).2) = 0)) = true from (decide_eq_true hrr.1))) rfl ?_)
      refine s_cons (op_move (.bool (decide (0 < (((rawA (riseL steps ([]) (riseN steps 30)) 1).1).length : Int)))) rfl ?_)
      refine s_yes 104 rfl (congrArg Value.bool (show (decide (0 < (((rawA (riseL steps ([]) (riseN steps 30)) 1).1).length : Int))) = true from (decide_eq_true (by have := len_pos_of_cnt (A := (rawA (riseL steps [] (riseN steps 30)) 1).1) (by omega); omega)))) (op_move (.int .i64 ((downA ((rawA (riseL steps ([]) (riseN steps 30)) 1).1) 3).2)) rfl ?_)
      refine s_yes 104 rfl (congrArg Value.bool (show (decide (0 < (((rawA (riseL steps ([]) (riseN steps 30)) 1).1).length : Int))) = true from (decide_eq_true (by have := len_pos_of_cnt (A := (rawA (riseL steps [] (riseN steps 30)) 1).1) (by omega); omega)))) (op_eql (k := .i64) (a := (downA ((rawA (riseL steps ([]) (riseN steps 30)) 1).1) 3).2) (b := 1) rfl rfl ?_)
      refine s_yes 104 rfl (congrArg Value.bool (show (decide (0 < (((rawA (riseL steps ([]) (riseN steps 30)) 1).1).length : Int))) = true from (decide_eq_true (by have := len_pos_of_cnt (A := (rawA (riseL steps [] (riseN steps 30)) 1).1) (by omega); omega)))) (op_move r196 rfl ?_)
      refine s_yes 104 rfl (congrArg Value.bool (show (decide (0 < (((rawA (riseL steps ([]) (riseN steps 30)) 1).1).length : Int))) = true from (decide_eq_true (by have := len_pos_of_cnt (A := (rawA (riseL steps [] (riseN steps 30)) 1).1) (by omega); omega)))) (op_call Try.call23 (evs_cons (v := r196) rfl (evs_cons (v := (.int .i64 2)) rfl evs_nil)) (c_Aligned (w0 := w200) (v_l := r196) (l := (rawA (riseL steps ([]) (riseN steps 30)) 1).1) (h_l := (hst.sl 1 rfl)) (k := 2) (hl := (rawA_ok hLO)) (k0 := (by omega)) (k1 := (by omega))) ?_)
      rintro _ w201 ⟨rfl, hcall⟩
      refine ⟨_, rfl, ?_⟩
      have hst : St w0 w201 [rowT 26 aggE r198 ((downA ((rawA (riseL steps ([]) (riseN steps 30)) 1).1) 3).1), rowT 26 aggE r196 ((rawA (riseL steps ([]) (riseN steps 30)) 1).1), rowT 26 aggE r194 ((rawA (riseL steps ([]) (riseN steps 30)) (4 + (q : Int))).1), rowT 26 aggE r192 ((rawA (((riseL steps ([]) (riseN steps 30)).set (i) ((riseL steps ([]) (riseN steps 30))[(i + 1)]'(by first | omega | (simp only [List.length_set]; omega)))).set ((i + 1)) ((riseL steps ([]) (riseN steps 30))[i]'(by first | omega | (simp only [List.length_set]; omega)))) 1).1), rowT 32 sampE v9 (((riseL steps ([]) (riseN steps 30)).set (i) ((riseL steps ([]) (riseN steps 30))[(i + 1)]'(by first | omega | (simp only [List.length_set]; omega)))).set ((i + 1)) ((riseL steps ([]) (riseN steps 30))[i]'(by first | omega | (simp only [List.length_set]; omega)))), rowT 32 sampE r1 (riseL steps ([]) (riseN steps 30))] := hst.call hcall
      refine s_yes 104 rfl (congrArg Value.bool (show (decide (0 < (((rawA (riseL steps ([]) (riseN steps 30)) 1).1).length : Int))) = true from (decide_eq_true (by have := len_pos_of_cnt (A := (rawA (riseL steps [] (riseN steps 30)) 1).1) (by omega); omega)))) (op_not (b := alignedA ((rawA (riseL steps ([]) (riseN steps 30)) 1).1) 2) rfl ?_)
      refine s_yes 104 rfl (congrArg Value.bool (show (decide (0 < (((rawA (riseL steps ([]) (riseN steps 30)) 1).1).length : Int))) = true from (decide_eq_true (by have := len_pos_of_cnt (A := (rawA (riseL steps [] (riseN steps 30)) 1).1) (by omega); omega)))) (op_eqlb (a := decide (((downA ((rawA (riseL steps ([]) (riseN steps 30)) 1).1) 3).2) = 1)) (b := !(alignedA ((rawA (riseL steps ([]) (riseN steps 30)) 1).1) 2)) Try.underlying4 rfl rfl ?_)
      refine s_cons (op_pick_t (.bool ((decide (((downA ((rawA (riseL steps ([]) (riseN steps 30)) 1).1) 3).2) = 1)) == (!(alignedA ((rawA (riseL steps ([]) (riseN steps 30)) 1).1) 2)))) (congrArg Value.bool (show (decide (0 < (((rawA (riseL steps ([]) (riseN steps 30)) 1).1).length : Int))) = true from (decide_eq_true (by have := len_pos_of_cnt (A := (rawA (riseL steps [] (riseN steps 30)) 1).1) (by omega); omega)))) rfl ?_)
      refine s_cons (op_move (.bool ((decide (((downA ((rawA (riseL steps ([]) (riseN steps 30)) 1).1) 3).2) = 1)) == (!(alignedA ((rawA (riseL steps ([]) (riseN steps 30)) 1).1) 2)))) rfl ?_)
      refine s_yes 112 rfl (congrArg Value.bool (show ((decide (((downA ((rawA (riseL steps ([]) (riseN steps 30)) 1).1) 3).2) = 1)) == (!(alignedA ((rawA (riseL steps ([]) (riseN steps 30)) 1).1) 2))) = true from (down_is hd2))) (op_move (.int .i64 ((downA ((rawA (riseL steps ([]) (riseN steps 30)) 1).1) 3).2)) rfl ?_)
      refine s_yes 112 rfl (congrArg Value.bool (show ((decide (((downA ((rawA (riseL steps ([]) (riseN steps 30)) 1).1) 3).2) = 1)) == (!(alignedA ((rawA (riseL steps ([]) (riseN steps 30)) 1).1) 2))) = true from (down_is hd2))) (op_eql (k := .i64) (a := (downA ((rawA (riseL steps ([]) (riseN steps 30)) 1).1) 3).2) (b := 0) rfl rfl ?_)
      refine s_yes 112 rfl (congrArg Value.bool (show ((decide (((downA ((rawA (riseL steps ([]) (riseN steps 30)) 1).1) 3).2) = 1)) == (!(alignedA ((rawA (riseL steps ([]) (riseN steps 30)) 1).1) 2))) = true from (down_is hd2))) (op_move (.bool (decide (((downA ((rawA (riseL steps ([]) (riseN steps 30)) 1).1) 3).2) = 0))) rfl ?_)
      rcases Bool.eq_false_or_eq_true (decide (((downA ((rawA (riseL steps ([]) (riseN steps 30)) 1).1) 3).2) = 0)) with b202 | b202
      · have c203 : ((downA ((rawA (riseL steps ([]) (riseN steps 30)) 1).1) 3).2) = 0 := of_decide_eq_true b202
        refine s_no 115 rfl (congrArg Value.bool b202) ?_
        refine s_no 115 rfl (congrArg Value.bool b202) ?_
        refine s_no 115 rfl (congrArg Value.bool b202) ?_
        refine s_yes 112 rfl (congrArg Value.bool (show ((decide (((downA ((rawA (riseL steps ([]) (riseN steps 30)) 1).1) 3).2) = 1)) == (!(alignedA ((rawA (riseL steps ([]) (riseN steps 30)) 1).1) 2))) = true from (down_is hd2))) (op_pick_t (.bool true) (congrArg Value.bool b202) rfl ?_)
        refine s_cons (op_pick_t (.bool true) (congrArg Value.bool (show ((decide (((downA ((rawA (riseL steps ([]) (riseN steps 30)) 1).1) 3).2) = 1)) == (!(alignedA ((rawA (riseL steps ([]) (riseN steps 30)) 1).1) 2))) = true from (down_is hd2))) rfl ?_)
        refine s_cons (op_move (.bool true) rfl ?_)
        refine s_yes 121 rfl rfl (op_move v9 uw191_9 ?_)
        refine s_yes 121 rfl rfl (op_call Try.call24 (evs_cons (v := v9) rfl evs_nil) (c_Rising (w0 := w201) (v_l := v9) (l := (((riseL steps ([]) (riseN steps 30)).set (i) ((riseL steps ([]) (riseN steps 30))[(i + 1)]'(by first | omega | (simp only [List.length_set]; omega)))).set ((i + 1)) ((riseL steps ([]) (riseN steps 30))[i]'(by first | omega | (simp only [List.length_set]; omega))))) (h_l := (hst.sl 4 rfl))) ?_)
        rintro _ w204 ⟨rfl, hcall⟩
        refine ⟨_, rfl, ?_⟩
        have hst : St w0 w204 [rowT 26 aggE r198 ((downA ((rawA (riseL steps ([]) (riseN steps 30)) 1).1) 3).1), rowT 26 aggE r196 ((rawA (riseL steps ([]) (riseN steps 30)) 1).1), rowT 26 aggE r194 ((rawA (riseL steps ([]) (riseN steps 30)) (4 + (q : Int))).1), rowT 26 aggE r192 ((rawA (((riseL steps ([]) (riseN steps 30)).set (i) ((riseL steps ([]) (riseN steps 30))[(i + 1)]'(by first | omega | (simp only [List.length_set]; omega)))).set ((i + 1)) ((riseL steps ([]) (riseN steps 30))[i]'(by first | omega | (simp only [List.length_set]; omega)))) 1).1), rowT 32 sampE v9 (((riseL steps ([]) (riseN steps 30)).set (i) ((riseL steps ([]) (riseN steps 30))[(i + 1)]'(by first | omega | (simp only [List.length_set]; omega)))).set ((i + 1)) ((riseL steps ([]) (riseN steps 30))[i]'(by first | omega | (simp only [List.length_set]; omega)))), rowT 32 sampE r1 (riseL steps ([]) (riseN steps 30))] := hst.call hcall
        refine s_yes 121 rfl rfl (op_not (b := risingA (((riseL steps ([]) (riseN steps 30)).set (i) ((riseL steps ([]) (riseN steps 30))[(i + 1)]'(by first | omega | (simp only [List.length_set]; omega)))).set ((i + 1)) ((riseL steps ([]) (riseN steps 30))[i]'(by first | omega | (simp only [List.length_set]; omega))))) rfl ?_)
        refine s_cons (op_pick_t (.bool (!(risingA (((riseL steps ([]) (riseN steps 30)).set (i) ((riseL steps ([]) (riseN steps 30))[(i + 1)]'(by first | omega | (simp only [List.length_set]; omega)))).set ((i + 1)) ((riseL steps ([]) (riseN steps 30))[i]'(by first | omega | (simp only [List.length_set]; omega))))))) rfl rfl ?_)
        refine s_cons (op_assign (.bool (!(risingA (((riseL steps ([]) (riseN steps 30)).set (i) ((riseL steps ([]) (riseN steps 30))[(i + 1)]'(by first | omega | (simp only [List.length_set]; omega)))).set ((i + 1)) ((riseL steps ([]) (riseN steps 30))[i]'(by first | omega | (simp only [List.length_set]; omega))))))) rfl ?_)
        refine s_nil ?_
        refine then_n ?_
        refine cE_ret ?_
        refine post_r _ (res1 (v := (.bool true)) (congrArg Value.bool (congrArg (! ·) (show (risingA (((riseL steps ([]) (riseN steps 30)).set (i) ((riseL steps ([]) (riseN steps 30))[(i + 1)]'(by first | omega | (simp only [List.length_set]; omega)))).set ((i + 1)) ((riseL steps ([]) (riseN steps 30))[i]'(by first | omega | (simp only [List.length_set]; omega))))) = false from hsw)))) ?_
        exact ⟨rfl, hst.bare⟩
      · have c205 : ¬ (((downA ((rawA (riseL steps ([]) (riseN steps 30)) 1).1) 3).2) = 0) := of_decide_eq_false b202
        refine s_yes 115 rfl (congrArg Value.bool b202) (op_move r198 rfl ?_)
        refine s_yes 115 rfl (congrArg Value.bool b202) (op_len (E := aggE) (xs := (downA ((rawA (riseL steps ([]) (riseN steps 30)) 1).1) 3).1) Try.underlying41 rfl (hst.sl 0 rfl) ?_)
        refine s_yes 115 rfl (congrArg Value.bool b202) (op_eql (k := .i64) (a := (((downA ((rawA (riseL steps ([]) (riseN steps 30)) 1).1) 3).1).length : Int)) (b := 0) rfl rfl ?_)
        refine s_yes 112 rfl (congrArg Value.bool (show ((decide (((downA ((rawA (riseL steps ([]) (riseN steps 30)) 1).1) 3).2) = 1)) == (!(alignedA ((rawA (riseL steps ([]) (riseN steps 30)) 1).1) 2))) = true from (down_is hd2))) (op_pick_f (.bool (decide ((((downA ((rawA (riseL steps ([]) (riseN steps 30)) 1).1) 3).1).length : Int) = 0))) (congrArg Value.bool b202) rfl ?_)
        refine s_cons (op_pick_t (.bool (decide ((((downA ((rawA (riseL steps ([]) (riseN steps 30)) 1).1) 3).1).length : Int) = 0))) (congrArg Value.bool (show ((decide (((downA ((rawA (riseL steps ([]) (riseN steps 30)) 1).1) 3).2) = 1)) == (!(alignedA ((rawA (riseL steps ([]) (riseN steps 30)) 1).1) 2))) = true from (down_is hd2))) rfl ?_)
        refine s_cons (op_move (.bool (decide ((((downA ((rawA (riseL steps ([]) (riseN steps 30)) 1).1) 3).1).length : Int) = 0))) rfl ?_)
        refine s_yes 121 rfl (congrArg Value.bool (show (decide ((((downA ((rawA (riseL steps ([]) (riseN steps 30)) 1).1) 3).1).length : Int) = 0)) = true from (decide_eq_true (by rw [down_err (by assumption)]; rfl)))) (op_move v9 uw191_9 ?_)
        refine s_yes 121 rfl (congrArg Value.bool (show (decide ((((downA ((rawA (riseL steps ([]) (riseN steps 30)) 1).1) 3).1).length : Int) = 0)) = true from (decide_eq_true (by rw [down_err (by assumption)]; rfl)))) (op_call Try.call24 (evs_cons (v := v9) rfl evs_nil) (c_Rising (w0 := w201) (v_l := v9) (l := (((riseL steps ([]) (riseN steps 30)).set (i) ((riseL steps ([]) (riseN steps 30))[(i + 1)]'(by first | omega | (simp only [List.length_set]; omega)))).set ((i + 1)) ((riseL steps ([]) (riseN steps 30))[i]'(by first | omega | (simp only [List.length_set]; omega))))) (h_l := (hst.sl 4 rfl))) ?_)
        rintro _ w206 ⟨rfl, hcall⟩
        refine ⟨_, rfl, ?_⟩
        have hst : St w0 w206 [rowT 26 aggE r198 ((downA ((rawA (riseL steps ([]) (riseN steps 30)) 1).1) 3).1), rowT 26 aggE r196 ((rawA (riseL steps ([]) (riseN steps 30)) 1).1), rowT 26 aggE r194 ((rawA (riseL steps ([]) (riseN steps 30)) (4 + (q : Int))).1), rowT 26 aggE r192 ((rawA (((riseL steps ([]) (riseN steps 30)).set (i) ((riseL steps ([]) (riseN steps 30))[(i + 1)]'(by first | omega | (simp only [List.length_set]; omega)))).set ((i + 1)) ((riseL steps ([]) (riseN steps 30))[i]'(by first | omega | (simp only [List.length_set]; omega)))) 1).1), rowT 32 sampE v9 (((riseL steps ([]) (riseN steps 30)).set (i) ((riseL steps ([]) (riseN steps 30))[(i + 1)]'(by first | omega | (simp only [List.length_set]; omega)))).set ((i + 1)) ((riseL steps ([]) (riseN steps 30))[i]'(by first | omega | (simp only [List.length_set]; omega)))), rowT 32 sampE r1 (riseL steps ([]) (riseN steps 30))] := hst.call hcall
        refine s_yes 121 rfl (congrArg Value.bool (show (decide ((((downA ((rawA (riseL steps ([]) (riseN steps 30)) 1).1) 3).1).length : Int) = 0)) = true from (decide_eq_true (by rw [down_err (by assumption)]; rfl)))) (op_not (b := risingA (((riseL steps ([]) (riseN steps 30)).set (i) ((riseL steps ([]) (riseN steps 30))[(i + 1)]'(by first | omega | (simp only [List.length_set]; omega)))).set ((i + 1)) ((riseL steps ([]) (riseN steps 30))[i]'(by first | omega | (simp only [List.length_set]; omega))))) rfl ?_)
        refine s_cons (op_pick_t (.bool (!(risingA (((riseL steps ([]) (riseN steps 30)).set (i) ((riseL steps ([]) (riseN steps 30))[(i + 1)]'(by first | omega | (simp only [List.length_set]; omega)))).set ((i + 1)) ((riseL steps ([]) (riseN steps 30))[i]'(by first | omega | (simp only [List.length_set]; omega))))))) (congrArg Value.bool (show (decide ((((downA ((rawA (riseL steps ([]) (riseN steps 30)) 1).1) 3).1).length : Int) = 0)) = true from (decide_eq_true (by rw [down_err (by assumption)]; rfl)))) rfl ?_)
        refine s_cons (op_assign (.bool (!(risingA (((riseL steps ([]) (riseN steps 30)).set (i) ((riseL steps ([]) (riseN steps 30))[(i + 1)]'(by first | omega | (simp only [List.length_set]; omega)))).set ((i + 1)) ((riseL steps ([]) (riseN steps 30))[i]'(by first | omega | (simp only [List.length_set]; omega))))))) rfl ?_)
        refine s_nil ?_
        refine then_n ?_
        refine cE_ret ?_
        refine post_r _ (res1 (v := (.bool true)) (congrArg Value.bool (congrArg (! ·) (show (risingA (((riseL steps ([]) (riseN steps 30)).set (i) ((riseL steps ([]) (riseN steps 30))[(i + 1)]'(by first | omega | (simp only [List.length_set]; omega)))).set ((i + 1)) ((riseL steps ([]) (riseN steps 30))[i]'(by first | omega | (simp only [List.length_set]; omega))))) = false from hsw)))) ?_
        exact ⟨rfl, hst.bare⟩

end Go.Proofs.Ytffnhcioponbbaa
