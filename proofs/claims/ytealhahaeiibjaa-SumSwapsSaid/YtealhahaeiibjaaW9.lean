/- the law SumSwaps of checksums -/
import Derived.Test.YtealhahaeiibjaaW1
import Derived.Test.YtealhahaeiibjaaS
import Derived.Test.YtealhahaeiibjaaK
namespace Go.Proofs.Ytealhahaeiibjaa
open Go.RowKit

theorem c_SumSwaps (w0 : World) (v_b : Value) (b : List UInt8) (h_b : Sl w0 u8E v_b b) (at_ : Int) :
    Calls Try.prog 6 #[v_b, (.int .i64 at_)] w0 fun e w' => e = .returned (.bool true) ∧ St w0 w' [] := by
  refine calls_E (n := 62) (ts := [4]) Try.func6 rfl rfl rfl (by simp) ?_
  have hst := St.start w0
  refine cE_seq ?_
  refine cE_region rfl ?_
  refine s_cons (op_assign (.bool false) rfl ?_)
  refine s_nil ?_
  refine then_n ?_
  refine cE_seq ?_
  refine cE_seq ?_
  refine cE_region rfl ?_
  refine s_cons (op_move v_b rfl ?_)
  refine s_cons (op_len (E := u8E) (xs := b) Try.underlying22 rfl h_b ?_)
  refine s_cons (op_lss (k := .i64) (a := (b.length : Int)) (b := 2) rfl rfl ?_)
  refine s_cons (op_move (.bool (decide ((b.length : Int) < 2))) rfl ?_)
  rcases Bool.eq_false_or_eq_true (decide ((b.length : Int) < 2)) with b1 | b1
  · have c2 : (b.length : Int) < 2 := of_decide_eq_true b1
    refine s_no 10 rfl (congrArg Value.bool b1) ?_
    refine s_no 10 rfl (congrArg Value.bool b1) ?_
    refine s_no 10 rfl (congrArg Value.bool b1) ?_
    refine s_cons (op_pick_t (.bool true) (congrArg Value.bool b1) rfl ?_)
    refine s_nil ?_
    refine then_n ?_
    refine cE_cond true rfl (fun _ => ?_) (fun h => by cases h)
    refine cE_seq ?_
    refine cE_region rfl ?_
    refine s_cons (op_call Try.call14 evs_nil (c_told2 (w0 := w0)) ?_)
    rintro _ w3 ⟨rfl, hcall⟩
    refine ⟨_, rfl, ?_⟩
    have hst : St w0 w3 [] := hst.call hcall
    refine s_cons (op_assign (.bool true) rfl ?_)
    refine s_nil ?_
    refine then_n ?_
    refine cE_ret ?_
    refine then_r ?_
    refine post_r _ (res1 (v := (.bool true)) rfl) ?_
    exact ⟨rfl, hst.bare⟩
  · have c4 : ¬ ((b.length : Int) < 2) := of_decide_eq_false b1
    refine s_yes 10 rfl (congrArg Value.bool b1) (op_move v_b rfl ?_)
    refine s_yes 10 rfl (congrArg Value.bool b1) (op_len (E := u8E) (xs := b) Try.underlying22 rfl h_b ?_)
    refine s_yes 10 rfl (congrArg Value.bool b1) (op_gtr (k := .i64) (a := (b.length : Int)) (b := 200) rfl rfl ?_)
    refine s_cons (op_pick_f (.bool (decide (200 < (b.length : Int)))) (congrArg Value.bool b1) rfl ?_)
    refine s_nil ?_
    refine then_n ?_
    rcases Bool.eq_false_or_eq_true (decide (200 < (b.length : Int))) with b5 | b5
    · have c6 : 200 < (b.length : Int) := of_decide_eq_true b5
      refine cE_cond true (congrArg Value.bool b5) (fun _ => ?_) (fun h => by cases h)
      refine cE_seq ?_
      refine cE_region rfl ?_
      refine s_cons (op_call Try.call14 evs_nil (c_told2 (w0 := w0)) ?_)
      rintro _ w7 ⟨rfl, hcall⟩
      refine ⟨_, rfl, ?_⟩
      have hst : St w0 w7 [] := hst.call hcall
      refine s_cons (op_assign (.bool true) rfl ?_)
      refine s_nil ?_
      refine then_n ?_
      refine cE_ret ?_
      refine then_r ?_
      refine post_r _ (res1 (v := (.bool true)) rfl) ?_
      exact ⟨rfl, hst.bare⟩
    · have c8 : ¬ (200 < (b.length : Int)) := of_decide_eq_false b5
      refine cE_cond false (congrArg Value.bool b5) (fun h => by cases h) (fun _ => ?_)
      refine cE_skip ?_
      refine then_n ?_
      refine cE_seq ?_
      refine cE_region rfl ?_
      refine s_cons (op_move (.int .i64 at_) rfl ?_)
      refine s_cons (op_conv (k := .i64) (a := at_) (at_ % 18446744073709551616) Try.underlying30 (by rw [Try.underlying3]; rfl) rfl (IntKind.wrap_u64 _) ?_)
      refine s_cons (op_move v_b rfl ?_)
      refine s_cons (op_len (E := u8E) (xs := b) Try.underlying22 rfl h_b ?_)
      refine s_cons (op_sub (k := .i64) (a := (b.length : Int)) (b := 1) ((b.length : Int) - 1) rfl rfl (xi64 (by omega) (by omega)) ?_)
      refine s_cons (op_conv (k := .i64) (a := ((b.length : Int) - 1)) ((b.length : Int) - 1) Try.underlying30 (by rw [Try.underlying3]; rfl) rfl (xu64 (by omega) (by omega)) ?_)
      obtain ⟨k, hk, hkl⟩ := rem_nat (a := (at_ % 18446744073709551616)) (b := ((b.length : Int) - 1)) (by omega) (by omega)
      refine s_cons (op_rem (k := .u64) (a := (at_ % 18446744073709551616)) (b := ((b.length : Int) - 1)) (k : Int) rfl rfl (by omega) hk ?_)
      refine s_cons (op_conv (k := .u64) (a := (k : Int)) (k : Int) Try.underlying3 (by rw [Try.underlying30]; rfl) rfl (xi64 (by omega) (by omega)) ?_)
      refine s_cons (op_assign (.int .i64 (k : Int)) rfl ?_)
      refine s_nil ?_
      refine then_n ?_
      refine cE_seq ?_
      refine cE_region rfl ?_
      refine s_cons (op_buildSlice (E := u8E) [] hst Try.underlying22 Try.sizeOf5 Try.zeroValue5 evp_nil parts_nil rfl (by decide) (fun v9 w10 hst => ?_))
      replace hst : St w0 w10 [rowT 5 u8E v9 ([])] := hst
      refine s_cons (op_move v_b rfl ?_)
      refine s_cons (op_append (E := u8E) (xs := []) (ys := b) (z := (.int .u8 0)) (bytes := 1) hst 0 rfl Try.underlying22 (by kernel_rfl) rfl rfl rfl (h_b.below hst.below) (by first | omega | (simp only [List.length_append, List.length_cons, List.length_nil, List.length_take, List.length_drop, List.length_set, List.length_map, List.length_reverse]; omega)) (by first | omega | (simp only [List.length_append, List.length_cons, List.length_nil, List.length_take, List.length_drop, List.length_set, List.length_map, List.length_reverse]; omega)) (fun v11 w12 hst => ?_))
      replace hst : St w0 w12 [rowT 5 u8E v11 b] := hst
      refine s_cons (op_assign v11 rfl ?_)
      refine s_nil ?_
      refine then_n ?_
      refine cE_seq ?_
      have hM33 : stabML [15, 17] [(kEq v11), (kEq (.int .i64 (k : Int))), (kEq v11), (kEq (.int .i64 (k : Int))), (kEq (.int .i64 ((k : Int) + 1))), (kEq v_b), (kEq (.int .i64 (k : Int))), (kEq (.int .i64 ((k : Int) + 1))), (kPt0 w0 [(.int .u8 ((b[(k + 1)]'(by first | omega | (simp only [List.length_set]; omega))).toNat : Int))]), (kEq (.int .u8 ((b[(k + 1)]'(by first | omega | (simp only [List.length_set]; omega))).toNat : Int))), (kEq v_b), (kEq (.int .i64 (k : Int))), (kPt0 w0 [(.int .u8 ((b[k]'(by first | omega | (simp only [List.length_set]; omega))).toNat : Int))]), (kEq (.int .u8 ((b[k]'(by first | omega | (simp only [List.length_set]; omega))).toNat : Int))), (kRow v11 (k * u8E.size)), kAny, (kRow v11 ((k + 1) * u8E.size)), kAny] := ⟨mEq, mEq, mEq, mEq, mEq, mEq, mEq, mEq, mPt0, mEq, mEq, mEq, mPt0, mEq, mRow, mAny, mRow, mAny, trivial⟩
      have hI34 : stabIL 15 0 [(kEq v11), (kEq (.int .i64 (k : Int))), (kEq v11), (kEq (.int .i64 (k : Int))), (kEq (.int .i64 ((k : Int) + 1))), (kEq v_b), (kEq (.int .i64 (k : Int))), (kEq (.int .i64 ((k : Int) + 1))), (kPt0 w0 [(.int .u8 ((b[(k + 1)]'(by first | omega | (simp only [List.length_set]; omega))).toNat : Int))]), (kEq (.int .u8 ((b[(k + 1)]'(by first | omega | (simp only [List.length_set]; omega))).toNat : Int))), (kEq v_b), (kEq (.int .i64 (k : Int))), (kPt0 w0 [(.int .u8 ((b[k]'(by first | omega | (simp only [List.length_set]; omega))).toNat : Int))]), (kEq (.int .u8 ((b[k]'(by first | omega | (simp only [List.length_set]; omega))).toNat : Int))), (kRow v11 (k * u8E.size)), kAny, (kRow v11 ((k + 1) * u8E.size)), kAny] := ⟨Or.inr iEq, Or.inr iEq, Or.inr iEq, Or.inr iEq, Or.inr iEq, Or.inr iEq, Or.inr iEq, Or.inr iEq, Or.inr iPt0, Or.inr iEq, Or.inr iEq, Or.inr iEq, Or.inr iPt0, Or.inr iEq, Or.inr iRow, Or.inl rfl, Or.inr iRow, Or.inr iAny, trivial⟩
      have hI35 : stabIL 17 0 [(kEq v11), (kEq (.int .i64 (k : Int))), (kEq v11), (kEq (.int .i64 (k : Int))), (kEq (.int .i64 ((k : Int) + 1))), (kEq v_b), (kEq (.int .i64 (k : Int))), (kEq (.int .i64 ((k : Int) + 1))), (kPt0 w0 [(.int .u8 ((b[(k + 1)]'(by first | omega | (simp only [List.length_set]; omega))).toNat : Int))]), (kEq (.int .u8 ((b[(k + 1)]'(by first | omega | (simp only [List.length_set]; omega))).toNat : Int))), (kEq v_b), (kEq (.int .i64 (k : Int))), (kPt0 w0 [(.int .u8 ((b[k]'(by first | omega | (simp only [List.length_set]; omega))).toNat : Int))]), (kEq (.int .u8 ((b[k]'(by first | omega | (simp only [List.length_set]; omega))).toNat : Int))), (kRow v11 (k * u8E.size)), kAny, (kRow v11 ((k + 1) * u8E.size)), kAny] := ⟨Or.inr iEq, Or.inr iEq, Or.inr iEq, Or.inr iEq, Or.inr iEq, Or.inr iEq, Or.inr iEq, Or.inr iEq, Or.inr iPt0, Or.inr iEq, Or.inr iEq, Or.inr iEq, Or.inr iPt0, Or.inr iEq, Or.inr iRow, Or.inr iAny, Or.inr iRow, Or.inl rfl, trivial⟩
      refine cE_regionK (fun (D : Nat → Bool) (w : World) => St w0 w [] ∧ (D 15 = false → St w0 w [rowT 5 u8E v11 b]) ∧ (D 15 = true → D 17 = false → St w0 w [rowT 5 u8E v11 (b.set (k) (b[(k + 1)]'(by first | omega | (simp only [List.length_set]; omega))))]) ∧ (D 17 = true → St w0 w [rowT 5 u8E v11 ((b.set (k) (b[(k + 1)]'(by first | omega | (simp only [List.length_set]; omega)))).set ((k + 1)) (b[k]'(by first | omega | (simp only [List.length_set]; omega))))])) [[(6, none)], [(5, none)], [(6, none)], [(5, none)], [(30, some 3)], [(0, none)], [(5, none)], [(33, some 6)], [(32, some 5), (34, some 7)], [(35, some 8)], [(0, none)], [(5, none)], [(37, some 10), (38, some 11)], [(39, some 12)], [(27, some 0), (28, some 1)], [(41, some 14), (36, some 9)], [(29, some 2), (31, some 4)], [(42, some 16), (40, some 13)]] (RofK [(kEq v11), (kEq (.int .i64 (k : Int))), (kEq v11), (kEq (.int .i64 (k : Int))), (kEq (.int .i64 ((k : Int) + 1))), (kEq v_b), (kEq (.int .i64 (k : Int))), (kEq (.int .i64 ((k : Int) + 1))), (kPt0 w0 [(.int .u8 ((b[(k + 1)]'(by first | omega | (simp only [List.length_set]; omega))).toNat : Int))]), (kEq (.int .u8 ((b[(k + 1)]'(by first | omega | (simp only [List.length_set]; omega))).toNat : Int))), (kEq v_b), (kEq (.int .i64 (k : Int))), (kPt0 w0 [(.int .u8 ((b[k]'(by first | omega | (simp only [List.length_set]; omega))).toNat : Int))]), (kEq (.int .u8 ((b[k]'(by first | omega | (simp only [List.length_set]; omega))).toNat : Int))), (kRow v11 (k * u8E.size)), kAny, (kRow v11 ((k + 1) * u8E.size)), kAny]) (by kernel_rfl) rfl (by kernel_rfl) ⟨hst.drewW.sub (.cons _ .slnil), (fun _ => hst.drewW), (fun h => absurd h Bool.false_ne_true), (fun h => absurd h Bool.false_ne_true)⟩ ⟨?_, ?_, ?_, ?_, ?_, ?_, ?_, ?_, ?_, ?_, ?_, ?_, ?_, ?_, ?_, ?_, ?_, ?_, trivial⟩ ?_
      · rintro D36 ρ37 w38 hD39 hE40 hC41 hJ42 ⟨f6, _⟩
        have hst := hJ42.2.1 (not_yet hD39 (fun hm => (hC41 15 0 hm (by kernel_rfl))))
        exact go_plain (op_move v11 (f6.trans rfl) (kN0 (i := 0) hM33 (by decide) (by exact hJ42) (by exact rfl)))
      · rintro D43 ρ44 w45 hD46 hE47 hC48 hJ49 ⟨f5, _⟩
        have hst := hJ49.2.1 (not_yet hD46 (fun hm => (hC48 15 1 hm (by kernel_rfl))))
        exact go_plain (op_move (.int .i64 (k : Int)) (f5.trans rfl) (kN0 (i := 1) hM33 (by decide) (by exact hJ49) (by exact rfl)))
      · rintro D50 ρ51 w52 hD53 hE54 hC55 hJ56 ⟨f6, _⟩
        have hst := hJ56.1
        exact go_plain (op_move v11 (f6.trans rfl) (kN0 (i := 2) hM33 (by decide) (by exact hJ56) (by exact rfl)))
      · rintro D57 ρ58 w59 hD60 hE61 hC62 hJ63 ⟨f5, _⟩
        have hst := hJ63.1
        exact go_plain (op_move (.int .i64 (k : Int)) (f5.trans rfl) (kN0 (i := 3) hM33 (by decide) (by exact hJ63) (by exact rfl)))
      · rintro D64 ρ65 w66 hD67 hE68 hC69 hJ70 ⟨f30, _⟩
        have hst := hJ70.1
        exact go_plain (op_add (k := .i64) (a := (k : Int)) (b := 1) ((k : Int) + 1) f30 rfl (xi64 (by omega) (by omega)) (kN0 (i := 4) hM33 (by decide) (by exact hJ70) (by exact rfl)))
      · rintro D71 ρ72 w73 hD74 hE75 hC76 hJ77 ⟨f0, _⟩
        have hst := hJ77.2.1 (not_yet hD74 (fun hm => (hC76 15 5 hm (by kernel_rfl))))
        exact go_plain (op_move v_b (f0.trans rfl) (kN0 (i := 5) hM33 (by decide) (by exact hJ77) (by exact rfl)))
      · rintro D78 ρ79 w80 hD81 hE82 hC83 hJ84 ⟨f5, _⟩
        have hst := hJ84.2.1 (not_yet hD81 (fun hm => (hC83 15 6 hm (by kernel_rfl))))
        exact go_plain (op_move (.int .i64 (k : Int)) (f5.trans rfl) (kN0 (i := 6) hM33 (by decide) (by exact hJ84) (by exact rfl)))
      · rintro D85 ρ86 w87 hD88 hE89 hC90 hJ91 ⟨f33, _⟩
        have hst := hJ91.2.1 (not_yet hD88 (fun hm => (hC90 15 7 hm (by kernel_rfl))))
        exact go_plain (op_add (k := .i64) (a := (k : Int)) (b := 1) ((k : Int) + 1) f33 rfl (xi64 (by omega) (by omega)) (kN0 (i := 7) hM33 (by decide) (by exact hJ91) (by exact rfl)))
      · rintro D92 ρ93 w94 hD95 hE96 hC97 hJ98 ⟨f32, f34, _⟩
        have hst := hJ98.2.1 (not_yet hD95 (fun hm => (hC97 15 8 hm (by kernel_rfl))))
        refine go_plain (op_indexAddrN (E := u8E) (xs := b) (k + 1) Try.underlying22 Try.sizeOf5 f32 h_b f34 (by omega) (by first | omega | (simp only [List.length_set]; omega)) (fun a99 o100 p101 => ?_))
        exact (kN0 (i := 8) hM33 (by decide) (by exact hJ98) (by exact ⟨_, _, rfl, p101⟩))
      · rintro D102 ρ103 w104 hD105 hE106 hC107 hJ108 ⟨f35, _⟩
        have hst := hJ108.2.1 (not_yet hD105 (fun hm => (hC107 15 9 hm (by kernel_rfl))))
        obtain ⟨a109, o110, e111, p112⟩ := f35
        exact go_plain (op_load1 (u := (.int .u8 ((b[(k + 1)]'(by first | omega | (simp only [List.length_set]; omega))).toNat : Int))) Try.isAgg5 e111 (p112.below hst.below) (kN0 (i := 9) hM33 (by decide) (by exact hJ108) (by exact rfl)))
      · rintro D114 ρ115 w116 hD117 hE118 hC119 hJ120 ⟨f0, _⟩
        have hst := hJ120.2.1 (not_yet hD117 (fun hm => (hC119 12 10 (hC119 13 12 (hC119 15 13 hm (by kernel_rfl)) (by kernel_rfl)) (by kernel_rfl))))
        exact go_plain (op_move v_b (f0.trans rfl) (kN0 (i := 10) hM33 (by decide) (by exact hJ120) (by exact rfl)))
      · rintro D121 ρ122 w123 hD124 hE125 hC126 hJ127 ⟨f5, _⟩
        have hst := hJ127.2.1 (not_yet hD124 (fun hm => (hC126 12 11 (hC126 13 12 (hC126 15 13 hm (by kernel_rfl)) (by kernel_rfl)) (by kernel_rfl))))
        exact go_plain (op_move (.int .i64 (k : Int)) (f5.trans rfl) (kN0 (i := 11) hM33 (by decide) (by exact hJ127) (by exact rfl)))
      · rintro D128 ρ129 w130 hD131 hE132 hC133 hJ134 ⟨f37, f38, _⟩
        have hst := hJ134.2.1 (not_yet hD131 (fun hm => (hC133 13 12 (hC133 15 13 hm (by kernel_rfl)) (by kernel_rfl))))
        refine go_plain (op_indexAddrN (E := u8E) (xs := b) k Try.underlying22 Try.sizeOf5 f37 h_b f38 (by omega) (by first | omega | (simp only [List.length_set]; omega)) (fun a135 o136 p137 => ?_))
        exact (kN0 (i := 12) hM33 (by decide) (by exact hJ134) (by exact ⟨_, _, rfl, p137⟩))
      · rintro D138 ρ139 w140 hD141 hE142 hC143 hJ144 ⟨f39, _⟩
        have hst := hJ144.2.1 (not_yet hD141 (fun hm => (hC143 15 13 hm (by kernel_rfl))))
        obtain ⟨a145, o146, e147, p148⟩ := f39
        exact go_plain (op_load1 (u := (.int .u8 ((b[k]'(by first | omega | (simp only [List.length_set]; omega))).toNat : Int))) Try.isAgg5 e147 (p148.below hst.below) (kN0 (i := 13) hM33 (by decide) (by exact hJ144) (by exact rfl)))
      · rintro D150 ρ151 w152 hD153 hE154 hC155 hJ156 ⟨f27, f28, _⟩
        have hst := hJ156.2.1 (not_yet hD153 (fun hm => (hC155 15 14 hm (by kernel_rfl))))
        refine go_plain (op_indexRowN hst 0 rfl k Try.underlying22 Try.sizeOf5 f27 f28 (by omega) (by first | omega | (simp only [List.length_set]; omega)) (fun g161 hb160 p159 => ?_))
        exact (kN0 (i := 14) hM33 (by decide) (by exact hJ156) (by exact ⟨_, hb160, rfl⟩))
      · rintro D162 ρ163 w164 hD165 hE166 hC167 hJ168 ⟨f41, f36, _⟩
        have hst := hJ168.2.1 hD165
        obtain ⟨g169, hb171, e170⟩ := f41
        refine go_plain (op_storeRow1 (y := (b[(k + 1)]'(by first | omega | (simp only [List.length_set]; omega)))) hst 0 rfl hb171 Try.sizeOf5 e170 f36 rfl (k) 0 rfl (by first | omega | (simp only [List.length_set]; omega)) (by decide) rfl (fun w172 hst => ?_))
        exact kI (i := 15) hI34 (by exact ⟨hst.sub (.cons _ .slnil), (fun h => absurd h (fun h => Bool.noConfusion h)), (fun _ _ => hst), (fun h => absurd (show D162 17 = true from h) (by rw [(not_yet hD165 (fun hm => (hC167 17 15 hm (by kernel_rfl))))]; decide))⟩) (by exact trivial)
      · rintro D173 ρ174 w175 hD176 hE177 hC178 hJ179 ⟨f29, f31, _⟩
        have hst := hJ179.2.2.1 (hE177 15 (by kernel_rfl)) (not_yet hD176 (fun hm => (hC178 17 16 hm (by kernel_rfl))))
        refine go_plain (op_indexRowN hst 0 rfl (k + 1) Try.underlying22 Try.sizeOf5 f29 f31 (by omega) (by first | omega | (simp only [List.length_set]; omega)) (fun g184 hb183 p182 => ?_))
        exact (kN0 (i := 16) hM33 (by decide) (by exact hJ179) (by exact ⟨_, hb183, rfl⟩))
      · rintro D185 ρ186 w187 hD188 hE189 hC190 hJ191 ⟨f42, f40, _⟩
        have hst := hJ191.2.2.1 (hE189 15 (by kernel_rfl)) hD188
        obtain ⟨g192, hb194, e193⟩ := f42
        refine go_plain (op_storeRow1 (y := (b[k]'(by first | omega | (simp only [List.length_set]; omega)))) hst 0 rfl hb194 Try.sizeOf5 e193 f40 rfl ((k + 1)) 0 rfl (by first | omega | (simp only [List.length_set]; omega)) (by decide) rfl (fun w195 hst => ?_))
        exact kI (i := 17) hI35 (by exact ⟨hst.sub (.cons _ .slnil), (fun h => absurd (show D185 15 = false from h) (by rw [(hE189 15 (by kernel_rfl))]; decide)), (fun _ h => absurd h (fun h => Bool.noConfusion h)), (fun _ => hst)⟩) (by exact trivial)
      · intro ρ196 w197 Dw197 hallw197 hJw197 hRw197 hkw197
        have hst := hJw197.2.2.2 (hallw197 17 (show 17 < 18 from by decide))
        have uw197_0 : ρ196 0 = v_b := (hkw197 0 rfl).trans rfl
        have uw197_1 : ρ196 1 = (.int .i64 at_) := (hkw197 1 rfl).trans rfl
        have uw197_4 : ρ196 4 = (.bool false) := (hkw197 4 rfl).trans rfl
        have uw197_7 : ρ196 7 = v_b := (hkw197 7 rfl).trans rfl
        have uw197_8 : ρ196 8 = (.int .i64 (b.length : Int)) := (hkw197 8 rfl).trans rfl
        have uw197_9 : ρ196 9 = (.bool (decide ((b.length : Int) < 2))) := (hkw197 9 rfl).trans rfl
        have uw197_10 : ρ196 10 = (.bool (decide ((b.length : Int) < 2))) := (hkw197 10 rfl).trans rfl
        have uw197_11 : ρ196 11 = v_b := (hkw197 11 rfl).trans rfl
        have uw197_12 : ρ196 12 = (.int .i64 (b.length : Int)) := (hkw197 12 rfl).trans rfl
        have uw197_13 : ρ196 13 = (.bool (decide (200 < (b.length : Int)))) := (hkw197 13 rfl).trans rfl
        have uw197_14 : ρ196 14 = (.bool (decide (200 < (b.length : Int)))) := (hkw197 14 rfl).trans rfl
        have uw197_16 : ρ196 16 = (.int .i64 at_) := (hkw197 16 rfl).trans rfl
        have uw197_17 : ρ196 17 = (.int .u64 (at_ % 18446744073709551616)) := (hkw197 17 rfl).trans rfl
        have uw197_18 : ρ196 18 = v_b := (hkw197 18 rfl).trans rfl
        have uw197_19 : ρ196 19 = (.int .i64 (b.length : Int)) := (hkw197 19 rfl).trans rfl
        have uw197_20 : ρ196 20 = (.int .i64 ((b.length : Int) - 1)) := (hkw197 20 rfl).trans rfl
        have uw197_21 : ρ196 21 = (.int .u64 ((b.length : Int) - 1)) := (hkw197 21 rfl).trans rfl
        have uw197_22 : ρ196 22 = (.int .u64 (k : Int)) := (hkw197 22 rfl).trans rfl
        have uw197_23 : ρ196 23 = (.int .i64 (k : Int)) := (hkw197 23 rfl).trans rfl
        have uw197_5 : ρ196 5 = (.int .i64 (k : Int)) := (hkw197 5 rfl).trans rfl
        have uw197_24 : ρ196 24 = v9 := (hkw197 24 rfl).trans rfl
        have uw197_25 : ρ196 25 = v_b := (hkw197 25 rfl).trans rfl
        have uw197_26 : ρ196 26 = v11 := (hkw197 26 rfl).trans rfl
        have uw197_6 : ρ196 6 = v11 := (hkw197 6 rfl).trans rfl
        refine then_n ?_
        refine cE_seq ?_
        refine cE_regionL hst [[], [(43, some 0)], [(6, none), (44, some 1)], [(45, some 2), (44, some 1)], [(0, none), (44, some 1)], [(47, some 4), (44, some 1)], [(46, some 3), (48, some 5), (44, some 1)], [(0, none), (44, some 1)], [(5, none), (44, some 1)], [(50, some 7), (51, some 8), (44, some 1)], [(52, some 9), (44, some 1)], [(0, none), (44, some 1)], [(5, none), (44, some 1)], [(55, some 12), (44, some 1)], [(54, some 11), (56, some 13), (44, some 1)], [(57, some 14), (44, some 1)], [(53, some 10), (58, some 15), (44, some 1)], [(49, some 6), (59, some 16), (44, some 1)], [(44, some 1), (60, some 17)], [(61, some 18)]] [(rEq (.bool true)), (rEq (.bool true)), (rEq v11), (rEq (.int .u32 (more 1 ((b.set (k) (b[(k + 1)]'(by first | omega | (simp only [List.length_set]; omega)))).set ((k + 1)) (b[k]'(by first | omega | (simp only [List.length_set]; omega))))))), (rEq v_b), (rEq (.int .u32 (more 1 b))), (rEq (.bool (decide ((more 1 ((b.set (k) (b[(k + 1)]'(by first | omega | (simp only [List.length_set]; omega)))).set ((k + 1)) (b[k]'(by first | omega | (simp only [List.length_set]; omega))))) = (more 1 b))))), (rEq v_b), (rEq (.int .i64 (k : Int))), (rPt [(.int .u8 ((b[k]'(by first | omega | (simp only [List.length_set]; omega))).toNat : Int))]), (rEq (.int .u8 ((b[k]'(by first | omega | (simp only [List.length_set]; omega))).toNat : Int))), (rEq v_b), (rEq (.int .i64 (k : Int))), (rEq (.int .i64 ((k : Int) + 1))), (rPt [(.int .u8 ((b[(k + 1)]'(by first | omega | (simp only [List.length_set]; omega))).toNat : Int))]), (rEq (.int .u8 ((b[(k + 1)]'(by first | omega | (simp only [List.length_set]; omega))).toNat : Int))), (rEq (.bool (decide (((b[k]'(by first | omega | (simp only [List.length_set]; omega))).toNat : Int) = ((b[(k + 1)]'(by first | omega | (simp only [List.length_set]; omega))).toNat : Int))))), (rEq (.bool ((decide ((more 1 ((b.set (k) (b[(k + 1)]'(by first | omega | (simp only [List.length_set]; omega)))).set ((k + 1)) (b[k]'(by first | omega | (simp only [List.length_set]; omega))))) = (more 1 b))) == (decide (((b[k]'(by first | omega | (simp only [List.length_set]; omega))).toNat : Int) = ((b[(k + 1)]'(by first | omega | (simp only [List.length_set]; omega))).toNat : Int)))))), (rEq (.bool ((decide ((more 1 ((b.set (k) (b[(k + 1)]'(by first | omega | (simp only [List.length_set]; omega)))).set ((k + 1)) (b[k]'(by first | omega | (simp only [List.length_set]; omega))))) = (more 1 b))) == (decide (((b[k]'(by first | omega | (simp only [List.length_set]; omega))).toNat : Int) = ((b[(k + 1)]'(by first | omega | (simp only [List.length_set]; omega))).toNat : Int)))))), (rEq (.bool ((decide ((more 1 ((b.set (k) (b[(k + 1)]'(by first | omega | (simp only [List.length_set]; omega)))).set ((k + 1)) (b[k]'(by first | omega | (simp only [List.length_set]; omega))))) = (more 1 b))) == (decide (((b[k]'(by first | omega | (simp only [List.length_set]; omega))).toNat : Int) = ((b[(k + 1)]'(by first | omega | (simp only [List.length_set]; omega))).toNat : Int))))))] (by kernel_rfl) rfl (by kernel_rfl) ⟨sEq, sEq, sEq, sEq, sEq, sEq, sEq, sEq, sEq, sPt, sEq, sEq, sEq, sEq, sPt, sEq, sEq, sEq, sEq, sEq, trivial⟩ ⟨?_, ?_, ?_, ?_, ?_, ?_, ?_, ?_, ?_, ?_, ?_, ?_, ?_, ?_, ?_, ?_, ?_, ?_, ?_, ?_, trivial⟩ ?_
        · rintro ρ209 w210 hj211 ⟨_⟩
          have hst := hj211.2
          refine go_plain (op_call Try.call14 evs_nil (c_told2 (w0 := w210)) ?_)
          rintro _ w212 ⟨rfl, hcall⟩
          refine ⟨_, rfl, ?_⟩
          exact kD hj211 hcall rfl
        · rintro ρ213 w214 hj215 ⟨f43, _⟩
          have hst := hj215.2
          exact go_plain (op_move (.bool true) f43 (kS hj215 rfl))
        · rintro ρ216 w217 hj218 ⟨f6, f44, _⟩
          have hst := hj218.2
          exact go_yes 44 rfl f44 (op_move v11 (f6.trans uw197_6) (kS hj218 rfl))
        · rintro ρ219 w220 hj221 ⟨f45, f44, _⟩
          have hst := hj221.2
          refine go_yes 44 rfl f44 (op_call Try.call15 (evs_cons (v := v11) f45 evs_nil) (c_Of (w0 := w220) (v_b := v11) (b := ((b.set (k) (b[(k + 1)]'(by first | omega | (simp only [List.length_set]; omega)))).set ((k + 1)) (b[k]'(by first | omega | (simp only [List.length_set]; omega))))) (h_b := (hst.sl 0 rfl))) ?_)
          rintro _ w222 ⟨rfl, hcall⟩
          refine ⟨_, rfl, ?_⟩
          exact kD hj221 hcall rfl
        · rintro ρ223 w224 hj225 ⟨f0, f44, _⟩
          have hst := hj225.2
          exact go_yes 44 rfl f44 (op_move v_b (f0.trans uw197_0) (kS hj225 rfl))
        · rintro ρ226 w227 hj228 ⟨f47, f44, _⟩
          have hst := hj228.2
          refine go_yes 44 rfl f44 (op_call Try.call15 (evs_cons (v := v_b) f47 evs_nil) (c_Of (w0 := w227) (v_b := v_b) (b := b) (h_b := (h_b.below hst.below))) ?_)
          rintro _ w229 ⟨rfl, hcall⟩
          refine ⟨_, rfl, ?_⟩
          exact kD hj228 hcall rfl
        · rintro ρ230 w231 hj232 ⟨f46, f48, f44, _⟩
          have hst := hj232.2
          exact go_yes 44 rfl f44 (op_eql (k := .u32) (a := (more 1 ((b.set (k) (b[(k + 1)]'(by first | omega | (simp only [List.length_set]; omega)))).set ((k + 1)) (b[k]'(by first | omega | (simp only [List.length_set]; omega)))))) (b := (more 1 b)) f46 f48 (kS hj232 rfl))
        · rintro ρ233 w234 hj235 ⟨f0, f44, _⟩
          have hst := hj235.2
          exact go_yes 44 rfl f44 (op_move v_b (f0.trans uw197_0) (kS hj235 rfl))
        · rintro ρ236 w237 hj238 ⟨f5, f44, _⟩
          have hst := hj238.2
          exact go_yes 44 rfl f44 (op_move (.int .i64 (k : Int)) (f5.trans uw197_5) (kS hj238 rfl))
        · rintro ρ239 w240 hj241 ⟨f50, f51, f44, _⟩
          have hst := hj241.2
          refine go_yes 44 rfl f44 (op_indexAddrN (E := u8E) (xs := b) k Try.underlying22 Try.sizeOf5 f50 h_b f51 (by omega) (by first | omega | (simp only [List.length_set]; omega)) (fun a242 o243 p244 => ?_))
          exact kS hj241 ⟨_, _, rfl, (p244.below hst.below)⟩
        · rintro ρ245 w246 hj247 ⟨f52, f44, _⟩
          have hst := hj247.2
          obtain ⟨a248, o249, e250, p251⟩ := f52
          exact go_yes 44 rfl f44 (op_load1 (u := (.int .u8 ((b[k]'(by first | omega | (simp only [List.length_set]; omega))).toNat : Int))) Try.isAgg5 e250 p251 (kS hj247 rfl))
        · rintro ρ253 w254 hj255 ⟨f0, f44, _⟩
          have hst := hj255.2
          exact go_yes 44 rfl f44 (op_move v_b (f0.trans uw197_0) (kS hj255 rfl))
        · rintro ρ256 w257 hj258 ⟨f5, f44, _⟩
          have hst := hj258.2
          exact go_yes 44 rfl f44 (op_move (.int .i64 (k : Int)) (f5.trans uw197_5) (kS hj258 rfl))
        · rintro ρ259 w260 hj261 ⟨f55, f44, _⟩
          have hst := hj261.2
          exact go_yes 44 rfl f44 (op_add (k := .i64) (a := (k : Int)) (b := 1) ((k : Int) + 1) f55 rfl (xi64 (by omega) (by omega)) (kS hj261 rfl))
        · rintro ρ262 w263 hj264 ⟨f54, f56, f44, _⟩
          have hst := hj264.2
          refine go_yes 44 rfl f44 (op_indexAddrN (E := u8E) (xs := b) (k + 1) Try.underlying22 Try.sizeOf5 f54 h_b f56 (by omega) (by first | omega | (simp only [List.length_set]; omega)) (fun a265 o266 p267 => ?_))
          exact kS hj264 ⟨_, _, rfl, (p267.below hst.below)⟩
        · rintro ρ268 w269 hj270 ⟨f57, f44, _⟩
          have hst := hj270.2
          obtain ⟨a271, o272, e273, p274⟩ := f57
          exact go_yes 44 rfl f44 (op_load1 (u := (.int .u8 ((b[(k + 1)]'(by first | omega | (simp only [List.length_set]; omega))).toNat : Int))) Try.isAgg5 e273 p274 (kS hj270 rfl))
        · rintro ρ276 w277 hj278 ⟨f53, f58, f44, _⟩
          have hst := hj278.2
          exact go_yes 44 rfl f44 (op_eql (k := .u8) (a := ((b[k]'(by first | omega | (simp only [List.length_set]; omega))).toNat : Int)) (b := ((b[(k + 1)]'(by first | omega | (simp only [List.length_set]; omega))).toNat : Int)) f53 f58 (kS hj278 rfl))
        · rintro ρ279 w280 hj281 ⟨f49, f59, f44, _⟩
          have hst := hj281.2
          exact go_yes 44 rfl f44 (op_eqlb (a := decide ((more 1 ((b.set (k) (b[(k + 1)]'(by first | omega | (simp only [List.length_set]; omega)))).set ((k + 1)) (b[k]'(by first | omega | (simp only [List.length_set]; omega))))) = (more 1 b))) (b := decide (((b[k]'(by first | omega | (simp only [List.length_set]; omega))).toNat : Int) = ((b[(k + 1)]'(by first | omega | (simp only [List.length_set]; omega))).toNat : Int))) Try.underlying4 f49 f59 (kS hj281 rfl))
        · rintro ρ282 w283 hj284 ⟨f44, f60, _⟩
          have hst := hj284.2
          exact go_plain (op_pick_t (.bool ((decide ((more 1 ((b.set (k) (b[(k + 1)]'(by first | omega | (simp only [List.length_set]; omega)))).set ((k + 1)) (b[k]'(by first | omega | (simp only [List.length_set]; omega))))) = (more 1 b))) == (decide (((b[k]'(by first | omega | (simp only [List.length_set]; omega))).toNat : Int) = ((b[(k + 1)]'(by first | omega | (simp only [List.length_set]; omega))).toNat : Int))))) f44 f60 (kS hj284 rfl))
        · rintro ρ285 w286 hj287 ⟨f61, _⟩
          have hst := hj287.2
          exact go_plain (op_assign (.bool ((decide ((more 1 ((b.set (k) (b[(k + 1)]'(by first | omega | (simp only [List.length_set]; omega)))).set ((k + 1)) (b[k]'(by first | omega | (simp only [List.length_set]; omega))))) = (more 1 b))) == (decide (((b[k]'(by first | omega | (simp only [List.length_set]; omega))).toNat : Int) = ((b[(k + 1)]'(by first | omega | (simp only [List.length_set]; omega))).toNat : Int))))) f61 (kS hj287 rfl))
        · intro ρ288 w289 hbw289 hst hRw289 hkw289
          have uw289_0 : ρ288 0 = v_b := (hkw289 0 rfl).trans uw197_0
          have uw289_1 : ρ288 1 = (.int .i64 at_) := (hkw289 1 rfl).trans uw197_1
          have uw289_7 : ρ288 7 = v_b := (hkw289 7 rfl).trans uw197_7
          have uw289_8 : ρ288 8 = (.int .i64 (b.length : Int)) := (hkw289 8 rfl).trans uw197_8
          have uw289_9 : ρ288 9 = (.bool (decide ((b.length : Int) < 2))) := (hkw289 9 rfl).trans uw197_9
          have uw289_10 : ρ288 10 = (.bool (decide ((b.length : Int) < 2))) := (hkw289 10 rfl).trans uw197_10
          have uw289_11 : ρ288 11 = v_b := (hkw289 11 rfl).trans uw197_11
          have uw289_12 : ρ288 12 = (.int .i64 (b.length : Int)) := (hkw289 12 rfl).trans uw197_12
          have uw289_13 : ρ288 13 = (.bool (decide (200 < (b.length : Int)))) := (hkw289 13 rfl).trans uw197_13
          have uw289_14 : ρ288 14 = (.bool (decide (200 < (b.length : Int)))) := (hkw289 14 rfl).trans uw197_14
          have uw289_16 : ρ288 16 = (.int .i64 at_) := (hkw289 16 rfl).trans uw197_16
          have uw289_17 : ρ288 17 = (.int .u64 (at_ % 18446744073709551616)) := (hkw289 17 rfl).trans uw197_17
          have uw289_18 : ρ288 18 = v_b := (hkw289 18 rfl).trans uw197_18
          have uw289_19 : ρ288 19 = (.int .i64 (b.length : Int)) := (hkw289 19 rfl).trans uw197_19
          have uw289_20 : ρ288 20 = (.int .i64 ((b.length : Int) - 1)) := (hkw289 20 rfl).trans uw197_20
          have uw289_21 : ρ288 21 = (.int .u64 ((b.length : Int) - 1)) := (hkw289 21 rfl).trans uw197_21
          have uw289_22 : ρ288 22 = (.int .u64 (k : Int)) := (hkw289 22 rfl).trans uw197_22
          have uw289_23 : ρ288 23 = (.int .i64 (k : Int)) := (hkw289 23 rfl).trans uw197_23
          have uw289_5 : ρ288 5 = (.int .i64 (k : Int)) := (hkw289 5 rfl).trans uw197_5
          have uw289_24 : ρ288 24 = v9 := (hkw289 24 rfl).trans uw197_24
          have uw289_25 : ρ288 25 = v_b := (hkw289 25 rfl).trans uw197_25
          have uw289_26 : ρ288 26 = v11 := (hkw289 26 rfl).trans uw197_26
          have uw289_6 : ρ288 6 = v11 := (hkw289 6 rfl).trans uw197_6
          have uw289_4 : ρ288 4 = (.bool ((decide ((more 1 ((b.set (k) (b[(k + 1)]'(by first | omega | (simp only [List.length_set]; omega)))).set ((k + 1)) (b[k]'(by first | omega | (simp only [List.length_set]; omega))))) = (more 1 b))) == (decide (((b[k]'(by first | omega | (simp only [List.length_set]; omega))).toNat : Int) = ((b[(k + 1)]'(by first | omega | (simp only [List.length_set]; omega))).toNat : Int))))) := hRw289 19 4 rfl
          refine then_n ?_
          refine cE_ret ?_
          refine post_r _ (res1 (v := (.bool true)) (uw289_4.trans (congrArg Value.bool (show ((decide ((more 1 ((b.set (k) (b[(k + 1)]'(by first | omega | (simp only [List.length_set]; omega)))).set ((k + 1)) (b[k]'(by first | omega | (simp only [List.length_set]; omega))))) = (more 1 b))) == (decide (((b[k]'(by first | omega | (simp only [List.length_set]; omega))).toNat : Int) = ((b[(k + 1)]'(by first | omega | (simp only [List.length_set]; omega))).toNat : Int)))) = true from (more_swaps b k (by omega)))))) ?_
          exact ⟨rfl, hst.bare⟩

end Go.Proofs.Ytealhahaeiibjaa
