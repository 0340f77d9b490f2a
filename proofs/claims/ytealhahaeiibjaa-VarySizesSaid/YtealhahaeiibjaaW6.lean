/- the law VarySizes of numbers as bytes -/
import Derived.Test.YtealhahaeiibjaaW3
import Derived.Test.YtealhahaeiibjaaZ
import Derived.Test.YtealhahaeiibjaaW4
namespace Go.Proofs.Ytealhahaeiibjaa
open Go.RowKit

theorem c_VarySizes (w0 : World) (a : Int) (b : Int) (v_c : Value) (c : List UInt8) (h_c : Sl w0 u8E v_c c) (a0 : 0 ≤ a) (a1 : a ≤ 18446744073709551615) (b0 : 0 ≤ b) (b1 : b ≤ 18446744073709551615) :
    Calls Try.prog 11 #[(.int .u64 a), (.int .u64 b), v_c] w0 fun e w' => e = .returned (.bool true) ∧ St w0 w' [] := by
  have hla := put_length a
  have hlb := put_length b
  refine calls_E (n := 73) (ts := [6]) Try.func11 rfl rfl rfl (by simp) ?_
  have hst := St.start w0
  refine cE_seq ?_
  refine cE_region rfl ?_
  refine s_cons (op_assign (.bool false) rfl ?_)
  refine s_nil ?_
  refine then_n ?_
  refine cE_seq ?_
  refine cE_seq ?_
  refine cE_region rfl ?_
  refine s_cons (op_move (.int .u64 a) rfl ?_)
  refine s_cons (op_move (.int .u64 b) rfl ?_)
  refine s_cons (op_gtr (k := .u64) (a := a) (b := b) rfl rfl ?_)
  refine s_nil ?_
  refine then_n ?_
  rcases Bool.eq_false_or_eq_true (decide (b < a)) with b1 | b1
  · have c2 : b < a := of_decide_eq_true b1
    refine cE_cond true (congrArg Value.bool b1) (fun _ => ?_) (fun h => by cases h)
    refine cE_region rfl ?_
    refine s_cons (op_move (.int .u64 b) rfl ?_)
    refine s_cons (op_move (.int .u64 a) rfl ?_)
    refine s_cons (op_assign (.int .u64 b) rfl ?_)
    refine s_cons (op_assign (.int .u64 a) rfl ?_)
    refine s_nil ?_
    refine then_n ?_
    refine cE_seq ?_
    refine cE_seq ?_
    refine cE_region rfl ?_
    refine s_cons (op_move v_c rfl ?_)
    refine s_cons (op_len (E := u8E) (xs := c) Try.underlying22 rfl h_c ?_)
    refine s_cons (op_gtr (k := .i64) (a := (c.length : Int)) (b := 12) rfl rfl ?_)
    refine s_nil ?_
    refine then_n ?_
    rcases Bool.eq_false_or_eq_true (decide (12 < (c.length : Int))) with b3 | b3
    · have c4 : 12 < (c.length : Int) := of_decide_eq_true b3
      refine cE_cond true (congrArg Value.bool b3) (fun _ => ?_) (fun h => by cases h)
      refine cE_seq ?_
      refine cE_region rfl ?_
      refine s_cons (op_call Try.call20 evs_nil (c_told1 (w0 := w0)) ?_)
      rintro _ w5 ⟨rfl, hcall⟩
      refine ⟨_, rfl, ?_⟩
      have hst : St w0 w5 [] := hst.call hcall
      refine s_cons (op_assign (.bool true) rfl ?_)
      refine s_nil ?_
      refine then_n ?_
      refine cE_ret ?_
      refine then_r ?_
      refine post_r _ (res1 (v := (.bool true)) rfl) ?_
      exact ⟨rfl, hst.bare⟩
    · have c6 : ¬ (12 < (c.length : Int)) := of_decide_eq_false b3
      refine cE_cond false (congrArg Value.bool b3) (fun h => by cases h) (fun _ => ?_)
      refine cE_skip ?_
      refine then_n ?_
      refine cE_seq ?_
      refine cE_region rfl ?_
      refine s_cons (op_move v_c rfl ?_)
      refine s_cons (op_call Try.call21 (evs_cons (v := v_c) rfl (evs_cons (v := (.int .i64 0)) rfl evs_nil)) (c_Get (w0 := w0) (v_b := v_c) (b := c) (h_b := (h_c.below hst.below)) (at_ := 0) (hl := (by omega))) ?_)
      rintro _ w7 ⟨rfl, hcall⟩
      refine ⟨_, rfl, ?_⟩
      have hst : St w0 w7 [] := hst.call hcall
      refine s_cons (op_move (.tuple #[(.int .u64 ((get c 0).1)), (.int .i64 ((get c 0).2.1)), (.int .i64 ((get c 0).2.2))]) rfl ?_)
      refine s_cons (op_extract (.int .u64 ((get c 0).1)) rfl rfl ?_)
      refine s_cons (op_extract (.int .i64 ((get c 0).2.1)) rfl rfl ?_)
      refine s_cons (op_extract (.int .i64 ((get c 0).2.2)) rfl rfl ?_)
      refine s_cons (op_assign (.int .u64 ((get c 0).1)) rfl ?_)
      refine s_cons (op_assign (.int .i64 ((get c 0).2.1)) rfl ?_)
      refine s_cons (op_assign (.int .i64 ((get c 0).2.2)) rfl ?_)
      refine s_nil ?_
      refine then_n ?_
      refine cE_seq ?_
      refine cE_seq ?_
      rcases Bool.eq_false_or_eq_true (decide (((get c 0).2.2) = 0)) with b8 | b8
      · have c9 : ((get c 0).2.2) = 0 := of_decide_eq_true b8
        have hgi := get_inv2 c9
        have hgi := get_inv2 c9
        rcases Bool.eq_false_or_eq_true (decide (((get c 0).2.1) < 1)) with b10 | b10
        · have c11 : ((get c 0).2.1) < 1 := of_decide_eq_true b10
          exfalso; omega
        · have c12 : ¬ (((get c 0).2.1) < 1) := of_decide_eq_false b10
          rcases Bool.eq_false_or_eq_true (decide ((c.length : Int) < ((get c 0).2.1))) with b13 | b13
          · have c14 : (c.length : Int) < ((get c 0).2.1) := of_decide_eq_true b13
            exfalso; omega
          · have c15 : ¬ ((c.length : Int) < ((get c 0).2.1)) := of_decide_eq_false b13
            refine cE_regionL hst [[(9, none)], [(25, some 0)], [(26, some 1)], [(8, none), (27, some 2)], [(28, some 3), (27, some 2)], [(29, some 4), (27, some 2)], [(8, none), (30, some 5)], [(2, none), (30, some 5)], [(32, some 7), (30, some 5)], [(31, some 6), (33, some 8), (30, some 5)], [(30, some 5), (34, some 9), (27, some 2)], [(35, some 10), (27, some 2)], [(7, none), (36, some 11)], [(37, some 12), (36, some 11)], [(38, some 13), (36, some 11)], [(2, none), (36, some 11)], [(8, none), (36, some 11)], [(40, some 15), (41, some 16), (36, some 11)], [(42, some 17), (36, some 11)], [(39, some 14), (43, some 18), (36, some 11)], [(36, some 11), (44, some 19), (27, some 2)], [(27, some 2), (45, some 20)]] [(rEq (.int .i64 ((get c 0).2.2))), (rEq (.bool (decide (((get c 0).2.2) = 0)))), (rEq (.bool (decide (((get c 0).2.2) = 0)))), (rEq (.int .i64 ((get c 0).2.1))), (rEq (.bool (decide (((get c 0).2.1) < 1)))), (rEq (.bool (decide (((get c 0).2.1) < 1)))), (rEq (.int .i64 ((get c 0).2.1))), (rEq v_c), (rEq (.int .i64 (c.length : Int))), (rEq (.bool (decide ((c.length : Int) < ((get c 0).2.1))))), (rEq (.bool (decide ((c.length : Int) < ((get c 0).2.1))))), (rEq (.bool (decide ((c.length : Int) < ((get c 0).2.1))))), (rEq (.int .u64 ((get c 0).1))), (rSl u8E (put ((get c 0).1))), (rEq (.string (str (put ((get c 0).1))))), (rEq v_c), (rEq (.int .i64 ((get c 0).2.1))), (rSl u8E (c.take (Int.toNat ((get c 0).2.1)))), (rEq (.string (str (c.take (Int.toNat ((get c 0).2.1)))))), (rEq (.bool (!decide ((put ((get c 0).1)) = (c.take (Int.toNat ((get c 0).2.1))))))), (rEq (.bool (!decide ((put ((get c 0).1)) = (c.take (Int.toNat ((get c 0).2.1))))))), (rEq (.bool (!decide ((put ((get c 0).1)) = (c.take (Int.toNat ((get c 0).2.1)))))))] (by kernel_rfl) rfl (by kernel_rfl) ⟨sEq, sEq, sEq, sEq, sEq, sEq, sEq, sEq, sEq, sEq, sEq, sEq, sEq, sSl, sEq, sEq, sEq, sSl, sEq, sEq, sEq, sEq, trivial⟩ ⟨?_, ?_, ?_, ?_, ?_, ?_, ?_, ?_, ?_, ?_, ?_, ?_, ?_, ?_, ?_, ?_, ?_, ?_, ?_, ?_, ?_, ?_, trivial⟩ ?_
            · rintro ρ20 w21 hj22 ⟨f9, _⟩
              have hst := hj22.2
              exact go_plain (op_move (.int .i64 ((get c 0).2.2)) (f9.trans rfl) (kS hj22 rfl))
            · rintro ρ23 w24 hj25 ⟨f25, _⟩
              have hst := hj25.2
              exact go_plain (op_eql (k := .i64) (a := (get c 0).2.2) (b := 0) f25 rfl (kS hj25 rfl))
            · rintro ρ26 w27 hj28 ⟨f26, _⟩
              have hst := hj28.2
              exact go_plain (op_move (.bool (decide (((get c 0).2.2) = 0))) f26 (kS hj28 rfl))
            · rintro ρ29 w30 hj31 ⟨f8, f27, _⟩
              have hst := hj31.2
              exact go_yes 27 rfl (f27.trans (congrArg Value.bool b8)) (op_move (.int .i64 ((get c 0).2.1)) (f8.trans rfl) (kS hj31 rfl))
            · rintro ρ32 w33 hj34 ⟨f28, f27, _⟩
              have hst := hj34.2
              exact go_yes 27 rfl (f27.trans (congrArg Value.bool b8)) (op_lss (k := .i64) (a := (get c 0).2.1) (b := 1) f28 rfl (kS hj34 rfl))
            · rintro ρ35 w36 hj37 ⟨f29, f27, _⟩
              have hst := hj37.2
              exact go_yes 27 rfl (f27.trans (congrArg Value.bool b8)) (op_move (.bool (decide (((get c 0).2.1) < 1))) f29 (kS hj37 rfl))
            · rintro ρ38 w39 hj40 ⟨f8, f30, _⟩
              have hst := hj40.2
              exact go_yes 30 rfl (f30.trans (congrArg Value.bool b10)) (op_move (.int .i64 ((get c 0).2.1)) (f8.trans rfl) (kS hj40 rfl))
            · rintro ρ41 w42 hj43 ⟨f2, f30, _⟩
              have hst := hj43.2
              exact go_yes 30 rfl (f30.trans (congrArg Value.bool b10)) (op_move v_c (f2.trans rfl) (kS hj43 rfl))
            · rintro ρ44 w45 hj46 ⟨f32, f30, _⟩
              have hst := hj46.2
              exact go_yes 30 rfl (f30.trans (congrArg Value.bool b10)) (op_len (E := u8E) (xs := c) Try.underlying22 f32 h_c (kS hj46 rfl))
            · rintro ρ47 w48 hj49 ⟨f31, f33, f30, _⟩
              have hst := hj49.2
              exact go_yes 30 rfl (f30.trans (congrArg Value.bool b10)) (op_gtr (k := .i64) (a := (get c 0).2.1) (b := (c.length : Int)) f31 f33 (kS hj49 rfl))
            · rintro ρ50 w51 hj52 ⟨f30, f34, f27, _⟩
              have hst := hj52.2
              exact go_yes 27 rfl (f27.trans (congrArg Value.bool b8)) (op_pick_f (.bool (decide ((c.length : Int) < ((get c 0).2.1)))) (f30.trans (congrArg Value.bool b10)) f34 (kS hj52 rfl))
            · rintro ρ53 w54 hj55 ⟨f35, f27, _⟩
              have hst := hj55.2
              exact go_yes 27 rfl (f27.trans (congrArg Value.bool b8)) (op_move (.bool (decide ((c.length : Int) < ((get c 0).2.1)))) f35 (kS hj55 rfl))
            · rintro ρ56 w57 hj58 ⟨f7, f36, _⟩
              have hst := hj58.2
              exact go_yes 36 rfl (f36.trans (congrArg Value.bool b13)) (op_move (.int .u64 ((get c 0).1)) (f7.trans rfl) (kS hj58 rfl))
            · rintro ρ59 w60 hj61 ⟨f37, f36, _⟩
              have hst := hj61.2
              refine go_yes 36 rfl (f36.trans (congrArg Value.bool b13)) (op_call Try.call19 (evs_cons (v := (.int .u64 ((get c 0).1))) f37 evs_nil) (c_Put (w0 := w60) (n := (get c 0).1) (h0 := (by omega)) (h1 := (by omega))) ?_)
              rintro _ w63 ⟨r62, rfl, hcall⟩
              refine ⟨_, rfl, ?_⟩
              exact kD hj61 hcall (hcall.sl 0 rfl)
            · rintro ρ64 w65 hj66 ⟨f38, f36, _⟩
              have hst := hj66.2
              have hs69 : Sl w65 u8E _ (put ((get c 0).1)) := f38
              exact go_yes 36 rfl (f36.trans (congrArg Value.bool b13)) (op_str (xs := (put ((get c 0).1))) Try.underlying22 Try.underlying5 Try.underlying9 rfl hs69 (kS hj66 rfl))
            · rintro ρ70 w71 hj72 ⟨f2, f36, _⟩
              have hst := hj72.2
              exact go_yes 36 rfl (f36.trans (congrArg Value.bool b13)) (op_move v_c (f2.trans rfl) (kS hj72 rfl))
            · rintro ρ73 w74 hj75 ⟨f8, f36, _⟩
              have hst := hj75.2
              exact go_yes 36 rfl (f36.trans (congrArg Value.bool b13)) (op_move (.int .i64 ((get c 0).2.1)) (f8.trans rfl) (kS hj75 rfl))
            · rintro ρ76 w77 hj78 ⟨f40, f41, f36, _⟩
              have hst := hj78.2
              refine go_yes 36 rfl (f36.trans (congrArg Value.bool b13)) (op_slice_toN (Int.toNat ((get c 0).2.1)) (E := u8E) (xs := c) Try.underlying22 Try.sizeOf5 f40 h_c f41 (by omega) (by omega) (fun v79 hs80 => ?_))
              exact kS hj78 (hs80.below hst.below)
            · rintro ρ81 w82 hj83 ⟨f42, f36, _⟩
              have hst := hj83.2
              have hs86 : Sl w82 u8E _ (c.take (Int.toNat ((get c 0).2.1))) := f42
              exact go_yes 36 rfl (f36.trans (congrArg Value.bool b13)) (op_str (xs := (c.take (Int.toNat ((get c 0).2.1)))) Try.underlying22 Try.underlying5 Try.underlying9 rfl hs86 (kS hj83 rfl))
            · rintro ρ87 w88 hj89 ⟨f39, f43, f36, _⟩
              have hst := hj89.2
              exact go_yes 36 rfl (f36.trans (congrArg Value.bool b13)) (op_neqStr (a := (put ((get c 0).1))) (b := (c.take (Int.toNat ((get c 0).2.1)))) f39 f43 (kS hj89 rfl))
            · rintro ρ90 w91 hj92 ⟨f36, f44, f27, _⟩
              have hst := hj92.2
              exact go_yes 27 rfl (f27.trans (congrArg Value.bool b8)) (op_pick_f (.bool (!decide ((put ((get c 0).1)) = (c.take (Int.toNat ((get c 0).2.1)))))) (f36.trans (congrArg Value.bool b13)) f44 (kS hj92 rfl))
            · rintro ρ93 w94 hj95 ⟨f27, f45, _⟩
              have hst := hj95.2
              exact go_plain (op_pick_t (.bool (!decide ((put ((get c 0).1)) = (c.take (Int.toNat ((get c 0).2.1)))))) (f27.trans (congrArg Value.bool b8)) f45 (kS hj95 rfl))
            · intro ρ96 w97 hbw97 hst hRw97 hkw97
              have uw97_0 : ρ96 0 = (.int .u64 b) := (hkw97 0 rfl).trans rfl
              have uw97_1 : ρ96 1 = (.int .u64 a) := (hkw97 1 rfl).trans rfl
              have uw97_2 : ρ96 2 = v_c := (hkw97 2 rfl).trans rfl
              have uw97_6 : ρ96 6 = (.bool false) := (hkw97 6 rfl).trans rfl
              have uw97_10 : ρ96 10 = (.int .u64 a) := (hkw97 10 rfl).trans rfl
              have uw97_11 : ρ96 11 = (.int .u64 b) := (hkw97 11 rfl).trans rfl
              have uw97_12 : ρ96 12 = (.bool (decide (b < a))) := (hkw97 12 rfl).trans rfl
              have uw97_13 : ρ96 13 = (.int .u64 b) := (hkw97 13 rfl).trans rfl
              have uw97_14 : ρ96 14 = (.int .u64 a) := (hkw97 14 rfl).trans rfl
              have uw97_15 : ρ96 15 = v_c := (hkw97 15 rfl).trans rfl
              have uw97_16 : ρ96 16 = (.int .i64 (c.length : Int)) := (hkw97 16 rfl).trans rfl
              have uw97_17 : ρ96 17 = (.bool (decide (12 < (c.length : Int)))) := (hkw97 17 rfl).trans rfl
              have uw97_20 : ρ96 20 = v_c := (hkw97 20 rfl).trans rfl
              have uw97_21 : ρ96 21 = (.tuple #[(.int .u64 ((get c 0).1)), (.int .i64 ((get c 0).2.1)), (.int .i64 ((get c 0).2.2))]) := (hkw97 21 rfl).trans rfl
              have uw97_19 : ρ96 19 = (.tuple #[(.int .u64 ((get c 0).1)), (.int .i64 ((get c 0).2.1)), (.int .i64 ((get c 0).2.2))]) := (hkw97 19 rfl).trans rfl
              have uw97_22 : ρ96 22 = (.int .u64 ((get c 0).1)) := (hkw97 22 rfl).trans rfl
              have uw97_23 : ρ96 23 = (.int .i64 ((get c 0).2.1)) := (hkw97 23 rfl).trans rfl
              have uw97_24 : ρ96 24 = (.int .i64 ((get c 0).2.2)) := (hkw97 24 rfl).trans rfl
              have uw97_46 : ρ96 46 = (.bool (!decide ((put ((get c 0).1)) = (c.take (Int.toNat ((get c 0).2.1)))))) := hRw97 21 46 rfl
              refine then_n ?_
              refine cE_cond false (uw97_46.trans (congrArg Value.bool (congrArg (! ·) (show (decide ((put ((get c 0).1)) = (c.take (Int.toNat ((get c 0).2.1))))) = true from (decide_eq_true hgi.2.2.2.2))))) (fun h => by cases h) (fun _ => ?_)
              refine cE_skip ?_
              refine then_n ?_
              refine cE_seq ?_
              refine cE_region rfl ?_
              refine s_cons (op_call Try.call20 evs_nil (c_told1 (w0 := w97)) ?_)
              rintro _ w98 ⟨rfl, hcall⟩
              refine ⟨_, rfl, ?_⟩
              have hst : St w0 w98 [] := hst.call hcall
              refine s_cons (op_move (.bool true) rfl ?_)
              refine s_yes 48 rfl rfl (op_move (.int .u64 b) uw97_0 ?_)
              refine s_yes 48 rfl rfl (op_call Try.call28 (evs_cons (v := (.int .u64 b)) rfl evs_nil) (c_Size (w0 := w98) (n := b) (h0 := (by omega)) (h1 := (by omega))) ?_)
              rintro _ w99 ⟨rfl, hcall⟩
              refine ⟨_, rfl, ?_⟩
              have hst : St w0 w99 [] := hst.call hcall
              refine s_yes 48 rfl rfl (op_move (.int .u64 a) uw97_1 ?_)
              refine s_yes 48 rfl rfl (op_call Try.call28 (evs_cons (v := (.int .u64 a)) rfl evs_nil) (c_Size (w0 := w99) (n := a) (h0 := (by omega)) (h1 := (by omega))) ?_)
              rintro _ w100 ⟨rfl, hcall⟩
              refine ⟨_, rfl, ?_⟩
              have hst : St w0 w100 [] := hst.call hcall
              refine s_yes 48 rfl rfl (op_leq (k := .i64) (a := ((put b).length : Int)) (b := ((put a).length : Int)) rfl rfl ?_)
              refine s_cons (op_pick_t (.bool (decide (((put b).length : Int) ≤ ((put a).length : Int)))) rfl rfl ?_)
              refine s_cons (op_move (.bool (decide (((put b).length : Int) ≤ ((put a).length : Int)))) rfl ?_)
              refine s_yes 55 rfl (congrArg Value.bool (show (decide (((put b).length : Int) ≤ ((put a).length : Int))) = true from (by first | exact decide_eq_true (by have := put_mono (a := a) (b := b) (by omega); omega) | exact decide_eq_true (by have := put_mono (a := b) (b := a) (by omega); omega)))) (op_move (.int .u64 b) uw97_0 ?_)
              refine s_yes 55 rfl (congrArg Value.bool (show (decide (((put b).length : Int) ≤ ((put a).length : Int))) = true from (by first | exact decide_eq_true (by have := put_mono (a := a) (b := b) (by omega); omega) | exact decide_eq_true (by have := put_mono (a := b) (b := a) (by omega); omega)))) (op_call Try.call28 (evs_cons (v := (.int .u64 b)) rfl evs_nil) (c_Size (w0 := w100) (n := b) (h0 := (by omega)) (h1 := (by omega))) ?_)
              rintro _ w101 ⟨rfl, hcall⟩
              refine ⟨_, rfl, ?_⟩
              have hst : St w0 w101 [] := hst.call hcall
              refine s_yes 55 rfl (congrArg Value.bool (show (decide (((put b).length : Int) ≤ ((put a).length : Int))) = true from (by first | exact decide_eq_true (by have := put_mono (a := a) (b := b) (by omega); omega) | exact decide_eq_true (by have := put_mono (a := b) (b := a) (by omega); omega)))) (op_geq (k := .i64) (a := ((put b).length : Int)) (b := 1) rfl rfl ?_)
              refine s_cons (op_pick_t (.bool (decide (1 ≤ ((put b).length : Int)))) (congrArg Value.bool (show (decide (((put b).length : Int) ≤ ((put a).length : Int))) = true from (by first | exact decide_eq_true (by have := put_mono (a := a) (b := b) (by omega); omega) | exact decide_eq_true (by have := put_mono (a := b) (b := a) (by omega); omega)))) rfl ?_)
              refine s_cons (op_move (.bool (decide (1 ≤ ((put b).length : Int)))) rfl ?_)
              refine s_yes 60 rfl (congrArg Value.bool (show (decide (1 ≤ ((put b).length : Int))) = true from (decide_eq_true (by omega)))) (op_move (.int .u64 a) uw97_1 ?_)
              refine s_yes 60 rfl (congrArg Value.bool (show (decide (1 ≤ ((put b).length : Int))) = true from (decide_eq_true (by omega)))) (op_call Try.call28 (evs_cons (v := (.int .u64 a)) rfl evs_nil) (c_Size (w0 := w101) (n := a) (h0 := (by omega)) (h1 := (by omega))) ?_)
              rintro _ w102 ⟨rfl, hcall⟩
              refine ⟨_, rfl, ?_⟩
              have hst : St w0 w102 [] := hst.call hcall
              refine s_yes 60 rfl (congrArg Value.bool (show (decide (1 ≤ ((put b).length : Int))) = true from (decide_eq_true (by omega)))) (op_leq (k := .i64) (a := ((put a).length : Int)) (b := 10) rfl rfl ?_)
              refine s_cons (op_pick_t (.bool (decide (((put a).length : Int) ≤ 10))) (congrArg Value.bool (show (decide (1 ≤ ((put b).length : Int))) = true from (decide_eq_true (by omega)))) rfl ?_)
              refine s_cons (op_move (.bool (decide (((put a).length : Int) ≤ 10))) rfl ?_)
              rcases Bool.eq_false_or_eq_true (decide (((put a).length : Int) ≤ 10)) with b103 | b103
              · have c104 : ((put a).length : Int) ≤ 10 := of_decide_eq_true b103
                refine s_yes 65 rfl (congrArg Value.bool b103) (op_move (.int .u64 b) uw97_0 ?_)
                refine s_yes 65 rfl (congrArg Value.bool b103) (op_call Try.call19 (evs_cons (v := (.int .u64 b)) rfl evs_nil) (c_Put (w0 := w102) (n := b) (h0 := (by omega)) (h1 := (by omega))) ?_)
                rintro _ w106 ⟨r105, rfl, hcall⟩
                refine ⟨_, rfl, ?_⟩
                have hst : St w0 w106 [rowT 5 u8E r105 (put b)] := hst.call hcall
                refine s_yes 65 rfl (congrArg Value.bool b103) (op_len (E := u8E) (xs := (put b)) Try.underlying22 rfl (hst.sl 0 rfl) ?_)
                refine s_yes 65 rfl (congrArg Value.bool b103) (op_move (.int .u64 b) uw97_0 ?_)
                refine s_yes 65 rfl (congrArg Value.bool b103) (op_call Try.call28 (evs_cons (v := (.int .u64 b)) rfl evs_nil) (c_Size (w0 := w106) (n := b) (h0 := (by omega)) (h1 := (by omega))) ?_)
                rintro _ w107 ⟨rfl, hcall⟩
                refine ⟨_, rfl, ?_⟩
                have hst : St w0 w107 [rowT 5 u8E r105 (put b)] := hst.call hcall
                refine s_yes 65 rfl (congrArg Value.bool b103) (op_eql (k := .i64) (a := ((put b).length : Int)) (b := ((put b).length : Int)) rfl rfl ?_)
                refine s_cons (op_pick_t (.bool (decide (((put b).length : Int) = ((put b).length : Int)))) (congrArg Value.bool b103) rfl ?_)
                refine s_cons (op_assign (.bool (decide (((put b).length : Int) = ((put b).length : Int)))) rfl ?_)
                refine s_nil ?_
                refine then_n ?_
                refine cE_ret ?_
                refine post_r _ (res1 (v := (.bool true)) (congrArg Value.bool (show (decide (((put b).length : Int) = ((put b).length : Int))) = true from (decide_eq_true rfl)))) ?_
                exact ⟨rfl, hst.bare⟩
              · have c108 : ¬ (((put a).length : Int) ≤ 10) := of_decide_eq_false b103
                refine s_no 65 rfl (congrArg Value.bool b103) ?_
                refine s_no 65 rfl (congrArg Value.bool b103) ?_
                refine s_no 65 rfl (congrArg Value.bool b103) ?_
                refine s_no 65 rfl (congrArg Value.bool b103) ?_
                refine s_no 65 rfl (congrArg Value.bool b103) ?_
                refine s_no 65 rfl (congrArg Value.bool b103) ?_
                refine s_cons (op_pick_f (.bool false) (congrArg Value.bool b103) rfl ?_)
                refine s_cons (op_assign (.bool false) rfl ?_)
                refine s_nil ?_
                refine then_n ?_
                refine cE_ret ?_
                refine post_r _ (res1 (v := (.bool false)) rfl) ?_
                exact ⟨(retv1 (congrArg Value.bool (show false = true from by omega))), hst.bare⟩
      · have c109 : ¬ (((get c 0).2.2) = 0) := of_decide_eq_false b8
        refine cE_regionL hst [[(9, none)], [(25, some 0)], [(26, some 1)], [(8, none), (27, some 2)], [(28, some 3), (27, some 2)], [(29, some 4), (27, some 2)], [(8, none), (30, some 5)], [(2, none), (30, some 5)], [(32, some 7), (30, some 5)], [(31, some 6), (33, some 8), (30, some 5)], [(30, some 5), (34, some 9), (27, some 2)], [(35, some 10), (27, some 2)], [(7, none), (36, some 11)], [(37, some 12), (36, some 11)], [(38, some 13), (36, some 11)], [(2, none), (36, some 11)], [(8, none), (36, some 11)], [(40, some 15), (41, some 16), (36, some 11)], [(42, some 17), (36, some 11)], [(39, some 14), (43, some 18), (36, some 11)], [(36, some 11), (44, some 19), (27, some 2)], [(27, some 2), (45, some 20)]] [(rEq (.int .i64 ((get c 0).2.2))), (rEq (.bool (decide (((get c 0).2.2) = 0)))), (rEq (.bool (decide (((get c 0).2.2) = 0)))), (rEq undef), (rEq undef), (rEq undef), (rEq undef), (rEq undef), (rEq undef), (rEq undef), (rEq undef), (rEq undef), (rEq undef), (rEq undef), (rEq undef), (rEq undef), (rEq undef), (rEq undef), (rEq undef), (rEq undef), (rEq undef), (rEq (.bool false))] (by kernel_rfl) rfl (by kernel_rfl) ⟨sEq, sEq, sEq, sEq, sEq, sEq, sEq, sEq, sEq, sEq, sEq, sEq, sEq, sEq, sEq, sEq, sEq, sEq, sEq, sEq, sEq, sEq, trivial⟩ ⟨?_, ?_, ?_, ?_, ?_, ?_, ?_, ?_, ?_, ?_, ?_, ?_, ?_, ?_, ?_, ?_, ?_, ?_, ?_, ?_, ?_, ?_, trivial⟩ ?_
        · rintro ρ110 w111 hj112 ⟨f9, _⟩
          have hst := hj112.2
          exact go_plain (op_move (.int .i64 ((get c 0).2.2)) (f9.trans rfl) (kS hj112 rfl))
        · rintro ρ113 w114 hj115 ⟨f25, _⟩
          have hst := hj115.2
          exact go_plain (op_eql (k := .i64) (a := (get c 0).2.2) (b := 0) f25 rfl (kS hj115 rfl))
        · rintro ρ116 w117 hj118 ⟨f26, _⟩
          have hst := hj118.2
          exact go_plain (op_move (.bool (decide (((get c 0).2.2) = 0))) f26 (kS hj118 rfl))
        · rintro ρ119 w120 hj121 ⟨f8, f27, _⟩
          have hst := hj121.2
          exact go_no 27 rfl (f27.trans (congrArg Value.bool b8)) (kS hj121 rfl)
        · rintro ρ122 w123 hj124 ⟨f28, f27, _⟩
          have hst := hj124.2
          exact go_no 27 rfl (f27.trans (congrArg Value.bool b8)) (kS hj124 rfl)
        · rintro ρ125 w126 hj127 ⟨f29, f27, _⟩
          have hst := hj127.2
          exact go_no 27 rfl (f27.trans (congrArg Value.bool b8)) (kS hj127 rfl)
        · rintro ρ128 w129 hj130 ⟨f8, f30, _⟩
          have hst := hj130.2
          exact go_un 30 rfl f30 (kS hj130 rfl)
        · rintro ρ131 w132 hj133 ⟨f2, f30, _⟩
          have hst := hj133.2
          exact go_un 30 rfl f30 (kS hj133 rfl)
        · rintro ρ134 w135 hj136 ⟨f32, f30, _⟩
          have hst := hj136.2
          exact go_un 30 rfl f30 (kS hj136 rfl)
        · rintro ρ137 w138 hj139 ⟨f31, f33, f30, _⟩
          have hst := hj139.2
          exact go_un 30 rfl f30 (kS hj139 rfl)
        · rintro ρ140 w141 hj142 ⟨f30, f34, f27, _⟩
          have hst := hj142.2
          exact go_no 27 rfl (f27.trans (congrArg Value.bool b8)) (kS hj142 rfl)
        · rintro ρ143 w144 hj145 ⟨f35, f27, _⟩
          have hst := hj145.2
          exact go_no 27 rfl (f27.trans (congrArg Value.bool b8)) (kS hj145 rfl)
        · rintro ρ146 w147 hj148 ⟨f7, f36, _⟩
          have hst := hj148.2
          exact go_un 36 rfl f36 (kS hj148 rfl)
        · rintro ρ149 w150 hj151 ⟨f37, f36, _⟩
          have hst := hj151.2
          exact go_un 36 rfl f36 (kS hj151 rfl)
        · rintro ρ152 w153 hj154 ⟨f38, f36, _⟩
          have hst := hj154.2
          exact go_un 36 rfl f36 (kS hj154 rfl)
        · rintro ρ155 w156 hj157 ⟨f2, f36, _⟩
          have hst := hj157.2
          exact go_un 36 rfl f36 (kS hj157 rfl)
        · rintro ρ158 w159 hj160 ⟨f8, f36, _⟩
          have hst := hj160.2
          exact go_un 36 rfl f36 (kS hj160 rfl)
        · rintro ρ161 w162 hj163 ⟨f40, f41, f36, _⟩
          have hst := hj163.2
          exact go_un 36 rfl f36 (kS hj163 rfl)
        · rintro ρ164 w165 hj166 ⟨f42, f36, _⟩
          have hst := hj166.2
          exact go_un 36 rfl f36 (kS hj166 rfl)
        · rintro ρ167 w168 hj169 ⟨f39, f43, f36, _⟩
          have hst := hj169.2
          exact go_un 36 rfl f36 (kS hj169 rfl)
        · rintro ρ170 w171 hj172 ⟨f36, f44, f27, _⟩
          have hst := hj172.2
          exact go_no 27 rfl (f27.trans (congrArg Value.bool b8)) (kS hj172 rfl)
        · rintro ρ173 w174 hj175 ⟨f27, f45, _⟩
          have hst := hj175.2
          exact go_plain (op_pick_f (.bool false) (f27.trans (congrArg Value.bool b8)) rfl (kS hj175 rfl))
        · intro ρ176 w177 hbw177 hst hRw177 hkw177
          have uw177_0 : ρ176 0 = (.int .u64 b) := (hkw177 0 rfl).trans rfl
          have uw177_1 : ρ176 1 = (.int .u64 a) := (hkw177 1 rfl).trans rfl
          have uw177_2 : ρ176 2 = v_c := (hkw177 2 rfl).trans rfl
          have uw177_6 : ρ176 6 = (.bool false) := (hkw177 6 rfl).trans rfl
          have uw177_10 : ρ176 10 = (.int .u64 a) := (hkw177 10 rfl).trans rfl
          have uw177_11 : ρ176 11 = (.int .u64 b) := (hkw177 11 rfl).trans rfl
          have uw177_12 : ρ176 12 = (.bool (decide (b < a))) := (hkw177 12 rfl).trans rfl
          have uw177_13 : ρ176 13 = (.int .u64 b) := (hkw177 13 rfl).trans rfl
          have uw177_14 : ρ176 14 = (.int .u64 a) := (hkw177 14 rfl).trans rfl
          have uw177_15 : ρ176 15 = v_c := (hkw177 15 rfl).trans rfl
          have uw177_16 : ρ176 16 = (.int .i64 (c.length : Int)) := (hkw177 16 rfl).trans rfl
          have uw177_17 : ρ176 17 = (.bool (decide (12 < (c.length : Int)))) := (hkw177 17 rfl).trans rfl
          have uw177_20 : ρ176 20 = v_c := (hkw177 20 rfl).trans rfl
          have uw177_21 : ρ176 21 = (.tuple #[(.int .u64 ((get c 0).1)), (.int .i64 ((get c 0).2.1)), (.int .i64 ((get c 0).2.2))]) := (hkw177 21 rfl).trans rfl
          have uw177_19 : ρ176 19 = (.tuple #[(.int .u64 ((get c 0).1)), (.int .i64 ((get c 0).2.1)), (.int .i64 ((get c 0).2.2))]) := (hkw177 19 rfl).trans rfl
          have uw177_22 : ρ176 22 = (.int .u64 ((get c 0).1)) := (hkw177 22 rfl).trans rfl
          have uw177_23 : ρ176 23 = (.int .i64 ((get c 0).2.1)) := (hkw177 23 rfl).trans rfl
          have uw177_24 : ρ176 24 = (.int .i64 ((get c 0).2.2)) := (hkw177 24 rfl).trans rfl
          have uw177_46 : ρ176 46 = (.bool false) := hRw177 21 46 rfl
          refine then_n ?_
          refine cE_cond false uw177_46 (fun h => by cases h) (fun _ => ?_)
          refine cE_skip ?_
          refine then_n ?_
          refine cE_seq ?_
          refine cE_region rfl ?_
          refine s_cons (op_call Try.call20 evs_nil (c_told1 (w0 := w177)) ?_)
          rintro _ w178 ⟨rfl, hcall⟩
          refine ⟨_, rfl, ?_⟩
          have hst : St w0 w178 [] := hst.call hcall
          refine s_cons (op_move (.bool true) rfl ?_)
          refine s_yes 48 rfl rfl (op_move (.int .u64 b) uw177_0 ?_)
          refine s_yes 48 rfl rfl (op_call Try.call28 (evs_cons (v := (.int .u64 b)) rfl evs_nil) (c_Size (w0 := w178) (n := b) (h0 := (by omega)) (h1 := (by omega))) ?_)
          rintro _ w179 ⟨rfl, hcall⟩
          refine ⟨_, rfl, ?_⟩
          have hst : St w0 w179 [] := hst.call hcall
          refine s_yes 48 rfl rfl (op_move (.int .u64 a) uw177_1 ?_)
          refine s_yes 48 rfl rfl (op_call Try.call28 (evs_cons (v := (.int .u64 a)) rfl evs_nil) (c_Size (w0 := w179) (n := a) (h0 := (by omega)) (h1 := (by omega))) ?_)
          rintro _ w180 ⟨rfl, hcall⟩
          refine ⟨_, rfl, ?_⟩
          have hst : St w0 w180 [] := hst.call hcall
          refine s_yes 48 rfl rfl (op_leq (k := .i64) (a := ((put b).length : Int)) (b := ((put a).length : Int)) rfl rfl ?_)
          refine s_cons (op_pick_t (.bool (decide (((put b).length : Int) ≤ ((put a).length : Int)))) rfl rfl ?_)
          refine s_cons (op_move (.bool (decide (((put b).length : Int) ≤ ((put a).length : Int)))) rfl ?_)
          refine s_yes 55 rfl (congrArg Value.bool (show (decide (((put b).length : Int) ≤ ((put a).length : Int))) = true from (by first | exact decide_eq_true (by have := put_mono (a := a) (b := b) (by omega); omega) | exact decide_eq_true (by have := put_mono (a := b) (b := a) (by omega); omega)))) (op_move (.int .u64 b) uw177_0 ?_)
          refine s_yes 55 rfl (congrArg Value.bool (show (decide (((put b).length : Int) ≤ ((put a).length : Int))) = true from (by first | exact decide_eq_true (by have := put_mono (a := a) (b := b) (by omega); omega) | exact decide_eq_true (by have := put_mono (a := b) (b := a) (by omega); omega)))) (op_call Try.call28 (evs_cons (v := (.int .u64 b)) rfl evs_nil) (c_Size (w0 := w180) (n := b) (h0 := (by omega)) (h1 := (by omega))) ?_)
          rintro _ w181 ⟨rfl, hcall⟩
          refine ⟨_, rfl, ?_⟩
          have hst : St w0 w181 [] := hst.call hcall
          refine s_yes 55 rfl (congrArg Value.bool (show (decide (((put b).length : Int) ≤ ((put a).length : Int))) = true from (by first | exact decide_eq_true (by have := put_mono (a := a) (b := b) (by omega); omega) | exact decide_eq_true (by have := put_mono (a := b) (b := a) (by omega); omega)))) (op_geq (k := .i64) (a := ((put b).length : Int)) (b := 1) rfl rfl ?_)
          refine s_cons (op_pick_t (.bool (decide (1 ≤ ((put b).length : Int)))) (congrArg Value.bool (show (decide (((put b).length : Int) ≤ ((put a).length : Int))) = true from (by first | exact decide_eq_true (by have := put_mono (a := a) (b := b) (by omega); omega) | exact decide_eq_true (by have := put_mono (a := b) (b := a) (by omega); omega)))) rfl ?_)
          refine s_cons (op_move (.bool (decide (1 ≤ ((put b).length : Int)))) rfl ?_)
          refine s_yes 60 rfl (congrArg Value.bool (show (decide (1 ≤ ((put b).length : Int))) = true from (decide_eq_true (by omega)))) (op_move (.int .u64 a) uw177_1 ?_)
          refine s_yes 60 rfl (congrArg Value.bool (show (decide (1 ≤ ((put b).length : Int))) = true from (decide_eq_true (by omega)))) (op_call Try.call28 (evs_cons (v := (.int .u64 a)) rfl evs_nil) (c_Size (w0 := w181) (n := a) (h0 := (by omega)) (h1 := (by omega))) ?_)
          rintro _ w182 ⟨rfl, hcall⟩
          refine ⟨_, rfl, ?_⟩
          have hst : St w0 w182 [] := hst.call hcall
          refine s_yes 60 rfl (congrArg Value.bool (show (decide (1 ≤ ((put b).length : Int))) = true from (decide_eq_true (by omega)))) (op_leq (k := .i64) (a := ((put a).length : Int)) (b := 10) rfl rfl ?_)
          refine s_cons (op_pick_t (.bool (decide (((put a).length : Int) ≤ 10))) (congrArg Value.bool (show (decide (1 ≤ ((put b).length : Int))) = true from (decide_eq_true (by omega)))) rfl ?_)
          refine s_cons (op_move (.bool (decide (((put a).length : Int) ≤ 10))) rfl ?_)
          rcases Bool.eq_false_or_eq_true (decide (((put a).length : Int) ≤ 10)) with b183 | b183
          · have c184 : ((put a).length : Int) ≤ 10 := of_decide_eq_true b183
            refine s_yes 65 rfl (congrArg Value.bool b183) (op_move (.int .u64 b) uw177_0 ?_)
            refine s_yes 65 rfl (congrArg Value.bool b183) (op_call Try.call19 (evs_cons (v := (.int .u64 b)) rfl evs_nil) (c_Put (w0 := w182) (n := b) (h0 := (by omega)) (h1 := (by omega))) ?_)
            rintro _ w186 ⟨r185, rfl, hcall⟩
            refine ⟨_, rfl, ?_⟩
            have hst : St w0 w186 [rowT 5 u8E r185 (put b)] := hst.call hcall
            refine s_yes 65 rfl (congrArg Value.bool b183) (op_len (E := u8E) (xs := (put b)) Try.underlying22 rfl (hst.sl 0 rfl) ?_)
            refine s_yes 65 rfl (congrArg Value.bool b183) (op_move (.int .u64 b) uw177_0 ?_)
            refine s_yes 65 rfl (congrArg Value.bool b183) (op_call Try.call28 (evs_cons (v := (.int .u64 b)) rfl evs_nil) (c_Size (w0 := w186) (n := b) (h0 := (by omega)) (h1 := (by omega))) ?_)
            rintro _ w187 ⟨rfl, hcall⟩
            refine ⟨_, rfl, ?_⟩
            have hst : St w0 w187 [rowT 5 u8E r185 (put b)] := hst.call hcall
            refine s_yes 65 rfl (congrArg Value.bool b183) (op_eql (k := .i64) (a := ((put b).length : Int)) (b := ((put b).length : Int)) rfl rfl ?_)
            refine s_cons (op_pick_t (.bool (decide (((put b).length : Int) = ((put b).length : Int)))) (congrArg Value.bool b183) rfl ?_)
            refine s_cons (op_assign (.bool (decide (((put b).length : Int) = ((put b).length : Int)))) rfl ?_)
            refine s_nil ?_
            refine then_n ?_
            refine cE_ret ?_
            refine post_r _ (res1 (v := (.bool true)) (congrArg Value.bool (show (decide (((put b).length : Int) = ((put b).length : Int))) = true from (decide_eq_true rfl)))) ?_
            exact ⟨rfl, hst.bare⟩
          · have c188 : ¬ (((put a).length : Int) ≤ 10) := of_decide_eq_false b183
            refine s_no 65 rfl (congrArg Value.bool b183) ?_
            refine s_no 65 rfl (congrArg Value.bool b183) ?_
            refine s_no 65 rfl (congrArg Value.bool b183) ?_
            refine s_no 65 rfl (congrArg Value.bool b183) ?_
            refine s_no 65 rfl (congrArg Value.bool b183) ?_
            refine s_no 65 rfl (congrArg Value.bool b183) ?_
            refine s_cons (op_pick_f (.bool false) (congrArg Value.bool b183) rfl ?_)
            refine s_cons (op_assign (.bool false) rfl ?_)
            refine s_nil ?_
            refine then_n ?_
            refine cE_ret ?_
            refine post_r _ (res1 (v := (.bool false)) rfl) ?_
            exact ⟨(retv1 (congrArg Value.bool (show false = true from by omega))), hst.bare⟩
  · have c189 : ¬ (b < a) := of_decide_eq_false b1
    refine cE_cond false (congrArg Value.bool b1) (fun h => by cases h) (fun _ => ?_)
    refine cE_skip ?_
    refine then_n ?_
    refine cE_seq ?_
    refine cE_seq ?_
    refine cE_region rfl ?_
    refine s_cons (op_move v_c rfl ?_)
    refine s_cons (op_len (E := u8E) (xs := c) Try.underlying22 rfl h_c ?_)
    refine s_cons (op_gtr (k := .i64) (a := (c.length : Int)) (b := 12) rfl rfl ?_)
    refine s_nil ?_
    refine then_n ?_
    rcases Bool.eq_false_or_eq_true (decide (12 < (c.length : Int))) with b190 | b190
    · have c191 : 12 < (c.length : Int) := of_decide_eq_true b190
      refine cE_cond true (congrArg Value.bool b190) (fun _ => ?_) (fun h => by cases h)
      refine cE_seq ?_
      refine cE_region rfl ?_
      refine s_cons (op_call Try.call20 evs_nil (c_told1 (w0 := w0)) ?_)
      rintro _ w192 ⟨rfl, hcall⟩
      refine ⟨_, rfl, ?_⟩
      have hst : St w0 w192 [] := hst.call hcall
      refine s_cons (op_assign (.bool true) rfl ?_)
      refine s_nil ?_
      refine then_n ?_
      refine cE_ret ?_
      refine then_r ?_
      refine post_r _ (res1 (v := (.bool true)) rfl) ?_
      exact ⟨rfl, hst.bare⟩
    · have c193 : ¬ (12 < (c.length : Int)) := of_decide_eq_false b190
      refine cE_cond false (congrArg Value.bool b190) (fun h => by cases h) (fun _ => ?_)
      refine cE_skip ?_
      refine then_n ?_
      refine cE_seq ?_
      refine cE_region rfl ?_
      refine s_cons (op_move v_c rfl ?_)
      refine s_cons (op_call Try.call21 (evs_cons (v := v_c) rfl (evs_cons (v := (.int .i64 0)) rfl evs_nil)) (c_Get (w0 := w0) (v_b := v_c) (b := c) (h_b := (h_c.below hst.below)) (at_ := 0) (hl := (by omega))) ?_)
      rintro _ w194 ⟨rfl, hcall⟩
      refine ⟨_, rfl, ?_⟩
      have hst : St w0 w194 [] := hst.call hcall
      refine s_cons (op_move (.tuple #[(.int .u64 ((get c 0).1)), (.int .i64 ((get c 0).2.1)), (.int .i64 ((get c 0).2.2))]) rfl ?_)
      refine s_cons (op_extract (.int .u64 ((get c 0).1)) rfl rfl ?_)
      refine s_cons (op_extract (.int .i64 ((get c 0).2.1)) rfl rfl ?_)
      refine s_cons (op_extract (.int .i64 ((get c 0).2.2)) rfl rfl ?_)
      refine s_cons (op_assign (.int .u64 ((get c 0).1)) rfl ?_)
      refine s_cons (op_assign (.int .i64 ((get c 0).2.1)) rfl ?_)
      refine s_cons (op_assign (.int .i64 ((get c 0).2.2)) rfl ?_)
      refine s_nil ?_
      refine then_n ?_
      refine cE_seq ?_
      refine cE_seq ?_
      rcases Bool.eq_false_or_eq_true (decide (((get c 0).2.2) = 0)) with b195 | b195
      · have c196 : ((get c 0).2.2) = 0 := of_decide_eq_true b195
        have hgi := get_inv2 c196
        have hgi := get_inv2 c196
        rcases Bool.eq_false_or_eq_true (decide (((get c 0).2.1) < 1)) with b197 | b197
        · have c198 : ((get c 0).2.1) < 1 := of_decide_eq_true b197
          exfalso; omega
        · have c199 : ¬ (((get c 0).2.1) < 1) := of_decide_eq_false b197
          rcases Bool.eq_false_or_eq_true (decide ((c.length : Int) < ((get c 0).2.1))) with b200 | b200
          · have c201 : (c.length : Int) < ((get c 0).2.1) := of_decide_eq_true b200
            exfalso; omega
          · have c202 : ¬ ((c.length : Int) < ((get c 0).2.1)) := of_decide_eq_false b200
            refine cE_regionL hst [[(9, none)], [(25, some 0)], [(26, some 1)], [(8, none), (27, some 2)], [(28, some 3), (27, some 2)], [(29, some 4), (27, some 2)], [(8, none), (30, some 5)], [(2, none), (30, some 5)], [(32, some 7), (30, some 5)], [(31, some 6), (33, some 8), (30, some 5)], [(30, some 5), (34, some 9), (27, some 2)], [(35, some 10), (27, some 2)], [(7, none), (36, some 11)], [(37, some 12), (36, some 11)], [(38, some 13), (36, some 11)], [(2, none), (36, some 11)], [(8, none), (36, some 11)], [(40, some 15), (41, some 16), (36, some 11)], [(42, some 17), (36, some 11)], [(39, some 14), (43, some 18), (36, some 11)], [(36, some 11), (44, some 19), (27, some 2)], [(27, some 2), (45, some 20)]] [(rEq (.int .i64 ((get c 0).2.2))), (rEq (.bool (decide (((get c 0).2.2) = 0)))), (rEq (.bool (decide (((get c 0).2.2) = 0)))), (rEq (.int .i64 ((get c 0).2.1))), (rEq (.bool (decide (((get c 0).2.1) < 1)))), (rEq (.bool (decide (((get c 0).2.1) < 1)))), (rEq (.int .i64 ((get c 0).2.1))), (rEq v_c), (rEq (.int .i64 (c.length : Int))), (rEq (.bool (decide ((c.length : Int) < ((get c 0).2.1))))), (rEq (.bool (decide ((c.length : Int) < ((get c 0).2.1))))), (rEq (.bool (decide ((c.length : Int) < ((get c 0).2.1))))), (rEq (.int .u64 ((get c 0).1))), (rSl u8E (put ((get c 0).1))), (rEq (.string (str (put ((get c 0).1))))), (rEq v_c), (rEq (.int .i64 ((get c 0).2.1))), (rSl u8E (c.take (Int.toNat ((get c 0).2.1)))), (rEq (.string (str (c.take (Int.toNat ((get c 0).2.1)))))), (rEq (.bool (!decide ((put ((get c 0).1)) = (c.take (Int.toNat ((get c 0).2.1))))))), (rEq (.bool (!decide ((put ((get c 0).1)) = (c.take (Int.toNat ((get c 0).2.1))))))), (rEq (.bool (!decide ((put ((get c 0).1)) = (c.take (Int.toNat ((get c 0).2.1)))))))] (by kernel_rfl) rfl (by kernel_rfl) ⟨sEq, sEq, sEq, sEq, sEq, sEq, sEq, sEq, sEq, sEq, sEq, sEq, sEq, sSl, sEq, sEq, sEq, sSl, sEq, sEq, sEq, sEq, trivial⟩ ⟨?_, ?_, ?_, ?_, ?_, ?_, ?_, ?_, ?_, ?_, ?_, ?_, ?_, ?_, ?_, ?_, ?_, ?_, ?_, ?_, ?_, ?_, trivial⟩ ?_
            · rintro ρ207 w208 hj209 ⟨f9, _⟩
              have hst := hj209.2
              exact go_plain (op_move (.int .i64 ((get c 0).2.2)) (f9.trans rfl) (kS hj209 rfl))
            · rintro ρ210 w211 hj212 ⟨f25, _⟩
              have hst := hj212.2
              exact go_plain (op_eql (k := .i64) (a := (get c 0).2.2) (b := 0) f25 rfl (kS hj212 rfl))
            · rintro ρ213 w214 hj215 ⟨f26, _⟩
              have hst := hj215.2
              exact go_plain (op_move (.bool (decide (((get c 0).2.2) = 0))) f26 (kS hj215 rfl))
            · rintro ρ216 w217 hj218 ⟨f8, f27, _⟩
              have hst := hj218.2
              exact go_yes 27 rfl (f27.trans (congrArg Value.bool b195)) (op_move (.int .i64 ((get c 0).2.1)) (f8.trans rfl) (kS hj218 rfl))
            · rintro ρ219 w220 hj221 ⟨f28, f27, _⟩
              have hst := hj221.2
              exact go_yes 27 rfl (f27.trans (congrArg Value.bool b195)) (op_lss (k := .i64) (a := (get c 0).2.1) (b := 1) f28 rfl (kS hj221 rfl))
            · rintro ρ222 w223 hj224 ⟨f29, f27, _⟩
              have hst := hj224.2
              exact go_yes 27 rfl (f27.trans (congrArg Value.bool b195)) (op_move (.bool (decide (((get c 0).2.1) < 1))) f29 (kS hj224 rfl))
            · rintro ρ225 w226 hj227 ⟨f8, f30, _⟩
              have hst := hj227.2
              exact go_yes 30 rfl (f30.trans (congrArg Value.bool b197)) (op_move (.int .i64 ((get c 0).2.1)) (f8.trans rfl) (kS hj227 rfl))
            · rintro ρ228 w229 hj230 ⟨f2, f30, _⟩
              have hst := hj230.2
              exact go_yes 30 rfl (f30.trans (congrArg Value.bool b197)) (op_move v_c (f2.trans rfl) (kS hj230 rfl))
            · rintro ρ231 w232 hj233 ⟨f32, f30, _⟩
              have hst := hj233.2
              exact go_yes 30 rfl (f30.trans (congrArg Value.bool b197)) (op_len (E := u8E) (xs := c) Try.underlying22 f32 h_c (kS hj233 rfl))
            · rintro ρ234 w235 hj236 ⟨f31, f33, f30, _⟩
              have hst := hj236.2
              exact go_yes 30 rfl (f30.trans (congrArg Value.bool b197)) (op_gtr (k := .i64) (a := (get c 0).2.1) (b := (c.length : Int)) f31 f33 (kS hj236 rfl))
            · rintro ρ237 w238 hj239 ⟨f30, f34, f27, _⟩
              have hst := hj239.2
              exact go_yes 27 rfl (f27.trans (congrArg Value.bool b195)) (op_pick_f (.bool (decide ((c.length : Int) < ((get c 0).2.1)))) (f30.trans (congrArg Value.bool b197)) f34 (kS hj239 rfl))
            · rintro ρ240 w241 hj242 ⟨f35, f27, _⟩
              have hst := hj242.2
              exact go_yes 27 rfl (f27.trans (congrArg Value.bool b195)) (op_move (.bool (decide ((c.length : Int) < ((get c 0).2.1)))) f35 (kS hj242 rfl))
            · rintro ρ243 w244 hj245 ⟨f7, f36, _⟩
              have hst := hj245.2
              exact go_yes 36 rfl (f36.trans (congrArg Value.bool b200)) (op_move (.int .u64 ((get c 0).1)) (f7.trans rfl) (kS hj245 rfl))
            · rintro ρ246 w247 hj248 ⟨f37, f36, _⟩
              have hst := hj248.2
              refine go_yes 36 rfl (f36.trans (congrArg Value.bool b200)) (op_call Try.call19 (evs_cons (v := (.int .u64 ((get c 0).1))) f37 evs_nil) (c_Put (w0 := w247) (n := (get c 0).1) (h0 := (by omega)) (h1 := (by omega))) ?_)
              rintro _ w250 ⟨r249, rfl, hcall⟩
              refine ⟨_, rfl, ?_⟩
              exact kD hj248 hcall (hcall.sl 0 rfl)
            · rintro ρ251 w252 hj253 ⟨f38, f36, _⟩
              have hst := hj253.2
              have hs256 : Sl w252 u8E _ (put ((get c 0).1)) := f38
              exact go_yes 36 rfl (f36.trans (congrArg Value.bool b200)) (op_str (xs := (put ((get c 0).1))) Try.underlying22 Try.underlying5 Try.underlying9 rfl hs256 (kS hj253 rfl))
            · rintro ρ257 w258 hj259 ⟨f2, f36, _⟩
              have hst := hj259.2
              exact go_yes 36 rfl (f36.trans (congrArg Value.bool b200)) (op_move v_c (f2.trans rfl) (kS hj259 rfl))
            · rintro ρ260 w261 hj262 ⟨f8, f36, _⟩
              have hst := hj262.2
              exact go_yes 36 rfl (f36.trans (congrArg Value.bool b200)) (op_move (.int .i64 ((get c 0).2.1)) (f8.trans rfl) (kS hj262 rfl))
            · rintro ρ263 w264 hj265 ⟨f40, f41, f36, _⟩
              have hst := hj265.2
              refine go_yes 36 rfl (f36.trans (congrArg Value.bool b200)) (op_slice_toN (Int.toNat ((get c 0).2.1)) (E := u8E) (xs := c) Try.underlying22 Try.sizeOf5 f40 h_c f41 (by omega) (by omega) (fun v266 hs267 => ?_))
              exact kS hj265 (hs267.below hst.below)
            · rintro ρ268 w269 hj270 ⟨f42, f36, _⟩
              have hst := hj270.2
              have hs273 : Sl w269 u8E _ (c.take (Int.toNat ((get c 0).2.1))) := f42
              exact go_yes 36 rfl (f36.trans (congrArg Value.bool b200)) (op_str (xs := (c.take (Int.toNat ((get c 0).2.1)))) Try.underlying22 Try.underlying5 Try.underlying9 rfl hs273 (kS hj270 rfl))
            · rintro ρ274 w275 hj276 ⟨f39, f43, f36, _⟩
              have hst := hj276.2
              exact go_yes 36 rfl (f36.trans (congrArg Value.bool b200)) (op_neqStr (a := (put ((get c 0).1))) (b := (c.take (Int.toNat ((get c 0).2.1)))) f39 f43 (kS hj276 rfl))
            · rintro ρ277 w278 hj279 ⟨f36, f44, f27, _⟩
              have hst := hj279.2
              exact go_yes 27 rfl (f27.trans (congrArg Value.bool b195)) (op_pick_f (.bool (!decide ((put ((get c 0).1)) = (c.take (Int.toNat ((get c 0).2.1)))))) (f36.trans (congrArg Value.bool b200)) f44 (kS hj279 rfl))
            · rintro ρ280 w281 hj282 ⟨f27, f45, _⟩
              have hst := hj282.2
              exact go_plain (op_pick_t (.bool (!decide ((put ((get c 0).1)) = (c.take (Int.toNat ((get c 0).2.1)))))) (f27.trans (congrArg Value.bool b195)) f45 (kS hj282 rfl))
            · intro ρ283 w284 hbw284 hst hRw284 hkw284
              have uw284_0 : ρ283 0 = (.int .u64 a) := (hkw284 0 rfl).trans rfl
              have uw284_1 : ρ283 1 = (.int .u64 b) := (hkw284 1 rfl).trans rfl
              have uw284_2 : ρ283 2 = v_c := (hkw284 2 rfl).trans rfl
              have uw284_6 : ρ283 6 = (.bool false) := (hkw284 6 rfl).trans rfl
              have uw284_10 : ρ283 10 = (.int .u64 a) := (hkw284 10 rfl).trans rfl
              have uw284_11 : ρ283 11 = (.int .u64 b) := (hkw284 11 rfl).trans rfl
              have uw284_12 : ρ283 12 = (.bool (decide (b < a))) := (hkw284 12 rfl).trans rfl
              have uw284_15 : ρ283 15 = v_c := (hkw284 15 rfl).trans rfl
              have uw284_16 : ρ283 16 = (.int .i64 (c.length : Int)) := (hkw284 16 rfl).trans rfl
              have uw284_17 : ρ283 17 = (.bool (decide (12 < (c.length : Int)))) := (hkw284 17 rfl).trans rfl
              have uw284_20 : ρ283 20 = v_c := (hkw284 20 rfl).trans rfl
              have uw284_21 : ρ283 21 = (.tuple #[(.int .u64 ((get c 0).1)), (.int .i64 ((get c 0).2.1)), (.int .i64 ((get c 0).2.2))]) := (hkw284 21 rfl).trans rfl
              have uw284_19 : ρ283 19 = (.tuple #[(.int .u64 ((get c 0).1)), (.int .i64 ((get c 0).2.1)), (.int .i64 ((get c 0).2.2))]) := (hkw284 19 rfl).trans rfl
              have uw284_22 : ρ283 22 = (.int .u64 ((get c 0).1)) := (hkw284 22 rfl).trans rfl
              have uw284_23 : ρ283 23 = (.int .i64 ((get c 0).2.1)) := (hkw284 23 rfl).trans rfl
              have uw284_24 : ρ283 24 = (.int .i64 ((get c 0).2.2)) := (hkw284 24 rfl).trans rfl
              have uw284_46 : ρ283 46 = (.bool (!decide ((put ((get c 0).1)) = (c.take (Int.toNat ((get c 0).2.1)))))) := hRw284 21 46 rfl
              refine then_n ?_
              refine cE_cond false (uw284_46.trans (congrArg Value.bool (congrArg (! ·) (show (decide ((put ((get c 0).1)) = (c.take (Int.toNat ((get c 0).2.1))))) = true from (decide_eq_true hgi.2.2.2.2))))) (fun h => by cases h) (fun _ => ?_)
              refine cE_skip ?_
              refine then_n ?_
              refine cE_seq ?_
              refine cE_region rfl ?_
              refine s_cons (op_call Try.call20 evs_nil (c_told1 (w0 := w284)) ?_)
              rintro _ w285 ⟨rfl, hcall⟩
              refine ⟨_, rfl, ?_⟩
              have hst : St w0 w285 [] := hst.call hcall
              refine s_cons (op_move (.bool true) rfl ?_)
              refine s_yes 48 rfl rfl (op_move (.int .u64 a) uw284_0 ?_)
              refine s_yes 48 rfl rfl (op_call Try.call28 (evs_cons (v := (.int .u64 a)) rfl evs_nil) (c_Size (w0 := w285) (n := a) (h0 := (by omega)) (h1 := (by omega))) ?_)
              rintro _ w286 ⟨rfl, hcall⟩
              refine ⟨_, rfl, ?_⟩
              have hst : St w0 w286 [] := hst.call hcall
              refine s_yes 48 rfl rfl (op_move (.int .u64 b) uw284_1 ?_)
              refine s_yes 48 rfl rfl (op_call Try.call28 (evs_cons (v := (.int .u64 b)) rfl evs_nil) (c_Size (w0 := w286) (n := b) (h0 := (by omega)) (h1 := (by omega))) ?_)
              rintro _ w287 ⟨rfl, hcall⟩
              refine ⟨_, rfl, ?_⟩
              have hst : St w0 w287 [] := hst.call hcall
              refine s_yes 48 rfl rfl (op_leq (k := .i64) (a := ((put a).length : Int)) (b := ((put b).length : Int)) rfl rfl ?_)
              refine s_cons (op_pick_t (.bool (decide (((put a).length : Int) ≤ ((put b).length : Int)))) rfl rfl ?_)
              refine s_cons (op_move (.bool (decide (((put a).length : Int) ≤ ((put b).length : Int)))) rfl ?_)
              refine s_yes 55 rfl (congrArg Value.bool (show (decide (((put a).length : Int) ≤ ((put b).length : Int))) = true from (by first | exact decide_eq_true (by have := put_mono (a := a) (b := b) (by omega); omega) | exact decide_eq_true (by have := put_mono (a := b) (b := a) (by omega); omega)))) (op_move (.int .u64 a) uw284_0 ?_)
              refine s_yes 55 rfl (congrArg Value.bool (show (decide (((put a).length : Int) ≤ ((put b).length : Int))) = true from (by first | exact decide_eq_true (by have := put_mono (a := a) (b := b) (by omega); omega) | exact decide_eq_true (by have := put_mono (a := b) (b := a) (by omega); omega)))) (op_call Try.call28 (evs_cons (v := (.int .u64 a)) rfl evs_nil) (c_Size (w0 := w287) (n := a) (h0 := (by omega)) (h1 := (by omega))) ?_)
              rintro _ w288 ⟨rfl, hcall⟩
              refine ⟨_, rfl, ?_⟩
              have hst : St w0 w288 [] := hst.call hcall
              refine s_yes 55 rfl (congrArg Value.bool (show (decide (((put a).length : Int) ≤ ((put b).length : Int))) = true from (by first | exact decide_eq_true (by have := put_mono (a := a) (b := b) (by omega); omega) | exact decide_eq_true (by have := put_mono (a := b) (b := a) (by omega); omega)))) (op_geq (k := .i64) (a := ((put a).length : Int)) (b := 1) rfl rfl ?_)
              refine s_cons (op_pick_t (.bool (decide (1 ≤ ((put a).length : Int)))) (congrArg Value.bool (show (decide (((put a).length : Int) ≤ ((put b).length : Int))) = true from (by first | exact decide_eq_true (by have := put_mono (a := a) (b := b) (by omega); omega) | exact decide_eq_true (by have := put_mono (a := b) (b := a) (by omega); omega)))) rfl ?_)
              refine s_cons (op_move (.bool (decide (1 ≤ ((put a).length : Int)))) rfl ?_)
              refine s_yes 60 rfl (congrArg Value.bool (show (decide (1 ≤ ((put a).length : Int))) = true from (decide_eq_true (by omega)))) (op_move (.int .u64 b) uw284_1 ?_)
              refine s_yes 60 rfl (congrArg Value.bool (show (decide (1 ≤ ((put a).length : Int))) = true from (decide_eq_true (by omega)))) (op_call Try.call28 (evs_cons (v := (.int .u64 b)) rfl evs_nil) (c_Size (w0 := w288) (n := b) (h0 := (by omega)) (h1 := (by omega))) ?_)
              rintro _ w289 ⟨rfl, hcall⟩
              refine ⟨_, rfl, ?_⟩
              have hst : St w0 w289 [] := hst.call hcall
              refine s_yes 60 rfl (congrArg Value.bool (show (decide (1 ≤ ((put a).length : Int))) = true from (decide_eq_true (by omega)))) (op_leq (k := .i64) (a := ((put b).length : Int)) (b := 10) rfl rfl ?_)
              refine s_cons (op_pick_t (.bool (decide (((put b).length : Int) ≤ 10))) (congrArg Value.bool (show (decide (1 ≤ ((put a).length : Int))) = true from (decide_eq_true (by omega)))) rfl ?_)
              refine s_cons (op_move (.bool (decide (((put b).length : Int) ≤ 10))) rfl ?_)
              rcases Bool.eq_false_or_eq_true (decide (((put b).length : Int) ≤ 10)) with b290 | b290
              · have c291 : ((put b).length : Int) ≤ 10 := of_decide_eq_true b290
                refine s_yes 65 rfl (congrArg Value.bool b290) (op_move (.int .u64 a) uw284_0 ?_)
                refine s_yes 65 rfl (congrArg Value.bool b290) (op_call Try.call19 (evs_cons (v := (.int .u64 a)) rfl evs_nil) (c_Put (w0 := w289) (n := a) (h0 := (by omega)) (h1 := (by omega))) ?_)
                rintro _ w293 ⟨r292, rfl, hcall⟩
                refine ⟨_, rfl, ?_⟩
                have hst : St w0 w293 [rowT 5 u8E r292 (put a)] := hst.call hcall
                refine s_yes 65 rfl (congrArg Value.bool b290) (op_len (E := u8E) (xs := (put a)) Try.underlying22 rfl (hst.sl 0 rfl) ?_)
                refine s_yes 65 rfl (congrArg Value.bool b290) (op_move (.int .u64 a) uw284_0 ?_)
                refine s_yes 65 rfl (congrArg Value.bool b290) (op_call Try.call28 (evs_cons (v := (.int .u64 a)) rfl evs_nil) (c_Size (w0 := w293) (n := a) (h0 := (by omega)) (h1 := (by omega))) ?_)
                rintro _ w294 ⟨rfl, hcall⟩
                refine ⟨_, rfl, ?_⟩
                have hst : St w0 w294 [rowT 5 u8E r292 (put a)] := hst.call hcall
                refine s_yes 65 rfl (congrArg Value.bool b290) (op_eql (k := .i64) (a := ((put a).length : Int)) (b := ((put a).length : Int)) rfl rfl ?_)
                refine s_cons (op_pick_t (.bool (decide (((put a).length : Int) = ((put a).length : Int)))) (congrArg Value.bool b290) rfl ?_)
                refine s_cons (op_assign (.bool (decide (((put a).length : Int) = ((put a).length : Int)))) rfl ?_)
                refine s_nil ?_
                refine then_n ?_
                refine cE_ret ?_
                refine post_r _ (res1 (v := (.bool true)) (congrArg Value.bool (show (decide (((put a).length : Int) = ((put a).length : Int))) = true from (decide_eq_true rfl)))) ?_
                exact ⟨rfl, hst.bare⟩
              · have c295 : ¬ (((put b).length : Int) ≤ 10) := of_decide_eq_false b290
                refine s_no 65 rfl (congrArg Value.bool b290) ?_
                refine s_no 65 rfl (congrArg Value.bool b290) ?_
                refine s_no 65 rfl (congrArg Value.bool b290) ?_
                refine s_no 65 rfl (congrArg Value.bool b290) ?_
                refine s_no 65 rfl (congrArg Value.bool b290) ?_
                refine s_no 65 rfl (congrArg Value.bool b290) ?_
                refine s_cons (op_pick_f (.bool false) (congrArg Value.bool b290) rfl ?_)
                refine s_cons (op_assign (.bool false) rfl ?_)
                refine s_nil ?_
                refine then_n ?_
                refine cE_ret ?_
                refine post_r _ (res1 (v := (.bool false)) rfl) ?_
                exact ⟨(retv1 (congrArg Value.bool (show false = true from by omega))), hst.bare⟩
      · have c296 : ¬ (((get c 0).2.2) = 0) := of_decide_eq_false b195
        refine cE_regionL hst [[(9, none)], [(25, some 0)], [(26, some 1)], [(8, none), (27, some 2)], [(28, some 3), (27, some 2)], [(29, some 4), (27, some 2)], [(8, none), (30, some 5)], [(2, none), (30, some 5)], [(32, some 7), (30, some 5)], [(31, some 6), (33, some 8), (30, some 5)], [(30, some 5), (34, some 9), (27, some 2)], [(35, some 10), (27, some 2)], [(7, none), (36, some 11)], [(37, some 12), (36, some 11)], [(38, some 13), (36, some 11)], [(2, none), (36, some 11)], [(8, none), (36, some 11)], [(40, some 15), (41, some 16), (36, some 11)], [(42, some 17), (36, some 11)], [(39, some 14), (43, some 18), (36, some 11)], [(36, some 11), (44, some 19), (27, some 2)], [(27, some 2), (45, some 20)]] [(rEq (.int .i64 ((get c 0).2.2))), (rEq (.bool (decide (((get c 0).2.2) = 0)))), (rEq (.bool (decide (((get c 0).2.2) = 0)))), (rEq undef), (rEq undef), (rEq undef), (rEq undef), (rEq undef), (rEq undef), (rEq undef), (rEq undef), (rEq undef), (rEq undef), (rEq undef), (rEq undef), (rEq undef), (rEq undef), (rEq undef), (rEq undef), (rEq undef), (rEq undef), (rEq (.bool false))] (by kernel_rfl) rfl (by kernel_rfl) ⟨sEq, sEq, sEq, sEq, sEq, sEq, sEq, sEq, sEq, sEq, sEq, sEq, sEq, sEq, sEq, sEq, sEq, sEq, sEq, sEq, sEq, sEq, trivial⟩ ⟨?_, ?_, ?_, ?_, ?_, ?_, ?_, ?_, ?_, ?_, ?_, ?_, ?_, ?_, ?_, ?_, ?_, ?_, ?_, ?_, ?_, ?_, trivial⟩ ?_
        · rintro ρ297 w298 hj299 ⟨f9, _⟩
          have hst := hj299.2
          exact go_plain (op_move (.int .i64 ((get c 0).2.2)) (f9.trans rfl) (kS hj299 rfl))
        · rintro ρ300 w301 hj302 ⟨f25, _⟩
          have hst := hj302.2
          exact go_plain (op_eql (k := .i64) (a := (get c 0).2.2) (b := 0) f25 rfl (kS hj302 rfl))
        · rintro ρ303 w304 hj305 ⟨f26, _⟩
          have hst := hj305.2
          exact go_plain (op_move (.bool (decide (((get c 0).2.2) = 0))) f26 (kS hj305 rfl))
        · rintro ρ306 w307 hj308 ⟨f8, f27, _⟩
          have hst := hj308.2
          exact go_no 27 rfl (f27.trans (congrArg Value.bool b195)) (kS hj308 rfl)
        · rintro ρ309 w310 hj311 ⟨f28, f27, _⟩
          have hst := hj311.2
          exact go_no 27 rfl (f27.trans (congrArg Value.bool b195)) (kS hj311 rfl)
        · rintro ρ312 w313 hj314 ⟨f29, f27, _⟩
          have hst := hj314.2
          exact go_no 27 rfl (f27.trans (congrArg Value.bool b195)) (kS hj314 rfl)
        · rintro ρ315 w316 hj317 ⟨f8, f30, _⟩
          have hst := hj317.2
          exact go_un 30 rfl f30 (kS hj317 rfl)
        · rintro ρ318 w319 hj320 ⟨f2, f30, _⟩
          have hst := hj320.2
          exact go_un 30 rfl f30 (kS hj320 rfl)
        · rintro ρ321 w322 hj323 ⟨f32, f30, _⟩
          have hst := hj323.2
          exact go_un 30 rfl f30 (kS hj323 rfl)
        · rintro ρ324 w325 hj326 ⟨f31, f33, f30, _⟩
          have hst := hj326.2
          exact go_un 30 rfl f30 (kS hj326 rfl)
        · rintro ρ327 w328 hj329 ⟨f30, f34, f27, _⟩
          have hst := hj329.2
          exact go_no 27 rfl (f27.trans (congrArg Value.bool b195)) (kS hj329 rfl)
        · rintro ρ330 w331 hj332 ⟨f35, f27, _⟩
          have hst := hj332.2
          exact go_no 27 rfl (f27.trans (congrArg Value.bool b195)) (kS hj332 rfl)
        · rintro ρ333 w334 hj335 ⟨f7, f36, _⟩
          have hst := hj335.2
          exact go_un 36 rfl f36 (kS hj335 rfl)
        · rintro ρ336 w337 hj338 ⟨f37, f36, _⟩
          have hst := hj338.2
          exact go_un 36 rfl f36 (kS hj338 rfl)
        · rintro ρ339 w340 hj341 ⟨f38, f36, _⟩
          have hst := hj341.2
          exact go_un 36 rfl f36 (kS hj341 rfl)
        · rintro ρ342 w343 hj344 ⟨f2, f36, _⟩
          have hst := hj344.2
          exact go_un 36 rfl f36 (kS hj344 rfl)
        · rintro ρ345 w346 hj347 ⟨f8, f36, _⟩
          have hst := hj347.2
          exact go_un 36 rfl f36 (kS hj347 rfl)
        · rintro ρ348 w349 hj350 ⟨f40, f41, f36, _⟩
          have hst := hj350.2
          exact go_un 36 rfl f36 (kS hj350 rfl)
        · rintro ρ351 w352 hj353 ⟨f42, f36, _⟩
          have hst := hj353.2
          exact go_un 36 rfl f36 (kS hj353 rfl)
        · rintro ρ354 w355 hj356 ⟨f39, f43, f36, _⟩
          have hst := hj356.2
          exact go_un 36 rfl f36 (kS hj356 rfl)
        · rintro ρ357 w358 hj359 ⟨f36, f44, f27, _⟩
          have hst := hj359.2
          exact go_no 27 rfl (f27.trans (congrArg Value.bool b195)) (kS hj359 rfl)
        · rintro ρ360 w361 hj362 ⟨f27, f45, _⟩
          have hst := hj362.2
          exact go_plain (op_pick_f (.bool false) (f27.trans (congrArg Value.bool b195)) rfl (kS hj362 rfl))
        · intro ρ363 w364 hbw364 hst hRw364 hkw364
          have uw364_0 : ρ363 0 = (.int .u64 a) := (hkw364 0 rfl).trans rfl
          have uw364_1 : ρ363 1 = (.int .u64 b) := (hkw364 1 rfl).trans rfl
          have uw364_2 : ρ363 2 = v_c := (hkw364 2 rfl).trans rfl
          have uw364_6 : ρ363 6 = (.bool false) := (hkw364 6 rfl).trans rfl
          have uw364_10 : ρ363 10 = (.int .u64 a) := (hkw364 10 rfl).trans rfl
          have uw364_11 : ρ363 11 = (.int .u64 b) := (hkw364 11 rfl).trans rfl
          have uw364_12 : ρ363 12 = (.bool (decide (b < a))) := (hkw364 12 rfl).trans rfl
          have uw364_15 : ρ363 15 = v_c := (hkw364 15 rfl).trans rfl
          have uw364_16 : ρ363 16 = (.int .i64 (c.length : Int)) := (hkw364 16 rfl).trans rfl
          have uw364_17 : ρ363 17 = (.bool (decide (12 < (c.length : Int)))) := (hkw364 17 rfl).trans rfl
          have uw364_20 : ρ363 20 = v_c := (hkw364 20 rfl).trans rfl
          have uw364_21 : ρ363 21 = (.tuple #[(.int .u64 ((get c 0).1)), (.int .i64 ((get c 0).2.1)), (.int .i64 ((get c 0).2.2))]) := (hkw364 21 rfl).trans rfl
          have uw364_19 : ρ363 19 = (.tuple #[(.int .u64 ((get c 0).1)), (.int .i64 ((get c 0).2.1)), (.int .i64 ((get c 0).2.2))]) := (hkw364 19 rfl).trans rfl
          have uw364_22 : ρ363 22 = (.int .u64 ((get c 0).1)) := (hkw364 22 rfl).trans rfl
          have uw364_23 : ρ363 23 = (.int .i64 ((get c 0).2.1)) := (hkw364 23 rfl).trans rfl
          have uw364_24 : ρ363 24 = (.int .i64 ((get c 0).2.2)) := (hkw364 24 rfl).trans rfl
          have uw364_46 : ρ363 46 = (.bool false) := hRw364 21 46 rfl
          refine then_n ?_
          refine cE_cond false uw364_46 (fun h => by cases h) (fun _ => ?_)
          refine cE_skip ?_
          refine then_n ?_
          refine cE_seq ?_
          refine cE_region rfl ?_
          refine s_cons (op_call Try.call20 evs_nil (c_told1 (w0 := w364)) ?_)
          rintro _ w365 ⟨rfl, hcall⟩
          refine ⟨_, rfl, ?_⟩
          have hst : St w0 w365 [] := hst.call hcall
          refine s_cons (op_move (.bool true) rfl ?_)
          refine s_yes 48 rfl rfl (op_move (.int .u64 a) uw364_0 ?_)
          refine s_yes 48 rfl rfl (op_call Try.call28 (evs_cons (v := (.int .u64 a)) rfl evs_nil) (c_Size (w0 := w365) (n := a) (h0 := (by omega)) (h1 := (by omega))) ?_)
          rintro _ w366 ⟨rfl, hcall⟩
          refine ⟨_, rfl, ?_⟩
          have hst : St w0 w366 [] := hst.call hcall
          refine s_yes 48 rfl rfl (op_move (.int .u64 b) uw364_1 ?_)
          refine s_yes 48 rfl rfl (op_call Try.call28 (evs_cons (v := (.int .u64 b)) rfl evs_nil) (c_Size (w0 := w366) (n := b) (h0 := (by omega)) (h1 := (by omega))) ?_)
          rintro _ w367 ⟨rfl, hcall⟩
          refine ⟨_, rfl, ?_⟩
          have hst : St w0 w367 [] := hst.call hcall
          refine s_yes 48 rfl rfl (op_leq (k := .i64) (a := ((put a).length : Int)) (b := ((put b).length : Int)) rfl rfl ?_)
          refine s_cons (op_pick_t (.bool (decide (((put a).length : Int) ≤ ((put b).length : Int)))) rfl rfl ?_)
          refine s_cons (op_move (.bool (decide (((put a).length : Int) ≤ ((put b).length : Int)))) rfl ?_)
          refine s_yes 55 rfl (congrArg Value.bool (show (decide (((put a).length : Int) ≤ ((put b).length : Int))) = true from (by first | exact decide_eq_true (by have := put_mono (a := a) (b := b) (by omega); omega) | exact decide_eq_true (by have := put_mono (a := b) (b := a) (by omega); omega)))) (op_move (.int .u64 a) uw364_0 ?_)
          refine s_yes 55 rfl (congrArg Value.bool (show (decide (((put a).length : Int) ≤ ((put b).length : Int))) = true from (by first | exact decide_eq_true (by have := put_mono (a := a) (b := b) (by omega); omega) | exact decide_eq_true (by have := put_mono (a := b) (b := a) (by omega); omega)))) (op_call Try.call28 (evs_cons (v := (.int .u64 a)) rfl evs_nil) (c_Size (w0 := w367) (n := a) (h0 := (by omega)) (h1 := (by omega))) ?_)
          rintro _ w368 ⟨rfl, hcall⟩
          refine ⟨_, rfl, ?_⟩
          have hst : St w0 w368 [] := hst.call hcall
          refine s_yes 55 rfl (congrArg Value.bool (show (decide (((put a).length : Int) ≤ ((put b).length : Int))) = true from (by first | exact decide_eq_true (by have := put_mono (a := a) (b := b) (by omega); omega) | exact decide_eq_true (by have := put_mono (a := b) (b := a) (by omega); omega)))) (op_geq (k := .i64) (a := ((put a).length : Int)) (b := 1) rfl rfl ?_)
          refine s_cons (op_pick_t (.bool (decide (1 ≤ ((put a).length : Int)))) (congrArg Value.bool (show (decide (((put a).length : Int) ≤ ((put b).length : Int))) = true from (by first | exact decide_eq_true (by have := put_mono (a := a) (b := b) (by omega); omega) | exact decide_eq_true (by have := put_mono (a := b) (b := a) (by omega); omega)))) rfl ?_)
          refine s_cons (op_move (.bool (decide (1 ≤ ((put a).length : Int)))) rfl ?_)
          refine s_yes 60 rfl (congrArg Value.bool (show (decide (1 ≤ ((put a).length : Int))) = true from (decide_eq_true (by omega)))) (op_move (.int .u64 b) uw364_1 ?_)
          refine s_yes 60 rfl (congrArg Value.bool (show (decide (1 ≤ ((put a).length : Int))) = true from (decide_eq_true (by omega)))) (op_call Try.call28 (evs_cons (v := (.int .u64 b)) rfl evs_nil) (c_Size (w0 := w368) (n := b) (h0 := (by omega)) (h1 := (by omega))) ?_)
          rintro _ w369 ⟨rfl, hcall⟩
          refine ⟨_, rfl, ?_⟩
          have hst : St w0 w369 [] := hst.call hcall
          refine s_yes 60 rfl (congrArg Value.bool (show (decide (1 ≤ ((put a).length : Int))) = true from (decide_eq_true (by omega)))) (op_leq (k := .i64) (a := ((put b).length : Int)) (b := 10) rfl rfl ?_)
          refine s_cons (op_pick_t (.bool (decide (((put b).length : Int) ≤ 10))) (congrArg Value.bool (show (decide (1 ≤ ((put a).length : Int))) = true from (decide_eq_true (by omega)))) rfl ?_)
          refine s_cons (op_move (.bool (decide (((put b).length : Int) ≤ 10))) rfl ?_)
          rcases Bool.eq_false_or_eq_true (decide (((put b).length : Int) ≤ 10)) with b370 | b370
          · have c371 : ((put b).length : Int) ≤ 10 := of_decide_eq_true b370
            refine s_yes 65 rfl (congrArg Value.bool b370) (op_move (.int .u64 a) uw364_0 ?_)
            refine s_yes 65 rfl (congrArg Value.bool b370) (op_call Try.call19 (evs_cons (v := (.int .u64 a)) rfl evs_nil) (c_Put (w0 := w369) (n := a) (h0 := (by omega)) (h1 := (by omega))) ?_)
            rintro _ w373 ⟨r372, rfl, hcall⟩
            refine ⟨_, rfl, ?_⟩
            have hst : St w0 w373 [rowT 5 u8E r372 (put a)] := hst.call hcall
            refine s_yes 65 rfl (congrArg Value.bool b370) (op_len (E := u8E) (xs := (put a)) Try.underlying22 rfl (hst.sl 0 rfl) ?_)
            refine s_yes 65 rfl (congrArg Value.bool b370) (op_move (.int .u64 a) uw364_0 ?_)
            refine s_yes 65 rfl (congrArg Value.bool b370) (op_call Try.call28 (evs_cons (v := (.int .u64 a)) rfl evs_nil) (c_Size (w0 := w373) (n := a) (h0 := (by omega)) (h1 := (by omega))) ?_)
            rintro _ w374 ⟨rfl, hcall⟩
            refine ⟨_, rfl, ?_⟩
            have hst : St w0 w374 [rowT 5 u8E r372 (put a)] := hst.call hcall
            refine s_yes 65 rfl (congrArg Value.bool b370) (op_eql (k := .i64) (a := ((put a).length : Int)) (b := ((put a).length : Int)) rfl rfl ?_)
            refine s_cons (op_pick_t (.bool (decide (((put a).length : Int) = ((put a).length : Int)))) (congrArg Value.bool b370) rfl ?_)
            refine s_cons (op_assign (.bool (decide (((put a).length : Int) = ((put a).length : Int)))) rfl ?_)
            refine s_nil ?_
            refine then_n ?_
            refine cE_ret ?_
            refine post_r _ (res1 (v := (.bool true)) (congrArg Value.bool (show (decide (((put a).length : Int) = ((put a).length : Int))) = true from (decide_eq_true rfl)))) ?_
            exact ⟨rfl, hst.bare⟩
          · have c375 : ¬ (((put b).length : Int) ≤ 10) := of_decide_eq_false b370
            refine s_no 65 rfl (congrArg Value.bool b370) ?_
            refine s_no 65 rfl (congrArg Value.bool b370) ?_
            refine s_no 65 rfl (congrArg Value.bool b370) ?_
            refine s_no 65 rfl (congrArg Value.bool b370) ?_
            refine s_no 65 rfl (congrArg Value.bool b370) ?_
            refine s_no 65 rfl (congrArg Value.bool b370) ?_
            refine s_cons (op_pick_f (.bool false) (congrArg Value.bool b370) rfl ?_)
            refine s_cons (op_assign (.bool false) rfl ?_)
            refine s_nil ?_
            refine then_n ?_
            refine cE_ret ?_
            refine post_r _ (res1 (v := (.bool false)) rfl) ?_
            exact ⟨(retv1 (congrArg Value.bool (show false = true from by omega))), hst.bare⟩

end Go.Proofs.Ytealhahaeiibjaa
