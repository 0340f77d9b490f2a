/- twinkeepref5.PutAggs -/
import Derived.Test.YtpamjfbdgaamoaaW30
namespace Go.Proofs.Ytpamjfbdgaamoaa
open Go.RowKit

section
attribute [local irreducible] widthA alignedA zig put encA stepA2
set_option maxHeartbeats 8000000 in
theorem c_rPutAggs (w0 : World) (v_l : Value) (l : List Agg) (h_l : Sl w0 aggE v_l l) (k : Int) (hl : ∀ a ∈ l, a.ok) (k0 : -9223372036854775808 ≤ k) (k1 : k ≤ 9223372036854775807) :
    Calls Try.prog 14 #[v_l, (.int .i64 k)] w0 fun e w' => e = .returned (.tuple #[(.string (str ((encA k l).1))), (.int .i64 ((encA k l).2))]) ∧ St w0 w' [] := by
  refine calls_E (n := 105) (ts := [4, 5]) Try.func14 rfl rfl rfl (by simp) ?_
  have hst := St.start w0
  refine cE_seq ?_
  refine cE_region rfl ?_
  refine s_cons (op_assign (.string (str ([] : List UInt8))) rfl ?_)
  refine s_cons (op_assign (.int .i64 0) rfl ?_)
  refine s_nil ?_
  refine then_n ?_
  refine cE_seq ?_
  refine cE_seq ?_
  refine cE_region rfl ?_
  refine s_cons (op_move v_l rfl ?_)
  refine s_cons (op_move (.int .i64 k) rfl ?_)
  refine s_cons (op_call Try.call35 (evs_cons (v := v_l) rfl (evs_cons (v := (.int .i64 k)) rfl evs_nil)) (c_rAligned (w0 := w0) (v_l := v_l) (l := l) (h_l := (h_l.below hst.below)) (k := k) (hl := hl) (k0 := (by omega)) (k1 := (by omega))) ?_)
  rintro _ w1 ⟨rfl, hcall⟩
  refine ⟨_, rfl, ?_⟩
  have hst : St w0 w1 [] := hst.call hcall
  refine s_cons (op_not (b := alignedA l k) rfl ?_)
  refine s_cons (op_move (.bool (!(alignedA l k))) rfl ?_)
  rcases Bool.eq_false_or_eq_true (alignedA l k) with b2 | b2
  · have hal := b2
    refine s_yes 14 rfl (congrArg Value.bool (congrArg (! ·) b2)) (op_move v_l rfl ?_)
    refine s_yes 14 rfl (congrArg Value.bool (congrArg (! ·) b2)) (op_len (E := aggE) (xs := l) Try.underlying23 rfl h_l ?_)
    refine s_yes 14 rfl (congrArg Value.bool (congrArg (! ·) b2)) (op_gtr (k := .i64) (a := (l.length : Int)) (b := 64) rfl rfl ?_)
    refine s_cons (op_pick_f (.bool (decide (64 < (l.length : Int)))) (congrArg Value.bool (congrArg (! ·) b2)) rfl ?_)
    refine s_nil ?_
    refine then_n ?_
    rcases Bool.eq_false_or_eq_true (decide (64 < (l.length : Int))) with b3 | b3
    · have c4 : 64 < (l.length : Int) := of_decide_eq_true b3
      refine cE_cond true (congrArg Value.bool b3) (fun _ => ?_) (fun h => by cases h)
      refine cE_seq ?_
      refine cE_region rfl ?_
      refine s_cons (op_assign (.string (str ([] : List UInt8))) rfl ?_)
      refine s_cons (op_assign (.int .i64 1) rfl ?_)
      refine s_nil ?_
      refine then_n ?_
      refine cE_ret ?_
      refine then_r ?_
      refine post_r _ (res2 (v := (.string (str ([] : List UInt8)))) rfl (x := (.int .i64 1)) rfl) ?_
      exact ⟨(retv2 (congrArg (fun l => Value.string (str l)) (show ([] : List UInt8) = (encA k l).1 from by first | rw [encA_no (Or.inl (by assumption))] | rw [encA_no (Or.inr (by omega))] | (rw [encA_yes hok]; done) | (rw [encA_yes hok]; show _ = putA k l; rw [hp, stepA2_end (by omega), List.append_nil]))) (congrArg (Value.int .i64) (show 1 = (encA k l).2 from by first | rw [encA_no (Or.inl (by assumption))] | rw [encA_no (Or.inr (by omega))] | (rw [encA_yes hok]; done) | (rw [encA_yes hok]; show _ = putA k l; rw [hp, stepA2_end (by omega), List.append_nil])))), hst.bare⟩
    have c5 : ¬ (64 < (l.length : Int)) := of_decide_eq_false b3
    refine cE_cond false (congrArg Value.bool b3) (fun h => by cases h) (fun _ => ?_)
    refine cE_skip ?_
    refine then_n ?_
    refine cE_seq ?_
    have hok := okA_iff.2 ⟨hal, (by omega : l.length ≤ 64)⟩
    have hp0 := put_length (l.length : Int)
    have hwp := width_pos (okA_coarse hok)
    have hwr := width_r k
    refine cE_region rfl ?_
    refine s_cons (op_move v_l rfl ?_)
    refine s_cons (op_len (E := aggE) (xs := l) Try.underlying23 rfl h_l ?_)
    refine s_cons (op_conv (k := .i64) (a := (l.length : Int)) (l.length : Int) Try.underlying54 (by rw [Try.underlying3]; rfl) rfl (xu64 (by omega) (by omega)) ?_)
    refine s_cons (op_call Try.call25 (evs_cons (v := (.int .u64 (l.length : Int))) rfl evs_nil) (c_rPut (w0 := w1) (n := (l.length : Int)) (h0 := (by omega)) (h1 := (by omega))) ?_)
    rintro _ w6 ⟨rfl, hcall⟩
    refine ⟨_, rfl, ?_⟩
    have hst : St w0 w6 [] := hst.call hcall
    refine s_cons (op_assign (.string (str (put (l.length : Int)))) rfl ?_)
    refine s_nil ?_
    refine then_n ?_
    refine cE_seq ?_
    refine cE_seq ?_
    refine cE_region rfl ?_
    refine s_cons (op_assign (.int .i64 0) rfl ?_)
    refine s_nil ?_
    refine then_n ?_
    refine cE_block ?_
    refine cE_loop (fun (m : Nat) (ρ : Env) (w : World) => ∃ (done : List UInt8) (i : Nat), m = l.length - i ∧ ρ 0 = v_l ∧ ρ 1 = (.int .i64 k) ∧ ρ 4 = (.string (str ([] : List UInt8))) ∧ ρ 5 = (.int .i64 0) ∧ ρ 6 = (.string (str done)) ∧ ρ 7 = (.int .i64 (i : Int)) ∧ St w0 w [] ∧ (i ≤ l.length) ∧ (done.length ≤ 10 + 70 * i) ∧ (putA k l = done ++ stepA2 (widthA k) (lastW (widthA k) l i) (l.drop i))) id _ ⟨(put (l.length : Int)), 0, rfl, rfl, rfl, rfl, rfl, rfl, (congrArg (Value.int .i64) (show 0 = _ from by omega)), hst, (by omega), (by first | omega | (simp; omega)), (by first | rfl | (rw [hp, stepA2_one (by omega) (by omega), lastW_zero (i := i) (by omega)]; simp; done) | (rw [hp, stepA2_one (by omega) (by omega), lastW_at (i := i) (by omega) (by omega)]; simp; done) | (rw [hp, stepA2_many (by omega) (by omega), lastW_zero (i := i) (by omega)]; simp; done) | (rw [hp, stepA2_many (by omega) (by omega), lastW_at (i := i) (by omega) (by omega)]; simp; done))⟩ ?_
    rintro m8 ρ9 w10 ⟨done, i, hm8, q7_0, q7_1, q7_4, q7_5, q7_6, q7_7, hst, hi, hdl, hp⟩
    have hlen := h_l.len
    refine cE_seq ?_
    refine cE_seq ?_
    refine cE_region rfl ?_
    refine s_cons (op_move (.int .i64 (i : Int)) q7_7 ?_)
    refine s_cons (op_move v_l q7_0 ?_)
    refine s_cons (op_len (E := aggE) (xs := l) Try.underlying23 rfl h_l ?_)
    refine s_cons (op_lss (k := .i64) (a := (i : Int)) (b := (l.length : Int)) rfl rfl ?_)
    refine s_nil ?_
    refine then_n ?_
    rcases Bool.eq_false_or_eq_true (decide ((i : Int) < (l.length : Int))) with b11 | b11
    · have c12 : (i : Int) < (l.length : Int) := of_decide_eq_true b11
      refine cE_cond true (congrArg Value.bool b11) (fun _ => ?_) (fun h => by cases h)
      refine cE_skip ?_
      refine then_n ?_
      refine cE_seq ?_
      refine cE_block ?_
      refine cE_seq ?_
      have hwn := aligned_at hal (show i < l.length by omega)
      have hoa := hl _ (List.getElem_mem (show i < l.length by omega))
      have hlg := lastW_ge hal (i := i) (by omega)
      simp only [Agg.ok, i64R] at hoa
      have hdv := Int.ediv_nonneg (a := (l[i]'(by omega)).From) (b := widthA k) (by omega) (by omega)
      have hz1 := zig_r (m := (l[i]'(by omega)).Min) (by simp only [i64R]; omega)
      have hz2 := zig_r (m := (l[i]'(by omega)).Sum) (by simp only [i64R]; omega)
      have q0 := put_length ((l[i]'(by omega)).From / widthA k)
      have q1 := put_length ((l[i]'(by omega)).From / widthA k - (l[i - 1]'(by omega)).From / widthA k - 1)
      have q2 := put_length ((l[i]'(by omega)).Count - 1)
      have q3 := put_length (zig (l[i]'(by omega)).Min)
      have q4 := put_length ((l[i]'(by omega)).Max - (l[i]'(by omega)).Min)
      have q5 := put_length (zig (l[i]'(by omega)).Sum)
      have q6 := put_length ((l[i]'(by omega)).First - (l[i]'(by omega)).Min)
      have q7 := put_length ((l[i]'(by omega)).Last - (l[i]'(by omega)).Min)
      refine cE_region rfl ?_
      refine s_cons (op_move v_l q7_0 ?_)
      refine s_cons (op_move (.int .i64 (i : Int)) q7_7 ?_)
      refine s_cons (op_indexAddrN (E := aggE) (xs := l) i Try.underlying23 Try.sizeOf71 rfl h_l rfl (by omega) (by first | omega | (simp; omega) | (simp; done)) (fun a13 o14 p15 => ?_))
      refine s_cons (op_loadN (cs := [(.int .i64 ((l[i]'(by first | omega | (simp; omega) | (simp; done))).From)), (.int .i64 ((l[i]'(by first | omega | (simp; omega) | (simp; done))).Count)), (.int .i64 ((l[i]'(by first | omega | (simp; omega) | (simp; done))).Sum)), (.int .i64 ((l[i]'(by first | omega | (simp; omega) | (simp; done))).Min)), (.int .i64 ((l[i]'(by first | omega | (simp; omega) | (simp; done))).Max)), (.int .i64 ((l[i]'(by first | omega | (simp; omega) | (simp; done))).First)), (.int .i64 ((l[i]'(by first | omega | (simp; omega) | (simp; done))).Last))]) Try.isAgg71 Try.sizeOf71 rfl (Pt.of (p15.below hst.below) rfl) rfl ?_)
      refine s_cons (op_alloc (cs := #[(.int .i64 0), (.int .i64 0), (.int .i64 0), (.int .i64 0), (.int .i64 0), (.int .i64 0), (.int .i64 0)]) hst Try.zeroValue71 rfl (fun g16 w17 hst _ => ?_))
      replace hst : St w0 w17 [.blk g16 71 #[(.int .i64 0), (.int .i64 0), (.int .i64 0), (.int .i64 0), (.int .i64 0), (.int .i64 0), (.int .i64 0)]] := hst
      refine s_cons0 (op_storeAll hst 0 rfl Try.sizeOf71 rfl rfl rfl rfl (by simp [Value.oneCell']) (fun w18 hst => ?_))
      replace hst : St w0 w18 [.blk g16 71 #[(.int .i64 ((l[i]'(by first | omega | (simp; omega) | (simp; done))).From)), (.int .i64 ((l[i]'(by first | omega | (simp; omega) | (simp; done))).Count)), (.int .i64 ((l[i]'(by first | omega | (simp; omega) | (simp; done))).Sum)), (.int .i64 ((l[i]'(by first | omega | (simp; omega) | (simp; done))).Min)), (.int .i64 ((l[i]'(by first | omega | (simp; omega) | (simp; done))).Max)), (.int .i64 ((l[i]'(by first | omega | (simp; omega) | (simp; done))).First)), (.int .i64 ((l[i]'(by first | omega | (simp; omega) | (simp; done))).Last))]] := hst
      refine s_nil ?_
      refine then_n ?_
      refine cE_seq ?_
      refine cE_regionL hst [[(8, none)], [(33, some 0)], [(1, none)], [(35, some 2)], [(34, some 1), (36, some 3)], [(37, some 4)]] [(rEq (.pointer (some ⟨g16, (0 + 0), none⟩))), (rEq (.int .i64 ((l[i]'(by first | omega | (simp; omega) | (simp; done))).From))), (rEq (.int .i64 k)), (rEq (.int .i64 (widthA k))), (rEq (.int .i64 (((l[i]'(by first | omega | (simp; omega) | (simp; done))).From) / (widthA k)))), (rEq (.int .i64 (((l[i]'(by first | omega | (simp; omega) | (simp; done))).From) / (widthA k))))] (by kernel_rfl) rfl (by kernel_rfl) ⟨sEq, sEq, sEq, sEq, sEq, sEq, trivial⟩ ⟨?_, ?_, ?_, ?_, ?_, ?_, trivial⟩ ?_
      · rintro ρ20 w21 hj22 ⟨f8, _⟩
        have hst := hj22.2
        exact go_plain (op_fieldAddr (s := 0) Try.underlying71 rfl rfl Try.sizeOf2 (f8.trans rfl) (kS hj22 rfl))
      · rintro ρ23 w24 hj25 ⟨f33, _⟩
        have hst := hj25.2
        exact go_plain (op_load1 (u := (.int .i64 ((l[i]'(by first | omega | (simp; omega) | (simp; done))).From))) Try.isAgg2 f33 (hst.cell 0 rfl) (kS hj25 rfl))
      · rintro ρ26 w27 hj28 ⟨f1, _⟩
        have hst := hj28.2
        exact go_plain (op_move (.int .i64 k) (f1.trans q7_1) (kS hj28 rfl))
      · rintro ρ29 w30 hj31 ⟨f35, _⟩
        have hst := hj31.2
        refine go_plain (op_call Try.call36 (evs_cons (v := (.int .i64 k)) f35 evs_nil) (c_rWidth (w0 := w30) (k := k) (k0 := (by omega)) (k1 := (by omega))) ?_)
        rintro _ w32 ⟨rfl, hcall⟩
        refine ⟨_, rfl, ?_⟩
        exact kD hj31 hcall rfl
      · rintro ρ33 w34 hj35 ⟨f34, f36, _⟩
        have hst := hj35.2
        exact go_plain (op_quo (k := .i64) (a := (l[i]'(by first | omega | (simp; omega) | (simp; done))).From) (b := (widthA k)) (((l[i]'(by first | omega | (simp; omega) | (simp; done))).From) / (widthA k)) f34 f36 (by omega) (quo_x (by omega) (by omega) (xi64 (by omega) (by omega))) (kS hj35 rfl))
      · rintro ρ36 w37 hj38 ⟨f37, _⟩
        have hst := hj38.2
        exact go_plain (op_assign (.int .i64 (((l[i]'(by first | omega | (simp; omega) | (simp; done))).From) / (widthA k))) f37 (kS hj38 rfl))
      intro ρ39 w40 hbw40 hst hRw40 hkw40
      have uw40_0 : ρ39 0 = v_l := (hkw40 0 rfl).trans q7_0
      have uw40_1 : ρ39 1 = (.int .i64 k) := (hkw40 1 rfl).trans q7_1
      have uw40_4 : ρ39 4 = (.string (str ([] : List UInt8))) := (hkw40 4 rfl).trans q7_4
      have uw40_5 : ρ39 5 = (.int .i64 0) := (hkw40 5 rfl).trans q7_5
      have uw40_6 : ρ39 6 = (.string (str done)) := (hkw40 6 rfl).trans q7_6
      have uw40_7 : ρ39 7 = (.int .i64 (i : Int)) := (hkw40 7 rfl).trans q7_7
      have uw40_23 : ρ39 23 = (.int .i64 (i : Int)) := (hkw40 23 rfl).trans rfl
      have uw40_24 : ρ39 24 = v_l := (hkw40 24 rfl).trans rfl
      have uw40_25 : ρ39 25 = (.int .i64 (l.length : Int)) := (hkw40 25 rfl).trans rfl
      have uw40_26 : ρ39 26 = (.bool (decide ((i : Int) < (l.length : Int)))) := (hkw40 26 rfl).trans rfl
      have uw40_29 : ρ39 29 = v_l := (hkw40 29 rfl).trans rfl
      have uw40_30 : ρ39 30 = (.int .i64 (i : Int)) := (hkw40 30 rfl).trans rfl
      have uw40_31 : ρ39 31 = (.pointer (some ⟨a13, o14, none⟩)) := (hkw40 31 rfl).trans rfl
      have uw40_32 : ρ39 32 = (.agg #[(.int .i64 ((l[i]'(by first | omega | (simp; omega) | (simp; done))).From)), (.int .i64 ((l[i]'(by first | omega | (simp; omega) | (simp; done))).Count)), (.int .i64 ((l[i]'(by first | omega | (simp; omega) | (simp; done))).Sum)), (.int .i64 ((l[i]'(by first | omega | (simp; omega) | (simp; done))).Min)), (.int .i64 ((l[i]'(by first | omega | (simp; omega) | (simp; done))).Max)), (.int .i64 ((l[i]'(by first | omega | (simp; omega) | (simp; done))).First)), (.int .i64 ((l[i]'(by first | omega | (simp; omega) | (simp; done))).Last))]) := (hkw40 32 rfl).trans rfl
      have uw40_8 : ρ39 8 = (.pointer (some ⟨g16, 0, none⟩)) := (hkw40 8 rfl).trans rfl
      have uw40_9 : ρ39 9 = (.int .i64 (((l[i]'(by first | omega | (simp; omega) | (simp; done))).From) / (widthA k))) := hRw40 5 9 rfl
      refine then_n ?_
      refine cE_seq ?_
      refine cE_seq ?_
      refine cE_region rfl ?_
      refine s_cons (op_move (.int .i64 (i : Int)) uw40_7 ?_)
      refine s_cons (op_gtr (k := .i64) (a := (i : Int)) (b := 0) rfl rfl ?_)
      refine s_nil ?_
      refine then_n ?_
      rcases Bool.eq_false_or_eq_true (decide (0 < (i : Int))) with b41 | b41
      · have c42 : 0 < (i : Int) := of_decide_eq_true b41
        refine cE_cond true (congrArg Value.bool b41) (fun _ => ?_) (fun h => by cases h)
        have hla := lastW_at (w := widthA k) (l := l) (i := i) (by omega) (by omega)
        have hob := hl _ (List.getElem_mem (show (i - 1) < l.length by omega))
        simp only [Agg.ok, i64R] at hob
        have hwn2 := aligned_at hal (show i - 1 < l.length by omega)
        have hdv2 := Int.ediv_nonneg (a := (l[i - 1]'(by omega)).From) (b := widthA k) (by omega) (by omega)
        refine cE_regionL hst [[(9, none)], [(0, none)], [(7, none)], [(42, some 2)], [(41, some 1), (43, some 3)], [(44, some 4)], [(45, some 5)], [(1, none)], [(47, some 7)], [(46, some 6), (48, some 8)], [(40, some 0), (49, some 9)], [(50, some 10)], [(51, some 11)]] [(rEq (.int .i64 (((l[i]'(by first | omega | (simp; omega) | (simp; done))).From) / (widthA k)))), (rEq v_l), (rEq (.int .i64 (i : Int))), (rEq (.int .i64 ((i : Int) - 1))), (rPt [(.int .i64 ((l[(i - 1)]'(by first | omega | (simp; omega) | (simp; done))).From)), (.int .i64 ((l[(i - 1)]'(by first | omega | (simp; omega) | (simp; done))).Count)), (.int .i64 ((l[(i - 1)]'(by first | omega | (simp; omega) | (simp; done))).Sum)), (.int .i64 ((l[(i - 1)]'(by first | omega | (simp; omega) | (simp; done))).Min)), (.int .i64 ((l[(i - 1)]'(by first | omega | (simp; omega) | (simp; done))).Max)), (.int .i64 ((l[(i - 1)]'(by first | omega | (simp; omega) | (simp; done))).First)), (.int .i64 ((l[(i - 1)]'(by first | omega | (simp; omega) | (simp; done))).Last))]), (rPt [(.int .i64 ((l[(i - 1)]'(by first | omega | (simp; omega) | (simp; done))).From)), (.int .i64 ((l[(i - 1)]'(by first | omega | (simp; omega) | (simp; done))).Count)), (.int .i64 ((l[(i - 1)]'(by first | omega | (simp; omega) | (simp; done))).Sum)), (.int .i64 ((l[(i - 1)]'(by first | omega | (simp; omega) | (simp; done))).Min)), (.int .i64 ((l[(i - 1)]'(by first | omega | (simp; omega) | (simp; done))).Max)), (.int .i64 ((l[(i - 1)]'(by first | omega | (simp; omega) | (simp; done))).First)), (.int .i64 ((l[(i - 1)]'(by first | omega | (simp; omega) | (simp; done))).Last))]), (rEq (.int .i64 ((l[(i - 1)]'(by first | omega | (simp; omega) | (simp; done))).From))), (rEq (.int .i64 k)), (rEq (.int .i64 (widthA k))), (rEq (.int .i64 (((l[(i - 1)]'(by first | omega | (simp; omega) | (simp; done))).From) / (widthA k)))), (rEq (.int .i64 ((((l[i]'(by first | omega | (simp; omega) | (simp; done))).From) / (widthA k)) - (((l[(i - 1)]'(by first | omega | (simp; omega) | (simp; done))).From) / (widthA k))))), (rEq (.int .i64 (((((l[i]'(by first | omega | (simp; omega) | (simp; done))).From) / (widthA k)) - (((l[(i - 1)]'(by first | omega | (simp; omega) | (simp; done))).From) / (widthA k))) - 1))), (rEq (.int .i64 (((((l[i]'(by first | omega | (simp; omega) | (simp; done))).From) / (widthA k)) - (((l[(i - 1)]'(by first | omega | (simp; omega) | (simp; done))).From) / (widthA k))) - 1)))] (by kernel_rfl) rfl (by kernel_rfl) ⟨sEq, sEq, sEq, sEq, sPt, sPt, sEq, sEq, sEq, sEq, sEq, sEq, sEq, trivial⟩ ⟨?_, ?_, ?_, ?_, ?_, ?_, ?_, ?_, ?_, ?_, ?_, ?_, ?_, trivial⟩ ?_
        · rintro ρ47 w48 hj49 ⟨f9, _⟩
          have hst := hj49.2
          exact go_plain (op_move (.int .i64 (((l[i]'(by first | omega | (simp; omega) | (simp; done))).From) / (widthA k))) (f9.trans uw40_9) (kS hj49 rfl))
        · rintro ρ50 w51 hj52 ⟨f0, _⟩
          have hst := hj52.2
          exact go_plain (op_move v_l (f0.trans uw40_0) (kS hj52 rfl))
        · rintro ρ53 w54 hj55 ⟨f7, _⟩
          have hst := hj55.2
          exact go_plain (op_move (.int .i64 (i : Int)) (f7.trans uw40_7) (kS hj55 rfl))
        · rintro ρ56 w57 hj58 ⟨f42, _⟩
          have hst := hj58.2
          exact go_plain (op_sub (k := .i64) (a := (i : Int)) (b := 1) ((i : Int) - 1) f42 rfl (xi64 (by omega) (by omega)) (kS hj58 rfl))
        · rintro ρ59 w60 hj61 ⟨f41, f43, _⟩
          have hst := hj61.2
          refine go_plain (op_indexAddrN (E := aggE) (xs := l) (i - 1) Try.underlying23 Try.sizeOf71 f41 h_l f43 (by omega) (by first | omega | (simp; omega) | (simp; done)) (fun a62 o63 p64 => ?_))
          exact kS hj61 ⟨_, _, rfl, (p64.below hst.below)⟩
        · rintro ρ65 w66 hj67 ⟨f44, _⟩
          have hst := hj67.2
          obtain ⟨a68, o69, e70, p71⟩ := f44
          exact go_plain (op_fieldAddr (s := 0) Try.underlying71 rfl rfl Try.sizeOf2 e70 (kS hj67 ⟨_, _, rfl, p71⟩))
        · rintro ρ72 w73 hj74 ⟨f45, _⟩
          have hst := hj74.2
          obtain ⟨a75, o76, e77, p78⟩ := f45
          exact go_plain (op_load1 (u := (.int .i64 ((l[(i - 1)]'(by first | omega | (simp; omega) | (simp; done))).From))) Try.isAgg2 e77 p78 (kS hj74 rfl))
        · rintro ρ79 w80 hj81 ⟨f1, _⟩
          have hst := hj81.2
          exact go_plain (op_move (.int .i64 k) (f1.trans uw40_1) (kS hj81 rfl))
        · rintro ρ82 w83 hj84 ⟨f47, _⟩
          have hst := hj84.2
          refine go_plain (op_call Try.call36 (evs_cons (v := (.int .i64 k)) f47 evs_nil) (c_rWidth (w0 := w83) (k := k) (k0 := (by omega)) (k1 := (by omega))) ?_)
          rintro _ w85 ⟨rfl, hcall⟩
          refine ⟨_, rfl, ?_⟩
          exact kD hj84 hcall rfl
        · rintro ρ86 w87 hj88 ⟨f46, f48, _⟩
          have hst := hj88.2
          exact go_plain (op_quo (k := .i64) (a := (l[(i - 1)]'(by first | omega | (simp; omega) | (simp; done))).From) (b := (widthA k)) (((l[(i - 1)]'(by first | omega | (simp; omega) | (simp; done))).From) / (widthA k)) f46 f48 (by omega) (quo_x (by omega) (by omega) (xi64 (by omega) (by omega))) (kS hj88 rfl))
        · rintro ρ89 w90 hj91 ⟨f40, f49, _⟩
          have hst := hj91.2
          exact go_plain (op_sub (k := .i64) (a := (((l[i]'(by first | omega | (simp; omega) | (simp; done))).From) / (widthA k))) (b := (((l[(i - 1)]'(by first | omega | (simp; omega) | (simp; done))).From) / (widthA k))) ((((l[i]'(by first | omega | (simp; omega) | (simp; done))).From) / (widthA k)) - (((l[(i - 1)]'(by first | omega | (simp; omega) | (simp; done))).From) / (widthA k))) f40 f49 (xi64 (by omega) (by omega)) (kS hj91 rfl))
        · rintro ρ92 w93 hj94 ⟨f50, _⟩
          have hst := hj94.2
          exact go_plain (op_sub (k := .i64) (a := ((((l[i]'(by first | omega | (simp; omega) | (simp; done))).From) / (widthA k)) - (((l[(i - 1)]'(by first | omega | (simp; omega) | (simp; done))).From) / (widthA k)))) (b := 1) (((((l[i]'(by first | omega | (simp; omega) | (simp; done))).From) / (widthA k)) - (((l[(i - 1)]'(by first | omega | (simp; omega) | (simp; done))).From) / (widthA k))) - 1) f50 rfl (xi64 (by omega) (by omega)) (kS hj94 rfl))
        · rintro ρ95 w96 hj97 ⟨f51, _⟩
          have hst := hj97.2
          exact go_plain (op_assign (.int .i64 (((((l[i]'(by first | omega | (simp; omega) | (simp; done))).From) / (widthA k)) - (((l[(i - 1)]'(by first | omega | (simp; omega) | (simp; done))).From) / (widthA k))) - 1)) f51 (kS hj97 rfl))
        intro ρ98 w99 hbw99 hst hRw99 hkw99
        have uw99_0 : ρ98 0 = v_l := (hkw99 0 rfl).trans uw40_0
        have uw99_1 : ρ98 1 = (.int .i64 k) := (hkw99 1 rfl).trans uw40_1
        have uw99_4 : ρ98 4 = (.string (str ([] : List UInt8))) := (hkw99 4 rfl).trans uw40_4
        have uw99_5 : ρ98 5 = (.int .i64 0) := (hkw99 5 rfl).trans uw40_5
        have uw99_6 : ρ98 6 = (.string (str done)) := (hkw99 6 rfl).trans uw40_6
        have uw99_7 : ρ98 7 = (.int .i64 (i : Int)) := (hkw99 7 rfl).trans uw40_7
        have uw99_23 : ρ98 23 = (.int .i64 (i : Int)) := (hkw99 23 rfl).trans uw40_23
        have uw99_24 : ρ98 24 = v_l := (hkw99 24 rfl).trans uw40_24
        have uw99_25 : ρ98 25 = (.int .i64 (l.length : Int)) := (hkw99 25 rfl).trans uw40_25
        have uw99_26 : ρ98 26 = (.bool (decide ((i : Int) < (l.length : Int)))) := (hkw99 26 rfl).trans uw40_26
        have uw99_29 : ρ98 29 = v_l := (hkw99 29 rfl).trans uw40_29
        have uw99_30 : ρ98 30 = (.int .i64 (i : Int)) := (hkw99 30 rfl).trans uw40_30
        have uw99_31 : ρ98 31 = (.pointer (some ⟨a13, o14, none⟩)) := (hkw99 31 rfl).trans uw40_31
        have uw99_32 : ρ98 32 = (.agg #[(.int .i64 ((l[i]'(by first | omega | (simp; omega) | (simp; done))).From)), (.int .i64 ((l[i]'(by first | omega | (simp; omega) | (simp; done))).Count)), (.int .i64 ((l[i]'(by first | omega | (simp; omega) | (simp; done))).Sum)), (.int .i64 ((l[i]'(by first | omega | (simp; omega) | (simp; done))).Min)), (.int .i64 ((l[i]'(by first | omega | (simp; omega) | (simp; done))).Max)), (.int .i64 ((l[i]'(by first | omega | (simp; omega) | (simp; done))).First)), (.int .i64 ((l[i]'(by first | omega | (simp; omega) | (simp; done))).Last))]) := (hkw99 32 rfl).trans uw40_32
        have uw99_8 : ρ98 8 = (.pointer (some ⟨g16, 0, none⟩)) := (hkw99 8 rfl).trans uw40_8
        have uw99_38 : ρ98 38 = (.int .i64 (i : Int)) := (hkw99 38 rfl).trans rfl
        have uw99_39 : ρ98 39 = (.bool (decide (0 < (i : Int)))) := (hkw99 39 rfl).trans rfl
        have uw99_9 : ρ98 9 = (.int .i64 (((((l[i]'(by first | omega | (simp; omega) | (simp; done))).From) / (widthA k)) - (((l[(i - 1)]'(by first | omega | (simp; omega) | (simp; done))).From) / (widthA k))) - 1)) := hRw99 12 9 rfl
        refine then_n ?_
        refine cE_seq ?_
        refine cE_regionL hst [[(6, none)], [(9, none)], [(53, some 1)], [(54, some 2)], [(52, some 0), (55, some 3)], [(8, none)], [(57, some 5)], [(58, some 6)], [(59, some 7)], [(60, some 8)], [(56, some 4), (61, some 9)], [(8, none)], [(63, some 11)], [(64, some 12)], [(65, some 13)], [(62, some 10), (66, some 14)], [(67, some 15)]] [(rEq (.string (str done))), (rEq (.int .i64 (((((l[i]'(by first | omega | (simp; omega) | (simp; done))).From) / (widthA k)) - (((l[(i - 1)]'(by first | omega | (simp; omega) | (simp; done))).From) / (widthA k))) - 1))), (rEq (.int .u64 (((((l[i]'(by first | omega | (simp; omega) | (simp; done))).From) / (widthA k)) - (((l[(i - 1)]'(by first | omega | (simp; omega) | (simp; done))).From) / (widthA k))) - 1))), (rEq (.string (str (put (((((l[i]'(by first | omega | (simp; omega) | (simp; done))).From) / (widthA k)) - (((l[(i - 1)]'(by first | omega | (simp; omega) | (simp; done))).From) / (widthA k))) - 1))))), (rEq (.string (str (done ++ (put (((((l[i]'(by first | omega | (simp; omega) | (simp; done))).From) / (widthA k)) - (((l[(i - 1)]'(by first | omega | (simp; omega) | (simp; done))).From) / (widthA k))) - 1)))))), (rEq (.pointer (some ⟨g16, (0 + 1), none⟩))), (rEq (.int .i64 ((l[i]'(by first | omega | (simp; omega) | (simp; done))).Count))), (rEq (.int .i64 (((l[i]'(by first | omega | (simp; omega) | (simp; done))).Count) - 1))), (rEq (.int .u64 (((l[i]'(by first | omega | (simp; omega) | (simp; done))).Count) - 1))), (rEq (.string (str (put (((l[i]'(by first | omega | (simp; omega) | (simp; done))).Count) - 1))))), (rEq (.string (str ((done ++ (put (((((l[i]'(by first | omega | (simp; omega) | (simp; done))).From) / (widthA k)) - (((l[(i - 1)]'(by first | omega | (simp; omega) | (simp; done))).From) / (widthA k))) - 1))) ++ (put (((l[i]'(by first | omega | (simp; omega) | (simp; done))).Count) - 1)))))), (rEq (.pointer (some ⟨g16, (0 + 3), none⟩))), (rEq (.int .i64 ((l[i]'(by first | omega | (simp; omega) | (simp; done))).Min))), (rEq (.int .u64 (zig ((l[i]'(by first | omega | (simp; omega) | (simp; done))).Min)))), (rEq (.string (str (put (zig ((l[i]'(by first | omega | (simp; omega) | (simp; done))).Min)))))), (rEq (.string (str (((done ++ (put (((((l[i]'(by first | omega | (simp; omega) | (simp; done))).From) / (widthA k)) - (((l[(i - 1)]'(by first | omega | (simp; omega) | (simp; done))).From) / (widthA k))) - 1))) ++ (put (((l[i]'(by first | omega | (simp; omega) | (simp; done))).Count) - 1))) ++ (put (zig ((l[i]'(by first | omega | (simp; omega) | (simp; done))).Min))))))), (rEq (.string (str (((done ++ (put (((((l[i]'(by first | omega | (simp; omega) | (simp; done))).From) / (widthA k)) - (((l[(i - 1)]'(by first | omega | (simp; omega) | (simp; done))).From) / (widthA k))) - 1))) ++ (put (((l[i]'(by first | omega | (simp; omega) | (simp; done))).Count) - 1))) ++ (put (zig ((l[i]'(by first | omega | (simp; omega) | (simp; done))).Min)))))))] (by kernel_rfl) rfl (by kernel_rfl) ⟨sEq, sEq, sEq, sEq, sEq, sEq, sEq, sEq, sEq, sEq, sEq, sEq, sEq, sEq, sEq, sEq, sEq, trivial⟩ ⟨?_, ?_, ?_, ?_, ?_, ?_, ?_, ?_, ?_, ?_, ?_, ?_, ?_, ?_, ?_, ?_, ?_, trivial⟩ ?_
        · rintro ρ104 w105 hj106 ⟨f6, _⟩
          have hst := hj106.2
          exact go_plain (op_move (.string (str done)) (f6.trans uw99_6) (kS hj106 rfl))
        · rintro ρ107 w108 hj109 ⟨f9, _⟩
          have hst := hj109.2
          exact go_plain (op_move (.int .i64 (((((l[i]'(by first | omega | (simp; omega) | (simp; done))).From) / (widthA k)) - (((l[(i - 1)]'(by first | omega | (simp; omega) | (simp; done))).From) / (widthA k))) - 1)) (f9.trans uw99_9) (kS hj109 rfl))
        · rintro ρ110 w111 hj112 ⟨f53, _⟩
          have hst := hj112.2
          exact go_plain (op_conv (k := .i64) (a := (((((l[i]'(by first | omega | (simp; omega) | (simp; done))).From) / (widthA k)) - (((l[(i - 1)]'(by first | omega | (simp; omega) | (simp; done))).From) / (widthA k))) - 1)) (((((l[i]'(by first | omega | (simp; omega) | (simp; done))).From) / (widthA k)) - (((l[(i - 1)]'(by first | omega | (simp; omega) | (simp; done))).From) / (widthA k))) - 1) Try.underlying54 (by rw [Try.underlying2]; rfl) f53 (xu64 (by omega) (by omega)) (kS hj112 rfl))
        · rintro ρ113 w114 hj115 ⟨f54, _⟩
          have hst := hj115.2
          refine go_plain (op_call Try.call25 (evs_cons (v := (.int .u64 (((((l[i]'(by first | omega | (simp; omega) | (simp; done))).From) / (widthA k)) - (((l[(i - 1)]'(by first | omega | (simp; omega) | (simp; done))).From) / (widthA k))) - 1))) f54 evs_nil) (c_rPut (w0 := w114) (n := (((((l[i]'(by first | omega | (simp; omega) | (simp; done))).From) / (widthA k)) - (((l[(i - 1)]'(by first | omega | (simp; omega) | (simp; done))).From) / (widthA k))) - 1)) (h0 := (by omega)) (h1 := (by omega))) ?_)
          rintro _ w116 ⟨rfl, hcall⟩
          refine ⟨_, rfl, ?_⟩
          exact kD hj115 hcall rfl
        · rintro ρ117 w118 hj119 ⟨f52, f55, _⟩
          have hst := hj119.2
          exact go_plain (op_addStr (a := done) (b := (put (((((l[i]'(by first | omega | (simp; omega) | (simp; done))).From) / (widthA k)) - (((l[(i - 1)]'(by first | omega | (simp; omega) | (simp; done))).From) / (widthA k))) - 1))) f52 f55 (by first | omega | (simp; omega) | (simp; done)) (kS hj119 rfl))
        · rintro ρ120 w121 hj122 ⟨f8, _⟩
          have hst := hj122.2
          exact go_plain (op_fieldAddr (s := 0) Try.underlying71 rfl rfl Try.sizeOf2 (f8.trans uw99_8) (kS hj122 rfl))
        · rintro ρ123 w124 hj125 ⟨f57, _⟩
          have hst := hj125.2
          exact go_plain (op_load1 (u := (.int .i64 ((l[i]'(by first | omega | (simp; omega) | (simp; done))).Count))) Try.isAgg2 f57 ((hst.cell 0 rfl).drop 1) (kS hj125 rfl))
        · rintro ρ126 w127 hj128 ⟨f58, _⟩
          have hst := hj128.2
          exact go_plain (op_sub (k := .i64) (a := (l[i]'(by first | omega | (simp; omega) | (simp; done))).Count) (b := 1) (((l[i]'(by first | omega | (simp; omega) | (simp; done))).Count) - 1) f58 rfl (xi64 (by omega) (by omega)) (kS hj128 rfl))
        · rintro ρ129 w130 hj131 ⟨f59, _⟩
          have hst := hj131.2
          exact go_plain (op_conv (k := .i64) (a := (((l[i]'(by first | omega | (simp; omega) | (simp; done))).Count) - 1)) (((l[i]'(by first | omega | (simp; omega) | (simp; done))).Count) - 1) Try.underlying54 (by rw [Try.underlying2]; rfl) f59 (xu64 (by omega) (by omega)) (kS hj131 rfl))
        · rintro ρ132 w133 hj134 ⟨f60, _⟩
          have hst := hj134.2
          refine go_plain (op_call Try.call25 (evs_cons (v := (.int .u64 (((l[i]'(by first | omega | (simp; omega) | (simp; done))).Count) - 1))) f60 evs_nil) (c_rPut (w0 := w133) (n := (((l[i]'(by first | omega | (simp; omega) | (simp; done))).Count) - 1)) (h0 := (by omega)) (h1 := (by omega))) ?_)
          rintro _ w135 ⟨rfl, hcall⟩
          refine ⟨_, rfl, ?_⟩
          exact kD hj134 hcall rfl
        · rintro ρ136 w137 hj138 ⟨f56, f61, _⟩
          have hst := hj138.2
          exact go_plain (op_addStr (a := (done ++ (put (((((l[i]'(by first | omega | (simp; omega) | (simp; done))).From) / (widthA k)) - (((l[(i - 1)]'(by first | omega | (simp; omega) | (simp; done))).From) / (widthA k))) - 1)))) (b := (put (((l[i]'(by first | omega | (simp; omega) | (simp; done))).Count) - 1))) f56 f61 (by first | omega | (simp; omega) | (simp; done)) (kS hj138 rfl))
        · rintro ρ139 w140 hj141 ⟨f8, _⟩
          have hst := hj141.2
          exact go_plain (op_fieldAddr (s := 0) Try.underlying71 rfl rfl Try.sizeOf2 (f8.trans uw99_8) (kS hj141 rfl))
        · rintro ρ142 w143 hj144 ⟨f63, _⟩
          have hst := hj144.2
          exact go_plain (op_load1 (u := (.int .i64 ((l[i]'(by first | omega | (simp; omega) | (simp; done))).Min))) Try.isAgg2 f63 ((hst.cell 0 rfl).drop 3) (kS hj144 rfl))
        · rintro ρ145 w146 hj147 ⟨f64, _⟩
          have hst := hj147.2
          refine go_plain (op_call Try.call26 (evs_cons (v := (.int .i64 ((l[i]'(by first | omega | (simp; omega) | (simp; done))).Min))) f64 evs_nil) (c_rZig (w0 := w146) (m := (l[i]'(by first | omega | (simp; omega) | (simp; done))).Min) (h0 := (by omega)) (h1 := (by omega))) ?_)
          rintro _ w148 ⟨rfl, hcall⟩
          refine ⟨_, rfl, ?_⟩
          exact kD hj147 hcall rfl
        · rintro ρ149 w150 hj151 ⟨f65, _⟩
          have hst := hj151.2
          refine go_plain (op_call Try.call25 (evs_cons (v := (.int .u64 (zig ((l[i]'(by first | omega | (simp; omega) | (simp; done))).Min)))) f65 evs_nil) (c_rPut (w0 := w150) (n := (zig ((l[i]'(by first | omega | (simp; omega) | (simp; done))).Min))) (h0 := (by omega)) (h1 := (by omega))) ?_)
          rintro _ w152 ⟨rfl, hcall⟩
          refine ⟨_, rfl, ?_⟩
          exact kD hj151 hcall rfl
        · rintro ρ153 w154 hj155 ⟨f62, f66, _⟩
          have hst := hj155.2
          exact go_plain (op_addStr (a := ((done ++ (put (((((l[i]'(by first | omega | (simp; omega) | (simp; done))).From) / (widthA k)) - (((l[(i - 1)]'(by first | omega | (simp; omega) | (simp; done))).From) / (widthA k))) - 1))) ++ (put (((l[i]'(by first | omega | (simp; omega) | (simp; done))).Count) - 1)))) (b := (put (zig ((l[i]'(by first | omega | (simp; omega) | (simp; done))).Min)))) f62 f66 (by first | omega | (simp; omega) | (simp; done)) (kS hj155 rfl))
        · rintro ρ156 w157 hj158 ⟨f67, _⟩
          have hst := hj158.2
          exact go_plain (op_assign (.string (str (((done ++ (put (((((l[i]'(by first | omega | (simp; omega) | (simp; done))).From) / (widthA k)) - (((l[(i - 1)]'(by first | omega | (simp; omega) | (simp; done))).From) / (widthA k))) - 1))) ++ (put (((l[i]'(by first | omega | (simp; omega) | (simp; done))).Count) - 1))) ++ (put (zig ((l[i]'(by first | omega | (simp; omega) | (simp; done))).Min)))))) f67 (kS hj158 rfl))
        intro ρ159 w160 hbw160 hst hRw160 hkw160
        have uw160_0 : ρ159 0 = v_l := (hkw160 0 rfl).trans uw99_0
        have uw160_1 : ρ159 1 = (.int .i64 k) := (hkw160 1 rfl).trans uw99_1
        have uw160_4 : ρ159 4 = (.string (str ([] : List UInt8))) := (hkw160 4 rfl).trans uw99_4
        have uw160_5 : ρ159 5 = (.int .i64 0) := (hkw160 5 rfl).trans uw99_5
        have uw160_7 : ρ159 7 = (.int .i64 (i : Int)) := (hkw160 7 rfl).trans uw99_7
        have uw160_23 : ρ159 23 = (.int .i64 (i : Int)) := (hkw160 23 rfl).trans uw99_23
        have uw160_24 : ρ159 24 = v_l := (hkw160 24 rfl).trans uw99_24
        have uw160_25 : ρ159 25 = (.int .i64 (l.length : Int)) := (hkw160 25 rfl).trans uw99_25
        have uw160_26 : ρ159 26 = (.bool (decide ((i : Int) < (l.length : Int)))) := (hkw160 26 rfl).trans uw99_26
        have uw160_29 : ρ159 29 = v_l := (hkw160 29 rfl).trans uw99_29
        have uw160_30 : ρ159 30 = (.int .i64 (i : Int)) := (hkw160 30 rfl).trans uw99_30
        have uw160_31 : ρ159 31 = (.pointer (some ⟨a13, o14, none⟩)) := (hkw160 31 rfl).trans uw99_31
        have uw160_32 : ρ159 32 = (.agg #[(.int .i64 ((l[i]'(by first | omega | (simp; omega) | (simp; done))).From)), (.int .i64 ((l[i]'(by first | omega | (simp; omega) | (simp; done))).Count)), (.int .i64 ((l[i]'(by first | omega | (simp; omega) | (simp; done))).Sum)), (.int .i64 ((l[i]'(by first | omega | (simp; omega) | (simp; done))).Min)), (.int .i64 ((l[i]'(by first | omega | (simp; omega) | (simp; done))).Max)), (.int .i64 ((l[i]'(by first | omega | (simp; omega) | (simp; done))).First)), (.int .i64 ((l[i]'(by first | omega | (simp; omega) | (simp; done))).Last))]) := (hkw160 32 rfl).trans uw99_32
        have uw160_8 : ρ159 8 = (.pointer (some ⟨g16, 0, none⟩)) := (hkw160 8 rfl).trans uw99_8
        have uw160_38 : ρ159 38 = (.int .i64 (i : Int)) := (hkw160 38 rfl).trans uw99_38
        have uw160_39 : ρ159 39 = (.bool (decide (0 < (i : Int)))) := (hkw160 39 rfl).trans uw99_39
        have uw160_9 : ρ159 9 = (.int .i64 (((((l[i]'(by first | omega | (simp; omega) | (simp; done))).From) / (widthA k)) - (((l[(i - 1)]'(by first | omega | (simp; omega) | (simp; done))).From) / (widthA k))) - 1)) := (hkw160 9 rfl).trans uw99_9
        have uw160_6 : ρ159 6 = (.string (str (((done ++ (put (((((l[i]'(by first | omega | (simp; omega) | (simp; done))).From) / (widthA k)) - (((l[(i - 1)]'(by first | omega | (simp; omega) | (simp; done))).From) / (widthA k))) - 1))) ++ (put (((l[i]'(by first | omega | (simp; omega) | (simp; done))).Count) - 1))) ++ (put (zig ((l[i]'(by first | omega | (simp; omega) | (simp; done))).Min)))))) := hRw160 16 6 rfl
        refine then_n ?_
        refine cE_seq ?_
        refine cE_region rfl ?_
        refine s_cons (op_fieldAddr (s := 0) Try.underlying71 rfl rfl Try.sizeOf2 uw160_8 ?_)
        refine s_cons (op_load1 (u := (.int .i64 ((l[i]'(by first | omega | (simp; omega) | (simp; done))).Count))) Try.isAgg2 rfl ((hst.cell 0 rfl).drop 1) ?_)
        refine s_cons (op_gtr (k := .i64) (a := (l[i]'(by first | omega | (simp; omega) | (simp; done))).Count) (b := 1) rfl rfl ?_)
        refine s_nil ?_
        refine then_n ?_
        rcases Bool.eq_false_or_eq_true (decide (1 < ((l[i]'(by first | omega | (simp; omega) | (simp; done))).Count))) with b161 | b161
        · have c162 : 1 < ((l[i]'(by first | omega | (simp; omega) | (simp; done))).Count) := of_decide_eq_true b161
          refine cE_cond true (congrArg Value.bool b161) (fun _ => ?_) (fun h => by cases h)
          refine cE_regionL hst [[(6, none)], [(8, none)], [(72, some 1)], [(73, some 2)], [(8, none)], [(75, some 4)], [(76, some 5)], [(74, some 3), (77, some 6)], [(78, some 7)], [(71, some 0), (79, some 8)], [(8, none)], [(81, some 10)], [(82, some 11)], [(83, some 12)], [(80, some 9), (84, some 13)], [(8, none)], [(86, some 15)], [(87, some 16)], [(8, none)], [(89, some 18)], [(90, some 19)], [(88, some 17), (91, some 20)], [(92, some 21)], [(85, some 14), (93, some 22)], [(8, none)], [(95, some 24)], [(96, some 25)], [(8, none)], [(98, some 27)], [(99, some 28)], [(97, some 26), (100, some 29)], [(101, some 30)], [(94, some 23), (102, some 31)], [(103, some 32)]] [(rEq (.string (str (((done ++ (put (((((l[i]'(by first | omega | (simp; omega) | (simp; done))).From) / (widthA k)) - (((l[(i - 1)]'(by first | omega | (simp; omega) | (simp; done))).From) / (widthA k))) - 1))) ++ (put (((l[i]'(by first | omega | (simp; omega) | (simp; done))).Count) - 1))) ++ (put (zig ((l[i]'(by first | omega | (simp; omega) | (simp; done))).Min))))))), (rEq (.pointer (some ⟨g16, (0 + 4), none⟩))), (rEq (.int .i64 ((l[i]'(by first | omega | (simp; omega) | (simp; done))).Max))), (rEq (.int .u64 ((l[i]'(by first | omega | (simp; omega) | (simp; done))).Max % 18446744073709551616))), (rEq (.pointer (some ⟨g16, (0 + 3), none⟩))), (rEq (.int .i64 ((l[i]'(by first | omega | (simp; omega) | (simp; done))).Min))), (rEq (.int .u64 ((l[i]'(by first | omega | (simp; omega) | (simp; done))).Min % 18446744073709551616))), (rEq (.int .u64 ((l[i]'(by omega)).Max - (l[i]'(by omega)).Min))), (rEq (.string (str (put ((l[i]'(by omega)).Max - (l[i]'(by omega)).Min))))), (rEq (.string (str ((((done ++ (put (((((l[i]'(by first | omega | (simp; omega) | (simp; done))).From) / (widthA k)) - (((l[(i - 1)]'(by first | omega | (simp; omega) | (simp; done))).From) / (widthA k))) - 1))) ++ (put (((l[i]'(by first | omega | (simp; omega) | (simp; done))).Count) - 1))) ++ (put (zig ((l[i]'(by first | omega | (simp; omega) | (simp; done))).Min)))) ++ (put ((l[i]'(by omega)).Max - (l[i]'(by omega)).Min)))))), (rEq (.pointer (some ⟨g16, (0 + 2), none⟩))), (rEq (.int .i64 ((l[i]'(by first | omega | (simp; omega) | (simp; done))).Sum))), (rEq (.int .u64 (zig ((l[i]'(by first | omega | (simp; omega) | (simp; done))).Sum)))), (rEq (.string (str (put (zig ((l[i]'(by first | omega | (simp; omega) | (simp; done))).Sum)))))), (rEq (.string (str (((((done ++ (put (((((l[i]'(by first | omega | (simp; omega) | (simp; done))).From) / (widthA k)) - (((l[(i - 1)]'(by first | omega | (simp; omega) | (simp; done))).From) / (widthA k))) - 1))) ++ (put (((l[i]'(by first | omega | (simp; omega) | (simp; done))).Count) - 1))) ++ (put (zig ((l[i]'(by first | omega | (simp; omega) | (simp; done))).Min)))) ++ (put ((l[i]'(by omega)).Max - (l[i]'(by omega)).Min))) ++ (put (zig ((l[i]'(by first | omega | (simp; omega) | (simp; done))).Sum))))))), (rEq (.pointer (some ⟨g16, (0 + 5), none⟩))), (rEq (.int .i64 ((l[i]'(by first | omega | (simp; omega) | (simp; done))).First))), (rEq (.int .u64 ((l[i]'(by first | omega | (simp; omega) | (simp; done))).First % 18446744073709551616))), (rEq (.pointer (some ⟨g16, (0 + 3), none⟩))), (rEq (.int .i64 ((l[i]'(by first | omega | (simp; omega) | (simp; done))).Min))), (rEq (.int .u64 ((l[i]'(by first | omega | (simp; omega) | (simp; done))).Min % 18446744073709551616))), (rEq (.int .u64 ((l[i]'(by omega)).First - (l[i]'(by omega)).Min))), (rEq (.string (str (put ((l[i]'(by omega)).First - (l[i]'(by omega)).Min))))), (rEq (.string (str ((((((done ++ (put (((((l[i]'(by first | omega | (simp; omega) | (simp; done))).From) / (widthA k)) - (((l[(i - 1)]'(by first | omega | (simp; omega) | (simp; done))).From) / (widthA k))) - 1))) ++ (put (((l[i]'(by first | omega | (simp; omega) | (simp; done))).Count) - 1))) ++ (put (zig ((l[i]'(by first | omega | (simp; omega) | (simp; done))).Min)))) ++ (put ((l[i]'(by omega)).Max - (l[i]'(by omega)).Min))) ++ (put (zig ((l[i]'(by first | omega | (simp; omega) | (simp; done))).Sum)))) ++ (put ((l[i]'(by omega)).First - (l[i]'(by omega)).Min)))))), (rEq (.pointer (some ⟨g16, (0 + 6), none⟩))), (rEq (.int .i64 ((l[i]'(by first | omega | (simp; omega) | (simp; done))).Last))), (rEq (.int .u64 ((l[i]'(by first | omega | (simp; omega) | (simp; done))).Last % 18446744073709551616))), (rEq (.pointer (some ⟨g16, (0 + 3), none⟩))), (rEq (.int .i64 ((l[i]'(by first | omega | (simp; omega) | (simp; done))).Min))), (rEq (.int .u64 ((l[i]'(by first | omega | (simp; omega) | (simp; done))).Min % 18446744073709551616))), (rEq (.int .u64 ((l[i]'(by omega)).Last - (l[i]'(by omega)).Min))), (rEq (.string (str (put ((l[i]'(by omega)).Last - (l[i]'(by omega)).Min))))), (rEq (.string (str (((((((done ++ (put (((((l[i]'(by first | omega | (simp; omega) | (simp; done))).From) / (widthA k)) - (((l[(i - 1)]'(by first | omega | (simp; omega) | (simp; done))).From) / (widthA k))) - 1))) ++ (put (((l[i]'(by first | omega | (simp; omega) | (simp; done))).Count) - 1))) ++ (put (zig ((l[i]'(by first | omega | (simp; omega) | (simp; done))).Min)))) ++ (put ((l[i]'(by omega)).Max - (l[i]'(by omega)).Min))) ++ (put (zig ((l[i]'(by first | omega | (simp; omega) | (simp; done))).Sum)))) ++ (put ((l[i]'(by omega)).First - (l[i]'(by omega)).Min))) ++ (put ((l[i]'(by omega)).Last - (l[i]'(by omega)).Min)))))), (rEq (.string (str (((((((done ++ (put (((((l[i]'(by first | omega | (simp; omega) | (simp; done))).From) / (widthA k)) - (((l[(i - 1)]'(by first | omega | (simp; omega) | (simp; done))).From) / (widthA k))) - 1))) ++ (put (((l[i]'(by first | omega | (simp; omega) | (simp; done))).Count) - 1))) ++ (put (zig ((l[i]'(by first | omega | (simp; omega) | (simp; done))).Min)))) ++ (put ((l[i]'(by omega)).Max - (l[i]'(by omega)).Min))) ++ (put (zig ((l[i]'(by first | omega | (simp; omega) | (simp; done))).Sum)))) ++ (put ((l[i]'(by omega)).First - (l[i]'(by omega)).Min))) ++ (put ((l[i]'(by omega)).Last - (l[i]'(by omega)).Min))))))] (by kernel_rfl) rfl (by kernel_rfl) ⟨sEq, sEq, sEq, sEq, sEq, sEq, sEq, sEq, sEq, sEq, sEq, sEq, sEq, sEq, sEq, sEq, sEq, sEq, sEq, sEq, sEq, sEq, sEq, sEq, sEq, sEq, sEq, sEq, sEq, sEq, sEq, sEq, sEq, sEq, trivial⟩ ⟨?_, ?_, ?_, ?_, ?_, ?_, ?_, ?_, ?_, ?_, ?_, ?_, ?_, ?_, ?_, ?_, ?_, ?_, ?_, ?_, ?_, ?_, ?_, ?_, ?_, ?_, ?_, ?_, ?_, ?_, ?_, ?_, ?_, ?_, trivial⟩ ?_
          · rintro ρ168 w169 hj170 ⟨f6, _⟩
            have hst := hj170.2
            exact go_plain (op_move (.string (str (((done ++ (put (((((l[i]'(by first | omega | (simp; omega) | (simp; done))).From) / (widthA k)) - (((l[(i - 1)]'(by first | omega | (simp; omega) | (simp; done))).From) / (widthA k))) - 1))) ++ (put (((l[i]'(by first | omega | (simp; omega) | (simp; done))).Count) - 1))) ++ (put (zig ((l[i]'(by first | omega | (simp; omega) | (simp; done))).Min)))))) (f6.trans uw160_6) (kS hj170 rfl))
          · rintro ρ171 w172 hj173 ⟨f8, _⟩
            have hst := hj173.2
            exact go_plain (op_fieldAddr (s := 0) Try.underlying71 rfl rfl Try.sizeOf2 (f8.trans uw160_8) (kS hj173 rfl))
          · rintro ρ174 w175 hj176 ⟨f72, _⟩
            have hst := hj176.2
            exact go_plain (op_load1 (u := (.int .i64 ((l[i]'(by first | omega | (simp; omega) | (simp; done))).Max))) Try.isAgg2 f72 ((hst.cell 0 rfl).drop 4) (kS hj176 rfl))
          · rintro ρ177 w178 hj179 ⟨f73, _⟩
            have hst := hj179.2
            exact go_plain (op_conv (k := .i64) (a := (l[i]'(by first | omega | (simp; omega) | (simp; done))).Max) ((l[i]'(by first | omega | (simp; omega) | (simp; done))).Max % 18446744073709551616) Try.underlying54 (by rw [Try.underlying2]; rfl) f73 (IntKind.wrap_u64 _) (kS hj179 rfl))
          · rintro ρ180 w181 hj182 ⟨f8, _⟩
            have hst := hj182.2
            exact go_plain (op_fieldAddr (s := 0) Try.underlying71 rfl rfl Try.sizeOf2 (f8.trans uw160_8) (kS hj182 rfl))
          · rintro ρ183 w184 hj185 ⟨f75, _⟩
            have hst := hj185.2
            exact go_plain (op_load1 (u := (.int .i64 ((l[i]'(by first | omega | (simp; omega) | (simp; done))).Min))) Try.isAgg2 f75 ((hst.cell 0 rfl).drop 3) (kS hj185 rfl))
          · rintro ρ186 w187 hj188 ⟨f76, _⟩
            have hst := hj188.2
            exact go_plain (op_conv (k := .i64) (a := (l[i]'(by first | omega | (simp; omega) | (simp; done))).Min) ((l[i]'(by first | omega | (simp; omega) | (simp; done))).Min % 18446744073709551616) Try.underlying54 (by rw [Try.underlying2]; rfl) f76 (IntKind.wrap_u64 _) (kS hj188 rfl))
          · rintro ρ189 w190 hj191 ⟨f74, f77, _⟩
            have hst := hj191.2
            exact go_plain (op_sub (k := .u64) (a := ((l[i]'(by first | omega | (simp; omega) | (simp; done))).Max % 18446744073709551616)) (b := ((l[i]'(by first | omega | (simp; omega) | (simp; done))).Min % 18446744073709551616)) ((l[i]'(by omega)).Max - (l[i]'(by omega)).Min) f74 f77 (u64_sub (by simp only [i64R]; omega) (by simp only [i64R]; omega) (by omega)) (kS hj191 rfl))
          · rintro ρ192 w193 hj194 ⟨f78, _⟩
            have hst := hj194.2
            refine go_plain (op_call Try.call25 (evs_cons (v := (.int .u64 ((l[i]'(by omega)).Max - (l[i]'(by omega)).Min))) f78 evs_nil) (c_rPut (w0 := w193) (n := ((l[i]'(by omega)).Max - (l[i]'(by omega)).Min)) (h0 := (by omega)) (h1 := (by omega))) ?_)
            rintro _ w195 ⟨rfl, hcall⟩
            refine ⟨_, rfl, ?_⟩
            exact kD hj194 hcall rfl
          · rintro ρ196 w197 hj198 ⟨f71, f79, _⟩
            have hst := hj198.2
            exact go_plain (op_addStr (a := (((done ++ (put (((((l[i]'(by first | omega | (simp; omega) | (simp; done))).From) / (widthA k)) - (((l[(i - 1)]'(by first | omega | (simp; omega) | (simp; done))).From) / (widthA k))) - 1))) ++ (put (((l[i]'(by first | omega | (simp; omega) | (simp; done))).Count) - 1))) ++ (put (zig ((l[i]'(by first | omega | (simp; omega) | (simp; done))).Min))))) (b := (put ((l[i]'(by omega)).Max - (l[i]'(by omega)).Min))) f71 f79 (by first | omega | (simp; omega) | (simp; done)) (kS hj198 rfl))
          · rintro ρ199 w200 hj201 ⟨f8, _⟩
            have hst := hj201.2
            exact go_plain (op_fieldAddr (s := 0) Try.underlying71 rfl rfl Try.sizeOf2 (f8.trans uw160_8) (kS hj201 rfl))
          · rintro ρ202 w203 hj204 ⟨f81, _⟩
            have hst := hj204.2
            exact go_plain (op_load1 (u := (.int .i64 ((l[i]'(by first | omega | (simp; omega) | (simp; done))).Sum))) Try.isAgg2 f81 ((hst.cell 0 rfl).drop 2) (kS hj204 rfl))
          · rintro ρ205 w206 hj207 ⟨f82, _⟩
            have hst := hj207.2
            refine go_plain (op_call Try.call26 (evs_cons (v := (.int .i64 ((l[i]'(by first | omega | (simp; omega) | (simp; done))).Sum))) f82 evs_nil) (c_rZig (w0 := w206) (m := (l[i]'(by first | omega | (simp; omega) | (simp; done))).Sum) (h0 := (by omega)) (h1 := (by omega))) ?_)
            rintro _ w208 ⟨rfl, hcall⟩
            refine ⟨_, rfl, ?_⟩
            exact kD hj207 hcall rfl
          · rintro ρ209 w210 hj211 ⟨f83, _⟩
            have hst := hj211.2
            refine go_plain (op_call Try.call25 (evs_cons (v := (.int .u64 (zig ((l[i]'(by first | omega | (simp; omega) | (simp; done))).Sum)))) f83 evs_nil) (c_rPut (w0 := w210) (n := (zig ((l[i]'(by first | omega | (simp; omega) | (simp; done))).Sum))) (h0 := (by omega)) (h1 := (by omega))) ?_)
            rintro _ w212 ⟨rfl, hcall⟩
            refine ⟨_, rfl, ?_⟩
            exact kD hj211 hcall rfl
          · rintro ρ213 w214 hj215 ⟨f80, f84, _⟩
            have hst := hj215.2
            exact go_plain (op_addStr (a := ((((done ++ (put (((((l[i]'(by first | omega | (simp; omega) | (simp; done))).From) / (widthA k)) - (((l[(i - 1)]'(by first | omega | (simp; omega) | (simp; done))).From) / (widthA k))) - 1))) ++ (put (((l[i]'(by first | omega | (simp; omega) | (simp; done))).Count) - 1))) ++ (put (zig ((l[i]'(by first | omega | (simp; omega) | (simp; done))).Min)))) ++ (put ((l[i]'(by omega)).Max - (l[i]'(by omega)).Min)))) (b := (put (zig ((l[i]'(by first | omega | (simp; omega) | (simp; done))).Sum)))) f80 f84 (by first | omega | (simp; omega) | (simp; done)) (kS hj215 rfl))
          · rintro ρ216 w217 hj218 ⟨f8, _⟩
            have hst := hj218.2
            exact go_plain (op_fieldAddr (s := 0) Try.underlying71 rfl rfl Try.sizeOf2 (f8.trans uw160_8) (kS hj218 rfl))
          · rintro ρ219 w220 hj221 ⟨f86, _⟩
            have hst := hj221.2
            exact go_plain (op_load1 (u := (.int .i64 ((l[i]'(by first | omega | (simp; omega) | (simp; done))).First))) Try.isAgg2 f86 ((hst.cell 0 rfl).drop 5) (kS hj221 rfl))
          · rintro ρ222 w223 hj224 ⟨f87, _⟩
            have hst := hj224.2
            exact go_plain (op_conv (k := .i64) (a := (l[i]'(by first | omega | (simp; omega) | (simp; done))).First) ((l[i]'(by first | omega | (simp; omega) | (simp; done))).First % 18446744073709551616) Try.underlying54 (by rw [Try.underlying2]; rfl) f87 (IntKind.wrap_u64 _) (kS hj224 rfl))
          · rintro ρ225 w226 hj227 ⟨f8, _⟩
            have hst := hj227.2
            exact go_plain (op_fieldAddr (s := 0) Try.underlying71 rfl rfl Try.sizeOf2 (f8.trans uw160_8) (kS hj227 rfl))
          · rintro ρ228 w229 hj230 ⟨f89, _⟩
            have hst := hj230.2
            exact go_plain (op_load1 (u := (.int .i64 ((l[i]'(by first | omega | (simp; omega) | (simp; done))).Min))) Try.isAgg2 f89 ((hst.cell 0 rfl).drop 3) (kS hj230 rfl))
          · rintro ρ231 w232 hj233 ⟨f90, _⟩
            have hst := hj233.2
            exact go_plain (op_conv (k := .i64) (a := (l[i]'(by first | omega | (simp; omega) | (simp; done))).Min) ((l[i]'(by first | omega | (simp; omega) | (simp; done))).Min % 18446744073709551616) Try.underlying54 (by rw [Try.underlying2]; rfl) f90 (IntKind.wrap_u64 _) (kS hj233 rfl))
          · rintro ρ234 w235 hj236 ⟨f88, f91, _⟩
            have hst := hj236.2
            exact go_plain (op_sub (k := .u64) (a := ((l[i]'(by first | omega | (simp; omega) | (simp; done))).First % 18446744073709551616)) (b := ((l[i]'(by first | omega | (simp; omega) | (simp; done))).Min % 18446744073709551616)) ((l[i]'(by omega)).First - (l[i]'(by omega)).Min) f88 f91 (u64_sub (by simp only [i64R]; omega) (by simp only [i64R]; omega) (by omega)) (kS hj236 rfl))
          · rintro ρ237 w238 hj239 ⟨f92, _⟩
            have hst := hj239.2
            refine go_plain (op_call Try.call25 (evs_cons (v := (.int .u64 ((l[i]'(by omega)).First - (l[i]'(by omega)).Min))) f92 evs_nil) (c_rPut (w0 := w238) (n := ((l[i]'(by omega)).First - (l[i]'(by omega)).Min)) (h0 := (by omega)) (h1 := (by omega))) ?_)
            rintro _ w240 ⟨rfl, hcall⟩
            refine ⟨_, rfl, ?_⟩
            exact kD hj239 hcall rfl
          · rintro ρ241 w242 hj243 ⟨f85, f93, _⟩
            have hst := hj243.2
            exact go_plain (op_addStr (a := (((((done ++ (put (((((l[i]'(by first | omega | (simp; omega) | (simp; done))).From) / (widthA k)) - (((l[(i - 1)]'(by first | omega | (simp; omega) | (simp; done))).From) / (widthA k))) - 1))) ++ (put (((l[i]'(by first | omega | (simp; omega) | (simp; done))).Count) - 1))) ++ (put (zig ((l[i]'(by first | omega | (simp; omega) | (simp; done))).Min)))) ++ (put ((l[i]'(by omega)).Max - (l[i]'(by omega)).Min))) ++ (put (zig ((l[i]'(by first | omega | (simp; omega) | (simp; done))).Sum))))) (b := (put ((l[i]'(by omega)).First - (l[i]'(by omega)).Min))) f85 f93 (by first | omega | (simp; omega) | (simp; done)) (kS hj243 rfl))
          · rintro ρ244 w245 hj246 ⟨f8, _⟩
            have hst := hj246.2
            exact go_plain (op_fieldAddr (s := 0) Try.underlying71 rfl rfl Try.sizeOf2 (f8.trans uw160_8) (kS hj246 rfl))
          · rintro ρ247 w248 hj249 ⟨f95, _⟩
            have hst := hj249.2
            exact go_plain (op_load1 (u := (.int .i64 ((l[i]'(by first | omega | (simp; omega) | (simp; done))).Last))) Try.isAgg2 f95 ((hst.cell 0 rfl).drop 6) (kS hj249 rfl))
          · rintro ρ250 w251 hj252 ⟨f96, _⟩
            have hst := hj252.2
            exact go_plain (op_conv (k := .i64) (a := (l[i]'(by first | omega | (simp; omega) | (simp; done))).Last) ((l[i]'(by first | omega | (simp; omega) | (simp; done))).Last % 18446744073709551616) Try.underlying54 (by rw [Try.underlying2]; rfl) f96 (IntKind.wrap_u64 _) (kS hj252 rfl))
          · rintro ρ253 w254 hj255 ⟨f8, _⟩
            have hst := hj255.2
            exact go_plain (op_fieldAddr (s := 0) Try.underlying71 rfl rfl Try.sizeOf2 (f8.trans uw160_8) (kS hj255 rfl))
          · rintro ρ256 w257 hj258 ⟨f98, _⟩
            have hst := hj258.2
            exact go_plain (op_load1 (u := (.int .i64 ((l[i]'(by first | omega | (simp; omega) | (simp; done))).Min))) Try.isAgg2 f98 ((hst.cell 0 rfl).drop 3) (kS hj258 rfl))
          · rintro ρ259 w260 hj261 ⟨f99, _⟩
            have hst := hj261.2
            exact go_plain (op_conv (k := .i64) (a := (l[i]'(by first | omega | (simp; omega) | (simp; done))).Min) ((l[i]'(by first | omega | (simp; omega) | (simp; done))).Min % 18446744073709551616) Try.underlying54 (by rw [Try.underlying2]; rfl) f99 (IntKind.wrap_u64 _) (kS hj261 rfl))
          · rintro ρ262 w263 hj264 ⟨f97, f100, _⟩
            have hst := hj264.2
            exact go_plain (op_sub (k := .u64) (a := ((l[i]'(by first | omega | (simp; omega) | (simp; done))).Last % 18446744073709551616)) (b := ((l[i]'(by first | omega | (simp; omega) | (simp; done))).Min % 18446744073709551616)) ((l[i]'(by omega)).Last - (l[i]'(by omega)).Min) f97 f100 (u64_sub (by simp only [i64R]; omega) (by simp only [i64R]; omega) (by omega)) (kS hj264 rfl))
          · rintro ρ265 w266 hj267 ⟨f101, _⟩
            have hst := hj267.2
            refine go_plain (op_call Try.call25 (evs_cons (v := (.int .u64 ((l[i]'(by omega)).Last - (l[i]'(by omega)).Min))) f101 evs_nil) (c_rPut (w0 := w266) (n := ((l[i]'(by omega)).Last - (l[i]'(by omega)).Min)) (h0 := (by omega)) (h1 := (by omega))) ?_)
            rintro _ w268 ⟨rfl, hcall⟩
            refine ⟨_, rfl, ?_⟩
            exact kD hj267 hcall rfl
          · rintro ρ269 w270 hj271 ⟨f94, f102, _⟩
            have hst := hj271.2
            exact go_plain (op_addStr (a := ((((((done ++ (put (((((l[i]'(by first | omega | (simp; omega) | (simp; done))).From) / (widthA k)) - (((l[(i - 1)]'(by first | omega | (simp; omega) | (simp; done))).From) / (widthA k))) - 1))) ++ (put (((l[i]'(by first | omega | (simp; omega) | (simp; done))).Count) - 1))) ++ (put (zig ((l[i]'(by first | omega | (simp; omega) | (simp; done))).Min)))) ++ (put ((l[i]'(by omega)).Max - (l[i]'(by omega)).Min))) ++ (put (zig ((l[i]'(by first | omega | (simp; omega) | (simp; done))).Sum)))) ++ (put ((l[i]'(by omega)).First - (l[i]'(by omega)).Min)))) (b := (put ((l[i]'(by omega)).Last - (l[i]'(by omega)).Min))) f94 f102 (by first | omega | (simp; omega) | (simp; done)) (kS hj271 rfl))
          · rintro ρ272 w273 hj274 ⟨f103, _⟩
            have hst := hj274.2
            exact go_plain (op_assign (.string (str (((((((done ++ (put (((((l[i]'(by first | omega | (simp; omega) | (simp; done))).From) / (widthA k)) - (((l[(i - 1)]'(by first | omega | (simp; omega) | (simp; done))).From) / (widthA k))) - 1))) ++ (put (((l[i]'(by first | omega | (simp; omega) | (simp; done))).Count) - 1))) ++ (put (zig ((l[i]'(by first | omega | (simp; omega) | (simp; done))).Min)))) ++ (put ((l[i]'(by omega)).Max - (l[i]'(by omega)).Min))) ++ (put (zig ((l[i]'(by first | omega | (simp; omega) | (simp; done))).Sum)))) ++ (put ((l[i]'(by omega)).First - (l[i]'(by omega)).Min))) ++ (put ((l[i]'(by omega)).Last - (l[i]'(by omega)).Min))))) f103 (kS hj274 rfl))
          intro ρ275 w276 hbw276 hst hRw276 hkw276
          have uw276_0 : ρ275 0 = v_l := (hkw276 0 rfl).trans uw160_0
          have uw276_1 : ρ275 1 = (.int .i64 k) := (hkw276 1 rfl).trans uw160_1
          have uw276_4 : ρ275 4 = (.string (str ([] : List UInt8))) := (hkw276 4 rfl).trans uw160_4
          have uw276_5 : ρ275 5 = (.int .i64 0) := (hkw276 5 rfl).trans uw160_5
          have uw276_7 : ρ275 7 = (.int .i64 (i : Int)) := (hkw276 7 rfl).trans uw160_7
          have uw276_23 : ρ275 23 = (.int .i64 (i : Int)) := (hkw276 23 rfl).trans uw160_23
          have uw276_24 : ρ275 24 = v_l := (hkw276 24 rfl).trans uw160_24
          have uw276_25 : ρ275 25 = (.int .i64 (l.length : Int)) := (hkw276 25 rfl).trans uw160_25
          have uw276_26 : ρ275 26 = (.bool (decide ((i : Int) < (l.length : Int)))) := (hkw276 26 rfl).trans uw160_26
          have uw276_29 : ρ275 29 = v_l := (hkw276 29 rfl).trans uw160_29
          have uw276_30 : ρ275 30 = (.int .i64 (i : Int)) := (hkw276 30 rfl).trans uw160_30
          have uw276_31 : ρ275 31 = (.pointer (some ⟨a13, o14, none⟩)) := (hkw276 31 rfl).trans uw160_31
          have uw276_32 : ρ275 32 = (.agg #[(.int .i64 ((l[i]'(by first | omega | (simp; omega) | (simp; done))).From)), (.int .i64 ((l[i]'(by first | omega | (simp; omega) | (simp; done))).Count)), (.int .i64 ((l[i]'(by first | omega | (simp; omega) | (simp; done))).Sum)), (.int .i64 ((l[i]'(by first | omega | (simp; omega) | (simp; done))).Min)), (.int .i64 ((l[i]'(by first | omega | (simp; omega) | (simp; done))).Max)), (.int .i64 ((l[i]'(by first | omega | (simp; omega) | (simp; done))).First)), (.int .i64 ((l[i]'(by first | omega | (simp; omega) | (simp; done))).Last))]) := (hkw276 32 rfl).trans uw160_32
          have uw276_8 : ρ275 8 = (.pointer (some ⟨g16, 0, none⟩)) := (hkw276 8 rfl).trans uw160_8
          have uw276_38 : ρ275 38 = (.int .i64 (i : Int)) := (hkw276 38 rfl).trans uw160_38
          have uw276_39 : ρ275 39 = (.bool (decide (0 < (i : Int)))) := (hkw276 39 rfl).trans uw160_39
          have uw276_9 : ρ275 9 = (.int .i64 (((((l[i]'(by first | omega | (simp; omega) | (simp; done))).From) / (widthA k)) - (((l[(i - 1)]'(by first | omega | (simp; omega) | (simp; done))).From) / (widthA k))) - 1)) := (hkw276 9 rfl).trans uw160_9
          have uw276_68 : ρ275 68 = (.pointer (some ⟨g16, (0 + 1), none⟩)) := (hkw276 68 rfl).trans rfl
          have uw276_69 : ρ275 69 = (.int .i64 ((l[i]'(by first | omega | (simp; omega) | (simp; done))).Count)) := (hkw276 69 rfl).trans rfl
          have uw276_70 : ρ275 70 = (.bool (decide (1 < ((l[i]'(by first | omega | (simp; omega) | (simp; done))).Count)))) := (hkw276 70 rfl).trans rfl
          have uw276_6 : ρ275 6 = (.string (str (((((((done ++ (put (((((l[i]'(by first | omega | (simp; omega) | (simp; done))).From) / (widthA k)) - (((l[(i - 1)]'(by first | omega | (simp; omega) | (simp; done))).From) / (widthA k))) - 1))) ++ (put (((l[i]'(by first | omega | (simp; omega) | (simp; done))).Count) - 1))) ++ (put (zig ((l[i]'(by first | omega | (simp; omega) | (simp; done))).Min)))) ++ (put ((l[i]'(by omega)).Max - (l[i]'(by omega)).Min))) ++ (put (zig ((l[i]'(by first | omega | (simp; omega) | (simp; done))).Sum)))) ++ (put ((l[i]'(by omega)).First - (l[i]'(by omega)).Min))) ++ (put ((l[i]'(by omega)).Last - (l[i]'(by omega)).Min))))) := hRw276 33 6 rfl
          refine block_n (then_n ?_)
          refine cE_region rfl ?_
          refine s_cons (op_move (.int .i64 (i : Int)) uw276_7 ?_)
          refine s_cons (op_add (k := .i64) (a := (i : Int)) (b := 1) ((i : Int) + 1) rfl rfl (xi64 (by omega) (by omega)) ?_)
          refine s_cons (op_assign (.int .i64 ((i : Int) + 1)) rfl ?_)
          refine s_nil ?_
          refine then_n ?_
          exact ⟨_, ⟨(((((((done ++ (put (((((l[i]'(by first | omega | (simp; omega) | (simp; done))).From) / (widthA k)) - (((l[(i - 1)]'(by first | omega | (simp; omega) | (simp; done))).From) / (widthA k))) - 1))) ++ (put (((l[i]'(by first | omega | (simp; omega) | (simp; done))).Count) - 1))) ++ (put (zig ((l[i]'(by first | omega | (simp; omega) | (simp; done))).Min)))) ++ (put ((l[i]'(by omega)).Max - (l[i]'(by omega)).Min))) ++ (put (zig ((l[i]'(by first | omega | (simp; omega) | (simp; done))).Sum)))) ++ (put ((l[i]'(by omega)).First - (l[i]'(by omega)).Min))) ++ (put ((l[i]'(by omega)).Last - (l[i]'(by omega)).Min))), (i + 1), rfl, uw276_0, uw276_1, uw276_4, uw276_5, uw276_6, (congrArg (Value.int .i64) (show ((i : Int) + 1) = _ from by omega)), (hst.sub (.cons _ .slnil)), (by omega), (by first | omega | (simp; omega)), (by first | rfl | (rw [hp, stepA2_one (by omega) (by omega), lastW_zero (i := i) (by omega)]; simp; done) | (rw [hp, stepA2_one (by omega) (by omega), lastW_at (i := i) (by omega) (by omega)]; simp; done) | (rw [hp, stepA2_many (by omega) (by omega), lastW_zero (i := i) (by omega)]; simp; done) | (rw [hp, stepA2_many (by omega) (by omega), lastW_at (i := i) (by omega) (by omega)]; simp; done))⟩, (by simp only [id]; omega)⟩
        have c277 : ¬ (1 < ((l[i]'(by first | omega | (simp; omega) | (simp; done))).Count)) := of_decide_eq_false b161
        refine cE_cond false (congrArg Value.bool b161) (fun h => by cases h) (fun _ => ?_)
        refine cE_skip ?_
        refine block_n (then_n ?_)
        refine cE_region rfl ?_
        refine s_cons (op_move (.int .i64 (i : Int)) uw160_7 ?_)
        refine s_cons (op_add (k := .i64) (a := (i : Int)) (b := 1) ((i : Int) + 1) rfl rfl (xi64 (by omega) (by omega)) ?_)
        refine s_cons (op_assign (.int .i64 ((i : Int) + 1)) rfl ?_)
        refine s_nil ?_
        refine then_n ?_
        exact ⟨_, ⟨(((done ++ (put (((((l[i]'(by first | omega | (simp; omega) | (simp; done))).From) / (widthA k)) - (((l[(i - 1)]'(by first | omega | (simp; omega) | (simp; done))).From) / (widthA k))) - 1))) ++ (put (((l[i]'(by first | omega | (simp; omega) | (simp; done))).Count) - 1))) ++ (put (zig ((l[i]'(by first | omega | (simp; omega) | (simp; done))).Min)))), (i + 1), rfl, uw160_0, uw160_1, uw160_4, uw160_5, uw160_6, (congrArg (Value.int .i64) (show ((i : Int) + 1) = _ from by omega)), (hst.sub (.cons _ .slnil)), (by omega), (by first | omega | (simp; omega)), (by first | rfl | (rw [hp, stepA2_one (by omega) (by omega), lastW_zero (i := i) (by omega)]; simp; done) | (rw [hp, stepA2_one (by omega) (by omega), lastW_at (i := i) (by omega) (by omega)]; simp; done) | (rw [hp, stepA2_many (by omega) (by omega), lastW_zero (i := i) (by omega)]; simp; done) | (rw [hp, stepA2_many (by omega) (by omega), lastW_at (i := i) (by omega) (by omega)]; simp; done))⟩, (by simp only [id]; omega)⟩
      have c278 : ¬ (0 < (i : Int)) := of_decide_eq_false b41
      refine cE_cond false (congrArg Value.bool b41) (fun h => by cases h) (fun _ => ?_)
      refine cE_skip ?_
      refine then_n ?_
      refine cE_seq ?_
      refine cE_regionL hst [[(6, none)], [(9, none)], [(53, some 1)], [(54, some 2)], [(52, some 0), (55, some 3)], [(8, none)], [(57, some 5)], [(58, some 6)], [(59, some 7)], [(60, some 8)], [(56, some 4), (61, some 9)], [(8, none)], [(63, some 11)], [(64, some 12)], [(65, some 13)], [(62, some 10), (66, some 14)], [(67, some 15)]] [(rEq (.string (str done))), (rEq (.int .i64 (((l[i]'(by first | omega | (simp; omega) | (simp; done))).From) / (widthA k)))), (rEq (.int .u64 (((l[i]'(by first | omega | (simp; omega) | (simp; done))).From) / (widthA k)))), (rEq (.string (str (put (((l[i]'(by first | omega | (simp; omega) | (simp; done))).From) / (widthA k)))))), (rEq (.string (str (done ++ (put (((l[i]'(by first | omega | (simp; omega) | (simp; done))).From) / (widthA k))))))), (rEq (.pointer (some ⟨g16, (0 + 1), none⟩))), (rEq (.int .i64 ((l[i]'(by first | omega | (simp; omega) | (simp; done))).Count))), (rEq (.int .i64 (((l[i]'(by first | omega | (simp; omega) | (simp; done))).Count) - 1))), (rEq (.int .u64 (((l[i]'(by first | omega | (simp; omega) | (simp; done))).Count) - 1))), (rEq (.string (str (put (((l[i]'(by first | omega | (simp; omega) | (simp; done))).Count) - 1))))), (rEq (.string (str ((done ++ (put (((l[i]'(by first | omega | (simp; omega) | (simp; done))).From) / (widthA k)))) ++ (put (((l[i]'(by first | omega | (simp; omega) | (simp; done))).Count) - 1)))))), (rEq (.pointer (some ⟨g16, (0 + 3), none⟩))), (rEq (.int .i64 ((l[i]'(by first | omega | (simp; omega) | (simp; done))).Min))), (rEq (.int .u64 (zig ((l[i]'(by first | omega | (simp; omega) | (simp; done))).Min)))), (rEq (.string (str (put (zig ((l[i]'(by first | omega | (simp; omega) | (simp; done))).Min)))))), (rEq (.string (str (((done ++ (put (((l[i]'(by first | omega | (simp; omega) | (simp; done))).From) / (widthA k)))) ++ (put (((l[i]'(by first | omega | (simp; omega) | (simp; done))).Count) - 1))) ++ (put (zig ((l[i]'(by first | omega | (simp; omega) | (simp; done))).Min))))))), (rEq (.string (str (((done ++ (put (((l[i]'(by first | omega | (simp; omega) | (simp; done))).From) / (widthA k)))) ++ (put (((l[i]'(by first | omega | (simp; omega) | (simp; done))).Count) - 1))) ++ (put (zig ((l[i]'(by first | omega | (simp; omega) | (simp; done))).Min)))))))] (by kernel_rfl) rfl (by kernel_rfl) ⟨sEq, sEq, sEq, sEq, sEq, sEq, sEq, sEq, sEq, sEq, sEq, sEq, sEq, sEq, sEq, sEq, sEq, trivial⟩ ⟨?_, ?_, ?_, ?_, ?_, ?_, ?_, ?_, ?_, ?_, ?_, ?_, ?_, ?_, ?_, ?_, ?_, trivial⟩ ?_
      · rintro ρ283 w284 hj285 ⟨f6, _⟩
        have hst := hj285.2
        exact go_plain (op_move (.string (str done)) (f6.trans uw40_6) (kS hj285 rfl))
      · rintro ρ286 w287 hj288 ⟨f9, _⟩
        have hst := hj288.2
        exact go_plain (op_move (.int .i64 (((l[i]'(by first | omega | (simp; omega) | (simp; done))).From) / (widthA k))) (f9.trans uw40_9) (kS hj288 rfl))
      · rintro ρ289 w290 hj291 ⟨f53, _⟩
        have hst := hj291.2
        exact go_plain (op_conv (k := .i64) (a := (((l[i]'(by first | omega | (simp; omega) | (simp; done))).From) / (widthA k))) (((l[i]'(by first | omega | (simp; omega) | (simp; done))).From) / (widthA k)) Try.underlying54 (by rw [Try.underlying2]; rfl) f53 (xu64 (by omega) (by omega)) (kS hj291 rfl))
      · rintro ρ292 w293 hj294 ⟨f54, _⟩
        have hst := hj294.2
        refine go_plain (op_call Try.call25 (evs_cons (v := (.int .u64 (((l[i]'(by first | omega | (simp; omega) | (simp; done))).From) / (widthA k)))) f54 evs_nil) (c_rPut (w0 := w293) (n := (((l[i]'(by first | omega | (simp; omega) | (simp; done))).From) / (widthA k))) (h0 := (by omega)) (h1 := (by omega))) ?_)
        rintro _ w295 ⟨rfl, hcall⟩
        refine ⟨_, rfl, ?_⟩
        exact kD hj294 hcall rfl
      · rintro ρ296 w297 hj298 ⟨f52, f55, _⟩
        have hst := hj298.2
        exact go_plain (op_addStr (a := done) (b := (put (((l[i]'(by first | omega | (simp; omega) | (simp; done))).From) / (widthA k)))) f52 f55 (by first | omega | (simp; omega) | (simp; done)) (kS hj298 rfl))
      · rintro ρ299 w300 hj301 ⟨f8, _⟩
        have hst := hj301.2
        exact go_plain (op_fieldAddr (s := 0) Try.underlying71 rfl rfl Try.sizeOf2 (f8.trans uw40_8) (kS hj301 rfl))
      · rintro ρ302 w303 hj304 ⟨f57, _⟩
        have hst := hj304.2
        exact go_plain (op_load1 (u := (.int .i64 ((l[i]'(by first | omega | (simp; omega) | (simp; done))).Count))) Try.isAgg2 f57 ((hst.cell 0 rfl).drop 1) (kS hj304 rfl))
      · rintro ρ305 w306 hj307 ⟨f58, _⟩
        have hst := hj307.2
        exact go_plain (op_sub (k := .i64) (a := (l[i]'(by first | omega | (simp; omega) | (simp; done))).Count) (b := 1) (((l[i]'(by first | omega | (simp; omega) | (simp; done))).Count) - 1) f58 rfl (xi64 (by omega) (by omega)) (kS hj307 rfl))
      · rintro ρ308 w309 hj310 ⟨f59, _⟩
        have hst := hj310.2
        exact go_plain (op_conv (k := .i64) (a := (((l[i]'(by first | omega | (simp; omega) | (simp; done))).Count) - 1)) (((l[i]'(by first | omega | (simp; omega) | (simp; done))).Count) - 1) Try.underlying54 (by rw [Try.underlying2]; rfl) f59 (xu64 (by omega) (by omega)) (kS hj310 rfl))
      · rintro ρ311 w312 hj313 ⟨f60, _⟩
        have hst := hj313.2
        refine go_plain (op_call Try.call25 (evs_cons (v := (.int .u64 (((l[i]'(by first | omega | (simp; omega) | (simp; done))).Count) - 1))) f60 evs_nil) (c_rPut (w0 := w312) (n := (((l[i]'(by first | omega | (simp; omega) | (simp; done))).Count) - 1)) (h0 := (by omega)) (h1 := (by omega))) ?_)
        rintro _ w314 ⟨rfl, hcall⟩
        refine ⟨_, rfl, ?_⟩
        exact kD hj313 hcall rfl
      · rintro ρ315 w316 hj317 ⟨f56, f61, _⟩
        have hst := hj317.2
        exact go_plain (op_addStr (a := (done ++ (put (((l[i]'(by first | omega | (simp; omega) | (simp; done))).From) / (widthA k))))) (b := (put (((l[i]'(by first | omega | (simp; omega) | (simp; done))).Count) - 1))) f56 f61 (by first | omega | (simp; omega) | (simp; done)) (kS hj317 rfl))
      · rintro ρ318 w319 hj320 ⟨f8, _⟩
        have hst := hj320.2
        exact go_plain (op_fieldAddr (s := 0) Try.underlying71 rfl rfl Try.sizeOf2 (f8.trans uw40_8) (kS hj320 rfl))
      · rintro ρ321 w322 hj323 ⟨f63, _⟩
        have hst := hj323.2
        exact go_plain (op_load1 (u := (.int .i64 ((l[i]'(by first | omega | (simp; omega) | (simp; done))).Min))) Try.isAgg2 f63 ((hst.cell 0 rfl).drop 3) (kS hj323 rfl))
      · rintro ρ324 w325 hj326 ⟨f64, _⟩
        have hst := hj326.2
        refine go_plain (op_call Try.call26 (evs_cons (v := (.int .i64 ((l[i]'(by first | omega | (simp; omega) | (simp; done))).Min))) f64 evs_nil) (c_rZig (w0 := w325) (m := (l[i]'(by first | omega | (simp; omega) | (simp; done))).Min) (h0 := (by omega)) (h1 := (by omega))) ?_)
        rintro _ w327 ⟨rfl, hcall⟩
        refine ⟨_, rfl, ?_⟩
        exact kD hj326 hcall rfl
      · rintro ρ328 w329 hj330 ⟨f65, _⟩
        have hst := hj330.2
        refine go_plain (op_call Try.call25 (evs_cons (v := (.int .u64 (zig ((l[i]'(by first | omega | (simp; omega) | (simp; done))).Min)))) f65 evs_nil) (c_rPut (w0 := w329) (n := (zig ((l[i]'(by first | omega | (simp; omega) | (simp; done))).Min))) (h0 := (by omega)) (h1 := (by omega))) ?_)
        rintro _ w331 ⟨rfl, hcall⟩
        refine ⟨_, rfl, ?_⟩
        exact kD hj330 hcall rfl
      · rintro ρ332 w333 hj334 ⟨f62, f66, _⟩
        have hst := hj334.2
        exact go_plain (op_addStr (a := ((done ++ (put (((l[i]'(by first | omega | (simp; omega) | (simp; done))).From) / (widthA k)))) ++ (put (((l[i]'(by first | omega | (simp; omega) | (simp; done))).Count) - 1)))) (b := (put (zig ((l[i]'(by first | omega | (simp; omega) | (simp; done))).Min)))) f62 f66 (by first | omega | (simp; omega) | (simp; done)) (kS hj334 rfl))
      · rintro ρ335 w336 hj337 ⟨f67, _⟩
        have hst := hj337.2
        exact go_plain (op_assign (.string (str (((done ++ (put (((l[i]'(by first | omega | (simp; omega) | (simp; done))).From) / (widthA k)))) ++ (put (((l[i]'(by first | omega | (simp; omega) | (simp; done))).Count) - 1))) ++ (put (zig ((l[i]'(by first | omega | (simp; omega) | (simp; done))).Min)))))) f67 (kS hj337 rfl))
      intro ρ338 w339 hbw339 hst hRw339 hkw339
      have uw339_0 : ρ338 0 = v_l := (hkw339 0 rfl).trans uw40_0
      have uw339_1 : ρ338 1 = (.int .i64 k) := (hkw339 1 rfl).trans uw40_1
      have uw339_4 : ρ338 4 = (.string (str ([] : List UInt8))) := (hkw339 4 rfl).trans uw40_4
      have uw339_5 : ρ338 5 = (.int .i64 0) := (hkw339 5 rfl).trans uw40_5
      have uw339_7 : ρ338 7 = (.int .i64 (i : Int)) := (hkw339 7 rfl).trans uw40_7
      have uw339_23 : ρ338 23 = (.int .i64 (i : Int)) := (hkw339 23 rfl).trans uw40_23
      have uw339_24 : ρ338 24 = v_l := (hkw339 24 rfl).trans uw40_24
      have uw339_25 : ρ338 25 = (.int .i64 (l.length : Int)) := (hkw339 25 rfl).trans uw40_25
      have uw339_26 : ρ338 26 = (.bool (decide ((i : Int) < (l.length : Int)))) := (hkw339 26 rfl).trans uw40_26
      have uw339_29 : ρ338 29 = v_l := (hkw339 29 rfl).trans uw40_29
      have uw339_30 : ρ338 30 = (.int .i64 (i : Int)) := (hkw339 30 rfl).trans uw40_30
      have uw339_31 : ρ338 31 = (.pointer (some ⟨a13, o14, none⟩)) := (hkw339 31 rfl).trans uw40_31
      have uw339_32 : ρ338 32 = (.agg #[(.int .i64 ((l[i]'(by first | omega | (simp; omega) | (simp; done))).From)), (.int .i64 ((l[i]'(by first | omega | (simp; omega) | (simp; done))).Count)), (.int .i64 ((l[i]'(by first | omega | (simp; omega) | (simp; done))).Sum)), (.int .i64 ((l[i]'(by first | omega | (simp; omega) | (simp; done))).Min)), (.int .i64 ((l[i]'(by first | omega | (simp; omega) | (simp; done))).Max)), (.int .i64 ((l[i]'(by first | omega | (simp; omega) | (simp; done))).First)), (.int .i64 ((l[i]'(by first | omega | (simp; omega) | (simp; done))).Last))]) := (hkw339 32 rfl).trans uw40_32
      have uw339_8 : ρ338 8 = (.pointer (some ⟨g16, 0, none⟩)) := (hkw339 8 rfl).trans uw40_8
      have uw339_9 : ρ338 9 = (.int .i64 (((l[i]'(by first | omega | (simp; omega) | (simp; done))).From) / (widthA k))) := (hkw339 9 rfl).trans uw40_9
      have uw339_38 : ρ338 38 = (.int .i64 (i : Int)) := (hkw339 38 rfl).trans rfl
      have uw339_39 : ρ338 39 = (.bool (decide (0 < (i : Int)))) := (hkw339 39 rfl).trans rfl
      have uw339_6 : ρ338 6 = (.string (str (((done ++ (put (((l[i]'(by first | omega | (simp; omega) | (simp; done))).From) / (widthA k)))) ++ (put (((l[i]'(by first | omega | (simp; omega) | (simp; done))).Count) - 1))) ++ (put (zig ((l[i]'(by first | omega | (simp; omega) | (simp; done))).Min)))))) := hRw339 16 6 rfl
      refine then_n ?_
      refine cE_seq ?_
      refine cE_region rfl ?_
      refine s_cons (op_fieldAddr (s := 0) Try.underlying71 rfl rfl Try.sizeOf2 uw339_8 ?_)
      refine s_cons (op_load1 (u := (.int .i64 ((l[i]'(by first | omega | (simp; omega) | (simp; done))).Count))) Try.isAgg2 rfl ((hst.cell 0 rfl).drop 1) ?_)
      refine s_cons (op_gtr (k := .i64) (a := (l[i]'(by first | omega | (simp; omega) | (simp; done))).Count) (b := 1) rfl rfl ?_)
      refine s_nil ?_
      refine then_n ?_
      rcases Bool.eq_false_or_eq_true (decide (1 < ((l[i]'(by first | omega | (simp; omega) | (simp; done))).Count))) with b340 | b340
      · have c341 : 1 < ((l[i]'(by first | omega | (simp; omega) | (simp; done))).Count) := of_decide_eq_true b340
        refine cE_cond true (congrArg Value.bool b340) (fun _ => ?_) (fun h => by cases h)
        refine cE_regionL hst [[(6, none)], [(8, none)], [(72, some 1)], [(73, some 2)], [(8, none)], [(75, some 4)], [(76, some 5)], [(74, some 3), (77, some 6)], [(78, some 7)], [(71, some 0), (79, some 8)], [(8, none)], [(81, some 10)], [(82, some 11)], [(83, some 12)], [(80, some 9), (84, some 13)], [(8, none)], [(86, some 15)], [(87, some 16)], [(8, none)], [(89, some 18)], [(90, some 19)], [(88, some 17), (91, some 20)], [(92, some 21)], [(85, some 14), (93, some 22)], [(8, none)], [(95, some 24)], [(96, some 25)], [(8, none)], [(98, some 27)], [(99, some 28)], [(97, some 26), (100, some 29)], [(101, some 30)], [(94, some 23), (102, some 31)], [(103, some 32)]] [(rEq (.string (str (((done ++ (put (((l[i]'(by first | omega | (simp; omega) | (simp; done))).From) / (widthA k)))) ++ (put (((l[i]'(by first | omega | (simp; omega) | (simp; done))).Count) - 1))) ++ (put (zig ((l[i]'(by first | omega | (simp; omega) | (simp; done))).Min))))))), (rEq (.pointer (some ⟨g16, (0 + 4), none⟩))), (rEq (.int .i64 ((l[i]'(by first | omega | (simp; omega) | (simp; done))).Max))), (rEq (.int .u64 ((l[i]'(by first | omega | (simp; omega) | (simp; done))).Max % 18446744073709551616))), (rEq (.pointer (some ⟨g16, (0 + 3), none⟩))), (rEq (.int .i64 ((l[i]'(by first | omega | (simp; omega) | (simp; done))).Min))), (rEq (.int .u64 ((l[i]'(by first | omega | (simp; omega) | (simp; done))).Min % 18446744073709551616))), (rEq (.int .u64 ((l[i]'(by omega)).Max - (l[i]'(by omega)).Min))), (rEq (.string (str (put ((l[i]'(by omega)).Max - (l[i]'(by omega)).Min))))), (rEq (.string (str ((((done ++ (put (((l[i]'(by first | omega | (simp; omega) | (simp; done))).From) / (widthA k)))) ++ (put (((l[i]'(by first | omega | (simp; omega) | (simp; done))).Count) - 1))) ++ (put (zig ((l[i]'(by first | omega | (simp; omega) | (simp; done))).Min)))) ++ (put ((l[i]'(by omega)).Max - (l[i]'(by omega)).Min)))))), (rEq (.pointer (some ⟨g16, (0 + 2), none⟩))), (rEq (.int .i64 ((l[i]'(by first | omega | (simp; omega) | (simp; done))).Sum))), (rEq (.int .u64 (zig ((l[i]'(by first | omega | (simp; omega) | (simp; done))).Sum)))), (rEq (.string (str (put (zig ((l[i]'(by first | omega | (simp; omega) | (simp; done))).Sum)))))), (rEq (.string (str (((((done ++ (put (((l[i]'(by first | omega | (simp; omega) | (simp; done))).From) / (widthA k)))) ++ (put (((l[i]'(by first | omega | (simp; omega) | (simp; done))).Count) - 1))) ++ (put (zig ((l[i]'(by first | omega | (simp; omega) | (simp; done))).Min)))) ++ (put ((l[i]'(by omega)).Max - (l[i]'(by omega)).Min))) ++ (put (zig ((l[i]'(by first | omega | (simp; omega) | (simp; done))).Sum))))))), (rEq (.pointer (some ⟨g16, (0 + 5), none⟩))), (rEq (.int .i64 ((l[i]'(by first | omega | (simp; omega) | (simp; done))).First))), (rEq (.int .u64 ((l[i]'(by first | omega | (simp; omega) | (simp; done))).First % 18446744073709551616))), (rEq (.pointer (some ⟨g16, (0 + 3), none⟩))), (rEq (.int .i64 ((l[i]'(by first | omega | (simp; omega) | (simp; done))).Min))), (rEq (.int .u64 ((l[i]'(by first | omega | (simp; omega) | (simp; done))).Min % 18446744073709551616))), (rEq (.int .u64 ((l[i]'(by omega)).First - (l[i]'(by omega)).Min))), (rEq (.string (str (put ((l[i]'(by omega)).First - (l[i]'(by omega)).Min))))), (rEq (.string (str ((((((done ++ (put (((l[i]'(by first | omega | (simp; omega) | (simp; done))).From) / (widthA k)))) ++ (put (((l[i]'(by first | omega | (simp; omega) | (simp; done))).Count) - 1))) ++ (put (zig ((l[i]'(by first | omega | (simp; omega) | (simp; done))).Min)))) ++ (put ((l[i]'(by omega)).Max - (l[i]'(by omega)).Min))) ++ (put (zig ((l[i]'(by first | omega | (simp; omega) | (simp; done))).Sum)))) ++ (put ((l[i]'(by omega)).First - (l[i]'(by omega)).Min)))))), (rEq (.pointer (some ⟨g16, (0 + 6), none⟩))), (rEq (.int .i64 ((l[i]'(by first | omega | (simp; omega) | (simp; done))).Last))), (rEq (.int .u64 ((l[i]'(by first | omega | (simp; omega) | (simp; done))).Last % 18446744073709551616))), (rEq (.pointer (some ⟨g16, (0 + 3), none⟩))), (rEq (.int .i64 ((l[i]'(by first | omega | (simp; omega) | (simp; done))).Min))), (rEq (.int .u64 ((l[i]'(by first | omega | (simp; omega) | (simp; done))).Min % 18446744073709551616))), (rEq (.int .u64 ((l[i]'(by omega)).Last - (l[i]'(by omega)).Min))), (rEq (.string (str (put ((l[i]'(by omega)).Last - (l[i]'(by omega)).Min))))), (rEq (.string (str (((((((done ++ (put (((l[i]'(by first | omega | (simp; omega) | (simp; done))).From) / (widthA k)))) ++ (put (((l[i]'(by first | omega | (simp; omega) | (simp; done))).Count) - 1))) ++ (put (zig ((l[i]'(by first | omega | (simp; omega) | (simp; done))).Min)))) ++ (put ((l[i]'(by omega)).Max - (l[i]'(by omega)).Min))) ++ (put (zig ((l[i]'(by first | omega | (simp; omega) | (simp; done))).Sum)))) ++ (put ((l[i]'(by omega)).First - (l[i]'(by omega)).Min))) ++ (put ((l[i]'(by omega)).Last - (l[i]'(by omega)).Min)))))), (rEq (.string (str (((((((done ++ (put (((l[i]'(by first | omega | (simp; omega) | (simp; done))).From) / (widthA k)))) ++ (put (((l[i]'(by first | omega | (simp; omega) | (simp; done))).Count) - 1))) ++ (put (zig ((l[i]'(by first | omega | (simp; omega) | (simp; done))).Min)))) ++ (put ((l[i]'(by omega)).Max - (l[i]'(by omega)).Min))) ++ (put (zig ((l[i]'(by first | omega | (simp; omega) | (simp; done))).Sum)))) ++ (put ((l[i]'(by omega)).First - (l[i]'(by omega)).Min))) ++ (put ((l[i]'(by omega)).Last - (l[i]'(by omega)).Min))))))] (by kernel_rfl) rfl (by kernel_rfl) ⟨sEq, sEq, sEq, sEq, sEq, sEq, sEq, sEq, sEq, sEq, sEq, sEq, sEq, sEq, sEq, sEq, sEq, sEq, sEq, sEq, sEq, sEq, sEq, sEq, sEq, sEq, sEq, sEq, sEq, sEq, sEq, sEq, sEq, sEq, trivial⟩ ⟨?_, ?_, ?_, ?_, ?_, ?_, ?_, ?_, ?_, ?_, ?_, ?_, ?_, ?_, ?_, ?_, ?_, ?_, ?_, ?_, ?_, ?_, ?_, ?_, ?_, ?_, ?_, ?_, ?_, ?_, ?_, ?_, ?_, ?_, trivial⟩ ?_
        · rintro ρ347 w348 hj349 ⟨f6, _⟩
          have hst := hj349.2
          exact go_plain (op_move (.string (str (((done ++ (put (((l[i]'(by first | omega | (simp; omega) | (simp; done))).From) / (widthA k)))) ++ (put (((l[i]'(by first | omega | (simp; omega) | (simp; done))).Count) - 1))) ++ (put (zig ((l[i]'(by first | omega | (simp; omega) | (simp; done))).Min)))))) (f6.trans uw339_6) (kS hj349 rfl))
        · rintro ρ350 w351 hj352 ⟨f8, _⟩
          have hst := hj352.2
          exact go_plain (op_fieldAddr (s := 0) Try.underlying71 rfl rfl Try.sizeOf2 (f8.trans uw339_8) (kS hj352 rfl))
        · rintro ρ353 w354 hj355 ⟨f72, _⟩
          have hst := hj355.2
          exact go_plain (op_load1 (u := (.int .i64 ((l[i]'(by first | omega | (simp; omega) | (simp; done))).Max))) Try.isAgg2 f72 ((hst.cell 0 rfl).drop 4) (kS hj355 rfl))
        · rintro ρ356 w357 hj358 ⟨f73, _⟩
          have hst := hj358.2
          exact go_plain (op_conv (k := .i64) (a := (l[i]'(by first | omega | (simp; omega) | (simp; done))).Max) ((l[i]'(by first | omega | (simp; omega) | (simp; done))).Max % 18446744073709551616) Try.underlying54 (by rw [Try.underlying2]; rfl) f73 (IntKind.wrap_u64 _) (kS hj358 rfl))
        · rintro ρ359 w360 hj361 ⟨f8, _⟩
          have hst := hj361.2
          exact go_plain (op_fieldAddr (s := 0) Try.underlying71 rfl rfl Try.sizeOf2 (f8.trans uw339_8) (kS hj361 rfl))
        · rintro ρ362 w363 hj364 ⟨f75, _⟩
          have hst := hj364.2
          exact go_plain (op_load1 (u := (.int .i64 ((l[i]'(by first | omega | (simp; omega) | (simp; done))).Min))) Try.isAgg2 f75 ((hst.cell 0 rfl).drop 3) (kS hj364 rfl))
        · rintro ρ365 w366 hj367 ⟨f76, _⟩
          have hst := hj367.2
          exact go_plain (op_conv (k := .i64) (a := (l[i]'(by first | omega | (simp; omega) | (simp; done))).Min) ((l[i]'(by first | omega | (simp; omega) | (simp; done))).Min % 18446744073709551616) Try.underlying54 (by rw [Try.underlying2]; rfl) f76 (IntKind.wrap_u64 _) (kS hj367 rfl))
        · rintro ρ368 w369 hj370 ⟨f74, f77, _⟩
          have hst := hj370.2
          exact go_plain (op_sub (k := .u64) (a := ((l[i]'(by first | omega | (simp; omega) | (simp; done))).Max % 18446744073709551616)) (b := ((l[i]'(by first | omega | (simp; omega) | (simp; done))).Min % 18446744073709551616)) ((l[i]'(by omega)).Max - (l[i]'(by omega)).Min) f74 f77 (u64_sub (by simp only [i64R]; omega) (by simp only [i64R]; omega) (by omega)) (kS hj370 rfl))
        · rintro ρ371 w372 hj373 ⟨f78, _⟩
          have hst := hj373.2
          refine go_plain (op_call Try.call25 (evs_cons (v := (.int .u64 ((l[i]'(by omega)).Max - (l[i]'(by omega)).Min))) f78 evs_nil) (c_rPut (w0 := w372) (n := ((l[i]'(by omega)).Max - (l[i]'(by omega)).Min)) (h0 := (by omega)) (h1 := (by omega))) ?_)
          rintro _ w374 ⟨rfl, hcall⟩
          refine ⟨_, rfl, ?_⟩
          exact kD hj373 hcall rfl
        · rintro ρ375 w376 hj377 ⟨f71, f79, _⟩
          have hst := hj377.2
          exact go_plain (op_addStr (a := (((done ++ (put (((l[i]'(by first | omega | (simp; omega) | (simp; done))).From) / (widthA k)))) ++ (put (((l[i]'(by first | omega | (simp; omega) | (simp; done))).Count) - 1))) ++ (put (zig ((l[i]'(by first | omega | (simp; omega) | (simp; done))).Min))))) (b := (put ((l[i]'(by omega)).Max - (l[i]'(by omega)).Min))) f71 f79 (by first | omega | (simp; omega) | (simp; done)) (kS hj377 rfl))
        · rintro ρ378 w379 hj380 ⟨f8, _⟩
          have hst := hj380.2
          exact go_plain (op_fieldAddr (s := 0) Try.underlying71 rfl rfl Try.sizeOf2 (f8.trans uw339_8) (kS hj380 rfl))
        · rintro ρ381 w382 hj383 ⟨f81, _⟩
          have hst := hj383.2
          exact go_plain (op_load1 (u := (.int .i64 ((l[i]'(by first | omega | (simp; omega) | (simp; done))).Sum))) Try.isAgg2 f81 ((hst.cell 0 rfl).drop 2) (kS hj383 rfl))
        · rintro ρ384 w385 hj386 ⟨f82, _⟩
          have hst := hj386.2
          refine go_plain (op_call Try.call26 (evs_cons (v := (.int .i64 ((l[i]'(by first | omega | (simp; omega) | (simp; done))).Sum))) f82 evs_nil) (c_rZig (w0 := w385) (m := (l[i]'(by first | omega | (simp; omega) | (simp; done))).Sum) (h0 := (by omega)) (h1 := (by omega))) ?_)
          rintro _ w387 ⟨rfl, hcall⟩
          refine ⟨_, rfl, ?_⟩
          exact kD hj386 hcall rfl
        · rintro ρ388 w389 hj390 ⟨f83, _⟩
          have hst := hj390.2
          refine go_plain (op_call Try.call25 (evs_cons (v := (.int .u64 (zig ((l[i]'(by first | omega | (simp; omega) | (simp; done))).Sum)))) f83 evs_nil) (c_rPut (w0 := w389) (n := (zig ((l[i]'(by first | omega | (simp; omega) | (simp; done))).Sum))) (h0 := (by omega)) (h1 := (by omega))) ?_)
          rintro _ w391 ⟨rfl, hcall⟩
          refine ⟨_, rfl, ?_⟩
          exact kD hj390 hcall rfl
        · rintro ρ392 w393 hj394 ⟨f80, f84, _⟩
          have hst := hj394.2
          exact go_plain (op_addStr (a := ((((done ++ (put (((l[i]'(by first | omega | (simp; omega) | (simp; done))).From) / (widthA k)))) ++ (put (((l[i]'(by first | omega | (simp; omega) | (simp; done))).Count) - 1))) ++ (put (zig ((l[i]'(by first | omega | (simp; omega) | (simp; done))).Min)))) ++ (put ((l[i]'(by omega)).Max - (l[i]'(by omega)).Min)))) (b := (put (zig ((l[i]'(by first | omega | (simp; omega) | (simp; done))).Sum)))) f80 f84 (by first | omega | (simp; omega) | (simp; done)) (kS hj394 rfl))
        · rintro ρ395 w396 hj397 ⟨f8, _⟩
          have hst := hj397.2
          exact go_plain (op_fieldAddr (s := 0) Try.underlying71 rfl rfl Try.sizeOf2 (f8.trans uw339_8) (kS hj397 rfl))
        · rintro ρ398 w399 hj400 ⟨f86, _⟩
          have hst := hj400.2
          exact go_plain (op_load1 (u := (.int .i64 ((l[i]'(by first | omega | (simp; omega) | (simp; done))).First))) Try.isAgg2 f86 ((hst.cell 0 rfl).drop 5) (kS hj400 rfl))
        · rintro ρ401 w402 hj403 ⟨f87, _⟩
          have hst := hj403.2
          exact go_plain (op_conv (k := .i64) (a := (l[i]'(by first | omega | (simp; omega) | (simp; done))).First) ((l[i]'(by first | omega | (simp; omega) | (simp; done))).First % 18446744073709551616) Try.underlying54 (by rw [Try.underlying2]; rfl) f87 (IntKind.wrap_u64 _) (kS hj403 rfl))
        · rintro ρ404 w405 hj406 ⟨f8, _⟩
          have hst := hj406.2
          exact go_plain (op_fieldAddr (s := 0) Try.underlying71 rfl rfl Try.sizeOf2 (f8.trans uw339_8) (kS hj406 rfl))
        · rintro ρ407 w408 hj409 ⟨f89, _⟩
          have hst := hj409.2
          exact go_plain (op_load1 (u := (.int .i64 ((l[i]'(by first | omega | (simp; omega) | (simp; done))).Min))) Try.isAgg2 f89 ((hst.cell 0 rfl).drop 3) (kS hj409 rfl))
        · rintro ρ410 w411 hj412 ⟨f90, _⟩
          have hst := hj412.2
          exact go_plain (op_conv (k := .i64) (a := (l[i]'(by first | omega | (simp; omega) | (simp; done))).Min) ((l[i]'(by first | omega | (simp; omega) | (simp; done))).Min % 18446744073709551616) Try.underlying54 (by rw [Try.underlying2]; rfl) f90 (IntKind.wrap_u64 _) (kS hj412 rfl))
        · rintro ρ413 w414 hj415 ⟨f88, f91, _⟩
          have hst := hj415.2
          exact go_plain (op_sub (k := .u64) (a := ((l[i]'(by first | omega | (simp; omega) | (simp; done))).First % 18446744073709551616)) (b := ((l[i]'(by first | omega | (simp; omega) | (simp; done))).Min % 18446744073709551616)) ((l[i]'(by omega)).First - (l[i]'(by omega)).Min) f88 f91 (u64_sub (by simp only [i64R]; omega) (by simp only [i64R]; omega) (by omega)) (kS hj415 rfl))
        · rintro ρ416 w417 hj418 ⟨f92, _⟩
          have hst := hj418.2
          refine go_plain (op_call Try.call25 (evs_cons (v := (.int .u64 ((l[i]'(by omega)).First - (l[i]'(by omega)).Min))) f92 evs_nil) (c_rPut (w0 := w417) (n := ((l[i]'(by omega)).First - (l[i]'(by omega)).Min)) (h0 := (by omega)) (h1 := (by omega))) ?_)
          rintro _ w419 ⟨rfl, hcall⟩
          refine ⟨_, rfl, ?_⟩
          exact kD hj418 hcall rfl
        · rintro ρ420 w421 hj422 ⟨f85, f93, _⟩
          have hst := hj422.2
          exact go_plain (op_addStr (a := (((((done ++ (put (((l[i]'(by first | omega | (simp; omega) | (simp; done))).From) / (widthA k)))) ++ (put (((l[i]'(by first | omega | (simp; omega) | (simp; done))).Count) - 1))) ++ (put (zig ((l[i]'(by first | omega | (simp; omega) | (simp; done))).Min)))) ++ (put ((l[i]'(by omega)).Max - (l[i]'(by omega)).Min))) ++ (put (zig ((l[i]'(by first | omega | (simp; omega) | (simp; done))).Sum))))) (b := (put ((l[i]'(by omega)).First - (l[i]'(by omega)).Min))) f85 f93 (by first | omega | (simp; omega) | (simp; done)) (kS hj422 rfl))
        · rintro ρ423 w424 hj425 ⟨f8, _⟩
          have hst := hj425.2
          exact go_plain (op_fieldAddr (s := 0) Try.underlying71 rfl rfl Try.sizeOf2 (f8.trans uw339_8) (kS hj425 rfl))
        · rintro ρ426 w427 hj428 ⟨f95, _⟩
          have hst := hj428.2
          exact go_plain (op_load1 (u := (.int .i64 ((l[i]'(by first | omega | (simp; omega) | (simp; done))).Last))) Try.isAgg2 f95 ((hst.cell 0 rfl).drop 6) (kS hj428 rfl))
        · rintro ρ429 w430 hj431 ⟨f96, _⟩
          have hst := hj431.2
          exact go_plain (op_conv (k := .i64) (a := (l[i]'(by first | omega | (simp; omega) | (simp; done))).Last) ((l[i]'(by first | omega | (simp; omega) | (simp; done))).Last % 18446744073709551616) Try.underlying54 (by rw [Try.underlying2]; rfl) f96 (IntKind.wrap_u64 _) (kS hj431 rfl))
        · rintro ρ432 w433 hj434 ⟨f8, _⟩
          have hst := hj434.2
          exact go_plain (op_fieldAddr (s := 0) Try.underlying71 rfl rfl Try.sizeOf2 (f8.trans uw339_8) (kS hj434 rfl))
        · rintro ρ435 w436 hj437 ⟨f98, _⟩
          have hst := hj437.2
          exact go_plain (op_load1 (u := (.int .i64 ((l[i]'(by first | omega | (simp; omega) | (simp; done))).Min))) Try.isAgg2 f98 ((hst.cell 0 rfl).drop 3) (kS hj437 rfl))
        · rintro ρ438 w439 hj440 ⟨f99, _⟩
          have hst := hj440.2
          exact go_plain (op_conv (k := .i64) (a := (l[i]'(by first | omega | (simp; omega) | (simp; done))).Min) ((l[i]'(by first | omega | (simp; omega) | (simp; done))).Min % 18446744073709551616) Try.underlying54 (by rw [Try.underlying2]; rfl) f99 (IntKind.wrap_u64 _) (kS hj440 rfl))
        · rintro ρ441 w442 hj443 ⟨f97, f100, _⟩
          have hst := hj443.2
          exact go_plain (op_sub (k := .u64) (a := ((l[i]'(by first | omega | (simp; omega) | (simp; done))).Last % 18446744073709551616)) (b := ((l[i]'(by first | omega | (simp; omega) | (simp; done))).Min % 18446744073709551616)) ((l[i]'(by omega)).Last - (l[i]'(by omega)).Min) f97 f100 (u64_sub (by simp only [i64R]; omega) (by simp only [i64R]; omega) (by omega)) (kS hj443 rfl))
        · rintro ρ444 w445 hj446 ⟨f101, _⟩
          have hst := hj446.2
          refine go_plain (op_call Try.call25 (evs_cons (v := (.int .u64 ((l[i]'(by omega)).Last - (l[i]'(by omega)).Min))) f101 evs_nil) (c_rPut (w0 := w445) (n := ((l[i]'(by omega)).Last - (l[i]'(by omega)).Min)) (h0 := (by omega)) (h1 := (by omega))) ?_)
          rintro _ w447 ⟨rfl, hcall⟩
          refine ⟨_, rfl, ?_⟩
          exact kD hj446 hcall rfl
        · rintro ρ448 w449 hj450 ⟨f94, f102, _⟩
          have hst := hj450.2
          exact go_plain (op_addStr (a := ((((((done ++ (put (((l[i]'(by first | omega | (simp; omega) | (simp; done))).From) / (widthA k)))) ++ (put (((l[i]'(by first | omega | (simp; omega) | (simp; done))).Count) - 1))) ++ (put (zig ((l[i]'(by first | omega | (simp; omega) | (simp; done))).Min)))) ++ (put ((l[i]'(by omega)).Max - (l[i]'(by omega)).Min))) ++ (put (zig ((l[i]'(by first | omega | (simp; omega) | (simp; done))).Sum)))) ++ (put ((l[i]'(by omega)).First - (l[i]'(by omega)).Min)))) (b := (put ((l[i]'(by omega)).Last - (l[i]'(by omega)).Min))) f94 f102 (by first | omega | (simp; omega) | (simp; done)) (kS hj450 rfl))
        · rintro ρ451 w452 hj453 ⟨f103, _⟩
          have hst := hj453.2
          exact go_plain (op_assign (.string (str (((((((done ++ (put (((l[i]'(by first | omega | (simp; omega) | (simp; done))).From) / (widthA k)))) ++ (put (((l[i]'(by first | omega | (simp; omega) | (simp; done))).Count) - 1))) ++ (put (zig ((l[i]'(by first | omega | (simp; omega) | (simp; done))).Min)))) ++ (put ((l[i]'(by omega)).Max - (l[i]'(by omega)).Min))) ++ (put (zig ((l[i]'(by first | omega | (simp; omega) | (simp; done))).Sum)))) ++ (put ((l[i]'(by omega)).First - (l[i]'(by omega)).Min))) ++ (put ((l[i]'(by omega)).Last - (l[i]'(by omega)).Min))))) f103 (kS hj453 rfl))
        intro ρ454 w455 hbw455 hst hRw455 hkw455
        have uw455_0 : ρ454 0 = v_l := (hkw455 0 rfl).trans uw339_0
        have uw455_1 : ρ454 1 = (.int .i64 k) := (hkw455 1 rfl).trans uw339_1
        have uw455_4 : ρ454 4 = (.string (str ([] : List UInt8))) := (hkw455 4 rfl).trans uw339_4
        have uw455_5 : ρ454 5 = (.int .i64 0) := (hkw455 5 rfl).trans uw339_5
        have uw455_7 : ρ454 7 = (.int .i64 (i : Int)) := (hkw455 7 rfl).trans uw339_7
        have uw455_23 : ρ454 23 = (.int .i64 (i : Int)) := (hkw455 23 rfl).trans uw339_23
        have uw455_24 : ρ454 24 = v_l := (hkw455 24 rfl).trans uw339_24
        have uw455_25 : ρ454 25 = (.int .i64 (l.length : Int)) := (hkw455 25 rfl).trans uw339_25
        have uw455_26 : ρ454 26 = (.bool (decide ((i : Int) < (l.length : Int)))) := (hkw455 26 rfl).trans uw339_26
        have uw455_29 : ρ454 29 = v_l := (hkw455 29 rfl).trans uw339_29
        have uw455_30 : ρ454 30 = (.int .i64 (i : Int)) := (hkw455 30 rfl).trans uw339_30
        have uw455_31 : ρ454 31 = (.pointer (some ⟨a13, o14, none⟩)) := (hkw455 31 rfl).trans uw339_31
        have uw455_32 : ρ454 32 = (.agg #[(.int .i64 ((l[i]'(by first | omega | (simp; omega) | (simp; done))).From)), (.int .i64 ((l[i]'(by first | omega | (simp; omega) | (simp; done))).Count)), (.int .i64 ((l[i]'(by first | omega | (simp; omega) | (simp; done))).Sum)), (.int .i64 ((l[i]'(by first | omega | (simp; omega) | (simp; done))).Min)), (.int .i64 ((l[i]'(by first | omega | (simp; omega) | (simp; done))).Max)), (.int .i64 ((l[i]'(by first | omega | (simp; omega) | (simp; done))).First)), (.int .i64 ((l[i]'(by first | omega | (simp; omega) | (simp; done))).Last))]) := (hkw455 32 rfl).trans uw339_32
        have uw455_8 : ρ454 8 = (.pointer (some ⟨g16, 0, none⟩)) := (hkw455 8 rfl).trans uw339_8
        have uw455_9 : ρ454 9 = (.int .i64 (((l[i]'(by first | omega | (simp; omega) | (simp; done))).From) / (widthA k))) := (hkw455 9 rfl).trans uw339_9
        have uw455_38 : ρ454 38 = (.int .i64 (i : Int)) := (hkw455 38 rfl).trans uw339_38
        have uw455_39 : ρ454 39 = (.bool (decide (0 < (i : Int)))) := (hkw455 39 rfl).trans uw339_39
        have uw455_68 : ρ454 68 = (.pointer (some ⟨g16, (0 + 1), none⟩)) := (hkw455 68 rfl).trans rfl
        have uw455_69 : ρ454 69 = (.int .i64 ((l[i]'(by first | omega | (simp; omega) | (simp; done))).Count)) := (hkw455 69 rfl).trans rfl
        have uw455_70 : ρ454 70 = (.bool (decide (1 < ((l[i]'(by first | omega | (simp; omega) | (simp; done))).Count)))) := (hkw455 70 rfl).trans rfl
        have uw455_6 : ρ454 6 = (.string (str (((((((done ++ (put (((l[i]'(by first | omega | (simp; omega) | (simp; done))).From) / (widthA k)))) ++ (put (((l[i]'(by first | omega | (simp; omega) | (simp; done))).Count) - 1))) ++ (put (zig ((l[i]'(by first | omega | (simp; omega) | (simp; done))).Min)))) ++ (put ((l[i]'(by omega)).Max - (l[i]'(by omega)).Min))) ++ (put (zig ((l[i]'(by first | omega | (simp; omega) | (simp; done))).Sum)))) ++ (put ((l[i]'(by omega)).First - (l[i]'(by omega)).Min))) ++ (put ((l[i]'(by omega)).Last - (l[i]'(by omega)).Min))))) := hRw455 33 6 rfl
        refine block_n (then_n ?_)
        refine cE_region rfl ?_
        refine s_cons (op_move (.int .i64 (i : Int)) uw455_7 ?_)
        refine s_cons (op_add (k := .i64) (a := (i : Int)) (b := 1) ((i : Int) + 1) rfl rfl (xi64 (by omega) (by omega)) ?_)
        refine s_cons (op_assign (.int .i64 ((i : Int) + 1)) rfl ?_)
        refine s_nil ?_
        refine then_n ?_
        exact ⟨_, ⟨(((((((done ++ (put (((l[i]'(by first | omega | (simp; omega) | (simp; done))).From) / (widthA k)))) ++ (put (((l[i]'(by first | omega | (simp; omega) | (simp; done))).Count) - 1))) ++ (put (zig ((l[i]'(by first | omega | (simp; omega) | (simp; done))).Min)))) ++ (put ((l[i]'(by omega)).Max - (l[i]'(by omega)).Min))) ++ (put (zig ((l[i]'(by first | omega | (simp; omega) | (simp; done))).Sum)))) ++ (put ((l[i]'(by omega)).First - (l[i]'(by omega)).Min))) ++ (put ((l[i]'(by omega)).Last - (l[i]'(by omega)).Min))), (i + 1), rfl, uw455_0, uw455_1, uw455_4, uw455_5, uw455_6, (congrArg (Value.int .i64) (show ((i : Int) + 1) = _ from by omega)), (hst.sub (.cons _ .slnil)), (by omega), (by first | omega | (simp; omega)), (by first | rfl | (rw [hp, stepA2_one (by omega) (by omega), lastW_zero (i := i) (by omega)]; simp; done) | (rw [hp, stepA2_one (by omega) (by omega), lastW_at (i := i) (by omega) (by omega)]; simp; done) | (rw [hp, stepA2_many (by omega) (by omega), lastW_zero (i := i) (by omega)]; simp; done) | (rw [hp, stepA2_many (by omega) (by omega), lastW_at (i := i) (by omega) (by omega)]; simp; done))⟩, (by simp only [id]; omega)⟩
      have c456 : ¬ (1 < ((l[i]'(by first | omega | (simp; omega) | (simp; done))).Count)) := of_decide_eq_false b340
      refine cE_cond false (congrArg Value.bool b340) (fun h => by cases h) (fun _ => ?_)
      refine cE_skip ?_
      refine block_n (then_n ?_)
      refine cE_region rfl ?_
      refine s_cons (op_move (.int .i64 (i : Int)) uw339_7 ?_)
      refine s_cons (op_add (k := .i64) (a := (i : Int)) (b := 1) ((i : Int) + 1) rfl rfl (xi64 (by omega) (by omega)) ?_)
      refine s_cons (op_assign (.int .i64 ((i : Int) + 1)) rfl ?_)
      refine s_nil ?_
      refine then_n ?_
      exact ⟨_, ⟨(((done ++ (put (((l[i]'(by first | omega | (simp; omega) | (simp; done))).From) / (widthA k)))) ++ (put (((l[i]'(by first | omega | (simp; omega) | (simp; done))).Count) - 1))) ++ (put (zig ((l[i]'(by first | omega | (simp; omega) | (simp; done))).Min)))), (i + 1), rfl, uw339_0, uw339_1, uw339_4, uw339_5, uw339_6, (congrArg (Value.int .i64) (show ((i : Int) + 1) = _ from by omega)), (hst.sub (.cons _ .slnil)), (by omega), (by first | omega | (simp; omega)), (by first | rfl | (rw [hp, stepA2_one (by omega) (by omega), lastW_zero (i := i) (by omega)]; simp; done) | (rw [hp, stepA2_one (by omega) (by omega), lastW_at (i := i) (by omega) (by omega)]; simp; done) | (rw [hp, stepA2_many (by omega) (by omega), lastW_zero (i := i) (by omega)]; simp; done) | (rw [hp, stepA2_many (by omega) (by omega), lastW_at (i := i) (by omega) (by omega)]; simp; done))⟩, (by simp only [id]; omega)⟩
    have c457 : ¬ ((i : Int) < (l.length : Int)) := of_decide_eq_false b11
    refine cE_cond false (congrArg Value.bool b11) (fun h => by cases h) (fun _ => ?_)
    refine cE_exit ?_
    refine then_x (then_x (block_hit (then_n ?_)))
    refine cE_seq ?_
    refine cE_region rfl ?_
    refine s_cons (op_move (.string (str done)) q7_6 ?_)
    refine s_cons (op_assign (.string (str done)) rfl ?_)
    refine s_cons (op_assign (.int .i64 0) rfl ?_)
    refine s_nil ?_
    refine then_n ?_
    refine cE_ret ?_
    refine post_r _ (res2 (v := (.string (str done))) rfl (x := (.int .i64 0)) rfl) ?_
    exact ⟨(retv2 (congrArg (fun l => Value.string (str l)) (show done = (encA k l).1 from by first | rw [encA_no (Or.inl (by assumption))] | rw [encA_no (Or.inr (by omega))] | (rw [encA_yes hok]; done) | (rw [encA_yes hok]; show _ = putA k l; rw [hp, stepA2_end (by omega), List.append_nil]))) (congrArg (Value.int .i64) (show 0 = (encA k l).2 from by first | rw [encA_no (Or.inl (by assumption))] | rw [encA_no (Or.inr (by omega))] | (rw [encA_yes hok]; done) | (rw [encA_yes hok]; show _ = putA k l; rw [hp, stepA2_end (by omega), List.append_nil])))), hst.bare⟩
  refine s_no 14 rfl (congrArg Value.bool (congrArg (! ·) b2)) ?_
  refine s_no 14 rfl (congrArg Value.bool (congrArg (! ·) b2)) ?_
  refine s_no 14 rfl (congrArg Value.bool (congrArg (! ·) b2)) ?_
  refine s_cons (op_pick_t (.bool true) (congrArg Value.bool (congrArg (! ·) b2)) rfl ?_)
  refine s_nil ?_
  refine then_n ?_
  refine cE_cond true rfl (fun _ => ?_) (fun h => by cases h)
  refine cE_seq ?_
  refine cE_region rfl ?_
  refine s_cons (op_assign (.string (str ([] : List UInt8))) rfl ?_)
  refine s_cons (op_assign (.int .i64 1) rfl ?_)
  refine s_nil ?_
  refine then_n ?_
  refine cE_ret ?_
  refine then_r ?_
  refine post_r _ (res2 (v := (.string (str ([] : List UInt8)))) rfl (x := (.int .i64 1)) rfl) ?_
  exact ⟨(retv2 (congrArg (fun l => Value.string (str l)) (show ([] : List UInt8) = (encA k l).1 from by first | rw [encA_no (Or.inl (by assumption))] | rw [encA_no (Or.inr (by omega))] | (rw [encA_yes hok]; done) | (rw [encA_yes hok]; show _ = putA k l; rw [hp, stepA2_end (by omega), List.append_nil]))) (congrArg (Value.int .i64) (show 1 = (encA k l).2 from by first | rw [encA_no (Or.inl (by assumption))] | rw [encA_no (Or.inr (by omega))] | (rw [encA_yes hok]; done) | (rw [encA_yes hok]; show _ = putA k l; rw [hp, stepA2_end (by omega), List.append_nil])))), hst.bare⟩
end

end Go.Proofs.Ytpamjfbdgaamoaa
