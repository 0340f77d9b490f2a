/- ask.samples -/
import Derived.Test.YtldfnkhccaglmaaXLA
import Derived.Test.YtldfnkhccaglmaaXW4
namespace Go.Proofs.Ytldfnkhccaglmaa
open Go.RowKit

set_option maxRecDepth 8000 in
set_option maxHeartbeats 4000000 in
theorem c_samples (w0 : World) (v_l : Value) (l : List Sample) (h_l : Sl w0 sampE v_l l) (fr : Int) (to : Int) (hl : ∀ s ∈ l, s.ok) (fr0 : -9223372036854775808 ≤ fr) (to0 : -9223372036854775808 ≤ to) (fr1 : fr ≤ 9223372036854775807) (to1 : to ≤ 9223372036854775807) (hll : l.length ≤ 1000000) :
  Calls Try.prog 37 #[v_l, (iV fr), (iV to)] w0 fun e w' => ∃ (r : Value), e = .returned r ∧ St w0 w' [rowT 33 winE r (rawW l fr to)] := by
 refine calls_E (n := 41) (ts := [6]) Try.func37 rfl rfl rfl (by simp) ?_
 have hst := St.start w0
 refine cE_seq (cE_region rfl (s_cons (op_assign nS rfl (s_nil (then_n (cE_scope (cE_seq (cE_region rfl (s_cons (op_assign nS rfl (s_nil (then_n (cE_seq (cE_label (then_n (cE_seq (cE_seq (cE_region rfl (s_cons (op_move v_l rfl (s_cons (op_len (E := sampE) (xs := l) Try.underlying23 rfl h_l (s_cons (op_move (iV 0) rfl (s_nil (then_n (cE_block ?_)))))))))))))))))))))))))))
 replace hst := hst.nilRow 33 winE
 refine cE_loop (fun (m : Nat) (ρ : Env) (w : World) => ∃ (vo : Value) (ys : List Win) (i : Nat), m = l.length - i ∧ ρ 0 = v_l ∧ ρ 1 = (iV fr) ∧ ρ 2 = (iV to) ∧ ρ 6 = nS ∧ ρ 10 = v_l ∧ ρ 11 = (iV (l.length : Int)) ∧ ρ 7 = vo ∧ ρ 12 = (iV (i : Int)) ∧ St w0 w [rowT 33 winE vo ys] ∧ (i ≤ l.length) ∧ (ys = rawW (l.take i) fr to)) id _ ⟨nS, [], 0, rfl, rfl, rfl, rfl, rfl, rfl, rfl, rfl, (congrArg iV (show 0 = _ from by omega)), hst, (by omega), (by rfl)⟩ ?_
 rintro m2 ρ3 w4 ⟨vo, ys, i, hm2, q1_0, q1_1, q1_2, q1_6, q1_10, q1_11, q1_7, q1_12, hst, hi, hI⟩
 have hlen := h_l.len
 have hyl : ys.length ≤ i := by rw [hI]; have := rawW_len (l.take i) fr to; simp only [List.length_take] at this; omega
 refine cE_seq (cE_region rfl (s_cons (op_lss (k := .i64) (a := (i : Int)) (b := (l.length : Int)) q1_12 q1_11 (s_nil (then_n (cE_seq ?_))))))
 rcases Bool.eq_false_or_eq_true (decide ((i : Int) < (l.length : Int))) with b5 | b5
 ·have c6 := of_decide_eq_true b5
  refine cE_cond true (congrArg Value.bool b5) (fun _ => ?_) (fun h => by cases h)
  refine cE_skip (then_n (cE_seq (cE_block (cE_seq (cE_region rfl (s_cons (op_indexAddrN (E := sampE) (xs := l) i Try.underlying23 Try.sizeOf51 q1_10 h_l q1_12 (by omega) (by omega) (fun a7 o8 p9 => ?_))))))))
  have hr := hl (l[i]'(by omega)) (List.getElem_mem _)
  refine s_cons (op_loadN (cs := [(iV ((l[i]'(by omega)).T)), (iV ((l[i]'(by omega)).V))]) Try.isAgg51 Try.sizeOf51 rfl (Pt.of (p9.below hst.below) rfl) rfl (s_cons (op_alloc (cs := #[(iV 0), (iV 0)]) hst Try.zeroValue51 rfl (fun g10 w11 hst _ => ?_))))
  refine s_cons0 (op_storeAll hst 0 rfl Try.sizeOf51 rfl rfl rfl rfl (by simp [Value.oneCell']) (fun w12 hst => ?_))
  refine s_nil (then_n (cE_seq (cE_seq (cE_region rfl (s_cons (op_fieldAddr (s := 0) Try.underlying51 rfl rfl Try.sizeOf2 rfl (s_cons (op_load1 (u := (iV ((l[i]'(by omega)).T))) Try.isAgg2 rfl (hst.cell 0 rfl) (s_cons (op_move (iV fr) q1_1 (s_cons (op_lss (k := .i64) (a := (l[i]'(by omega)).T) (b := fr) rfl rfl (s_cons (op_move (.bool (decide (((l[i]'(by omega)).T) < fr))) rfl ?_))))))))))))))
  rcases Bool.eq_false_or_eq_true (decide (((l[i]'(by omega)).T) < fr)) with b13 | b13
  ·have c14 := of_decide_eq_true b13
   refine s_no 20 rfl (congrArg Value.bool b13) (s_no 20 rfl (congrArg Value.bool b13) (s_no 20 rfl (congrArg Value.bool b13) (s_no 20 rfl (congrArg Value.bool b13) (s_cons (op_pick_t (.bool true) (congrArg Value.bool b13) rfl (s_nil (then_n (cE_cond true rfl (fun _ => ?_) (fun h => by cases h)))))))))
   refine cE_exit (then_x (block_hit (then_n (cE_region rfl (s_cons (op_add (k := .i64) (a := (i : Int)) (b := 1) ((i : Int) + 1) q1_12 rfl (xi64 (by omega) (by omega)) (s_cons (op_move (iV ((i : Int) + 1)) rfl (s_nil (then_n ?_))))))))))
   exact ⟨_, ⟨vo, ys, (i + 1), rfl, q1_0, q1_1, q1_2, q1_6, q1_10, q1_11, q1_7, (congrArg iV (show ((i : Int) + 1) = _ from by omega)), (hst.sub (.cons _ (.cons_cons _ .slnil))), (by omega), (by exact hI.trans (rawW_no (by omega) (by omega)))⟩, (by simp only [id]; omega)⟩
  have c15 := of_decide_eq_false b13
  refine s_yes 20 rfl (congrArg Value.bool b13) (op_fieldAddr (s := 0) Try.underlying51 rfl rfl Try.sizeOf2 rfl (s_yes 20 rfl (congrArg Value.bool b13) (op_load1 (u := (iV ((l[i]'(by omega)).T))) Try.isAgg2 rfl (hst.cell 0 rfl) (s_yes 20 rfl (congrArg Value.bool b13) (op_move (iV to) q1_2 (s_yes 20 rfl (congrArg Value.bool b13) (op_geq (k := .i64) (a := (l[i]'(by omega)).T) (b := to) rfl rfl ?_)))))))
  refine s_cons (op_pick_f (.bool (decide (to ≤ ((l[i]'(by omega)).T)))) (congrArg Value.bool b13) rfl (s_nil (then_n ?_)))
  rcases Bool.eq_false_or_eq_true (decide (to ≤ ((l[i]'(by omega)).T))) with b16 | b16
  ·have c17 := of_decide_eq_true b16
   refine cE_cond true (congrArg Value.bool b16) (fun _ => ?_) (fun h => by cases h)
   refine cE_exit (then_x (block_hit (then_n (cE_region rfl (s_cons (op_add (k := .i64) (a := (i : Int)) (b := 1) ((i : Int) + 1) q1_12 rfl (xi64 (by omega) (by omega)) (s_cons (op_move (iV ((i : Int) + 1)) rfl (s_nil (then_n ?_))))))))))
   exact ⟨_, ⟨vo, ys, (i + 1), rfl, q1_0, q1_1, q1_2, q1_6, q1_10, q1_11, q1_7, (congrArg iV (show ((i : Int) + 1) = _ from by omega)), (hst.sub (.cons _ (.cons_cons _ .slnil))), (by omega), (by exact hI.trans (rawW_no (by omega) (by omega)))⟩, (by simp only [id]; omega)⟩
  have c18 := of_decide_eq_false b16
  refine cE_cond false (congrArg Value.bool b16) (fun h => by cases h) (fun _ => ?_)
  refine cE_skip (then_n (cE_regionM (fun (D : Nat → Bool) (w : World) => St w0 w [.blk g10 51 #[(iV ((l[i]'(by omega)).T)), (iV ((l[i]'(by omega)).V))]] ∧ (D 12 = false → St w0 w [.blk g10 51 #[(iV ((l[i]'(by omega)).T)), (iV ((l[i]'(by omega)).V))], rowT 33 winE vo ys])) [[(7, none)], [(9, none)], [(27, some 1)], [(9, none)], [(29, some 3)], [(30, some 4)], [(9, none)], [(9, none)], [(33, some 7)], [(32, some 6), (34, some 8)], [(28, some 2), (31, some 5), (35, some 9)], [(36, some 10)], [(26, some 0), (37, some 11)], [(38, some 12)]] [12] [(kEq vo), (kEq (.pointer (some ⟨g10, (0 + 0), none⟩))), (kEq (iV ((l[i]'(by omega)).T))), (kEq (.pointer (some ⟨g10, (0 + 0), none⟩))), (kEq (iV ((l[i]'(by omega)).T))), (kEq (iV (((l[i]'(by omega)).T) + 1))), (kEq (.agg #[(iV ((l[i]'(by omega)).T)), (iV ((l[i]'(by omega)).V))])), (kEq (.pointer (some ⟨g10, (0 + 0), none⟩))), (kEq (iV ((l[i]'(by omega)).T))), (kEq (.agg #[(iV ((l[i]'(by omega)).T)), (iV 1), (iV ((l[i]'(by omega)).V)), (iV ((l[i]'(by omega)).V)), (iV ((l[i]'(by omega)).V)), (iV ((l[i]'(by omega)).V)), (iV ((l[i]'(by omega)).V))])), (kEq (.agg #[(iV 0), (iV ((l[i]'(by omega)).T)), (iV (((l[i]'(by omega)).T) + 1)), (iV ((l[i]'(by omega)).T)), (iV 1), (iV ((l[i]'(by omega)).V)), (iV ((l[i]'(by omega)).V)), (iV ((l[i]'(by omega)).V)), (iV ((l[i]'(by omega)).V)), (iV ((l[i]'(by omega)).V))])), (kSlU [12] winE ([(⟨0, (l[i]'(by omega)).T, (((l[i]'(by omega)).T) + 1), (⟨(l[i]'(by omega)).T, 1, (l[i]'(by omega)).V, (l[i]'(by omega)).V, (l[i]'(by omega)).V, (l[i]'(by omega)).V, (l[i]'(by omega)).V⟩ : Agg)⟩ : Win)])), (fun (D : Nat → Bool) (v22 : Value) (w : World) => (D 12 = true → St w0 w [rowT 33 winE v22 (ys ++ ([(⟨0, (l[i]'(by omega)).T, (((l[i]'(by omega)).T) + 1), (⟨(l[i]'(by omega)).T, 1, (l[i]'(by omega)).V, (l[i]'(by omega)).V, (l[i]'(by omega)).V, (l[i]'(by omega)).V, (l[i]'(by omega)).V⟩ : Agg)⟩ : Win)])), .blk g10 51 #[(iV ((l[i]'(by omega)).T)), (iV ((l[i]'(by omega)).V))]])), (fun (D : Nat → Bool) (v22 : Value) (w : World) => (D 12 = true → St w0 w [rowT 33 winE v22 (ys ++ ([(⟨0, (l[i]'(by omega)).T, (((l[i]'(by omega)).T) + 1), (⟨(l[i]'(by omega)).T, 1, (l[i]'(by omega)).V, (l[i]'(by omega)).V, (l[i]'(by omega)).V, (l[i]'(by omega)).V, (l[i]'(by omega)).V⟩ : Agg)⟩ : Win)])), .blk g10 51 #[(iV ((l[i]'(by omega)).T)), (iV ((l[i]'(by omega)).V))]]))] ⟨mEq, mEq, mEq, mEq, mEq, mEq, mEq, mEq, mEq, mEq, mEq, (mSlUs (by decide)), (fun D D' v w w' hD hb h2 => (fun x0 => (h2 ((hD 12 (by decide)).symm.trans x0)).ext hb)), (fun D D' v w w' hD hb h2 => (fun x0 => (h2 ((hD 12 (by decide)).symm.trans x0)).ext hb)), trivial⟩ (by kernel_rfl) rfl (by kernel_rfl) ⟨hst.drewW.sub (.cons_cons _ (.cons _ .slnil)), (fun _ => hst.drewW)⟩ (fun hM => ⟨?_, ?_, ?_, ?_, ?_, ?_, ?_, ?_, ?_, ?_, ?_, ?_, ?_, ?_, trivial⟩) ?_))
  ·rintro D ρo wo nD eD cD jD aD ⟨f7, _⟩
   exact go_plain (op_move vo (f7.trans q1_7) (kN0 (i := 0) hM (by decide) (by exact jD) (by exact rfl)))
  ·rintro D ρo wo nD eD cD jD aD ⟨f9, _⟩
   exact go_plain (op_fieldAddr (s := 0) Try.underlying51 rfl rfl Try.sizeOf2 (f9.trans rfl) (kN0 (i := 1) hM (by decide) (by exact jD) (by exact rfl)))
  ·rintro D ρo wo nD eD cD jD aD ⟨f27, _⟩
   have hst := jD.2 (not_yet nD (fun hm => (cD 10 2 (cD 11 10 (cD 12 11 hm (by kernel_rfl)) (by kernel_rfl)) (by kernel_rfl))))
   exact go_plain (op_load1 (u := (iV ((l[i]'(by omega)).T))) Try.isAgg2 f27 (hst.cell 0 rfl) (kN0 (i := 2) hM (by decide) (by exact jD) (by exact rfl)))
  ·rintro D ρo wo nD eD cD jD aD ⟨f9, _⟩
   exact go_plain (op_fieldAddr (s := 0) Try.underlying51 rfl rfl Try.sizeOf2 (f9.trans rfl) (kN0 (i := 3) hM (by decide) (by exact jD) (by exact rfl)))
  ·rintro D ρo wo nD eD cD jD aD ⟨f29, _⟩
   have hst := jD.2 (not_yet nD (fun hm => (cD 5 4 (cD 10 5 (cD 11 10 (cD 12 11 hm (by kernel_rfl)) (by kernel_rfl)) (by kernel_rfl)) (by kernel_rfl))))
   exact go_plain (op_load1 (u := (iV ((l[i]'(by omega)).T))) Try.isAgg2 f29 (hst.cell 0 rfl) (kN0 (i := 4) hM (by decide) (by exact jD) (by exact rfl)))
  ·rintro D ρo wo nD eD cD jD aD ⟨f30, _⟩
   exact go_plain (op_add (k := .i64) (a := (l[i]'(by omega)).T) (b := 1) (((l[i]'(by omega)).T) + 1) f30 rfl (xi64 (by omega) (by omega)) (kN0 (i := 5) hM (by decide) (by exact jD) (by exact rfl)))
  ·rintro D ρo wo nD eD cD jD aD ⟨f9, _⟩
   have hst := jD.2 (not_yet nD (fun hm => (cD 9 6 (cD 12 9 hm (by kernel_rfl)) (by kernel_rfl))))
   exact go_plain (op_loadN (cs := [(iV ((l[i]'(by omega)).T)), (iV ((l[i]'(by omega)).V))]) Try.isAgg51 Try.sizeOf51 (f9.trans rfl) (Pt.of (hst.cell 0 rfl) rfl) rfl (kN0 (i := 6) hM (by decide) (by exact jD) (by exact rfl)))
  ·rintro D ρo wo nD eD cD jD aD ⟨f9, _⟩
   exact go_plain (op_fieldAddr (s := 0) Try.underlying51 rfl rfl Try.sizeOf2 (f9.trans rfl) (kN0 (i := 7) hM (by decide) (by exact jD) (by exact rfl)))
  ·rintro D ρo wo nD eD cD jD aD ⟨f33, _⟩
   have hst := jD.2 (not_yet nD (fun hm => (cD 9 8 (cD 12 9 hm (by kernel_rfl)) (by kernel_rfl))))
   exact go_plain (op_load1 (u := (iV ((l[i]'(by omega)).T))) Try.isAgg2 f33 (hst.cell 0 rfl) (kN0 (i := 8) hM (by decide) (by exact jD) (by exact rfl)))
  ·rintro D ρo wo nD eD cD jD aD ⟨f32, f34, _⟩
   refine go_plain (op_call Try.call43 (evs_cons (v := (.agg #[(iV ((l[i]'(by omega)).T)), (iV ((l[i]'(by omega)).V))])) f32 (evs_cons (v := (iV ((l[i]'(by omega)).T))) f34 evs_nil)) (c_One (w0 := wo) (s := (l[i]'(by omega))) (fr := (l[i]'(by omega)).T)) ?_)
   rintro _ w25 ⟨rfl, hcall⟩
   refine ⟨_, rfl, ?_⟩
   exact kN (i := 9) hM (by decide) hcall.below (by exact ⟨(jD.1).ext hcall.below, (fun x0 => (jD.2 x0).ext hcall.below)⟩) (by exact rfl)
  ·rintro D ρo wo nD eD cD jD aD ⟨f28, f31, f35, _⟩
   exact go_plain (op_build (r := (.agg #[(iV 0), (iV ((l[i]'(by omega)).T)), (iV (((l[i]'(by omega)).T) + 1)), (iV ((l[i]'(by omega)).T)), (iV 1), (iV ((l[i]'(by omega)).V)), (iV ((l[i]'(by omega)).V)), (iV ((l[i]'(by omega)).V)), (iV ((l[i]'(by omega)).V)), (iV ((l[i]'(by omega)).V))])) (evp_cons (v := (iV 0)) rfl (evp_cons (v := (iV ((l[i]'(by omega)).T))) f28 (evp_cons (v := (iV (((l[i]'(by omega)).T) + 1))) f31 (evp_cons (v := (.agg #[(iV ((l[i]'(by omega)).T)), (iV 1), (iV ((l[i]'(by omega)).V)), (iV ((l[i]'(by omega)).V)), (iV ((l[i]'(by omega)).V)), (iV ((l[i]'(by omega)).V)), (iV ((l[i]'(by omega)).V))])) f35 evp_nil)))) (by simp [Instr.build, Instr.fill, Value.cells, Try.runUnderlying33, Try.zeroValue33]) (kN0 (i := 10) hM (by decide) (by exact jD) (by exact rfl)))
  ·rintro D ρo wo nD eD cD jD aD ⟨f36, _⟩
   have hst := jD.2 (not_yet nD (fun hm => (cD 12 11 hm (by kernel_rfl))))
   have hst := St.start wo
   refine go_plain (op_buildSlice (E := winE) [(⟨0, (l[i]'(by omega)).T, (((l[i]'(by omega)).T) + 1), (⟨(l[i]'(by omega)).T, 1, (l[i]'(by omega)).V, (l[i]'(by omega)).V, (l[i]'(by omega)).V, (l[i]'(by omega)).V, (l[i]'(by omega)).V⟩ : Agg)⟩ : Win)] hst Try.underlying27 Try.sizeOf33 Try.zeroValue33 (evp_cons (v := (.agg #[(iV 0), (iV ((l[i]'(by omega)).T)), (iV (((l[i]'(by omega)).T) + 1)), (iV ((l[i]'(by omega)).T)), (iV 1), (iV ((l[i]'(by omega)).V)), (iV ((l[i]'(by omega)).V)), (iV ((l[i]'(by omega)).V)), (iV ((l[i]'(by omega)).V)), (iV ((l[i]'(by omega)).V))])) f36 evp_nil) (parts_cons rfl parts_nil) rfl (by decide) (fun v26 w27 hst => ?_))
   exact kN (i := 11) hM (by decide) hst.below (by exact ⟨(jD.1).ext hst.below, (fun x0 => (jD.2 x0).ext hst.below)⟩) (by exact fun _ => hst.sl 0 rfl)
  ·rintro D ρo wo nD eD cD jD aD ⟨f26, f37, _⟩
   have hst := jD.2 nD
   obtain ⟨v29, e30⟩ : ∃ x, ρo 37 = x := ⟨_, rfl⟩
   have hs28 := f37 (by intro m hm; obtain rfl := List.mem_singleton.1 hm; exact nD)
   replace hs28 : Sl wo winE v29 ([(⟨0, (l[i]'(by omega)).T, (((l[i]'(by omega)).T) + 1), (⟨(l[i]'(by omega)).T, 1, (l[i]'(by omega)).V, (l[i]'(by omega)).V, (l[i]'(by omega)).V, (l[i]'(by omega)).V, (l[i]'(by omega)).V⟩ : Agg)⟩ : Win)]) := e30 ▸ hs28
   refine go_plain (op_append (E := winE) (xs := ys) (ys := [(⟨0, (l[i]'(by omega)).T, (((l[i]'(by omega)).T) + 1), (⟨(l[i]'(by omega)).T, 1, (l[i]'(by omega)).V, (l[i]'(by omega)).V, (l[i]'(by omega)).V, (l[i]'(by omega)).V, (l[i]'(by omega)).V⟩ : Agg)⟩ : Win)]) (z := (.agg #[(iV 0), (iV 0), (iV 0), (iV 0), (iV 0), (iV 0), (iV 0), (iV 0), (iV 0), (iV 0)])) (bytes := 80) hst 1 rfl Try.underlying27 (by kernel_rfl) rfl f26 e30 hs28 (by (simp; omega)) (by (simp; omega)) (fun v31 w32 hst => ?_))
   replace hst := hst.front 1 rfl
   refine ⟨by exact ⟨hst.sub (.cons _ (.cons_cons _ .slnil)), (fun y0 => absurd y0 (fun h => Bool.noConfusion h))⟩, by exact (fun y0 => hst.sub (.cons_cons _ (.cons_cons _ .slnil))), kX [] (by exact ⟨Or.inr (Or.inr (Or.inr iEq)), Or.inr (Or.inr (Or.inr iEq)), Or.inr (Or.inr (Or.inr iEq)), Or.inr (Or.inr (Or.inr iEq)), Or.inr (Or.inr (Or.inr iEq)), Or.inr (Or.inr (Or.inr iEq)), Or.inr (Or.inr (Or.inr iEq)), Or.inr (Or.inr (Or.inr iEq)), Or.inr (Or.inr (Or.inr iEq)), Or.inr (Or.inr (Or.inr iEq)), Or.inr (Or.inr (Or.inr iEq)), Or.inr (Or.inr (Or.inr (iSlU (by decide)))), Or.inl rfl, Or.inr (Or.inr (Or.inl (not_yet nD (fun hm => (cD 13 12 hm (by kernel_rfl)))))), trivial⟩) ?_⟩
   intro j d hj; cases hj
  ·rintro D ρo wo nD eD cD jD aD ⟨f38, _⟩
   obtain ⟨v34, e35⟩ : ∃ x, ρo 38 = x := ⟨_, rfl⟩
   have hh36 := aD 12 38 (eD 12 (by kernel_rfl)) rfl
   have hst : St w0 wo [rowT 33 winE v34 (ys ++ ([(⟨0, (l[i]'(by omega)).T, (((l[i]'(by omega)).T) + 1), (⟨(l[i]'(by omega)).T, 1, (l[i]'(by omega)).V, (l[i]'(by omega)).V, (l[i]'(by omega)).V, (l[i]'(by omega)).V, (l[i]'(by omega)).V⟩ : Agg)⟩ : Win)])), .blk g10 51 #[(iV ((l[i]'(by omega)).T)), (iV ((l[i]'(by omega)).V))]] := by have h := hh36 (eD 12 (by kernel_rfl)); rw [e35] at h; exact h
   exact go_plain (op_assign _ rfl (kN0 (i := 13) hM (by decide) (by exact jD) (by exact f38)))
  intro ρ37 w38 Dw38 hallw38 hJw38 hRw38 hkw38
  obtain ⟨v39, uw38_7⟩ : ∃ x, ρ37 7 = x := ⟨_, rfl⟩
  have hst : St w0 w38 [rowT 33 winE v39 (ys ++ ([(⟨0, (l[i]'(by omega)).T, (((l[i]'(by omega)).T) + 1), (⟨(l[i]'(by omega)).T, 1, (l[i]'(by omega)).V, (l[i]'(by omega)).V, (l[i]'(by omega)).V, (l[i]'(by omega)).V, (l[i]'(by omega)).V⟩ : Agg)⟩ : Win)])), .blk g10 51 #[(iV ((l[i]'(by omega)).T)), (iV ((l[i]'(by omega)).V))]] := by have h := hRw38 13 7 rfl; rw [uw38_7] at h; exact (h (hallw38 12 (show 12 < 14 from by decide)))
  have uw38_0 := (hkw38 0 rfl).trans q1_0
  have uw38_1 := (hkw38 1 rfl).trans q1_1
  have uw38_2 := (hkw38 2 rfl).trans q1_2
  have uw38_6 := (hkw38 6 rfl).trans q1_6
  have uw38_10 := (hkw38 10 rfl).trans q1_10
  have uw38_11 := (hkw38 11 rfl).trans q1_11
  have uw38_12 := (hkw38 12 rfl).trans q1_12
  refine block_n (then_n (cE_region rfl (s_cons (op_add (k := .i64) (a := (i : Int)) (b := 1) ((i : Int) + 1) uw38_12 rfl (xi64 (by omega) (by omega)) (s_cons (op_move (iV ((i : Int) + 1)) rfl (s_nil (then_n ?_))))))))
  exact ⟨_, ⟨v39, (ys ++ ([(⟨0, (l[i]'(by omega)).T, (((l[i]'(by omega)).T) + 1), (⟨(l[i]'(by omega)).T, 1, (l[i]'(by omega)).V, (l[i]'(by omega)).V, (l[i]'(by omega)).V, (l[i]'(by omega)).V, (l[i]'(by omega)).V⟩ : Agg)⟩ : Win)])), (i + 1), rfl, uw38_0, uw38_1, uw38_2, uw38_6, uw38_10, uw38_11, uw38_7, (congrArg iV (show ((i : Int) + 1) = _ from by omega)), (hst.sub (.cons_cons _ (.cons _ .slnil))), (by omega), (by (rw [hI]; exact rawW_yes (by omega) (by omega)))⟩, (by simp only [id]; omega)⟩
 have c40 := of_decide_eq_false b5
 refine cE_cond false (congrArg Value.bool b5) (fun h => by cases h) (fun _ => ?_)
 refine cE_exit (then_x (then_x (block_hit (then_n (cE_seq (cE_region rfl (s_cons (op_move vo q1_7 (s_cons (op_assign vo rfl (s_nil (then_n (cE_ret (scope_r (post_r _ (res1 (v := vo) rfl) ?_)))))))))))))))
 have e41 : ys = (rawW l fr to) := by exact rawW_all hI (by omega)
 replace hst : St w0 w4 [rowT 33 winE vo (rawW l fr to)] := by rw [congrArg (fun l => rowT 33 winE vo l) e41] at hst; exact hst
 exact ⟨vo, rfl, hst.sub (.cons_cons _ .slnil)⟩

end Go.Proofs.Ytldfnkhccaglmaa
