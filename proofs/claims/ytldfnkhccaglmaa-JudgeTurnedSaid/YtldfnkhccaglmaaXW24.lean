/- ask.Pick -/
import Derived.Test.YtldfnkhccaglmaaXW21
import Derived.Test.YtldfnkhccaglmaaXLA
namespace Go.Proofs.Ytldfnkhccaglmaa
open Go.RowKit

set_option maxRecDepth 8000 in
set_option maxHeartbeats 4000000 in
theorem c_pick (w0 : World) (v_l : Value) (l : List Info) (h_l : Sl w0 infoE v_l l) (hll : l.length ≤ 1000000) (hbl : (bestP l).length ≤ 12) :
  Calls Try.prog 54 #[v_l] w0 fun e w' => ∃ (v : Value), e = .returned v ∧ St w0 w' [rowT 3 (intE .i64) v (pickI l)] := by
 refine calls_E (n := 64) (ts := [2]) Try.func54 rfl rfl rfl (by simp) ?_
 have hst := St.start w0
 refine cE_seq (cE_region rfl (s_cons (op_assign nS rfl (s_nil (then_n (cE_scope (cE_seq (cE_region rfl (s_cons (op_assign nS rfl (s_nil (then_n (cE_seq (cE_label (then_n (cE_seq (cE_seq (cE_region rfl (s_cons (op_move v_l rfl (s_cons (op_len (E := infoE) (xs := l) Try.underlying92 rfl h_l (s_cons (op_move (iV 0) rfl (s_nil (then_n (cE_block ?_)))))))))))))))))))))))))))
 replace hst := hst.nilRow 96 infoE
 refine cE_loop (fun (m : Nat) (ρ : Env) (w : World) => ∃ (vo : Value) (ys : List Info) (i : Nat), m = l.length - i ∧ ρ 0 = v_l ∧ ρ 2 = nS ∧ ρ 10 = v_l ∧ ρ 11 = (iV (l.length : Int)) ∧ ρ 3 = vo ∧ ρ 12 = (iV (i : Int)) ∧ St w0 w [rowT 96 infoE vo ys] ∧ (i ≤ l.length) ∧ (ys = bestP (l.take i))) id _ ⟨nS, [], 0, rfl, rfl, rfl, rfl, rfl, rfl, (congrArg iV (show 0 = _ from by omega)), hst, (by omega), (by rfl)⟩ ?_
 rintro m2 ρ3 w4 ⟨vo, ys, i, hm2, q1_0, q1_2, q1_10, q1_11, q1_3, q1_12, hst, hi, hI⟩
 have hlen := h_l.len
 have hyl : ys.length ≤ i := by rw [hI]; exact best_len hi
 refine cE_seq (cE_region rfl (s_cons (op_lss (k := .i64) (a := (i : Int)) (b := (l.length : Int)) q1_12 q1_11 (s_nil (then_n (cE_seq ?_))))))
 rcases Bool.eq_false_or_eq_true (decide ((i : Int) < (l.length : Int))) with b5 | b5
 ·have c6 := of_decide_eq_true b5
  refine cE_cond true (congrArg Value.bool b5) (fun _ => ?_) (fun h => by cases h)
  refine cE_skip (then_n (cE_seq (cE_block (cE_seq (cE_region rfl (s_cons (op_indexAddrN (E := infoE) (xs := l) i Try.underlying92 Try.sizeOf96 q1_10 h_l q1_12 (by omega) (by omega) (fun a7 o8 p9 => ?_))))))))
  refine s_cons (op_loadN (cs := [(iV ((l[i]'(by omega)).Id)), (iV ((l[i]'(by omega)).Tier)), (iV ((l[i]'(by omega)).From)), (iV ((l[i]'(by omega)).To)), (.int .u32 ((l[i]'(by omega)).Sum))]) Try.isAgg96 Try.sizeOf96 rfl (Pt.of (p9.below hst.below) rfl) rfl ?_)
  refine s_cons (op_alloc (cs := #[(iV 0), (iV 0), (iV 0), (iV 0), (.int .u32 0)]) hst Try.zeroValue96 rfl (fun g10 w11 hst _ => ?_))
  refine s_cons0 (op_storeAll hst 0 rfl Try.sizeOf96 rfl rfl rfl rfl (by simp [Value.oneCell']) (fun w12 hst => ?_))
  refine s_nil (then_n (cE_seq (cE_region rfl (s_cons (op_move vo q1_3 (s_cons (op_makeFunc (evs_cons (v := (.pointer (some ⟨g10, 0, none⟩))) rfl evs_nil) ?_)))))))
  replace hst := hst.front 1 rfl
  refine s_cons (op_call Try.call61 (evs_cons (v := vo) rfl (evs_cons (v := (.func (.func 62) #[] #[(.pointer (some ⟨g10, 0, none⟩))])) rfl evs_nil)) (c_indexP (v_l := vo) (l := ys) (g_x := g10) (x0 := (l[i]'(by omega)).Id) (x1 := (l[i]'(by omega)).Tier) (x2 := (l[i]'(by omega)).From) (x3 := (l[i]'(by omega)).To) (x4 := (l[i]'(by omega)).Sum) (hst := hst)) ?_)
  rintro _ w13 ⟨rfl, hcall⟩
  refine ⟨_, rfl, ?_⟩
  have hst : St w0 w13 [rowT 96 infoE vo ys, .blk g10 96 #[(iV ((l[i]'(by omega)).Id)), (iV ((l[i]'(by omega)).Tier)), (iV ((l[i]'(by omega)).From)), (iV ((l[i]'(by omega)).To)), (.int .u32 ((l[i]'(by omega)).Sum))]] := hcall
  refine s_cons (op_assign (iV (idxI (fun (y : Info) => decide (y.From = ((l[i]'(by omega)).From) ∧ y.To = ((l[i]'(by omega)).To))) ys)) rfl (s_nil (then_n (cE_seq (cE_seq (cE_region rfl (s_cons (op_move (iV (idxI (fun (y : Info) => decide (y.From = ((l[i]'(by omega)).From) ∧ y.To = ((l[i]'(by omega)).To))) ys)) rfl ?_))))))))
  refine s_cons (op_lss (k := .i64) (a := (idxI (fun (y : Info) => decide (y.From = ((l[i]'(by omega)).From) ∧ y.To = ((l[i]'(by omega)).To))) ys)) (b := 0) rfl rfl (s_nil (then_n ?_)))
  rcases Bool.eq_false_or_eq_true (decide ((idxI (fun (y : Info) => decide (y.From = ((l[i]'(by omega)).From) ∧ y.To = ((l[i]'(by omega)).To))) ys) < 0)) with b14 | b14
  ·have c15 := of_decide_eq_true b14
   refine cE_cond true (congrArg Value.bool b14) (fun _ => ?_) (fun h => by cases h)
   refine cE_seq (cE_region rfl (s_cons (op_move vo q1_3 (s_cons (op_loadN (cs := [(iV ((l[i]'(by omega)).Id)), (iV ((l[i]'(by omega)).Tier)), (iV ((l[i]'(by omega)).From)), (iV ((l[i]'(by omega)).To)), (.int .u32 ((l[i]'(by omega)).Sum))]) Try.isAgg96 Try.sizeOf96 rfl (Pt.of (hst.cell 1 rfl) rfl) rfl ?_)))))
   refine s_cons (op_buildSlice (E := infoE) [(l[i]'(by omega))] hst Try.underlying92 Try.sizeOf96 Try.zeroValue96 (evp_cons (v := (.agg #[(iV ((l[i]'(by omega)).Id)), (iV ((l[i]'(by omega)).Tier)), (iV ((l[i]'(by omega)).From)), (iV ((l[i]'(by omega)).To)), (.int .u32 ((l[i]'(by omega)).Sum))])) rfl evp_nil) (parts_cons rfl parts_nil) rfl (by decide) (fun v16 w17 hst => ?_))
   refine s_cons (op_append (E := infoE) (xs := ys) (ys := [(l[i]'(by omega))]) (z := (.agg #[(iV 0), (iV 0), (iV 0), (iV 0), (.int .u32 0)])) (bytes := 40) hst 1 rfl Try.underlying92 (by kernel_rfl) rfl rfl rfl (hst.sl 0 rfl) (by (simp; omega)) (by (simp; omega)) (fun v18 w19 hst => ?_))
   refine s_cons (op_assign v18 rfl (s_nil (then_n (cE_exit (then_x (block_hit (then_n (cE_region rfl (s_cons (op_add (k := .i64) (a := (i : Int)) (b := 1) ((i : Int) + 1) q1_12 rfl (xi64 (by omega) (by omega)) (s_cons (op_move (iV ((i : Int) + 1)) rfl (s_nil (then_n ?_))))))))))))))
   exact ⟨_, ⟨v18, (ys ++ ([(l[i]'(by omega))])), (i + 1), rfl, q1_0, q1_2, q1_10, q1_11, rfl, (congrArg iV (show ((i : Int) + 1) = _ from by omega)), (hst.sub (.cons _ (.cons_cons _ (.cons _ .slnil)))), (by omega), (by exact best_new (by omega) hI (by omega))⟩, (by simp only [id]; omega)⟩
  have c20 := of_decide_eq_false b14
  refine cE_cond false (congrArg Value.bool b14) (fun h => by cases h) (fun _ => ?_)
  refine cE_skip (then_n (cE_seq ?_))
  have hir := idx_r (fun (y : Info) => decide (y.From = (l[i]'(by omega)).From ∧ y.To = (l[i]'(by omega)).To)) ys
  refine cE_regionM (fun (D : Nat → Bool) (w : World) => St w0 w [rowT 96 infoE vo ys, .blk g10 96 #[(iV ((l[i]'(by omega)).Id)), (iV ((l[i]'(by omega)).Tier)), (iV ((l[i]'(by omega)).From)), (iV ((l[i]'(by omega)).To)), (.int .u32 ((l[i]'(by omega)).Sum))]] ∧ (St w0 w [rowT 96 infoE vo ys, .blk g10 96 #[(iV ((l[i]'(by omega)).Id)), (iV ((l[i]'(by omega)).Tier)), (iV ((l[i]'(by omega)).From)), (iV ((l[i]'(by omega)).To)), (.int .u32 ((l[i]'(by omega)).Sum))]])) [[(5, none)], [(25, some 0)], [(3, none)], [(6, none)], [(27, some 2), (28, some 3)], [(29, some 4)], [(30, some 5)], [(26, some 1), (31, some 6)], [(5, none)], [(33, some 8)], [(3, none)], [(6, none)], [(35, some 10), (36, some 11)], [(37, some 12)], [(38, some 13)], [(34, some 9), (39, some 14)], [(32, some 7), (40, some 15)], [(41, some 16)], [(42, some 17)]] [] [(kEq (.pointer (some ⟨g10, (0 + 1), none⟩))), (kEq (iV ((l[i]'(by omega)).Tier))), (kEq vo), (kEq (iV (idxI (fun (y : Info) => decide (y.From = ((l[i]'(by omega)).From) ∧ y.To = ((l[i]'(by omega)).To))) ys))), (kPtU [] [(iV ((ys[(Int.toNat (idxI (fun (y : Info) => decide (y.From = ((l[i]'(by omega)).From) ∧ y.To = ((l[i]'(by omega)).To))) ys))]'(by omega)).Id)), (iV ((ys[(Int.toNat (idxI (fun (y : Info) => decide (y.From = ((l[i]'(by omega)).From) ∧ y.To = ((l[i]'(by omega)).To))) ys))]'(by omega)).Tier)), (iV ((ys[(Int.toNat (idxI (fun (y : Info) => decide (y.From = ((l[i]'(by omega)).From) ∧ y.To = ((l[i]'(by omega)).To))) ys))]'(by omega)).From)), (iV ((ys[(Int.toNat (idxI (fun (y : Info) => decide (y.From = ((l[i]'(by omega)).From) ∧ y.To = ((l[i]'(by omega)).To))) ys))]'(by omega)).To)), (.int .u32 ((ys[(Int.toNat (idxI (fun (y : Info) => decide (y.From = ((l[i]'(by omega)).From) ∧ y.To = ((l[i]'(by omega)).To))) ys))]'(by omega)).Sum))]), (kPtU [] [(iV ((ys[(Int.toNat (idxI (fun (y : Info) => decide (y.From = ((l[i]'(by omega)).From) ∧ y.To = ((l[i]'(by omega)).To))) ys))]'(by omega)).Tier)), (iV ((ys[(Int.toNat (idxI (fun (y : Info) => decide (y.From = ((l[i]'(by omega)).From) ∧ y.To = ((l[i]'(by omega)).To))) ys))]'(by omega)).From)), (iV ((ys[(Int.toNat (idxI (fun (y : Info) => decide (y.From = ((l[i]'(by omega)).From) ∧ y.To = ((l[i]'(by omega)).To))) ys))]'(by omega)).To)), (.int .u32 ((ys[(Int.toNat (idxI (fun (y : Info) => decide (y.From = ((l[i]'(by omega)).From) ∧ y.To = ((l[i]'(by omega)).To))) ys))]'(by omega)).Sum))]), (kEq (iV ((ys[(Int.toNat (idxI (fun (y : Info) => decide (y.From = ((l[i]'(by omega)).From) ∧ y.To = ((l[i]'(by omega)).To))) ys))]'(by omega)).Tier))), (kEq (iV (cmpI ((l[i]'(by omega)).Tier) ((ys[(Int.toNat (idxI (fun (y : Info) => decide (y.From = ((l[i]'(by omega)).From) ∧ y.To = ((l[i]'(by omega)).To))) ys))]'(by omega)).Tier)))), (kEq (.pointer (some ⟨g10, (0 + 0), none⟩))), (kEq (iV ((l[i]'(by omega)).Id))), (kEq vo), (kEq (iV (idxI (fun (y : Info) => decide (y.From = ((l[i]'(by omega)).From) ∧ y.To = ((l[i]'(by omega)).To))) ys))), (kPtU [] [(iV ((ys[(Int.toNat (idxI (fun (y : Info) => decide (y.From = ((l[i]'(by omega)).From) ∧ y.To = ((l[i]'(by omega)).To))) ys))]'(by omega)).Id)), (iV ((ys[(Int.toNat (idxI (fun (y : Info) => decide (y.From = ((l[i]'(by omega)).From) ∧ y.To = ((l[i]'(by omega)).To))) ys))]'(by omega)).Tier)), (iV ((ys[(Int.toNat (idxI (fun (y : Info) => decide (y.From = ((l[i]'(by omega)).From) ∧ y.To = ((l[i]'(by omega)).To))) ys))]'(by omega)).From)), (iV ((ys[(Int.toNat (idxI (fun (y : Info) => decide (y.From = ((l[i]'(by omega)).From) ∧ y.To = ((l[i]'(by omega)).To))) ys))]'(by omega)).To)), (.int .u32 ((ys[(Int.toNat (idxI (fun (y : Info) => decide (y.From = ((l[i]'(by omega)).From) ∧ y.To = ((l[i]'(by omega)).To))) ys))]'(by omega)).Sum))]), (kPtU [] [(iV ((ys[(Int.toNat (idxI (fun (y : Info) => decide (y.From = ((l[i]'(by omega)).From) ∧ y.To = ((l[i]'(by omega)).To))) ys))]'(by omega)).Id)), (iV ((ys[(Int.toNat (idxI (fun (y : Info) => decide (y.From = ((l[i]'(by omega)).From) ∧ y.To = ((l[i]'(by omega)).To))) ys))]'(by omega)).Tier)), (iV ((ys[(Int.toNat (idxI (fun (y : Info) => decide (y.From = ((l[i]'(by omega)).From) ∧ y.To = ((l[i]'(by omega)).To))) ys))]'(by omega)).From)), (iV ((ys[(Int.toNat (idxI (fun (y : Info) => decide (y.From = ((l[i]'(by omega)).From) ∧ y.To = ((l[i]'(by omega)).To))) ys))]'(by omega)).To)), (.int .u32 ((ys[(Int.toNat (idxI (fun (y : Info) => decide (y.From = ((l[i]'(by omega)).From) ∧ y.To = ((l[i]'(by omega)).To))) ys))]'(by omega)).Sum))]), (kEq (iV ((ys[(Int.toNat (idxI (fun (y : Info) => decide (y.From = ((l[i]'(by omega)).From) ∧ y.To = ((l[i]'(by omega)).To))) ys))]'(by omega)).Id))), (kEq (iV (cmpI ((l[i]'(by omega)).Id) ((ys[(Int.toNat (idxI (fun (y : Info) => decide (y.From = ((l[i]'(by omega)).From) ∧ y.To = ((l[i]'(by omega)).To))) ys))]'(by omega)).Id)))), (kSlU [] (intE .i64) ([(cmpI ((l[i]'(by omega)).Tier) ((ys[(Int.toNat (idxI (fun (y : Info) => decide (y.From = ((l[i]'(by omega)).From) ∧ y.To = ((l[i]'(by omega)).To))) ys))]'(by omega)).Tier)), (cmpI ((l[i]'(by omega)).Id) ((ys[(Int.toNat (idxI (fun (y : Info) => decide (y.From = ((l[i]'(by omega)).From) ∧ y.To = ((l[i]'(by omega)).To))) ys))]'(by omega)).Id))])), (kEq (iV (orI ([(cmpI ((l[i]'(by omega)).Tier) ((ys[(Int.toNat (idxI (fun (y : Info) => decide (y.From = ((l[i]'(by omega)).From) ∧ y.To = ((l[i]'(by omega)).To))) ys))]'(by omega)).Tier)), (cmpI ((l[i]'(by omega)).Id) ((ys[(Int.toNat (idxI (fun (y : Info) => decide (y.From = ((l[i]'(by omega)).From) ∧ y.To = ((l[i]'(by omega)).To))) ys))]'(by omega)).Id))])))), (kEq (.bool (decide ((orI ([(cmpI ((l[i]'(by omega)).Tier) ((ys[(Int.toNat (idxI (fun (y : Info) => decide (y.From = ((l[i]'(by omega)).From) ∧ y.To = ((l[i]'(by omega)).To))) ys))]'(by omega)).Tier)), (cmpI ((l[i]'(by omega)).Id) ((ys[(Int.toNat (idxI (fun (y : Info) => decide (y.From = ((l[i]'(by omega)).From) ∧ y.To = ((l[i]'(by omega)).To))) ys))]'(by omega)).Id))])) < 0))))] ⟨mEq, mEq, mEq, mEq, (mPtUs (by decide)), (mPtUs (by decide)), mEq, mEq, mEq, mEq, mEq, mEq, (mPtUs (by decide)), (mPtUs (by decide)), mEq, mEq, (mSlUs (by decide)), mEq, mEq, trivial⟩ (by kernel_rfl) rfl (by kernel_rfl) ⟨hst.drewW.sub (.cons_cons _ (.cons_cons _ .slnil)), hst.drewW⟩ (fun hM => ⟨?_, ?_, ?_, ?_, ?_, ?_, ?_, ?_, ?_, ?_, ?_, ?_, ?_, ?_, ?_, ?_, ?_, ?_, ?_, trivial⟩) ?_
  ·rintro D ρo wo nD eD cD jD aD ⟨f5, _⟩
   exact go_plain (op_fieldAddr (s := 0) Try.underlying96 rfl rfl Try.sizeOf3 (f5.trans rfl) (kN0 (i := 0) hM (by decide) (by exact jD) (by exact rfl)))
  ·rintro D ρo wo nD eD cD jD aD ⟨f25, _⟩
   have hst := jD.2 
   exact go_plain (op_load1 (u := (iV ((l[i]'(by omega)).Tier))) Try.isAgg3 f25 ((hst.cell 1 rfl).drop 1) (kN0 (i := 1) hM (by decide) (by exact jD) (by exact rfl)))
  ·rintro D ρo wo nD eD cD jD aD ⟨f3, _⟩
   exact go_plain (op_move vo (f3.trans q1_3) (kN0 (i := 2) hM (by decide) (by exact jD) (by exact rfl)))
  ·rintro D ρo wo nD eD cD jD aD ⟨f6, _⟩
   refine go_plain (op_move (iV (idxI (fun (y : Info) => decide (y.From = ((l[i]'(by omega)).From) ∧ y.To = ((l[i]'(by omega)).To))) ys)) (f6.trans rfl) ?_)
   exact (kN0 (i := 3) hM (by decide) (by exact jD) (by exact rfl))
  ·rintro D ρo wo nD eD cD jD aD ⟨f27, f28, _⟩
   have hst := jD.2 
   refine go_plain (op_indexAddrN (E := infoE) (xs := ys) (Int.toNat (idxI (fun (y : Info) => decide (y.From = ((l[i]'(by omega)).From) ∧ y.To = ((l[i]'(by omega)).To))) ys)) Try.underlying92 Try.sizeOf96 f27 (hst.sl 0 rfl) f28 (by omega) (by omega) (fun a33 o34 p35 => ?_))
   exact (kN0 (i := 4) hM (by decide) (by exact jD) (by exact ⟨_, _, rfl, fun _ => p35⟩))
  ·rintro D ρo wo nD eD cD jD aD ⟨f29, _⟩
   obtain ⟨a36, o37, e38, p39⟩ := f29
   have p39 := p39 (by intro m hm; cases hm)
   exact go_plain (op_fieldAddr (s := 0) Try.underlying96 rfl rfl Try.sizeOf3 e38 (kN0 (i := 5) hM (by decide) (by exact jD) (by exact ⟨_, _, rfl, fun _ => (p39.drop 1)⟩)))
  ·rintro D ρo wo nD eD cD jD aD ⟨f30, _⟩
   obtain ⟨a40, o41, e42, p43⟩ := f30
   have p43 := p43 (by intro m hm; cases hm)
   refine go_plain (op_load1 (u := (iV ((ys[(Int.toNat (idxI (fun (y : Info) => decide (y.From = ((l[i]'(by omega)).From) ∧ y.To = ((l[i]'(by omega)).To))) ys))]'(by omega)).Tier))) Try.isAgg3 e42 p43 ?_)
   exact (kN0 (i := 6) hM (by decide) (by exact jD) (by exact rfl))
  ·rintro D ρo wo nD eD cD jD aD ⟨f26, f31, _⟩
   refine go_plain (op_call Try.call64 (evs_cons (v := (iV ((l[i]'(by omega)).Tier))) f26 (evs_cons (v := (iV ((ys[(Int.toNat (idxI (fun (y : Info) => decide (y.From = ((l[i]'(by omega)).From) ∧ y.To = ((l[i]'(by omega)).To))) ys))]'(by omega)).Tier))) f31 evs_nil)) (c_Compare_int (w0 := wo) (x := (l[i]'(by omega)).Tier) (y := (ys[(Int.toNat (idxI (fun (y : Info) => decide (y.From = ((l[i]'(by omega)).From) ∧ y.To = ((l[i]'(by omega)).To))) ys))]'(by omega)).Tier)) ?_)
   rintro _ w44 ⟨rfl, hcall⟩
   refine ⟨_, rfl, ?_⟩
   exact kN (i := 7) hM (by decide) hcall.below (by exact ⟨(jD.1).ext hcall.below, (jD.2).ext hcall.below⟩) (by exact rfl)
  ·rintro D ρo wo nD eD cD jD aD ⟨f5, _⟩
   exact go_plain (op_fieldAddr (s := 0) Try.underlying96 rfl rfl Try.sizeOf3 (f5.trans rfl) (kN0 (i := 8) hM (by decide) (by exact jD) (by exact rfl)))
  ·rintro D ρo wo nD eD cD jD aD ⟨f33, _⟩
   have hst := jD.2 
   exact go_plain (op_load1 (u := (iV ((l[i]'(by omega)).Id))) Try.isAgg3 f33 (hst.cell 1 rfl) (kN0 (i := 9) hM (by decide) (by exact jD) (by exact rfl)))
  ·rintro D ρo wo nD eD cD jD aD ⟨f3, _⟩
   exact go_plain (op_move vo (f3.trans q1_3) (kN0 (i := 10) hM (by decide) (by exact jD) (by exact rfl)))
  ·rintro D ρo wo nD eD cD jD aD ⟨f6, _⟩
   refine go_plain (op_move (iV (idxI (fun (y : Info) => decide (y.From = ((l[i]'(by omega)).From) ∧ y.To = ((l[i]'(by omega)).To))) ys)) (f6.trans rfl) ?_)
   exact (kN0 (i := 11) hM (by decide) (by exact jD) (by exact rfl))
  ·rintro D ρo wo nD eD cD jD aD ⟨f35, f36, _⟩
   have hst := jD.2 
   refine go_plain (op_indexAddrN (E := infoE) (xs := ys) (Int.toNat (idxI (fun (y : Info) => decide (y.From = ((l[i]'(by omega)).From) ∧ y.To = ((l[i]'(by omega)).To))) ys)) Try.underlying92 Try.sizeOf96 f35 (hst.sl 0 rfl) f36 (by omega) (by omega) (fun a45 o46 p47 => ?_))
   exact (kN0 (i := 12) hM (by decide) (by exact jD) (by exact ⟨_, _, rfl, fun _ => p47⟩))
  ·rintro D ρo wo nD eD cD jD aD ⟨f37, _⟩
   obtain ⟨a48, o49, e50, p51⟩ := f37
   have p51 := p51 (by intro m hm; cases hm)
   exact go_plain (op_fieldAddr (s := 0) Try.underlying96 rfl rfl Try.sizeOf3 e50 (kN0 (i := 13) hM (by decide) (by exact jD) (by exact ⟨_, _, rfl, fun _ => p51⟩)))
  ·rintro D ρo wo nD eD cD jD aD ⟨f38, _⟩
   obtain ⟨a52, o53, e54, p55⟩ := f38
   have p55 := p55 (by intro m hm; cases hm)
   refine go_plain (op_load1 (u := (iV ((ys[(Int.toNat (idxI (fun (y : Info) => decide (y.From = ((l[i]'(by omega)).From) ∧ y.To = ((l[i]'(by omega)).To))) ys))]'(by omega)).Id))) Try.isAgg3 e54 p55 ?_)
   exact (kN0 (i := 14) hM (by decide) (by exact jD) (by exact rfl))
  ·rintro D ρo wo nD eD cD jD aD ⟨f34, f39, _⟩
   refine go_plain (op_call Try.call64 (evs_cons (v := (iV ((l[i]'(by omega)).Id))) f34 (evs_cons (v := (iV ((ys[(Int.toNat (idxI (fun (y : Info) => decide (y.From = ((l[i]'(by omega)).From) ∧ y.To = ((l[i]'(by omega)).To))) ys))]'(by omega)).Id))) f39 evs_nil)) (c_Compare_int (w0 := wo) (x := (l[i]'(by omega)).Id) (y := (ys[(Int.toNat (idxI (fun (y : Info) => decide (y.From = ((l[i]'(by omega)).From) ∧ y.To = ((l[i]'(by omega)).To))) ys))]'(by omega)).Id)) ?_)
   rintro _ w56 ⟨rfl, hcall⟩
   refine ⟨_, rfl, ?_⟩
   exact kN (i := 15) hM (by decide) hcall.below (by exact ⟨(jD.1).ext hcall.below, (jD.2).ext hcall.below⟩) (by exact rfl)
  ·rintro D ρo wo nD eD cD jD aD ⟨f32, f40, _⟩
   have hst := jD.2 
   have hst := St.start wo
   refine go_plain (op_buildSlice (E := (intE .i64)) [(cmpI ((l[i]'(by omega)).Tier) ((ys[(Int.toNat (idxI (fun (y : Info) => decide (y.From = ((l[i]'(by omega)).From) ∧ y.To = ((l[i]'(by omega)).To))) ys))]'(by omega)).Tier)), (cmpI ((l[i]'(by omega)).Id) ((ys[(Int.toNat (idxI (fun (y : Info) => decide (y.From = ((l[i]'(by omega)).From) ∧ y.To = ((l[i]'(by omega)).To))) ys))]'(by omega)).Id))] hst Try.underlying42 Try.sizeOf3 Try.zeroValue3 (evp_cons (v := (iV (cmpI ((l[i]'(by omega)).Tier) ((ys[(Int.toNat (idxI (fun (y : Info) => decide (y.From = ((l[i]'(by omega)).From) ∧ y.To = ((l[i]'(by omega)).To))) ys))]'(by omega)).Tier)))) f32 (evp_cons (v := (iV (cmpI ((l[i]'(by omega)).Id) ((ys[(Int.toNat (idxI (fun (y : Info) => decide (y.From = ((l[i]'(by omega)).From) ∧ y.To = ((l[i]'(by omega)).To))) ys))]'(by omega)).Id)))) f40 evp_nil)) (parts_cons rfl (parts_cons rfl parts_nil)) rfl (by decide) (fun v57 w58 hst => ?_))
   exact kN (i := 16) hM (by decide) hst.below (by exact ⟨(jD.1).ext hst.below, (jD.2).ext hst.below⟩) (by exact fun _ => hst.sl 0 rfl)
  ·rintro D ρo wo nD eD cD jD aD ⟨f41, _⟩
   obtain ⟨v60, e61⟩ : ∃ x, ρo 41 = x := ⟨_, rfl⟩
   have hs59 := f41 (by intro m hm; cases hm)
   replace hs59 : Sl wo (intE .i64) v60 ([(cmpI ((l[i]'(by omega)).Tier) ((ys[(Int.toNat (idxI (fun (y : Info) => decide (y.From = ((l[i]'(by omega)).From) ∧ y.To = ((l[i]'(by omega)).To))) ys))]'(by omega)).Tier)), (cmpI ((l[i]'(by omega)).Id) ((ys[(Int.toNat (idxI (fun (y : Info) => decide (y.From = ((l[i]'(by omega)).From) ∧ y.To = ((l[i]'(by omega)).To))) ys))]'(by omega)).Id))]) := e61 ▸ hs59
   refine go_plain (op_call Try.call63 (evs_cons (v := v60) e61 evs_nil) (c_Or (w0 := wo) (v_l := v60) (l := [(cmpI ((l[i]'(by omega)).Tier) ((ys[(Int.toNat (idxI (fun (y : Info) => decide (y.From = ((l[i]'(by omega)).From) ∧ y.To = ((l[i]'(by omega)).To))) ys))]'(by omega)).Tier)), (cmpI ((l[i]'(by omega)).Id) ((ys[(Int.toNat (idxI (fun (y : Info) => decide (y.From = ((l[i]'(by omega)).From) ∧ y.To = ((l[i]'(by omega)).To))) ys))]'(by omega)).Id))]) (h_l := hs59)) ?_)
   rintro _ w62 ⟨rfl, hcall⟩
   refine ⟨_, rfl, ?_⟩
   exact kN (i := 17) hM (by decide) hcall.below (by exact ⟨(jD.1).ext hcall.below, (jD.2).ext hcall.below⟩) (by exact rfl)
  ·rintro D ρo wo nD eD cD jD aD ⟨f42, _⟩
   refine go_plain (op_lss (k := .i64) (a := (orI ([(cmpI ((l[i]'(by omega)).Tier) ((ys[(Int.toNat (idxI (fun (y : Info) => decide (y.From = ((l[i]'(by omega)).From) ∧ y.To = ((l[i]'(by omega)).To))) ys))]'(by omega)).Tier)), (cmpI ((l[i]'(by omega)).Id) ((ys[(Int.toNat (idxI (fun (y : Info) => decide (y.From = ((l[i]'(by omega)).From) ∧ y.To = ((l[i]'(by omega)).To))) ys))]'(by omega)).Id))]))) (b := 0) f42 rfl ?_)
   exact (kN0 (i := 18) hM (by decide) (by exact jD) (by exact rfl))
  intro ρ63 w64 Dw64 hallw64 hJw64 hRw64 hkw64
  have hst : St w0 w64 [rowT 96 infoE vo ys, .blk g10 96 #[(iV ((l[i]'(by omega)).Id)), (iV ((l[i]'(by omega)).Tier)), (iV ((l[i]'(by omega)).From)), (iV ((l[i]'(by omega)).To)), (.int .u32 ((l[i]'(by omega)).Sum))]] := hJw64.2 
  have uw64_0 := (hkw64 0 rfl).trans q1_0
  have uw64_2 := (hkw64 2 rfl).trans q1_2
  have uw64_10 := (hkw64 10 rfl).trans q1_10
  have uw64_11 := (hkw64 11 rfl).trans q1_11
  have uw64_3 := (hkw64 3 rfl).trans q1_3
  have uw64_12 := (hkw64 12 rfl).trans q1_12
  have uw64_5 : ρ63 5 = (.pointer (some ⟨g10, 0, none⟩)) := (hkw64 5 rfl).trans rfl
  have uw64_6 : ρ63 6 = (iV (idxI (fun (y : Info) => decide (y.From = ((l[i]'(by omega)).From) ∧ y.To = ((l[i]'(by omega)).To))) ys)) := (hkw64 6 rfl).trans rfl
  have uw64_43 : ρ63 43 = (.bool (decide ((orI ([(cmpI ((l[i]'(by omega)).Tier) ((ys[(Int.toNat (idxI (fun (y : Info) => decide (y.From = ((l[i]'(by omega)).From) ∧ y.To = ((l[i]'(by omega)).To))) ys))]'(by omega)).Tier)), (cmpI ((l[i]'(by omega)).Id) ((ys[(Int.toNat (idxI (fun (y : Info) => decide (y.From = ((l[i]'(by omega)).From) ∧ y.To = ((l[i]'(by omega)).To))) ys))]'(by omega)).Id))])) < 0))) := hRw64 18 43 rfl
  refine then_n ?_
  rcases Bool.eq_false_or_eq_true (decide ((orI ([(cmpI ((l[i]'(by omega)).Tier) ((ys[(Int.toNat (idxI (fun (y : Info) => decide (y.From = ((l[i]'(by omega)).From) ∧ y.To = ((l[i]'(by omega)).To))) ys))]'(by omega)).Tier)), (cmpI ((l[i]'(by omega)).Id) ((ys[(Int.toNat (idxI (fun (y : Info) => decide (y.From = ((l[i]'(by omega)).From) ∧ y.To = ((l[i]'(by omega)).To))) ys))]'(by omega)).Id))])) < 0)) with b65 | b65
  ·have c66 := of_decide_eq_true b65
   refine cE_cond true (uw64_43.trans (congrArg Value.bool b65)) (fun _ => ?_) (fun h => by cases h)
   refine cE_region rfl (s_cons (op_move vo uw64_3 (s_cons (op_move (iV (idxI (fun (y : Info) => decide (y.From = ((l[i]'(by omega)).From) ∧ y.To = ((l[i]'(by omega)).To))) ys)) uw64_6 (s_cons (op_loadN (cs := [(iV ((l[i]'(by omega)).Id)), (iV ((l[i]'(by omega)).Tier)), (iV ((l[i]'(by omega)).From)), (iV ((l[i]'(by omega)).To)), (.int .u32 ((l[i]'(by omega)).Sum))]) Try.isAgg96 Try.sizeOf96 uw64_5 (Pt.of (hst.cell 1 rfl) rfl) rfl ?_))))))
   refine s_cons (op_indexRowN hst 0 rfl (Int.toNat (idxI (fun (y : Info) => decide (y.From = ((l[i]'(by omega)).From) ∧ y.To = ((l[i]'(by omega)).To))) ys)) Try.underlying92 Try.sizeOf96 rfl rfl (by omega) (by omega) (fun g71 hb70 p69 => ?_))
   refine s_cons0 (op_storeRowN (y := (l[i]'(by omega))) hst 0 rfl hb70 Try.sizeOf96 rfl rfl ((Int.toNat (idxI (fun (y : Info) => decide (y.From = ((l[i]'(by omega)).From) ∧ y.To = ((l[i]'(by omega)).To))) ys))) rfl (by omega) rfl (fun w72 hst => ?_))
   refine s_nil (block_n (then_n (cE_region rfl (s_cons (op_add (k := .i64) (a := (i : Int)) (b := 1) ((i : Int) + 1) uw64_12 rfl (xi64 (by omega) (by omega)) (s_cons (op_move (iV ((i : Int) + 1)) rfl (s_nil (then_n ?_)))))))))
   exact ⟨_, ⟨vo, (ys.set ((Int.toNat (idxI (fun (y : Info) => decide (y.From = ((l[i]'(by omega)).From) ∧ y.To = ((l[i]'(by omega)).To))) ys))) (l[i]'(by omega))), (i + 1), rfl, uw64_0, uw64_2, uw64_10, uw64_11, uw64_3, (congrArg iV (show ((i : Int) + 1) = _ from by omega)), (hst.sub (.cons_cons _ (.cons _ .slnil))), (by omega), (by exact best_set (by omega) hI (by omega) (by omega) (fine_yes (by assumption)))⟩, (by simp only [id]; omega)⟩
  have c73 := of_decide_eq_false b65
  refine cE_cond false (uw64_43.trans (congrArg Value.bool b65)) (fun h => by cases h) (fun _ => ?_)
  refine cE_skip (block_n (then_n (cE_region rfl (s_cons (op_add (k := .i64) (a := (i : Int)) (b := 1) ((i : Int) + 1) uw64_12 rfl (xi64 (by omega) (by omega)) (s_cons (op_move (iV ((i : Int) + 1)) rfl (s_nil (then_n ?_)))))))))
  exact ⟨_, ⟨vo, ys, (i + 1), rfl, uw64_0, uw64_2, uw64_10, uw64_11, uw64_3, (congrArg iV (show ((i : Int) + 1) = _ from by omega)), (hst.sub (.cons_cons _ (.cons _ .slnil))), (by omega), (by exact best_old (by omega) hI (by omega) (by omega) (fine_no (by assumption)))⟩, (by simp only [id]; omega)⟩
 have c74 := of_decide_eq_false b5
 refine cE_cond false (congrArg Value.bool b5) (fun h => by cases h) (fun _ => ?_)
 refine cE_exit (then_x (then_x (block_hit (then_n (cE_seq ?_)))))
 have hyA : ys = bestP l := hI.trans (by rw [List.take_of_length_le (by omega)])
 have hyb : ys.length ≤ 12 := by rw [hyA]; exact hbl
 refine cE_region rfl (s_cons (op_move vo q1_3 (s_cons (op_call Try.call65 (evs_cons (v := vo) rfl (evs_cons (v := (.func (.func 66) #[] #[])) rfl evs_nil)) (c_sortF (v_xs := vo) (xs := ys) (hxl := (by omega)) (hst := hst)) ?_))))
 rintro _ w76 ⟨r75, rfl, hcall, sortF_hPq, sortF_hSq⟩
 refine ⟨_, rfl, ?_⟩
 have hst : St w0 w76 [rowT 96 infoE vo r75] := hcall
 refine s_nil (then_n (cE_seq ?_))
 have hql := List.Perm.length_eq (by assumption : List.Perm _ ys)
 refine cE_region rfl (s_cons (op_assign nS rfl (s_nil (then_n (cE_seq (cE_seq (cE_region rfl (s_cons (op_move vo q1_3 (s_cons (op_len (E := infoE) (xs := r75) Try.underlying92 rfl (hst.sl 0 rfl) (s_cons (op_move (iV 0) rfl (s_nil (then_n (cE_block ?_))))))))))))))))
 replace hst := hst.nilRow 3 (intE .i64)
 refine cE_loop (fun (m : Nat) (ρ : Env) (w : World) => ∃ (vu : Value) (j : Nat), m = r75.length - j ∧ ρ 0 = v_l ∧ ρ 2 = nS ∧ ρ 10 = v_l ∧ ρ 11 = (iV (l.length : Int)) ∧ ρ 3 = vo ∧ ρ 12 = (iV (i : Int)) ∧ ρ 51 = vo ∧ ρ 52 = (iV (r75.length : Int)) ∧ ρ 7 = vu ∧ ρ 53 = (iV (j : Int)) ∧ St w0 w [rowT 3 (intE .i64) vu ((r75.take j).map Info.Id), rowT 96 infoE vo r75] ∧ (j ≤ r75.length)) id _ ⟨nS, 0, rfl, q1_0, q1_2, q1_10, q1_11, q1_3, q1_12, rfl, rfl, rfl, (congrArg iV (show 0 = _ from by omega)), (by have h := hst; exact h), (by omega)⟩ ?_
 rintro m78 ρ79 w80 ⟨vu, j, hm78, q77_0, q77_2, q77_10, q77_11, q77_3, q77_12, q77_51, q77_52, q77_7, q77_53, hst, hj⟩
 refine cE_seq (cE_region rfl (s_cons (op_lss (k := .i64) (a := (j : Int)) (b := (r75.length : Int)) q77_53 q77_52 (s_nil (then_n (cE_seq ?_))))))
 rcases Bool.eq_false_or_eq_true (decide ((j : Int) < (r75.length : Int))) with b81 | b81
 ·have c82 := of_decide_eq_true b81
  refine cE_cond true (congrArg Value.bool b81) (fun _ => ?_) (fun h => by cases h)
  refine cE_skip (then_n (cE_seq (cE_block (cE_seq (cE_region rfl (s_cons (op_indexAddrN (E := infoE) (xs := r75) j Try.underlying92 Try.sizeOf96 q77_51 (hst.sl 1 rfl) q77_53 (by omega) (by omega) (fun a83 o84 p85 => ?_))))))))
  refine s_cons (op_loadN (cs := [(iV ((r75[j]'(by omega)).Id)), (iV ((r75[j]'(by omega)).Tier)), (iV ((r75[j]'(by omega)).From)), (iV ((r75[j]'(by omega)).To)), (.int .u32 ((r75[j]'(by omega)).Sum))]) Try.isAgg96 Try.sizeOf96 rfl (Pt.of p85 rfl) rfl ?_)
  refine s_cons (op_alloc (cs := #[(iV 0), (iV 0), (iV 0), (iV 0), (.int .u32 0)]) hst Try.zeroValue96 rfl (fun g86 w87 hst _ => ?_))
  refine s_cons0 (op_storeAll hst 0 rfl Try.sizeOf96 rfl rfl rfl rfl (by simp [Value.oneCell']) (fun w88 hst => ?_))
  refine s_nil (then_n (cE_region rfl (s_cons (op_move vu q77_7 (s_cons (op_fieldAddr (s := 0) Try.underlying96 rfl rfl Try.sizeOf3 rfl (s_cons (op_load1 (u := (iV ((r75[j]'(by omega)).Id))) Try.isAgg3 rfl (hst.cell 0 rfl) (s_cons (op_buildSlice (E := (intE .i64)) [(r75[j]'(by omega)).Id] hst Try.underlying42 Try.sizeOf3 Try.zeroValue3 (evp_cons (v := (iV ((r75[j]'(by omega)).Id))) rfl evp_nil) (parts_cons rfl parts_nil) rfl (by decide) (fun v89 w90 hst => ?_)))))))))))
  refine s_cons (op_append (E := (intE .i64)) (xs := ((r75.take j).map Info.Id)) (ys := [(r75[j]'(by omega)).Id]) (z := (iV 0)) (bytes := 8) hst 2 rfl Try.underlying42 (by kernel_rfl) rfl rfl rfl (hst.sl 0 rfl) (by (simp; omega)) (by (simp; omega)) (fun v91 w92 hst => ?_))
  replace hst : St w0 w92 [rowT 3 (intE .i64) v89 ([(r75[j]'(by omega)).Id]), .blk g86 96 #[(iV ((r75[j]'(by omega)).Id)), (iV ((r75[j]'(by omega)).Tier)), (iV ((r75[j]'(by omega)).From)), (iV ((r75[j]'(by omega)).To)), (.int .u32 ((r75[j]'(by omega)).Sum))], rowT 3 (intE .i64) v91 ((r75.take (j + 1)).map Info.Id), rowT 96 infoE vo r75] := by rw [show (((r75.take j).map Info.Id) ++ ([(r75[j]'(by omega)).Id])) = ((r75.take (j + 1)).map Info.Id) from (ids_snocF (by omega)).symm] at hst; exact hst
  refine s_cons (op_assign v91 rfl (s_nil (block_n (then_n (cE_region rfl (s_cons (op_add (k := .i64) (a := (j : Int)) (b := 1) ((j : Int) + 1) q77_53 rfl (xi64 (by omega) (by omega)) (s_cons (op_move (iV ((j : Int) + 1)) rfl (s_nil (then_n ?_)))))))))))
  exact ⟨_, ⟨v91, (j + 1), rfl, q77_0, q77_2, q77_10, q77_11, q77_3, q77_12, q77_51, q77_52, rfl, (congrArg iV (show ((j : Int) + 1) = _ from by omega)), (hst.sub (.cons _ (.cons _ (.cons_cons _ (.cons_cons _ .slnil))))), (by omega)⟩, (by simp only [id]; omega)⟩
 have c93 := of_decide_eq_false b81
 refine cE_cond false (congrArg Value.bool b81) (fun h => by cases h) (fun _ => ?_)
 refine cE_exit (then_x (then_x (block_hit (then_n (cE_seq (cE_region rfl (s_cons (op_move vu q77_7 (s_cons (op_assign vu rfl (s_nil (then_n (cE_ret (scope_r (post_r _ (res1 (v := vu) rfl) ?_)))))))))))))))
 have e94 : ((r75.take j).map Info.Id) = (pickI l) := by exact pick_all hyA (by assumption) (by assumption) (by omega)
 replace hst : St w0 w80 [rowT 3 (intE .i64) vu (pickI l), rowT 96 infoE vo r75] := by rw [congrArg (fun l => rowT 3 (intE .i64) vu l) e94] at hst; exact hst
 exact ⟨vu, rfl, hst.sub (.cons_cons _ (.cons _ .slnil))⟩

end Go.Proofs.Ytldfnkhccaglmaa
