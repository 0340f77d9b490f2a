/- windows of samples and of windows -/
import Derived.Test.YtgibfidebdgffaaDoorXW5
import Derived.Test.YtgibfidebdgffaaDoorXLB
namespace Go.Proofs.YtgibfidebdgffaaDoor
open Go.RowKit

set_option maxRecDepth 8000 in
theorem c_Raw (w0 : World) (v_l : Value) (l : List Sample) (h_l : Sl w0 sampE v_l l) (k : Int) (hl : ∀ s ∈ l, s.ok) (hn : l.length ≤ 1000000) (k0 : -9223372036854775808 ≤ k) (k1 : k ≤ 9223372036854775807) :
  Calls Tryd.prog 34 #[v_l, (iV k)] w0 fun e w' => ∃ (r : Value), e = .returned (.tuple #[r, (iV ((rawA l k).2))]) ∧ St w0 w' [rowT 45 aggE r ((rawA l k).1)] := by
 refine calls_E (n := 62) (ts := [4, 5]) Tryd.func34 rfl rfl rfl (by simp) ?_
 have hst := St.start w0
 refine cE_seq (cE_region rfl (s_cons (op_assign nS rfl (s_cons (op_assign (iV 0) rfl (s_nil (then_n (cE_scope (cE_seq (cE_seq (cE_region rfl (s_cons (op_move v_l rfl (s_cons (op_call Tryd.call24 (evs_cons (v := v_l) rfl evs_nil) (c_Rising (w0 := w0) (v_l := v_l) (l := l) (h_l := (h_l.below hst.below))) ?_)))))))))))))))
 rintro _ w1 ⟨rfl, hcall⟩
 refine ⟨_, rfl, ?_⟩
 have hst : St w0 w1 [] := hst.call hcall
 refine s_cons (op_not (b := risingA l) rfl (s_cons (op_move (.bool (!(risingA l))) rfl ?_)))
 rcases Bool.eq_false_or_eq_true (risingA l) with b2 | b2
 ·have hri := b2
  refine s_yes 14 rfl (congrArg Value.bool (congrArg (! ·) b2)) (op_move (iV k) rfl (s_yes 14 rfl (congrArg Value.bool (congrArg (! ·) b2)) (op_call Tryd.call44 (evs_cons (v := (iV k)) rfl evs_nil) (c_coarse (w0 := w1) (k := k)) ?_)))
  rintro _ w3 ⟨rfl, hcall⟩
  refine ⟨_, rfl, ?_⟩
  have hst : St w0 w3 [] := hst.call hcall
  refine s_yes 14 rfl (congrArg Value.bool (congrArg (! ·) b2)) (op_not (b := coarseA k) rfl (s_cons (op_pick_f (.bool (!(coarseA k))) (congrArg Value.bool (congrArg (! ·) b2)) rfl (s_nil (then_n ?_)))))
  rcases Bool.eq_false_or_eq_true (coarseA k) with b4 | b4
  ·have hco := b4
   refine cE_cond false (congrArg Value.bool (congrArg (! ·) b4)) (fun h => by cases h) (fun _ => ?_)
   refine cE_skip (then_n (cE_seq (cE_region rfl (s_cons (op_assign nS rfl (s_nil (then_n (cE_seq (cE_label (then_n (cE_seq (cE_block ?_))))))))))))
   replace hst : St w0 w3 [rowT 45 aggE nS ([])] := hst.nilRow 45 aggE
   refine cE_loop (fun (m : Nat) (ρ : Env) (w : World) => ∃ (v0 : Value) (rem : List Sample) (vo : Value) (out : List Agg) (f : Nat), m = rem.length ∧ ρ 1 = (iV k) ∧ ρ 0 = v0 ∧ ρ 6 = vo ∧ St w0 w [rowT 45 aggE vo out] ∧ (Sl w0 sampE v0 rem) ∧ (∀ s ∈ rem, s.ok) ∧ (rem.length ≤ f) ∧ (out.length + rem.length ≤ l.length) ∧ (rawA l k = rawL k f rem out)) id _ ⟨v_l, l, nS, [], l.length, rfl, rfl, rfl, rfl, hst, (by assumption), (by first | exact hl | exact fun s h => hok s (List.mem_of_mem_drop h)), (by first | omega | (simp only [List.length_drop, List.length_append, List.length_cons, List.length_nil]; omega)), (by first | omega | (simp only [List.length_drop, List.length_append, List.length_cons, List.length_nil]; omega)), (by first | exact hI.trans (raw_go (by omega) hf hw (by assumption)) | (unfold rawA; rw [if_pos ⟨hri, hco⟩]))⟩ ?_
   rintro m6 ρ7 w8 ⟨v0, rem, vo, out, f, hm6, q5_1, q5_0, q5_6, hst, hr, hok, hf, hout, hI⟩
   refine cE_seq (cE_seq (cE_region rfl (s_cons (op_move v0 q5_0 (s_cons (op_len (E := sampE) (xs := rem) Tryd.underlying23 rfl hr (s_cons (op_gtr (k := .i64) (a := (rem.length : Int)) (b := 0) rfl rfl (s_nil (then_n ?_))))))))))
   rcases Bool.eq_false_or_eq_true (decide (0 < (rem.length : Int))) with b9 | b9
   ·have c10 : 0 < (rem.length : Int) := of_decide_eq_true b9
    refine cE_cond true (congrArg Value.bool b9) (fun _ => ?_) (fun h => by cases h)
    refine cE_skip (then_n (cE_block (cE_scope (cE_seq (cE_region rfl (s_cons (op_move v0 q5_0 (s_cons (op_indexAddrN (E := sampE) (xs := rem) 0 Tryd.underlying23 Tryd.sizeOf28 rfl hr rfl (by omega) (by omega) (fun a11 o12 p13 => ?_))))))))))
    refine s_cons (op_fieldAddr (s := 0) Tryd.underlying28 rfl rfl Tryd.sizeOf2 rfl (s_cons (op_load1 (u := (iV ((rem[0]'(by omega)).T))) Tryd.isAgg2 rfl (p13.below hst.below) (s_cons (op_move (iV k) q5_1 (s_cons (op_call Tryd.call26 (evs_cons (v := (iV ((rem[0]'(by omega)).T))) rfl (evs_cons (v := (iV k)) rfl evs_nil)) (c_Floor (w0 := w8) (t := (rem[0]'(by omega)).T) (k := k) (t0 := (hok _ (List.getElem_mem _)).1.1) (k0 := (by omega)) (t1 := (hok _ (List.getElem_mem _)).1.2) (k1 := (by omega))) ?_)))))))
    rintro _ w14 ⟨rfl, hcall⟩
    refine ⟨_, rfl, ?_⟩
    have hst : St w0 w14 [rowT 45 aggE vo out] := hst.call hcall
    refine s_cons (op_assign (iV (floorA ((rem[0]'(by omega)).T) k)) rfl (s_cons (op_assign (iV 0) rfl (s_nil (then_n (cE_seq (cE_label (then_n (cE_seq (cE_block (cE_loop (fun (m : Nat) (ρ : Env) (w : World) => ∃ (n : Nat), m = rem.length - n ∧ ρ 1 = (iV k) ∧ ρ 0 = v0 ∧ ρ 6 = vo ∧ ρ 7 = (iV (floorA ((rem[0]'(by omega)).T) k)) ∧ ρ 8 = (iV (n : Int)) ∧ St w0 w [rowT 45 aggE vo out] ∧ (n ≤ rem.length) ∧ (winLen k (floorA ((rem[0]'(by omega)).T) k) rem = n + winLen k (floorA ((rem[0]'(by omega)).T) k) (rem.drop n))) id _ ⟨0, rfl, q5_1, q5_0, q5_6, rfl, (congrArg iV (show 0 = _ from by omega)), hst, (by omega), (by first | (rw [Nat.zero_add]; rfl) | exact hw0.trans (by rw [win_go (by omega) (by assumption)]; omega))⟩ ?_)))))))))))
    rintro m16 ρ17 w18 ⟨n, hm16, q15_1, q15_0, q15_6, q15_7, q15_8, hst, hnr, hw0⟩
    have hel := fun (s : Sample) (h : s ∈ rem) => (hok s h).1
    refine cE_seq (cE_seq (cE_region rfl (s_cons (op_move (iV (n : Int)) q15_8 (s_cons (op_move v0 q15_0 (s_cons (op_len (E := sampE) (xs := rem) Tryd.underlying23 rfl hr (s_cons (op_lss (k := .i64) (a := (n : Int)) (b := (rem.length : Int)) rfl rfl (s_nil (then_n ?_))))))))))))
    rcases Bool.eq_false_or_eq_true (decide ((n : Int) < (rem.length : Int))) with b19 | b19
    ·have c20 : (n : Int) < (rem.length : Int) := of_decide_eq_true b19
     refine cE_cond true (congrArg Value.bool b19) (fun _ => ?_) (fun h => by cases h)
     refine cE_skip (then_n (cE_block (cE_seq (cE_seq (cE_region rfl (s_cons (op_move v0 q15_0 (s_cons (op_move (iV (n : Int)) q15_8 (s_cons (op_indexAddrN (E := sampE) (xs := rem) n Tryd.underlying23 Tryd.sizeOf28 rfl hr rfl (by omega) (by omega) (fun a21 o22 p23 => ?_))))))))))))
     refine s_cons (op_fieldAddr (s := 0) Tryd.underlying28 rfl rfl Tryd.sizeOf2 rfl (s_cons (op_load1 (u := (iV ((rem[n]'(by omega)).T))) Tryd.isAgg2 rfl (p23.below hst.below) (s_cons (op_move (iV k) q15_1 (s_cons (op_call Tryd.call26 (evs_cons (v := (iV ((rem[n]'(by omega)).T))) rfl (evs_cons (v := (iV k)) rfl evs_nil)) (c_Floor (w0 := w18) (t := (rem[n]'(by omega)).T) (k := k) (t0 := (hok _ (List.getElem_mem _)).1.1) (k0 := (by omega)) (t1 := (hok _ (List.getElem_mem _)).1.2) (k1 := (by omega))) ?_)))))))
     rintro _ w24 ⟨rfl, hcall⟩
     refine ⟨_, rfl, ?_⟩
     have hst : St w0 w24 [rowT 45 aggE vo out] := hst.call hcall
     refine s_cons (op_move (iV (floorA ((rem[0]'(by omega)).T) k)) q15_7 (s_cons (op_neq (k := .i64) (a := (floorA ((rem[n]'(by omega)).T) k)) (b := (floorA ((rem[0]'(by omega)).T) k)) rfl rfl (s_nil (then_n ?_)))))
     rcases Bool.eq_false_or_eq_true (decide ((floorA ((rem[n]'(by omega)).T) k) = (floorA ((rem[0]'(by omega)).T) k))) with b25 | b25
     ·have c26 : (floorA ((rem[n]'(by omega)).T) k) = (floorA ((rem[0]'(by omega)).T) k) := of_decide_eq_true b25
      refine cE_cond false (congrArg Value.bool (congrArg (! ·) b25)) (fun h => by cases h) (fun _ => ?_)
      refine cE_skip (then_n (cE_region rfl (s_cons (op_move (iV (n : Int)) q15_8 (s_cons (op_add (k := .i64) (a := (n : Int)) (b := 1) ((n : Int) + 1) rfl rfl (xi64 (by omega) (by omega)) (s_cons (op_assign (iV ((n : Int) + 1)) rfl (s_nil (block_n (then_n ?_)))))))))))
      exact ⟨_, ⟨(n + 1), rfl, q15_1, q15_0, q15_6, q15_7, (congrArg iV (show ((n : Int) + 1) = _ from by omega)), hst, (by omega), (by first | (rw [Nat.zero_add]; rfl) | exact hw0.trans (by rw [win_go (by omega) (by assumption)]; omega))⟩, (by simp only [id]; omega)⟩
     have c27 : ¬ ((floorA ((rem[n]'(by omega)).T) k) = (floorA ((rem[0]'(by omega)).T) k)) := of_decide_eq_false b25
     refine cE_cond true (congrArg Value.bool (congrArg (! ·) b25)) (fun _ => ?_) (fun h => by cases h)
     refine cE_exit (then_x (block_miss (by decide) (then_x (block_hit (then_n (cE_seq ?_))))))
     have hw : winLen k (floorA ((rem[0]'(by omega)).T) k) rem = n := hw0.trans (by first | rw [win_end (by omega), Nat.add_zero] | rw [win_no (by omega) (by assumption), Nat.add_zero])
     have hnp := win_pos (k := k) (l := rem) (by omega)
     rw [hw] at hnp
     refine cE_region rfl (s_cons (op_move v0 q15_0 (s_cons (op_move (iV (n : Int)) q15_8 (s_cons (op_slice_toN n (E := sampE) (xs := rem) Tryd.underlying23 Tryd.sizeOf28 rfl hr rfl (by omega) (by omega) (fun v28 hs29 => ?_)))))))
     refine s_cons (op_move (iV (floorA ((rem[0]'(by omega)).T) k)) q15_7 (s_cons (op_call Tryd.call49 (evs_cons (v := v28) rfl (evs_cons (v := (iV (floorA ((rem[0]'(by omega)).T) k))) rfl evs_nil)) (c_All (w0 := w24) (v_l := v28) (l := (rem.take n)) (h_l := (hs29.below hst.below)) (fr := (floorA ((rem[0]'(by omega)).T) k)) (hl := (fun s h => hok s (List.mem_of_mem_take h))) (fr0 := (by have := floorA_r ((rem[0]'(by omega)).T) k; omega)) (fr1 := (by have := floorA_r ((rem[0]'(by omega)).T) k; omega)) (hn := (by simp only [List.length_take]; omega))) ?_)))
     rintro _ w30 ⟨rfl, hcall⟩
     refine ⟨_, rfl, ?_⟩
     have hst : St w0 w30 [rowT 45 aggE vo out] := hst.call hcall
     refine s_cons (op_move (.tuple #[(.agg (aggA ((allA (rem.take n) (floorA ((rem[0]'(by omega)).T) k)).1))), (iV ((allA (rem.take n) (floorA ((rem[0]'(by omega)).T) k)).2))]) rfl (s_cons (op_extract (.agg (aggA ((allA (rem.take n) (floorA ((rem[0]'(by omega)).T) k)).1))) rfl rfl (s_cons (op_extract (iV ((allA (rem.take n) (floorA ((rem[0]'(by omega)).T) k)).2)) rfl rfl (s_cons (op_alloc (cs := #[(iV 0), (iV 0), (iV 0), (iV 0), (iV 0), (iV 0), (iV 0)]) hst Tryd.zeroValue45 rfl (fun g31 w32 hst _ => ?_))))))))
     replace hst : St w0 w32 [.blk g31 45 #[(iV 0), (iV 0), (iV 0), (iV 0), (iV 0), (iV 0), (iV 0)], rowT 45 aggE vo out] := hst
     refine s_cons0 (op_storeAll hst 0 rfl Tryd.sizeOf45 rfl rfl rfl rfl (by simp [Value.oneCell']) (fun w33 hst => ?_))
     replace hst : St w0 w33 [.blk g31 45 (aggA ((allA (rem.take n) (floorA ((rem[0]'(by omega)).T) k)).1)), rowT 45 aggE vo out] := hst
     refine s_cons (op_assign (iV ((allA (rem.take n) (floorA ((rem[0]'(by omega)).T) k)).2)) rfl (s_nil (then_n (cE_seq (cE_seq (cE_region rfl (s_cons (op_move (iV ((allA (rem.take n) (floorA ((rem[0]'(by omega)).T) k)).2)) rfl (s_cons (op_neq (k := .i64) (a := (allA (rem.take n) (floorA ((rem[0]'(by omega)).T) k)).2) (b := 0) rfl rfl (s_nil (then_n ?_))))))))))))
     rcases Bool.eq_false_or_eq_true (decide (((allA (rem.take n) (floorA ((rem[0]'(by omega)).T) k)).2) = 0)) with b34 | b34
     ·have c35 : ((allA (rem.take n) (floorA ((rem[0]'(by omega)).T) k)).2) = 0 := of_decide_eq_true b34
      refine cE_cond false (congrArg Value.bool (congrArg (! ·) b34)) (fun h => by cases h) (fun _ => ?_)
      refine cE_skip (then_n (cE_seq ?_))
      have hM42 : stabML [3] [(kEq vo), (kEq (.agg (aggA ((allA (rem.take n) (floorA ((rem[0]'(by omega)).T) k)).1)))), (kSlU [3] aggE ([((allA (rem.take n) (floorA ((rem[0]'(by omega)).T) k)).1)])), (kSt w0 (fun v38 => [.blk g31 45 (aggA ((allA (rem.take n) (floorA ((rem[0]'(by omega)).T) k)).1)), rowT 45 aggE v38 (out ++ ([((allA (rem.take n) (floorA ((rem[0]'(by omega)).T) k)).1)]))])), (kEq v0), (kEq (iV (n : Int))), (kSl0 w0 sampE (rem.drop n)), (kSt w0 (fun v38 => [.blk g31 45 (aggA ((allA (rem.take n) (floorA ((rem[0]'(by omega)).T) k)).1)), rowT 45 aggE v38 (out ++ ([((allA (rem.take n) (floorA ((rem[0]'(by omega)).T) k)).1)]))])), (kSl0 w0 sampE (rem.drop n))] := ⟨mEq, mEq, mSlU, mSt, mEq, mEq, mSl0, mSt, mSl0, trivial⟩
      refine cE_regionK (fun (D : Nat → Bool) (w : World) => St w0 w [.blk g31 45 (aggA ((allA (rem.take n) (floorA ((rem[0]'(by omega)).T) k)).1))] ∧ (D 3 = false → St w0 w [.blk g31 45 (aggA ((allA (rem.take n) (floorA ((rem[0]'(by omega)).T) k)).1)), rowT 45 aggE vo out])) [[(6, none)], [(9, none)], [(55, some 1)], [(54, some 0), (56, some 2)], [(0, none)], [(8, none)], [(58, some 4), (59, some 5)], [(57, some 3)], [(60, some 6)]] (RofK [(kEq vo), (kEq (.agg (aggA ((allA (rem.take n) (floorA ((rem[0]'(by omega)).T) k)).1)))), (kSlU [3] aggE ([((allA (rem.take n) (floorA ((rem[0]'(by omega)).T) k)).1)])), (kSt w0 (fun v38 => [.blk g31 45 (aggA ((allA (rem.take n) (floorA ((rem[0]'(by omega)).T) k)).1)), rowT 45 aggE v38 (out ++ ([((allA (rem.take n) (floorA ((rem[0]'(by omega)).T) k)).1)]))])), (kEq v0), (kEq (iV (n : Int))), (kSl0 w0 sampE (rem.drop n)), (kSt w0 (fun v38 => [.blk g31 45 (aggA ((allA (rem.take n) (floorA ((rem[0]'(by omega)).T) k)).1)), rowT 45 aggE v38 (out ++ ([((allA (rem.take n) (floorA ((rem[0]'(by omega)).T) k)).1)]))])), (kSl0 w0 sampE (rem.drop n))]) (by kernel_rfl) rfl (by kernel_rfl) ⟨hst.drewW.sub (.cons_cons _ (.cons _ .slnil)), (fun _ => hst.drewW)⟩ ⟨?_, ?_, ?_, ?_, ?_, ?_, ?_, ?_, ?_, trivial⟩ ?_
      ·rintro D43 ρ44 w45 hD46 hE47 hC48 hJ49 - ⟨f6, _⟩
       have hst := hJ49.2 (not_yet hD46 (fun hm => (hC48 3 0 hm (by kernel_rfl))))
       exact go_plain (op_move vo (f6.trans q15_6) (kN0 (i := 0) hM42 (by decide) (by exact hJ49) (by exact rfl)))
      ·rintro D50 ρ51 w52 hD53 hE54 hC55 hJ56 - ⟨f9, _⟩
       have hst := hJ56.2 (not_yet hD53 (fun hm => (hC55 2 1 (hC55 3 2 hm (by kernel_rfl)) (by kernel_rfl))))
       exact go_plain (op_loadN (cs := (aggC ((allA (rem.take n) (floorA ((rem[0]'(by omega)).T) k)).1))) Tryd.isAgg45 Tryd.sizeOf45 (f9.trans rfl) (Pt.of (hst.cell 0 rfl) rfl) rfl (kN0 (i := 1) hM42 (by decide) (by exact hJ56) (by exact rfl)))
      ·rintro D57 ρ58 w59 hD60 hE61 hC62 hJ63 - ⟨f55, _⟩
       have hst := hJ63.2 (not_yet hD60 (fun hm => (hC62 3 2 hm (by kernel_rfl))))
       have hst := St.start w59
       refine go_plain (op_buildSlice (E := aggE) [((allA (rem.take n) (floorA ((rem[0]'(by omega)).T) k)).1)] hst Tryd.underlying24 Tryd.sizeOf45 Tryd.zeroValue45 (evp_cons (v := (.agg (aggA ((allA (rem.take n) (floorA ((rem[0]'(by omega)).T) k)).1)))) f55 evp_nil) (parts_cons rfl parts_nil) rfl (by decide) (fun v64 w65 hst => ?_))
       exact kN (i := 2) hM42 (by decide) hst.below (by exact ⟨hJ63.1.ext hst.below, (fun x0 => (hJ63.2 x0).ext hst.below)⟩) (by exact fun _ => hst.sl 0 rfl)
      ·rintro D66 ρ67 w68 hD69 hE70 hC71 hJ72 - ⟨f54, f56, _⟩
       have hst := hJ72.2 hD69
       have hs73 := f56 (by intro m hm; obtain rfl := List.mem_singleton.1 hm; exact hD69)
       have hI76 : stabIL 3 D66 0 [(kEq vo), (kEq (.agg (aggA ((allA (rem.take n) (floorA ((rem[0]'(by omega)).T) k)).1)))), (kSlU [3] aggE ([((allA (rem.take n) (floorA ((rem[0]'(by omega)).T) k)).1)])), (kSt w0 (fun v38 => [.blk g31 45 (aggA ((allA (rem.take n) (floorA ((rem[0]'(by omega)).T) k)).1)), rowT 45 aggE v38 (out ++ ([((allA (rem.take n) (floorA ((rem[0]'(by omega)).T) k)).1)]))])), (kEq v0), (kEq (iV (n : Int))), (kSl0 w0 sampE (rem.drop n)), (kSt w0 (fun v38 => [.blk g31 45 (aggA ((allA (rem.take n) (floorA ((rem[0]'(by omega)).T) k)).1)), rowT 45 aggE v38 (out ++ ([((allA (rem.take n) (floorA ((rem[0]'(by omega)).T) k)).1)]))])), (kSl0 w0 sampE (rem.drop n))] := ⟨Or.inr (Or.inr iEq), Or.inr (Or.inr iEq), Or.inr (Or.inr (iSlU (by decide))), Or.inl rfl, Or.inr (Or.inr iEq), Or.inr (Or.inr iEq), Or.inr (Or.inr iSl0), Or.inr (Or.inl (not_yet hD69 (fun hm => (hC71 7 3 hm (by kernel_rfl))))), Or.inr (Or.inr iSl0), trivial⟩
       refine go_plain (op_append (E := aggE) (xs := out) (ys := [((allA (rem.take n) (floorA ((rem[0]'(by omega)).T) k)).1)]) (z := (.agg #[(iV 0), (iV 0), (iV 0), (iV 0), (iV 0), (iV 0), (iV 0)])) (bytes := 56) hst 1 rfl Tryd.underlying24 (by kernel_rfl) rfl f54 rfl hs73 (by first | omega | (simp; omega) | (simp; done)) (by first | omega | (simp; omega) | (simp; done)) (fun v74 w75 hst => ?_))
       replace hst : St w0 w75 [.blk g31 45 (aggA ((allA (rem.take n) (floorA ((rem[0]'(by omega)).T) k)).1)), rowT 45 aggE v74 (out ++ ([((allA (rem.take n) (floorA ((rem[0]'(by omega)).T) k)).1)]))] := hst
       exact kI (i := 3) hI76 (by exact ⟨hst.sub (.cons_cons _ (.cons _ .slnil)), (fun h => absurd h (fun h => Bool.noConfusion h))⟩) (by exact hst)
      ·rintro D77 ρ78 w79 hD80 hE81 hC82 hJ83 - ⟨f0, _⟩
       have hst := hJ83.1
       exact go_plain (op_move v0 (f0.trans q15_0) (kN0 (i := 4) hM42 (by decide) (by exact hJ83) (by exact rfl)))
      ·rintro D84 ρ85 w86 hD87 hE88 hC89 hJ90 - ⟨f8, _⟩
       have hst := hJ90.1
       exact go_plain (op_move (iV (n : Int)) (f8.trans q15_8) (kN0 (i := 5) hM42 (by decide) (by exact hJ90) (by exact rfl)))
      ·rintro D91 ρ92 w93 hD94 hE95 hC96 hJ97 - ⟨f58, f59, _⟩
       have hst := hJ97.1
       refine go_plain (op_slice_fromN n (E := sampE) (xs := rem) Tryd.underlying23 Tryd.sizeOf28 f58 hr f59 (by omega) (by omega) (fun v98 hs99 => ?_))
       exact (kN0 (i := 6) hM42 (by decide) (by exact hJ97) (by exact hs99))
      ·rintro D100 ρ101 w102 hD103 hE104 hC105 hJ106 - ⟨f57, _⟩
       have hst := hJ106.1
       obtain ⟨v107, e108⟩ : ∃ x, ρ101 57 = x := ⟨_, rfl⟩
       have hn109 := f57
       rw [e108] at hn109
       exact go_plain (op_assign v107 e108 (kN0 (i := 7) hM42 (by decide) (by exact hJ106) (by exact hn109)))
      ·rintro D110 ρ111 w112 hD113 hE114 hC115 hJ116 - ⟨f60, _⟩
       have hst := hJ116.1
       have hs117 := f60
       exact go_plain (op_assign _ rfl (kN0 (i := 8) hM42 (by decide) (by exact hJ116) (by exact hs117)))
      intro ρ118 w119 Dw119 hallw119 hJw119 hRw119 hkw119
      obtain ⟨v38, uw119_6⟩ : ∃ x, ρ118 6 = x := ⟨_, rfl⟩
      have hst : St w0 w119 [.blk g31 45 (aggA ((allA (rem.take n) (floorA ((rem[0]'(by omega)).T) k)).1)), rowT 45 aggE v38 (out ++ ([((allA (rem.take n) (floorA ((rem[0]'(by omega)).T) k)).1)]))] := by have h := hRw119 7 6 rfl; rw [uw119_6] at h; exact h
      have uw119_1 : ρ118 1 = (iV k) := (hkw119 1 rfl).trans q15_1
      have uw119_7 : ρ118 7 = (iV (floorA ((rem[0]'(by omega)).T) k)) := (hkw119 7 rfl).trans q15_7
      have uw119_8 : ρ118 8 = (iV (n : Int)) := (hkw119 8 rfl).trans q15_8
      have uw119_28 : ρ118 28 = (iV (n : Int)) := (hkw119 28 rfl).trans rfl
      have uw119_29 : ρ118 29 = v0 := (hkw119 29 rfl).trans rfl
      have uw119_30 : ρ118 30 = (iV (rem.length : Int)) := (hkw119 30 rfl).trans rfl
      have uw119_31 : ρ118 31 = (.bool (decide ((n : Int) < (rem.length : Int)))) := (hkw119 31 rfl).trans rfl
      have uw119_32 : ρ118 32 = v0 := (hkw119 32 rfl).trans rfl
      have uw119_33 : ρ118 33 = (iV (n : Int)) := (hkw119 33 rfl).trans rfl
      have uw119_34 : ρ118 34 = (.pointer (some ⟨a21, o22, none⟩)) := (hkw119 34 rfl).trans rfl
      have uw119_35 : ρ118 35 = (.pointer (some ⟨a21, (o22 + 0), none⟩)) := (hkw119 35 rfl).trans rfl
      have uw119_36 : ρ118 36 = (iV ((rem[n]'(by omega)).T)) := (hkw119 36 rfl).trans rfl
      have uw119_37 : ρ118 37 = (iV k) := (hkw119 37 rfl).trans rfl
      have uw119_38 : ρ118 38 = (iV (floorA ((rem[n]'(by omega)).T) k)) := (hkw119 38 rfl).trans rfl
      have uw119_39 : ρ118 39 = (iV (floorA ((rem[0]'(by omega)).T) k)) := (hkw119 39 rfl).trans rfl
      have uw119_40 : ρ118 40 = (.bool (!decide ((floorA ((rem[n]'(by omega)).T) k) = (floorA ((rem[0]'(by omega)).T) k)))) := (hkw119 40 rfl).trans rfl
      have uw119_44 : ρ118 44 = v0 := (hkw119 44 rfl).trans rfl
      have uw119_45 : ρ118 45 = (iV (n : Int)) := (hkw119 45 rfl).trans rfl
      have uw119_46 : ρ118 46 = v28 := (hkw119 46 rfl).trans rfl
      have uw119_47 : ρ118 47 = (iV (floorA ((rem[0]'(by omega)).T) k)) := (hkw119 47 rfl).trans rfl
      have uw119_48 : ρ118 48 = (.tuple #[(.agg (aggA ((allA (rem.take n) (floorA ((rem[0]'(by omega)).T) k)).1))), (iV ((allA (rem.take n) (floorA ((rem[0]'(by omega)).T) k)).2))]) := (hkw119 48 rfl).trans rfl
      have uw119_43 : ρ118 43 = (.tuple #[(.agg (aggA ((allA (rem.take n) (floorA ((rem[0]'(by omega)).T) k)).1))), (iV ((allA (rem.take n) (floorA ((rem[0]'(by omega)).T) k)).2))]) := (hkw119 43 rfl).trans rfl
      have uw119_49 : ρ118 49 = (.agg (aggA ((allA (rem.take n) (floorA ((rem[0]'(by omega)).T) k)).1))) := (hkw119 49 rfl).trans rfl
      have uw119_50 : ρ118 50 = (iV ((allA (rem.take n) (floorA ((rem[0]'(by omega)).T) k)).2)) := (hkw119 50 rfl).trans rfl
      have uw119_9 : ρ118 9 = (.pointer (some ⟨g31, 0, none⟩)) := (hkw119 9 rfl).trans rfl
      have uw119_10 : ρ118 10 = (iV ((allA (rem.take n) (floorA ((rem[0]'(by omega)).T) k)).2)) := (hkw119 10 rfl).trans rfl
      have uw119_51 : ρ118 51 = (iV ((allA (rem.take n) (floorA ((rem[0]'(by omega)).T) k)).2)) := (hkw119 51 rfl).trans rfl
      have uw119_52 : ρ118 52 = (.bool (!decide (((allA (rem.take n) (floorA ((rem[0]'(by omega)).T) k)).2) = 0))) := (hkw119 52 rfl).trans rfl
      obtain ⟨v120, uw119_0⟩ : ∃ x, ρ118 0 = x := ⟨_, rfl⟩
      have hs121 : Sl w0 sampE v120 (rem.drop n) := uw119_0 ▸ hRw119 8 0 rfl
      refine then_n (cE_exit (scope_x (block_hit (then_n ?_))))
      exact ⟨_, ⟨v120, (rem.drop n), v38, (out ++ ([((allA (rem.take n) (floorA ((rem[0]'(by omega)).T) k)).1)])), (f - 1), rfl, uw119_1, uw119_0, uw119_6, (hst.sub (.cons _ (.cons_cons _ .slnil))), (by assumption), (by first | exact hl | exact fun s h => hok s (List.mem_of_mem_drop h)), (by first | omega | (simp only [List.length_drop, List.length_append, List.length_cons, List.length_nil]; omega)), (by first | omega | (simp only [List.length_drop, List.length_append, List.length_cons, List.length_nil]; omega)), (by first | exact hI.trans (raw_go (by omega) hf hw (by assumption)) | (unfold rawA; rw [if_pos ⟨hri, hco⟩]))⟩, (by simp only [id, List.length_drop]; omega)⟩
     have c122 : ¬ (((allA (rem.take n) (floorA ((rem[0]'(by omega)).T) k)).2) = 0) := of_decide_eq_false b34
     refine cE_cond true (congrArg Value.bool (congrArg (! ·) b34)) (fun _ => ?_) (fun h => by cases h)
     refine cE_seq (cE_region rfl (s_cons (op_move (iV ((allA (rem.take n) (floorA ((rem[0]'(by omega)).T) k)).2)) rfl (s_cons (op_assign nS rfl (s_cons (op_assign (iV ((allA (rem.take n) (floorA ((rem[0]'(by omega)).T) k)).2)) rfl (s_nil (then_n (cE_ret (then_r (scope_r (block_r (then_r (block_r (then_r (scope_r (post_r _ (res2 (v := nS) rfl (x := (iV ((allA (rem.take n) (floorA ((rem[0]'(by omega)).T) k)).2))) rfl) ?_))))))))))))))))))
     replace hst : St w0 w33 [rowT 45 aggE nS ([]), .blk g31 45 (aggA ((allA (rem.take n) (floorA ((rem[0]'(by omega)).T) k)).1)), rowT 45 aggE vo out] := hst.nilRow 45 aggE
     have e123 : [] = (rawA l k).1 := by first | exact (congrArg Prod.fst (raw_none (Or.inl (by assumption)))).symm | exact (congrArg Prod.snd (raw_none (Or.inl (by assumption)))).symm | exact (congrArg Prod.fst (raw_none (Or.inr (by assumption)))).symm | exact (congrArg Prod.snd (raw_none (Or.inr (by assumption)))).symm | exact (congrArg Prod.fst (hI.trans (raw_stop (by omega) hf hw (by assumption)))).symm | exact (congrArg Prod.snd (hI.trans (raw_stop (by omega) hf hw (by assumption)))).symm | exact (congrArg Prod.fst (hI.trans (raw_end (by omega)))).symm | exact (congrArg Prod.snd (hI.trans (raw_end (by omega)))).symm
     replace hst : St w0 w33 [rowT 45 aggE nS ((rawA l k).1), .blk g31 45 (aggA ((allA (rem.take n) (floorA ((rem[0]'(by omega)).T) k)).1)), rowT 45 aggE vo out] := by rw [congrArg (fun l => rowT 45 aggE nS l) e123] at hst; exact hst
     exact ⟨nS, (retv2 rfl (congrArg iV (show (allA (rem.take n) (floorA ((rem[0]'(by omega)).T) k)).2 = (rawA l k).2 from by first | exact (congrArg Prod.fst (raw_none (Or.inl (by assumption)))).symm | exact (congrArg Prod.snd (raw_none (Or.inl (by assumption)))).symm | exact (congrArg Prod.fst (raw_none (Or.inr (by assumption)))).symm | exact (congrArg Prod.snd (raw_none (Or.inr (by assumption)))).symm | exact (congrArg Prod.fst (hI.trans (raw_stop (by omega) hf hw (by assumption)))).symm | exact (congrArg Prod.snd (hI.trans (raw_stop (by omega) hf hw (by assumption)))).symm | exact (congrArg Prod.fst (hI.trans (raw_end (by omega)))).symm | exact (congrArg Prod.snd (hI.trans (raw_end (by omega)))).symm))), hst.sub (.cons_cons _ (.cons _ (.cons _ .slnil)))⟩
    have c124 : ¬ ((n : Int) < (rem.length : Int)) := of_decide_eq_false b19
    refine cE_cond false (congrArg Value.bool b19) (fun h => by cases h) (fun _ => ?_)
    refine cE_exit (then_x (then_x (block_hit (then_n (cE_seq ?_)))))
    have hw : winLen k (floorA ((rem[0]'(by omega)).T) k) rem = n := hw0.trans (by first | rw [win_end (by omega), Nat.add_zero] | rw [win_no (by omega) (by assumption), Nat.add_zero])
    have hnp := win_pos (k := k) (l := rem) (by omega)
    rw [hw] at hnp
    refine cE_region rfl (s_cons (op_move v0 q15_0 (s_cons (op_move (iV (n : Int)) q15_8 (s_cons (op_slice_toN n (E := sampE) (xs := rem) Tryd.underlying23 Tryd.sizeOf28 rfl hr rfl (by omega) (by omega) (fun v125 hs126 => ?_)))))))
    refine s_cons (op_move (iV (floorA ((rem[0]'(by omega)).T) k)) q15_7 (s_cons (op_call Tryd.call49 (evs_cons (v := v125) rfl (evs_cons (v := (iV (floorA ((rem[0]'(by omega)).T) k))) rfl evs_nil)) (c_All (w0 := w18) (v_l := v125) (l := (rem.take n)) (h_l := (hs126.below hst.below)) (fr := (floorA ((rem[0]'(by omega)).T) k)) (hl := (fun s h => hok s (List.mem_of_mem_take h))) (fr0 := (by have := floorA_r ((rem[0]'(by omega)).T) k; omega)) (fr1 := (by have := floorA_r ((rem[0]'(by omega)).T) k; omega)) (hn := (by simp only [List.length_take]; omega))) ?_)))
    rintro _ w127 ⟨rfl, hcall⟩
    refine ⟨_, rfl, ?_⟩
    have hst : St w0 w127 [rowT 45 aggE vo out] := hst.call hcall
    refine s_cons (op_move (.tuple #[(.agg (aggA ((allA (rem.take n) (floorA ((rem[0]'(by omega)).T) k)).1))), (iV ((allA (rem.take n) (floorA ((rem[0]'(by omega)).T) k)).2))]) rfl (s_cons (op_extract (.agg (aggA ((allA (rem.take n) (floorA ((rem[0]'(by omega)).T) k)).1))) rfl rfl (s_cons (op_extract (iV ((allA (rem.take n) (floorA ((rem[0]'(by omega)).T) k)).2)) rfl rfl (s_cons (op_alloc (cs := #[(iV 0), (iV 0), (iV 0), (iV 0), (iV 0), (iV 0), (iV 0)]) hst Tryd.zeroValue45 rfl (fun g128 w129 hst _ => ?_))))))))
    replace hst : St w0 w129 [.blk g128 45 #[(iV 0), (iV 0), (iV 0), (iV 0), (iV 0), (iV 0), (iV 0)], rowT 45 aggE vo out] := hst
    refine s_cons0 (op_storeAll hst 0 rfl Tryd.sizeOf45 rfl rfl rfl rfl (by simp [Value.oneCell']) (fun w130 hst => ?_))
    replace hst : St w0 w130 [.blk g128 45 (aggA ((allA (rem.take n) (floorA ((rem[0]'(by omega)).T) k)).1)), rowT 45 aggE vo out] := hst
    refine s_cons (op_assign (iV ((allA (rem.take n) (floorA ((rem[0]'(by omega)).T) k)).2)) rfl (s_nil (then_n (cE_seq (cE_seq (cE_region rfl (s_cons (op_move (iV ((allA (rem.take n) (floorA ((rem[0]'(by omega)).T) k)).2)) rfl (s_cons (op_neq (k := .i64) (a := (allA (rem.take n) (floorA ((rem[0]'(by omega)).T) k)).2) (b := 0) rfl rfl (s_nil (then_n ?_))))))))))))
    rcases Bool.eq_false_or_eq_true (decide (((allA (rem.take n) (floorA ((rem[0]'(by omega)).T) k)).2) = 0)) with b131 | b131
    ·have c132 : ((allA (rem.take n) (floorA ((rem[0]'(by omega)).T) k)).2) = 0 := of_decide_eq_true b131
     refine cE_cond false (congrArg Value.bool (congrArg (! ·) b131)) (fun h => by cases h) (fun _ => ?_)
     refine cE_skip (then_n (cE_seq ?_))
     have hM139 : stabML [3] [(kEq vo), (kEq (.agg (aggA ((allA (rem.take n) (floorA ((rem[0]'(by omega)).T) k)).1)))), (kSlU [3] aggE ([((allA (rem.take n) (floorA ((rem[0]'(by omega)).T) k)).1)])), (kSt w0 (fun v135 => [.blk g128 45 (aggA ((allA (rem.take n) (floorA ((rem[0]'(by omega)).T) k)).1)), rowT 45 aggE v135 (out ++ ([((allA (rem.take n) (floorA ((rem[0]'(by omega)).T) k)).1)]))])), (kEq v0), (kEq (iV (n : Int))), (kSl0 w0 sampE (rem.drop n)), (kSt w0 (fun v135 => [.blk g128 45 (aggA ((allA (rem.take n) (floorA ((rem[0]'(by omega)).T) k)).1)), rowT 45 aggE v135 (out ++ ([((allA (rem.take n) (floorA ((rem[0]'(by omega)).T) k)).1)]))])), (kSl0 w0 sampE (rem.drop n))] := ⟨mEq, mEq, mSlU, mSt, mEq, mEq, mSl0, mSt, mSl0, trivial⟩
     refine cE_regionK (fun (D : Nat → Bool) (w : World) => St w0 w [.blk g128 45 (aggA ((allA (rem.take n) (floorA ((rem[0]'(by omega)).T) k)).1))] ∧ (D 3 = false → St w0 w [.blk g128 45 (aggA ((allA (rem.take n) (floorA ((rem[0]'(by omega)).T) k)).1)), rowT 45 aggE vo out])) [[(6, none)], [(9, none)], [(55, some 1)], [(54, some 0), (56, some 2)], [(0, none)], [(8, none)], [(58, some 4), (59, some 5)], [(57, some 3)], [(60, some 6)]] (RofK [(kEq vo), (kEq (.agg (aggA ((allA (rem.take n) (floorA ((rem[0]'(by omega)).T) k)).1)))), (kSlU [3] aggE ([((allA (rem.take n) (floorA ((rem[0]'(by omega)).T) k)).1)])), (kSt w0 (fun v135 => [.blk g128 45 (aggA ((allA (rem.take n) (floorA ((rem[0]'(by omega)).T) k)).1)), rowT 45 aggE v135 (out ++ ([((allA (rem.take n) (floorA ((rem[0]'(by omega)).T) k)).1)]))])), (kEq v0), (kEq (iV (n : Int))), (kSl0 w0 sampE (rem.drop n)), (kSt w0 (fun v135 => [.blk g128 45 (aggA ((allA (rem.take n) (floorA ((rem[0]'(by omega)).T) k)).1)), rowT 45 aggE v135 (out ++ ([((allA (rem.take n) (floorA ((rem[0]'(by omega)).T) k)).1)]))])), (kSl0 w0 sampE (rem.drop n))]) (by kernel_rfl) rfl (by kernel_rfl) ⟨hst.drewW.sub (.cons_cons _ (.cons _ .slnil)), (fun _ => hst.drewW)⟩ ⟨?_, ?_, ?_, ?_, ?_, ?_, ?_, ?_, ?_, trivial⟩ ?_
     ·rintro D140 ρ141 w142 hD143 hE144 hC145 hJ146 - ⟨f6, _⟩
      have hst := hJ146.2 (not_yet hD143 (fun hm => (hC145 3 0 hm (by kernel_rfl))))
      exact go_plain (op_move vo (f6.trans q15_6) (kN0 (i := 0) hM139 (by decide) (by exact hJ146) (by exact rfl)))
     ·rintro D147 ρ148 w149 hD150 hE151 hC152 hJ153 - ⟨f9, _⟩
      have hst := hJ153.2 (not_yet hD150 (fun hm => (hC152 2 1 (hC152 3 2 hm (by kernel_rfl)) (by kernel_rfl))))
      exact go_plain (op_loadN (cs := (aggC ((allA (rem.take n) (floorA ((rem[0]'(by omega)).T) k)).1))) Tryd.isAgg45 Tryd.sizeOf45 (f9.trans rfl) (Pt.of (hst.cell 0 rfl) rfl) rfl (kN0 (i := 1) hM139 (by decide) (by exact hJ153) (by exact rfl)))
     ·rintro D154 ρ155 w156 hD157 hE158 hC159 hJ160 - ⟨f55, _⟩
      have hst := hJ160.2 (not_yet hD157 (fun hm => (hC159 3 2 hm (by kernel_rfl))))
      have hst := St.start w156
      refine go_plain (op_buildSlice (E := aggE) [((allA (rem.take n) (floorA ((rem[0]'(by omega)).T) k)).1)] hst Tryd.underlying24 Tryd.sizeOf45 Tryd.zeroValue45 (evp_cons (v := (.agg (aggA ((allA (rem.take n) (floorA ((rem[0]'(by omega)).T) k)).1)))) f55 evp_nil) (parts_cons rfl parts_nil) rfl (by decide) (fun v161 w162 hst => ?_))
      exact kN (i := 2) hM139 (by decide) hst.below (by exact ⟨hJ160.1.ext hst.below, (fun x0 => (hJ160.2 x0).ext hst.below)⟩) (by exact fun _ => hst.sl 0 rfl)
     ·rintro D163 ρ164 w165 hD166 hE167 hC168 hJ169 - ⟨f54, f56, _⟩
      have hst := hJ169.2 hD166
      have hs170 := f56 (by intro m hm; obtain rfl := List.mem_singleton.1 hm; exact hD166)
      have hI173 : stabIL 3 D163 0 [(kEq vo), (kEq (.agg (aggA ((allA (rem.take n) (floorA ((rem[0]'(by omega)).T) k)).1)))), (kSlU [3] aggE ([((allA (rem.take n) (floorA ((rem[0]'(by omega)).T) k)).1)])), (kSt w0 (fun v135 => [.blk g128 45 (aggA ((allA (rem.take n) (floorA ((rem[0]'(by omega)).T) k)).1)), rowT 45 aggE v135 (out ++ ([((allA (rem.take n) (floorA ((rem[0]'(by omega)).T) k)).1)]))])), (kEq v0), (kEq (iV (n : Int))), (kSl0 w0 sampE (rem.drop n)), (kSt w0 (fun v135 => [.blk g128 45 (aggA ((allA (rem.take n) (floorA ((rem[0]'(by omega)).T) k)).1)), rowT 45 aggE v135 (out ++ ([((allA (rem.take n) (floorA ((rem[0]'(by omega)).T) k)).1)]))])), (kSl0 w0 sampE (rem.drop n))] := ⟨Or.inr (Or.inr iEq), Or.inr (Or.inr iEq), Or.inr (Or.inr (iSlU (by decide))), Or.inl rfl, Or.inr (Or.inr iEq), Or.inr (Or.inr iEq), Or.inr (Or.inr iSl0), Or.inr (Or.inl (not_yet hD166 (fun hm => (hC168 7 3 hm (by kernel_rfl))))), Or.inr (Or.inr iSl0), trivial⟩
      refine go_plain (op_append (E := aggE) (xs := out) (ys := [((allA (rem.take n) (floorA ((rem[0]'(by omega)).T) k)).1)]) (z := (.agg #[(iV 0), (iV 0), (iV 0), (iV 0), (iV 0), (iV 0), (iV 0)])) (bytes := 56) hst 1 rfl Tryd.underlying24 (by kernel_rfl) rfl f54 rfl hs170 (by first | omega | (simp; omega) | (simp; done)) (by first | omega | (simp; omega) | (simp; done)) (fun v171 w172 hst => ?_))
      replace hst : St w0 w172 [.blk g128 45 (aggA ((allA (rem.take n) (floorA ((rem[0]'(by omega)).T) k)).1)), rowT 45 aggE v171 (out ++ ([((allA (rem.take n) (floorA ((rem[0]'(by omega)).T) k)).1)]))] := hst
      exact kI (i := 3) hI173 (by exact ⟨hst.sub (.cons_cons _ (.cons _ .slnil)), (fun h => absurd h (fun h => Bool.noConfusion h))⟩) (by exact hst)
     ·rintro D174 ρ175 w176 hD177 hE178 hC179 hJ180 - ⟨f0, _⟩
      have hst := hJ180.1
      exact go_plain (op_move v0 (f0.trans q15_0) (kN0 (i := 4) hM139 (by decide) (by exact hJ180) (by exact rfl)))
     ·rintro D181 ρ182 w183 hD184 hE185 hC186 hJ187 - ⟨f8, _⟩
      have hst := hJ187.1
      exact go_plain (op_move (iV (n : Int)) (f8.trans q15_8) (kN0 (i := 5) hM139 (by decide) (by exact hJ187) (by exact rfl)))
     ·rintro D188 ρ189 w190 hD191 hE192 hC193 hJ194 - ⟨f58, f59, _⟩
      have hst := hJ194.1
      refine go_plain (op_slice_fromN n (E := sampE) (xs := rem) Tryd.underlying23 Tryd.sizeOf28 f58 hr f59 (by omega) (by omega) (fun v195 hs196 => ?_))
      exact (kN0 (i := 6) hM139 (by decide) (by exact hJ194) (by exact hs196))
     ·rintro D197 ρ198 w199 hD200 hE201 hC202 hJ203 - ⟨f57, _⟩
      have hst := hJ203.1
      obtain ⟨v204, e205⟩ : ∃ x, ρ198 57 = x := ⟨_, rfl⟩
      have hn206 := f57
      rw [e205] at hn206
      exact go_plain (op_assign v204 e205 (kN0 (i := 7) hM139 (by decide) (by exact hJ203) (by exact hn206)))
     ·rintro D207 ρ208 w209 hD210 hE211 hC212 hJ213 - ⟨f60, _⟩
      have hst := hJ213.1
      have hs214 := f60
      exact go_plain (op_assign _ rfl (kN0 (i := 8) hM139 (by decide) (by exact hJ213) (by exact hs214)))
     intro ρ215 w216 Dw216 hallw216 hJw216 hRw216 hkw216
     obtain ⟨v135, uw216_6⟩ : ∃ x, ρ215 6 = x := ⟨_, rfl⟩
     have hst : St w0 w216 [.blk g128 45 (aggA ((allA (rem.take n) (floorA ((rem[0]'(by omega)).T) k)).1)), rowT 45 aggE v135 (out ++ ([((allA (rem.take n) (floorA ((rem[0]'(by omega)).T) k)).1)]))] := by have h := hRw216 7 6 rfl; rw [uw216_6] at h; exact h
     have uw216_1 : ρ215 1 = (iV k) := (hkw216 1 rfl).trans q15_1
     have uw216_7 : ρ215 7 = (iV (floorA ((rem[0]'(by omega)).T) k)) := (hkw216 7 rfl).trans q15_7
     have uw216_8 : ρ215 8 = (iV (n : Int)) := (hkw216 8 rfl).trans q15_8
     have uw216_28 : ρ215 28 = (iV (n : Int)) := (hkw216 28 rfl).trans rfl
     have uw216_29 : ρ215 29 = v0 := (hkw216 29 rfl).trans rfl
     have uw216_30 : ρ215 30 = (iV (rem.length : Int)) := (hkw216 30 rfl).trans rfl
     have uw216_31 : ρ215 31 = (.bool (decide ((n : Int) < (rem.length : Int)))) := (hkw216 31 rfl).trans rfl
     have uw216_44 : ρ215 44 = v0 := (hkw216 44 rfl).trans rfl
     have uw216_45 : ρ215 45 = (iV (n : Int)) := (hkw216 45 rfl).trans rfl
     have uw216_46 : ρ215 46 = v125 := (hkw216 46 rfl).trans rfl
     have uw216_47 : ρ215 47 = (iV (floorA ((rem[0]'(by omega)).T) k)) := (hkw216 47 rfl).trans rfl
     have uw216_48 : ρ215 48 = (.tuple #[(.agg (aggA ((allA (rem.take n) (floorA ((rem[0]'(by omega)).T) k)).1))), (iV ((allA (rem.take n) (floorA ((rem[0]'(by omega)).T) k)).2))]) := (hkw216 48 rfl).trans rfl
     have uw216_43 : ρ215 43 = (.tuple #[(.agg (aggA ((allA (rem.take n) (floorA ((rem[0]'(by omega)).T) k)).1))), (iV ((allA (rem.take n) (floorA ((rem[0]'(by omega)).T) k)).2))]) := (hkw216 43 rfl).trans rfl
     have uw216_49 : ρ215 49 = (.agg (aggA ((allA (rem.take n) (floorA ((rem[0]'(by omega)).T) k)).1))) := (hkw216 49 rfl).trans rfl
     have uw216_50 : ρ215 50 = (iV ((allA (rem.take n) (floorA ((rem[0]'(by omega)).T) k)).2)) := (hkw216 50 rfl).trans rfl
     have uw216_9 : ρ215 9 = (.pointer (some ⟨g128, 0, none⟩)) := (hkw216 9 rfl).trans rfl
     have uw216_10 : ρ215 10 = (iV ((allA (rem.take n) (floorA ((rem[0]'(by omega)).T) k)).2)) := (hkw216 10 rfl).trans rfl
     have uw216_51 : ρ215 51 = (iV ((allA (rem.take n) (floorA ((rem[0]'(by omega)).T) k)).2)) := (hkw216 51 rfl).trans rfl
     have uw216_52 : ρ215 52 = (.bool (!decide (((allA (rem.take n) (floorA ((rem[0]'(by omega)).T) k)).2) = 0))) := (hkw216 52 rfl).trans rfl
     obtain ⟨v217, uw216_0⟩ : ∃ x, ρ215 0 = x := ⟨_, rfl⟩
     have hs218 : Sl w0 sampE v217 (rem.drop n) := uw216_0 ▸ hRw216 8 0 rfl
     refine then_n (cE_exit (scope_x (block_hit (then_n ?_))))
     exact ⟨_, ⟨v217, (rem.drop n), v135, (out ++ ([((allA (rem.take n) (floorA ((rem[0]'(by omega)).T) k)).1)])), (f - 1), rfl, uw216_1, uw216_0, uw216_6, (hst.sub (.cons _ (.cons_cons _ .slnil))), (by assumption), (by first | exact hl | exact fun s h => hok s (List.mem_of_mem_drop h)), (by first | omega | (simp only [List.length_drop, List.length_append, List.length_cons, List.length_nil]; omega)), (by first | omega | (simp only [List.length_drop, List.length_append, List.length_cons, List.length_nil]; omega)), (by first | exact hI.trans (raw_go (by omega) hf hw (by assumption)) | (unfold rawA; rw [if_pos ⟨hri, hco⟩]))⟩, (by simp only [id, List.length_drop]; omega)⟩
    have c219 : ¬ (((allA (rem.take n) (floorA ((rem[0]'(by omega)).T) k)).2) = 0) := of_decide_eq_false b131
    refine cE_cond true (congrArg Value.bool (congrArg (! ·) b131)) (fun _ => ?_) (fun h => by cases h)
    refine cE_seq (cE_region rfl (s_cons (op_move (iV ((allA (rem.take n) (floorA ((rem[0]'(by omega)).T) k)).2)) rfl (s_cons (op_assign nS rfl (s_cons (op_assign (iV ((allA (rem.take n) (floorA ((rem[0]'(by omega)).T) k)).2)) rfl (s_nil (then_n (cE_ret (then_r (scope_r (block_r (then_r (block_r (then_r (scope_r (post_r _ (res2 (v := nS) rfl (x := (iV ((allA (rem.take n) (floorA ((rem[0]'(by omega)).T) k)).2))) rfl) ?_))))))))))))))))))
    replace hst : St w0 w130 [rowT 45 aggE nS ([]), .blk g128 45 (aggA ((allA (rem.take n) (floorA ((rem[0]'(by omega)).T) k)).1)), rowT 45 aggE vo out] := hst.nilRow 45 aggE
    have e220 : [] = (rawA l k).1 := by first | exact (congrArg Prod.fst (raw_none (Or.inl (by assumption)))).symm | exact (congrArg Prod.snd (raw_none (Or.inl (by assumption)))).symm | exact (congrArg Prod.fst (raw_none (Or.inr (by assumption)))).symm | exact (congrArg Prod.snd (raw_none (Or.inr (by assumption)))).symm | exact (congrArg Prod.fst (hI.trans (raw_stop (by omega) hf hw (by assumption)))).symm | exact (congrArg Prod.snd (hI.trans (raw_stop (by omega) hf hw (by assumption)))).symm | exact (congrArg Prod.fst (hI.trans (raw_end (by omega)))).symm | exact (congrArg Prod.snd (hI.trans (raw_end (by omega)))).symm
    replace hst : St w0 w130 [rowT 45 aggE nS ((rawA l k).1), .blk g128 45 (aggA ((allA (rem.take n) (floorA ((rem[0]'(by omega)).T) k)).1)), rowT 45 aggE vo out] := by rw [congrArg (fun l => rowT 45 aggE nS l) e220] at hst; exact hst
    exact ⟨nS, (retv2 rfl (congrArg iV (show (allA (rem.take n) (floorA ((rem[0]'(by omega)).T) k)).2 = (rawA l k).2 from by first | exact (congrArg Prod.fst (raw_none (Or.inl (by assumption)))).symm | exact (congrArg Prod.snd (raw_none (Or.inl (by assumption)))).symm | exact (congrArg Prod.fst (raw_none (Or.inr (by assumption)))).symm | exact (congrArg Prod.snd (raw_none (Or.inr (by assumption)))).symm | exact (congrArg Prod.fst (hI.trans (raw_stop (by omega) hf hw (by assumption)))).symm | exact (congrArg Prod.snd (hI.trans (raw_stop (by omega) hf hw (by assumption)))).symm | exact (congrArg Prod.fst (hI.trans (raw_end (by omega)))).symm | exact (congrArg Prod.snd (hI.trans (raw_end (by omega)))).symm))), hst.sub (.cons_cons _ (.cons _ (.cons _ .slnil)))⟩
   have c221 : ¬ (0 < (rem.length : Int)) := of_decide_eq_false b9
   refine cE_cond false (congrArg Value.bool b9) (fun h => by cases h) (fun _ => ?_)
   refine cE_exit (then_x (then_x (block_hit (then_n (cE_seq (cE_region rfl (s_cons (op_move vo q5_6 (s_cons (op_assign vo rfl (s_cons (op_assign (iV 0) rfl (s_nil (then_n (cE_ret (scope_r (post_r _ (res2 (v := vo) rfl (x := (iV 0)) rfl) ?_)))))))))))))))))
   have e222 : out = (rawA l k).1 := by first | exact (congrArg Prod.fst (raw_none (Or.inl (by assumption)))).symm | exact (congrArg Prod.snd (raw_none (Or.inl (by assumption)))).symm | exact (congrArg Prod.fst (raw_none (Or.inr (by assumption)))).symm | exact (congrArg Prod.snd (raw_none (Or.inr (by assumption)))).symm | exact (congrArg Prod.fst (hI.trans (raw_stop (by omega) hf hw (by assumption)))).symm | exact (congrArg Prod.snd (hI.trans (raw_stop (by omega) hf hw (by assumption)))).symm | exact (congrArg Prod.fst (hI.trans (raw_end (by omega)))).symm | exact (congrArg Prod.snd (hI.trans (raw_end (by omega)))).symm
   replace hst : St w0 w8 [rowT 45 aggE vo ((rawA l k).1)] := by rw [congrArg (fun l => rowT 45 aggE vo l) e222] at hst; exact hst
   exact ⟨vo, (retv2 rfl (congrArg iV (show 0 = (rawA l k).2 from by first | exact (congrArg Prod.fst (raw_none (Or.inl (by assumption)))).symm | exact (congrArg Prod.snd (raw_none (Or.inl (by assumption)))).symm | exact (congrArg Prod.fst (raw_none (Or.inr (by assumption)))).symm | exact (congrArg Prod.snd (raw_none (Or.inr (by assumption)))).symm | exact (congrArg Prod.fst (hI.trans (raw_stop (by omega) hf hw (by assumption)))).symm | exact (congrArg Prod.snd (hI.trans (raw_stop (by omega) hf hw (by assumption)))).symm | exact (congrArg Prod.fst (hI.trans (raw_end (by omega)))).symm | exact (congrArg Prod.snd (hI.trans (raw_end (by omega)))).symm))), hst.sub (.cons_cons _ .slnil)⟩
  refine cE_cond true (congrArg Value.bool (congrArg (! ·) b4)) (fun _ => ?_) (fun h => by cases h)
  refine cE_seq (cE_region rfl (s_cons (op_assign nS rfl (s_cons (op_assign (iV 1) rfl (s_nil (then_n (cE_ret (then_r (scope_r (post_r _ (res2 (v := nS) rfl (x := (iV 1)) rfl) ?_)))))))))))
  replace hst : St w0 w3 [rowT 45 aggE nS ([])] := hst.nilRow 45 aggE
  have e223 : [] = (rawA l k).1 := by first | exact (congrArg Prod.fst (raw_none (Or.inl (by assumption)))).symm | exact (congrArg Prod.snd (raw_none (Or.inl (by assumption)))).symm | exact (congrArg Prod.fst (raw_none (Or.inr (by assumption)))).symm | exact (congrArg Prod.snd (raw_none (Or.inr (by assumption)))).symm | exact (congrArg Prod.fst (hI.trans (raw_stop (by omega) hf hw (by assumption)))).symm | exact (congrArg Prod.snd (hI.trans (raw_stop (by omega) hf hw (by assumption)))).symm | exact (congrArg Prod.fst (hI.trans (raw_end (by omega)))).symm | exact (congrArg Prod.snd (hI.trans (raw_end (by omega)))).symm
  replace hst : St w0 w3 [rowT 45 aggE nS ((rawA l k).1)] := by rw [congrArg (fun l => rowT 45 aggE nS l) e223] at hst; exact hst
  exact ⟨nS, (retv2 rfl (congrArg iV (show 1 = (rawA l k).2 from by first | exact (congrArg Prod.fst (raw_none (Or.inl (by assumption)))).symm | exact (congrArg Prod.snd (raw_none (Or.inl (by assumption)))).symm | exact (congrArg Prod.fst (raw_none (Or.inr (by assumption)))).symm | exact (congrArg Prod.snd (raw_none (Or.inr (by assumption)))).symm | exact (congrArg Prod.fst (hI.trans (raw_stop (by omega) hf hw (by assumption)))).symm | exact (congrArg Prod.snd (hI.trans (raw_stop (by omega) hf hw (by assumption)))).symm | exact (congrArg Prod.fst (hI.trans (raw_end (by omega)))).symm | exact (congrArg Prod.snd (hI.trans (raw_end (by omega)))).symm))), hst.sub (.cons_cons _ .slnil)⟩
 refine s_no 14 rfl (congrArg Value.bool (congrArg (! ·) b2)) (s_no 14 rfl (congrArg Value.bool (congrArg (! ·) b2)) (s_no 14 rfl (congrArg Value.bool (congrArg (! ·) b2)) (s_cons (op_pick_t (.bool true) (congrArg Value.bool (congrArg (! ·) b2)) rfl (s_nil (then_n (cE_cond true rfl (fun _ => ?_) (fun h => by cases h))))))))
 refine cE_seq (cE_region rfl (s_cons (op_assign nS rfl (s_cons (op_assign (iV 1) rfl (s_nil (then_n (cE_ret (then_r (scope_r (post_r _ (res2 (v := nS) rfl (x := (iV 1)) rfl) ?_)))))))))))
 replace hst : St w0 w1 [rowT 45 aggE nS ([])] := hst.nilRow 45 aggE
 have e224 : [] = (rawA l k).1 := by first | exact (congrArg Prod.fst (raw_none (Or.inl (by assumption)))).symm | exact (congrArg Prod.snd (raw_none (Or.inl (by assumption)))).symm | exact (congrArg Prod.fst (raw_none (Or.inr (by assumption)))).symm | exact (congrArg Prod.snd (raw_none (Or.inr (by assumption)))).symm | exact (congrArg Prod.fst (hI.trans (raw_stop (by omega) hf hw (by assumption)))).symm | exact (congrArg Prod.snd (hI.trans (raw_stop (by omega) hf hw (by assumption)))).symm | exact (congrArg Prod.fst (hI.trans (raw_end (by omega)))).symm | exact (congrArg Prod.snd (hI.trans (raw_end (by omega)))).symm
 replace hst : St w0 w1 [rowT 45 aggE nS ((rawA l k).1)] := by rw [congrArg (fun l => rowT 45 aggE nS l) e224] at hst; exact hst
 exact ⟨nS, (retv2 rfl (congrArg iV (show 1 = (rawA l k).2 from by first | exact (congrArg Prod.fst (raw_none (Or.inl (by assumption)))).symm | exact (congrArg Prod.snd (raw_none (Or.inl (by assumption)))).symm | exact (congrArg Prod.fst (raw_none (Or.inr (by assumption)))).symm | exact (congrArg Prod.snd (raw_none (Or.inr (by assumption)))).symm | exact (congrArg Prod.fst (hI.trans (raw_stop (by omega) hf hw (by assumption)))).symm | exact (congrArg Prod.snd (hI.trans (raw_stop (by omega) hf hw (by assumption)))).symm | exact (congrArg Prod.fst (hI.trans (raw_end (by omega)))).symm | exact (congrArg Prod.snd (hI.trans (raw_end (by omega)))).symm))), hst.sub (.cons_cons _ .slnil)⟩

set_option maxRecDepth 8000 in
set_option maxHeartbeats 8000000 in
theorem c_Down (w0 : World) (v_l : Value) (l : List Agg) (h_l : Sl w0 aggE v_l l) (k : Int) (hl : ∀ s ∈ l, s.ok) (hn : l.length ≤ 1000000) (k0 : -9223372036854775808 ≤ k) (k1 : k ≤ 9223372036854775807) :
  Calls Tryd.prog 36 #[v_l, (iV k)] w0 fun e w' => ∃ (r : Value), e = .returned (.tuple #[r, (iV ((downA l k).2))]) ∧ St w0 w' [rowT 45 aggE r ((downA l k).1)] := by
 refine calls_E (n := 76) (ts := [4, 5]) Tryd.func36 rfl rfl rfl (by simp) ?_
 have hst := St.start w0
 refine cE_seq (cE_region rfl (s_cons (op_assign nS rfl (s_cons (op_assign (iV 0) rfl (s_nil (then_n (cE_scope (cE_seq (cE_seq (cE_region rfl (s_cons (op_move (iV k) rfl (s_cons (op_lss (k := .i64) (a := k) (b := 2) rfl rfl (s_cons (op_move (.bool (decide (k < 2))) rfl ?_)))))))))))))))))
 rcases Bool.eq_false_or_eq_true (decide (k < 2)) with b225 | b225
 ·have c226 : k < 2 := of_decide_eq_true b225
  refine s_no 14 rfl (congrArg Value.bool b225) (s_no 14 rfl (congrArg Value.bool b225) (s_no 14 rfl (congrArg Value.bool b225) (s_no 14 rfl (congrArg Value.bool b225) (s_no 14 rfl (congrArg Value.bool b225) (s_cons (op_pick_t (.bool true) (congrArg Value.bool b225) rfl (s_cons (op_move (.bool true) rfl (s_no 21 rfl rfl (s_no 21 rfl rfl (s_no 21 rfl rfl (s_cons (op_pick_t (.bool true) rfl rfl ?_)))))))))))))
  refine s_nil (then_n (cE_cond true rfl (fun _ => ?_) (fun h => by cases h)))
  refine cE_seq (cE_region rfl (s_cons (op_assign nS rfl (s_cons (op_assign (iV 1) rfl (s_nil (then_n (cE_ret (then_r (scope_r (post_r _ (res2 (v := nS) rfl (x := (iV 1)) rfl) ?_)))))))))))
  replace hst : St w0 w0 [rowT 45 aggE nS ([])] := hst.nilRow 45 aggE
  have e227 : [] = (downA l k).1 := by first | exact (congrArg Prod.fst (down_none (Or.inl (by omega)))).symm | exact (congrArg Prod.snd (down_none (Or.inl (by omega)))).symm | exact (congrArg Prod.fst (down_none (Or.inr (Or.inl (by assumption))))).symm | exact (congrArg Prod.snd (down_none (Or.inr (Or.inl (by assumption))))).symm | exact (congrArg Prod.fst (down_none (Or.inr (Or.inr (by assumption))))).symm | exact (congrArg Prod.snd (down_none (Or.inr (Or.inr (by assumption))))).symm | exact (congrArg Prod.fst (hI.trans (down_stop (by omega) (by omega) (by assumption) (by assumption)))).symm | exact (congrArg Prod.snd (hI.trans (down_stop (by omega) (by omega) (by assumption) (by assumption)))).symm | exact (congrArg Prod.fst (hI.trans (down_end (by omega)))).symm | exact (congrArg Prod.snd (hI.trans (down_end (by omega)))).symm
  replace hst : St w0 w0 [rowT 45 aggE nS ((downA l k).1)] := by rw [congrArg (fun l => rowT 45 aggE nS l) e227] at hst; exact hst
  exact ⟨nS, (retv2 rfl (congrArg iV (show 1 = (downA l k).2 from by first | exact (congrArg Prod.fst (down_none (Or.inl (by omega)))).symm | exact (congrArg Prod.snd (down_none (Or.inl (by omega)))).symm | exact (congrArg Prod.fst (down_none (Or.inr (Or.inl (by assumption))))).symm | exact (congrArg Prod.snd (down_none (Or.inr (Or.inl (by assumption))))).symm | exact (congrArg Prod.fst (down_none (Or.inr (Or.inr (by assumption))))).symm | exact (congrArg Prod.snd (down_none (Or.inr (Or.inr (by assumption))))).symm | exact (congrArg Prod.fst (hI.trans (down_stop (by omega) (by omega) (by assumption) (by assumption)))).symm | exact (congrArg Prod.snd (hI.trans (down_stop (by omega) (by omega) (by assumption) (by assumption)))).symm | exact (congrArg Prod.fst (hI.trans (down_end (by omega)))).symm | exact (congrArg Prod.snd (hI.trans (down_end (by omega)))).symm))), hst.sub (.cons_cons _ .slnil)⟩
 have c228 : ¬ (k < 2) := of_decide_eq_false b225
 refine s_yes 14 rfl (congrArg Value.bool b225) (op_move v_l rfl (s_yes 14 rfl (congrArg Value.bool b225) (op_move (iV k) rfl (s_yes 14 rfl (congrArg Value.bool b225) (op_sub (k := .i64) (a := k) (b := 1) (k - 1) rfl rfl (xi64 (by omega) (by omega)) (s_yes 14 rfl (congrArg Value.bool b225) (op_call Tryd.call25 (evs_cons (v := v_l) rfl (evs_cons (v := (iV (k - 1))) rfl evs_nil)) (c_Aligned (w0 := w0) (v_l := v_l) (l := l) (h_l := (h_l.below hst.below)) (k := (k - 1)) (hl := (by omega)) (k0 := (by omega)) (k1 := (by omega))) ?_)))))))
 rintro _ w229 ⟨rfl, hcall⟩
 refine ⟨_, rfl, ?_⟩
 have hst : St w0 w229 [] := hst.call hcall
 refine s_yes 14 rfl (congrArg Value.bool b225) (op_not (b := alignedA l (k - 1)) rfl (s_cons (op_pick_f (.bool (!(alignedA l (k - 1)))) (congrArg Value.bool b225) rfl (s_cons (op_move (.bool (!(alignedA l (k - 1)))) rfl ?_)))))
 rcases Bool.eq_false_or_eq_true (alignedA l (k - 1)) with b230 | b230
 ·have hal := b230
  refine s_yes 21 rfl (congrArg Value.bool (congrArg (! ·) b230)) (op_move (iV k) rfl (s_yes 21 rfl (congrArg Value.bool (congrArg (! ·) b230)) (op_call Tryd.call44 (evs_cons (v := (iV k)) rfl evs_nil) (c_coarse (w0 := w229) (k := k)) ?_)))
  rintro _ w231 ⟨rfl, hcall⟩
  refine ⟨_, rfl, ?_⟩
  have hst : St w0 w231 [] := hst.call hcall
  refine s_yes 21 rfl (congrArg Value.bool (congrArg (! ·) b230)) (op_not (b := coarseA k) rfl (s_cons (op_pick_f (.bool (!(coarseA k))) (congrArg Value.bool (congrArg (! ·) b230)) rfl (s_nil (then_n ?_)))))
  rcases Bool.eq_false_or_eq_true (coarseA k) with b232 | b232
  ·have hco := b232
   refine cE_cond false (congrArg Value.bool (congrArg (! ·) b232)) (fun h => by cases h) (fun _ => ?_)
   refine cE_skip (then_n (cE_seq (cE_region rfl (s_cons (op_assign nS rfl (s_nil (then_n (cE_seq (cE_label (then_n (cE_seq (cE_seq (cE_region rfl (s_cons (op_move v_l rfl (s_cons (op_len (E := aggE) (xs := l) Tryd.underlying24 rfl h_l (s_cons (op_move (iV 0) rfl (s_nil (then_n (cE_block ?_))))))))))))))))))))))
   replace hst : St w0 w231 [rowT 45 aggE nS ([])] := hst.nilRow 45 aggE
   refine cE_loop (fun (m : Nat) (ρ : Env) (w : World) => ∃ (vo : Value) (out : List Agg) (i : Nat), m = l.length - i ∧ ρ 0 = v_l ∧ ρ 1 = (iV k) ∧ ρ 26 = v_l ∧ ρ 27 = (iV (l.length : Int)) ∧ ρ 28 = (iV (i : Int)) ∧ ρ 6 = vo ∧ St w0 w [rowT 45 aggE vo out] ∧ (i ≤ l.length) ∧ (∀ s ∈ out, s.ok) ∧ (out.length ≤ i) ∧ (downA l k = downL k (l.drop i) out)) id _ ⟨nS, [], 0, rfl, rfl, rfl, rfl, rfl, (congrArg iV (show 0 = _ from by omega)), rfl, hst, (by omega), (by first | exact nil_okA | exact snoc_okA hok hro | exact set_okA hok (joinA_ok (hok _ (List.getElem_mem _)) hro)), (by first | omega | (simp only [List.length_append, List.length_cons, List.length_nil, List.length_set]; omega)), (by first | exact hI.trans (down_new (by omega) (by assumption)) | exact hI.trans (down_next (by omega) (by omega) (by assumption)) | exact hI.trans (down_join (by omega) (by omega) (by assumption) (by assumption)) | exact down_start (by omega) hal hco)⟩ ?_
   rintro m234 ρ235 w236 ⟨vo, out, i, hm234, q233_0, q233_1, q233_26, q233_27, q233_28, q233_6, hst, hi, hok, hout, hI⟩
   refine cE_seq (cE_region rfl (s_cons (op_lss (k := .i64) (a := (i : Int)) (b := (l.length : Int)) q233_28 q233_27 (s_nil (then_n (cE_seq ?_))))))
   rcases Bool.eq_false_or_eq_true (decide ((i : Int) < (l.length : Int))) with b237 | b237
   ·have c238 : (i : Int) < (l.length : Int) := of_decide_eq_true b237
    refine cE_cond true (congrArg Value.bool b237) (fun _ => ?_) (fun h => by cases h)
    refine cE_skip (then_n (cE_seq (cE_block (cE_seq (cE_region rfl (s_cons (op_indexAddrN (E := aggE) (xs := l) i Tryd.underlying24 Tryd.sizeOf45 q233_26 h_l q233_28 (by omega) (by omega) (fun a239 o240 p241 => ?_))))))))
    have hr := hl (l[i]'(by omega)) (List.getElem_mem _)
    have hro := atK_ok (k := k) hr
    refine s_cons (op_loadN (cs := (aggC (l[i]'(by omega)))) Tryd.isAgg45 Tryd.sizeOf45 rfl (Pt.of (p241.below hst.below) rfl) rfl (s_cons (op_alloc (cs := #[(iV 0), (iV 0), (iV 0), (iV 0), (iV 0), (iV 0), (iV 0)]) hst Tryd.zeroValue45 rfl (fun g242 w243 hst _ => ?_))))
    replace hst : St w0 w243 [.blk g242 45 #[(iV 0), (iV 0), (iV 0), (iV 0), (iV 0), (iV 0), (iV 0)], rowT 45 aggE vo out] := hst
    refine s_cons0 (op_storeAll hst 0 rfl Tryd.sizeOf45 rfl rfl rfl rfl (by simp [Value.oneCell']) (fun w244 hst => ?_))
    replace hst : St w0 w244 [.blk g242 45 (aggA (l[i]'(by omega))), rowT 45 aggE vo out] := hst
    refine s_nil (then_n (cE_seq (cE_region rfl (s_cons (op_fieldAddr (s := 0) Tryd.underlying45 rfl rfl Tryd.sizeOf2 rfl (s_cons (op_load1 (u := (iV ((l[i]'(by omega)).From))) Tryd.isAgg2 rfl (hst.cell 0 rfl) (s_cons (op_move (iV k) q233_1 (s_cons (op_call Tryd.call26 (evs_cons (v := (iV ((l[i]'(by omega)).From))) rfl (evs_cons (v := (iV k)) rfl evs_nil)) (c_Floor (w0 := w244) (t := (l[i]'(by omega)).From) (k := k) (t0 := (by omega)) (k0 := (by omega)) (t1 := (by omega)) (k1 := (by omega))) ?_)))))))))))
    rintro _ w245 ⟨rfl, hcall⟩
    refine ⟨_, rfl, ?_⟩
    have hst : St w0 w245 [.blk g242 45 (aggA (l[i]'(by omega))), rowT 45 aggE vo out] := hst.call hcall
    refine s_cons (op_fieldAddr (s := 0) Tryd.underlying45 rfl rfl Tryd.sizeOf2 rfl (s_cons0 (op_store1 hst 0 rfl Tryd.sizeOf2 rfl rfl rfl (show 0 < 7 from by decide) (fun w246 hst => ?_))))
    replace hst : St w0 w246 [.blk g242 45 #[(iV (floorA ((l[i]'(by omega)).From) k)), (iV ((l[i]'(by omega)).Count)), (iV ((l[i]'(by omega)).Sum)), (iV ((l[i]'(by omega)).Min)), (iV ((l[i]'(by omega)).Max)), (iV ((l[i]'(by omega)).First)), (iV ((l[i]'(by omega)).Last))], rowT 45 aggE vo out] := hst
    refine s_nil (then_n (cE_seq (cE_region rfl (s_cons (op_move vo q233_6 (s_cons (op_len (E := aggE) (xs := out) Tryd.underlying24 rfl (hst.sl 1 rfl) (s_cons (op_assign (iV (out.length : Int)) rfl (s_nil (then_n (cE_seq (cE_seq ?_)))))))))))))
    rcases Bool.eq_false_or_eq_true (decide ((out.length : Int) = 0)) with b247 | b247
    ·have c248 : (out.length : Int) = 0 := of_decide_eq_true b247
     refine cE_regionL hst [[(9, none)], [(39, some 0)], [(40, some 1)], [(6, none), (41, some 2)], [(9, none), (41, some 2)], [(43, some 4), (41, some 2)], [(42, some 3), (44, some 5), (41, some 2)], [(45, some 6), (41, some 2)], [(46, some 7), (41, some 2)], [(8, none), (41, some 2)], [(48, some 9), (41, some 2)], [(47, some 8), (49, some 10), (41, some 2)], [(41, some 2), (50, some 11)]] [(rEq (iV (out.length : Int))), (rEq (.bool (decide ((out.length : Int) = 0)))), (rEq (.bool (decide ((out.length : Int) = 0)))), (rEq undef), (rEq undef), (rEq undef), (rEq undef), (rEq undef), (rEq undef), (rEq undef), (rEq undef), (rEq undef), (rEq (.bool true))] (by kernel_rfl) rfl (by kernel_rfl) ⟨sEq, sEq, sEq, sEq, sEq, sEq, sEq, sEq, sEq, sEq, sEq, sEq, sEq, trivial⟩ ⟨?_, ?_, ?_, ?_, ?_, ?_, ?_, ?_, ?_, ?_, ?_, ?_, ?_, trivial⟩ ?_
     ·rintro ρ249 w250 hj251 ⟨f9, _⟩
      have hst := hj251.2
      exact go_plain (op_move (iV (out.length : Int)) (f9.trans rfl) (kS hj251 rfl))
     ·rintro ρ252 w253 hj254 ⟨f39, _⟩
      have hst := hj254.2
      exact go_plain (op_eql (k := .i64) (a := (out.length : Int)) (b := 0) f39 rfl (kS hj254 rfl))
     ·rintro ρ255 w256 hj257 ⟨f40, _⟩
      have hst := hj257.2
      exact go_plain (op_move (.bool (decide ((out.length : Int) = 0))) f40 (kS hj257 rfl))
     ·rintro ρ258 w259 hj260 ⟨f6, f41, _⟩
      have hst := hj260.2
      exact go_no 41 rfl (f41.trans (congrArg Value.bool b247)) (kS hj260 rfl)
     ·rintro ρ261 w262 hj263 ⟨f9, f41, _⟩
      have hst := hj263.2
      exact go_no 41 rfl (f41.trans (congrArg Value.bool b247)) (kS hj263 rfl)
     ·rintro ρ264 w265 hj266 ⟨f43, f41, _⟩
      have hst := hj266.2
      exact go_no 41 rfl (f41.trans (congrArg Value.bool b247)) (kS hj266 rfl)
     ·rintro ρ267 w268 hj269 ⟨f42, f44, f41, _⟩
      have hst := hj269.2
      exact go_no 41 rfl (f41.trans (congrArg Value.bool b247)) (kS hj269 rfl)
     ·rintro ρ270 w271 hj272 ⟨f45, f41, _⟩
      have hst := hj272.2
      exact go_no 41 rfl (f41.trans (congrArg Value.bool b247)) (kS hj272 rfl)
     ·rintro ρ273 w274 hj275 ⟨f46, f41, _⟩
      have hst := hj275.2
      exact go_no 41 rfl (f41.trans (congrArg Value.bool b247)) (kS hj275 rfl)
     ·rintro ρ276 w277 hj278 ⟨f8, f41, _⟩
      have hst := hj278.2
      exact go_no 41 rfl (f41.trans (congrArg Value.bool b247)) (kS hj278 rfl)
     ·rintro ρ279 w280 hj281 ⟨f48, f41, _⟩
      have hst := hj281.2
      exact go_no 41 rfl (f41.trans (congrArg Value.bool b247)) (kS hj281 rfl)
     ·rintro ρ282 w283 hj284 ⟨f47, f49, f41, _⟩
      have hst := hj284.2
      exact go_no 41 rfl (f41.trans (congrArg Value.bool b247)) (kS hj284 rfl)
     ·rintro ρ285 w286 hj287 ⟨f41, f50, _⟩
      have hst := hj287.2
      exact go_plain (op_pick_t (.bool true) (f41.trans (congrArg Value.bool b247)) rfl (kS hj287 rfl))
     intro ρ288 w289 hbw289 hst hRw289 hkw289
     have uw289_0 : ρ288 0 = v_l := (hkw289 0 rfl).trans q233_0
     have uw289_1 : ρ288 1 = (iV k) := (hkw289 1 rfl).trans q233_1
     have uw289_26 : ρ288 26 = v_l := (hkw289 26 rfl).trans q233_26
     have uw289_27 : ρ288 27 = (iV (l.length : Int)) := (hkw289 27 rfl).trans q233_27
     have uw289_28 : ρ288 28 = (iV (i : Int)) := (hkw289 28 rfl).trans q233_28
     have uw289_6 : ρ288 6 = vo := (hkw289 6 rfl).trans q233_6
     have uw289_29 : ρ288 29 = (.bool (decide ((i : Int) < (l.length : Int)))) := (hkw289 29 rfl).trans rfl
     have uw289_30 : ρ288 30 = (.pointer (some ⟨a239, o240, none⟩)) := (hkw289 30 rfl).trans rfl
     have uw289_31 : ρ288 31 = (.agg (aggA (l[i]'(by omega)))) := (hkw289 31 rfl).trans rfl
     have uw289_8 : ρ288 8 = (.pointer (some ⟨g242, 0, none⟩)) := (hkw289 8 rfl).trans rfl
     have uw289_32 : ρ288 32 = (.pointer (some ⟨g242, (0 + 0), none⟩)) := (hkw289 32 rfl).trans rfl
     have uw289_33 : ρ288 33 = (iV ((l[i]'(by omega)).From)) := (hkw289 33 rfl).trans rfl
     have uw289_34 : ρ288 34 = (iV k) := (hkw289 34 rfl).trans rfl
     have uw289_35 : ρ288 35 = (iV (floorA ((l[i]'(by omega)).From) k)) := (hkw289 35 rfl).trans rfl
     have uw289_36 : ρ288 36 = (.pointer (some ⟨g242, (0 + 0), none⟩)) := (hkw289 36 rfl).trans rfl
     have uw289_37 : ρ288 37 = vo := (hkw289 37 rfl).trans rfl
     have uw289_38 : ρ288 38 = (iV (out.length : Int)) := (hkw289 38 rfl).trans rfl
     have uw289_9 : ρ288 9 = (iV (out.length : Int)) := (hkw289 9 rfl).trans rfl
     have uw289_51 : ρ288 51 = (.bool true) := hRw289 12 51 rfl
     refine then_n (cE_cond true uw289_51 (fun _ => ?_) (fun h => by cases h))
     refine cE_seq (cE_region rfl (s_cons (op_move vo uw289_6 (s_cons (op_loadN (cs := [(iV (floorA ((l[i]'(by omega)).From) k)), (iV ((l[i]'(by omega)).Count)), (iV ((l[i]'(by omega)).Sum)), (iV ((l[i]'(by omega)).Min)), (iV ((l[i]'(by omega)).Max)), (iV ((l[i]'(by omega)).First)), (iV ((l[i]'(by omega)).Last))]) Tryd.isAgg45 Tryd.sizeOf45 uw289_8 (Pt.of (hst.cell 0 rfl) rfl) rfl (s_cons (op_buildSlice (E := aggE) [(⟨(floorA ((l[i]'(by omega)).From) k), (l[i]'(by omega)).Count, (l[i]'(by omega)).Sum, (l[i]'(by omega)).Min, (l[i]'(by omega)).Max, (l[i]'(by omega)).First, (l[i]'(by omega)).Last⟩ : Agg)] hst Tryd.underlying24 Tryd.sizeOf45 Tryd.zeroValue45 (evp_cons (v := (.agg #[(iV (floorA ((l[i]'(by omega)).From) k)), (iV ((l[i]'(by omega)).Count)), (iV ((l[i]'(by omega)).Sum)), (iV ((l[i]'(by omega)).Min)), (iV ((l[i]'(by omega)).Max)), (iV ((l[i]'(by omega)).First)), (iV ((l[i]'(by omega)).Last))])) rfl evp_nil) (parts_cons rfl parts_nil) rfl (by decide) (fun v290 w291 hst => ?_))))))))
     replace hst : St w0 w291 [rowT 45 aggE v290 ([(⟨(floorA ((l[i]'(by omega)).From) k), (l[i]'(by omega)).Count, (l[i]'(by omega)).Sum, (l[i]'(by omega)).Min, (l[i]'(by omega)).Max, (l[i]'(by omega)).First, (l[i]'(by omega)).Last⟩ : Agg)]), .blk g242 45 #[(iV (floorA ((l[i]'(by omega)).From) k)), (iV ((l[i]'(by omega)).Count)), (iV ((l[i]'(by omega)).Sum)), (iV ((l[i]'(by omega)).Min)), (iV ((l[i]'(by omega)).Max)), (iV ((l[i]'(by omega)).First)), (iV ((l[i]'(by omega)).Last))], rowT 45 aggE vo out] := hst
     refine s_cons (op_append (E := aggE) (xs := out) (ys := [(⟨(floorA ((l[i]'(by omega)).From) k), (l[i]'(by omega)).Count, (l[i]'(by omega)).Sum, (l[i]'(by omega)).Min, (l[i]'(by omega)).Max, (l[i]'(by omega)).First, (l[i]'(by omega)).Last⟩ : Agg)]) (z := (.agg #[(iV 0), (iV 0), (iV 0), (iV 0), (iV 0), (iV 0), (iV 0)])) (bytes := 56) hst 2 rfl Tryd.underlying24 (by kernel_rfl) rfl rfl rfl (hst.sl 0 rfl) (by first | omega | (simp; omega) | (simp; done)) (by first | omega | (simp; omega) | (simp; done)) (fun v292 w293 hst => ?_))
     replace hst : St w0 w293 [rowT 45 aggE v290 ([(⟨(floorA ((l[i]'(by omega)).From) k), (l[i]'(by omega)).Count, (l[i]'(by omega)).Sum, (l[i]'(by omega)).Min, (l[i]'(by omega)).Max, (l[i]'(by omega)).First, (l[i]'(by omega)).Last⟩ : Agg)]), .blk g242 45 #[(iV (floorA ((l[i]'(by omega)).From) k)), (iV ((l[i]'(by omega)).Count)), (iV ((l[i]'(by omega)).Sum)), (iV ((l[i]'(by omega)).Min)), (iV ((l[i]'(by omega)).Max)), (iV ((l[i]'(by omega)).First)), (iV ((l[i]'(by omega)).Last))], rowT 45 aggE v292 (out ++ ([(⟨(floorA ((l[i]'(by omega)).From) k), (l[i]'(by omega)).Count, (l[i]'(by omega)).Sum, (l[i]'(by omega)).Min, (l[i]'(by omega)).Max, (l[i]'(by omega)).First, (l[i]'(by omega)).Last⟩ : Agg)]))] := hst
     refine s_cons (op_assign v292 rfl (s_nil (then_n (cE_exit (then_x (block_hit (then_n (cE_region rfl (s_cons (op_add (k := .i64) (a := (i : Int)) (b := 1) ((i : Int) + 1) uw289_28 rfl (xi64 (by omega) (by omega)) (s_cons (op_move (iV ((i : Int) + 1)) rfl (s_nil (then_n ?_))))))))))))))
     exact ⟨_, ⟨v292, (out ++ ([(⟨(floorA ((l[i]'(by omega)).From) k), (l[i]'(by omega)).Count, (l[i]'(by omega)).Sum, (l[i]'(by omega)).Min, (l[i]'(by omega)).Max, (l[i]'(by omega)).First, (l[i]'(by omega)).Last⟩ : Agg)])), (i + 1), rfl, uw289_0, uw289_1, uw289_26, uw289_27, (congrArg iV (show ((i : Int) + 1) = _ from by omega)), rfl, (hst.sub (.cons _ (.cons _ (.cons_cons _ .slnil)))), (by omega), (by first | exact nil_okA | exact snoc_okA hok hro | exact set_okA hok (joinA_ok (hok _ (List.getElem_mem _)) hro)), (by first | omega | (simp only [List.length_append, List.length_cons, List.length_nil, List.length_set]; omega)), (by first | exact hI.trans (down_new (by omega) (by assumption)) | exact hI.trans (down_next (by omega) (by omega) (by assumption)) | exact hI.trans (down_join (by omega) (by omega) (by assumption) (by assumption)) | exact down_start (by omega) hal hco)⟩, (by simp only [id]; omega)⟩
    have c294 : ¬ ((out.length : Int) = 0) := of_decide_eq_false b247
    refine cE_regionL hst [[(9, none)], [(39, some 0)], [(40, some 1)], [(6, none), (41, some 2)], [(9, none), (41, some 2)], [(43, some 4), (41, some 2)], [(42, some 3), (44, some 5), (41, some 2)], [(45, some 6), (41, some 2)], [(46, some 7), (41, some 2)], [(8, none), (41, some 2)], [(48, some 9), (41, some 2)], [(47, some 8), (49, some 10), (41, some 2)], [(41, some 2), (50, some 11)]] [(rEq (iV (out.length : Int))), (rEq (.bool (decide ((out.length : Int) = 0)))), (rEq (.bool (decide ((out.length : Int) = 0)))), (rEq vo), (rEq (iV (out.length : Int))), (rEq (iV ((out.length : Int) - 1))), (rPt (aggC (out[(out.length - 1)]'(by omega)))), (rPt (aggC (out[(out.length - 1)]'(by omega)))), (rEq (iV ((out[(out.length - 1)]'(by omega)).From))), (rEq (.pointer (some ⟨g242, (0 + 0), none⟩))), (rEq (iV (floorA ((l[i]'(by omega)).From) k))), (rEq (.bool (!decide (((out[(out.length - 1)]'(by omega)).From) = (floorA ((l[i]'(by omega)).From) k))))), (rEq (.bool (!decide (((out[(out.length - 1)]'(by omega)).From) = (floorA ((l[i]'(by omega)).From) k)))))] (by kernel_rfl) rfl (by kernel_rfl) ⟨sEq, sEq, sEq, sEq, sEq, sEq, sPt, sPt, sEq, sEq, sEq, sEq, sEq, trivial⟩ ⟨?_, ?_, ?_, ?_, ?_, ?_, ?_, ?_, ?_, ?_, ?_, ?_, ?_, trivial⟩ ?_
    ·rintro ρ298 w299 hj300 ⟨f9, _⟩
     have hst := hj300.2
     exact go_plain (op_move (iV (out.length : Int)) (f9.trans rfl) (kS hj300 rfl))
    ·rintro ρ301 w302 hj303 ⟨f39, _⟩
     have hst := hj303.2
     exact go_plain (op_eql (k := .i64) (a := (out.length : Int)) (b := 0) f39 rfl (kS hj303 rfl))
    ·rintro ρ304 w305 hj306 ⟨f40, _⟩
     have hst := hj306.2
     exact go_plain (op_move (.bool (decide ((out.length : Int) = 0))) f40 (kS hj306 rfl))
    ·rintro ρ307 w308 hj309 ⟨f6, f41, _⟩
     have hst := hj309.2
     exact go_yes 41 rfl (f41.trans (congrArg Value.bool b247)) (op_move vo (f6.trans q233_6) (kS hj309 rfl))
    ·rintro ρ310 w311 hj312 ⟨f9, f41, _⟩
     have hst := hj312.2
     exact go_yes 41 rfl (f41.trans (congrArg Value.bool b247)) (op_move (iV (out.length : Int)) (f9.trans rfl) (kS hj312 rfl))
    ·rintro ρ313 w314 hj315 ⟨f43, f41, _⟩
     have hst := hj315.2
     exact go_yes 41 rfl (f41.trans (congrArg Value.bool b247)) (op_sub (k := .i64) (a := (out.length : Int)) (b := 1) ((out.length : Int) - 1) f43 rfl (xi64 (by omega) (by omega)) (kS hj315 rfl))
    ·rintro ρ316 w317 hj318 ⟨f42, f44, f41, _⟩
     have hst := hj318.2
     refine go_yes 41 rfl (f41.trans (congrArg Value.bool b247)) (op_indexAddrN (E := aggE) (xs := out) (out.length - 1) Tryd.underlying24 Tryd.sizeOf45 f42 (hst.sl 1 rfl) f44 (by omega) (by omega) (fun a319 o320 p321 => ?_))
     exact kS hj318 ⟨_, _, rfl, p321⟩
    ·rintro ρ322 w323 hj324 ⟨f45, f41, _⟩
     have hst := hj324.2
     obtain ⟨a325, o326, e327, p328⟩ := f45
     exact go_yes 41 rfl (f41.trans (congrArg Value.bool b247)) (op_fieldAddr (s := 0) Tryd.underlying45 rfl rfl Tryd.sizeOf2 e327 (kS hj324 ⟨_, _, rfl, p328⟩))
    ·rintro ρ329 w330 hj331 ⟨f46, f41, _⟩
     have hst := hj331.2
     obtain ⟨a332, o333, e334, p335⟩ := f46
     exact go_yes 41 rfl (f41.trans (congrArg Value.bool b247)) (op_load1 (u := (iV ((out[(out.length - 1)]'(by omega)).From))) Tryd.isAgg2 e334 p335 (kS hj331 rfl))
    ·rintro ρ336 w337 hj338 ⟨f8, f41, _⟩
     have hst := hj338.2
     exact go_yes 41 rfl (f41.trans (congrArg Value.bool b247)) (op_fieldAddr (s := 0) Tryd.underlying45 rfl rfl Tryd.sizeOf2 (f8.trans rfl) (kS hj338 rfl))
    ·rintro ρ339 w340 hj341 ⟨f48, f41, _⟩
     have hst := hj341.2
     exact go_yes 41 rfl (f41.trans (congrArg Value.bool b247)) (op_load1 (u := (iV (floorA ((l[i]'(by omega)).From) k))) Tryd.isAgg2 f48 (hst.cell 0 rfl) (kS hj341 rfl))
    ·rintro ρ342 w343 hj344 ⟨f47, f49, f41, _⟩
     have hst := hj344.2
     exact go_yes 41 rfl (f41.trans (congrArg Value.bool b247)) (op_neq (k := .i64) (a := (out[(out.length - 1)]'(by omega)).From) (b := (floorA ((l[i]'(by omega)).From) k)) f47 f49 (kS hj344 rfl))
    ·rintro ρ345 w346 hj347 ⟨f41, f50, _⟩
     have hst := hj347.2
     exact go_plain (op_pick_f (.bool (!decide (((out[(out.length - 1)]'(by omega)).From) = (floorA ((l[i]'(by omega)).From) k)))) (f41.trans (congrArg Value.bool b247)) f50 (kS hj347 rfl))
    intro ρ348 w349 hbw349 hst hRw349 hkw349
    have uw349_0 : ρ348 0 = v_l := (hkw349 0 rfl).trans q233_0
    have uw349_1 : ρ348 1 = (iV k) := (hkw349 1 rfl).trans q233_1
    have uw349_26 : ρ348 26 = v_l := (hkw349 26 rfl).trans q233_26
    have uw349_27 : ρ348 27 = (iV (l.length : Int)) := (hkw349 27 rfl).trans q233_27
    have uw349_28 : ρ348 28 = (iV (i : Int)) := (hkw349 28 rfl).trans q233_28
    have uw349_6 : ρ348 6 = vo := (hkw349 6 rfl).trans q233_6
    have uw349_29 : ρ348 29 = (.bool (decide ((i : Int) < (l.length : Int)))) := (hkw349 29 rfl).trans rfl
    have uw349_30 : ρ348 30 = (.pointer (some ⟨a239, o240, none⟩)) := (hkw349 30 rfl).trans rfl
    have uw349_31 : ρ348 31 = (.agg (aggA (l[i]'(by omega)))) := (hkw349 31 rfl).trans rfl
    have uw349_8 : ρ348 8 = (.pointer (some ⟨g242, 0, none⟩)) := (hkw349 8 rfl).trans rfl
    have uw349_32 : ρ348 32 = (.pointer (some ⟨g242, (0 + 0), none⟩)) := (hkw349 32 rfl).trans rfl
    have uw349_33 : ρ348 33 = (iV ((l[i]'(by omega)).From)) := (hkw349 33 rfl).trans rfl
    have uw349_34 : ρ348 34 = (iV k) := (hkw349 34 rfl).trans rfl
    have uw349_35 : ρ348 35 = (iV (floorA ((l[i]'(by omega)).From) k)) := (hkw349 35 rfl).trans rfl
    have uw349_36 : ρ348 36 = (.pointer (some ⟨g242, (0 + 0), none⟩)) := (hkw349 36 rfl).trans rfl
    have uw349_37 : ρ348 37 = vo := (hkw349 37 rfl).trans rfl
    have uw349_38 : ρ348 38 = (iV (out.length : Int)) := (hkw349 38 rfl).trans rfl
    have uw349_9 : ρ348 9 = (iV (out.length : Int)) := (hkw349 9 rfl).trans rfl
    have uw349_51 : ρ348 51 = (.bool (!decide (((out[(out.length - 1)]'(by omega)).From) = (floorA ((l[i]'(by omega)).From) k)))) := hRw349 12 51 rfl
    refine then_n ?_
    rcases Bool.eq_false_or_eq_true (decide (((out[(out.length - 1)]'(by omega)).From) = (floorA ((l[i]'(by omega)).From) k))) with b350 | b350
    ·have c351 : ((out[(out.length - 1)]'(by omega)).From) = (floorA ((l[i]'(by omega)).From) k) := of_decide_eq_true b350
     refine cE_cond false (uw349_51.trans (congrArg Value.bool (congrArg (! ·) b350))) (fun h => by cases h) (fun _ => ?_)
     refine cE_skip (then_n (cE_seq ?_))
     have hM359 : stabML [11] [(kEq vo), (kEq (iV (out.length : Int))), (kEq (iV ((out.length : Int) - 1))), (kPtU [11] (aggC (out[(out.length - 1)]'(by omega)))), (kEq (.agg (aggA (out[(out.length - 1)]'(by omega))))), (kEq (.agg #[(iV (floorA ((l[i]'(by omega)).From) k)), (iV ((l[i]'(by omega)).Count)), (iV ((l[i]'(by omega)).Sum)), (iV ((l[i]'(by omega)).Min)), (iV ((l[i]'(by omega)).Max)), (iV ((l[i]'(by omega)).First)), (iV ((l[i]'(by omega)).Last))])), (kEq (.tuple #[(.agg (aggA ((joinA (out[(out.length - 1)]'(by omega)) (⟨(floorA ((l[i]'(by omega)).From) k), (l[i]'(by omega)).Count, (l[i]'(by omega)).Sum, (l[i]'(by omega)).Min, (l[i]'(by omega)).Max, (l[i]'(by omega)).First, (l[i]'(by omega)).Last⟩ : Agg)).1))), (iV ((joinA (out[(out.length - 1)]'(by omega)) (⟨(floorA ((l[i]'(by omega)).From) k), (l[i]'(by omega)).Count, (l[i]'(by omega)).Sum, (l[i]'(by omega)).Min, (l[i]'(by omega)).Max, (l[i]'(by omega)).First, (l[i]'(by omega)).Last⟩ : Agg)).2))])), (kEq (.tuple #[(.agg (aggA ((joinA (out[(out.length - 1)]'(by omega)) (⟨(floorA ((l[i]'(by omega)).From) k), (l[i]'(by omega)).Count, (l[i]'(by omega)).Sum, (l[i]'(by omega)).Min, (l[i]'(by omega)).Max, (l[i]'(by omega)).First, (l[i]'(by omega)).Last⟩ : Agg)).1))), (iV ((joinA (out[(out.length - 1)]'(by omega)) (⟨(floorA ((l[i]'(by omega)).From) k), (l[i]'(by omega)).Count, (l[i]'(by omega)).Sum, (l[i]'(by omega)).Min, (l[i]'(by omega)).Max, (l[i]'(by omega)).First, (l[i]'(by omega)).Last⟩ : Agg)).2))])), (kEq (.agg (aggA ((joinA (out[(out.length - 1)]'(by omega)) (⟨(floorA ((l[i]'(by omega)).From) k), (l[i]'(by omega)).Count, (l[i]'(by omega)).Sum, (l[i]'(by omega)).Min, (l[i]'(by omega)).Max, (l[i]'(by omega)).First, (l[i]'(by omega)).Last⟩ : Agg)).1)))), (kEq (iV ((joinA (out[(out.length - 1)]'(by omega)) (⟨(floorA ((l[i]'(by omega)).From) k), (l[i]'(by omega)).Count, (l[i]'(by omega)).Sum, (l[i]'(by omega)).Min, (l[i]'(by omega)).Max, (l[i]'(by omega)).First, (l[i]'(by omega)).Last⟩ : Agg)).2))), (kAl w0 11 (fun g356 => [.blk g356 45 #[(iV 0), (iV 0), (iV 0), (iV 0), (iV 0), (iV 0), (iV 0)], .blk g242 45 #[(iV (floorA ((l[i]'(by omega)).From) k)), (iV ((l[i]'(by omega)).Count)), (iV ((l[i]'(by omega)).Sum)), (iV ((l[i]'(by omega)).Min)), (iV ((l[i]'(by omega)).Max)), (iV ((l[i]'(by omega)).First)), (iV ((l[i]'(by omega)).Last))], rowT 45 aggE vo out]) (fun g356 => [.blk g356 45 (aggA ((joinA (out[(out.length - 1)]'(by omega)) (⟨(floorA ((l[i]'(by omega)).From) k), (l[i]'(by omega)).Count, (l[i]'(by omega)).Sum, (l[i]'(by omega)).Min, (l[i]'(by omega)).Max, (l[i]'(by omega)).First, (l[i]'(by omega)).Last⟩ : Agg)).1)), .blk g242 45 #[(iV (floorA ((l[i]'(by omega)).From) k)), (iV ((l[i]'(by omega)).Count)), (iV ((l[i]'(by omega)).Sum)), (iV ((l[i]'(by omega)).Min)), (iV ((l[i]'(by omega)).Max)), (iV ((l[i]'(by omega)).First)), (iV ((l[i]'(by omega)).Last))], rowT 45 aggE vo out])), kAny, (kEq (iV ((joinA (out[(out.length - 1)]'(by omega)) (⟨(floorA ((l[i]'(by omega)).From) k), (l[i]'(by omega)).Count, (l[i]'(by omega)).Sum, (l[i]'(by omega)).Min, (l[i]'(by omega)).Max, (l[i]'(by omega)).First, (l[i]'(by omega)).Last⟩ : Agg)).2)))] := ⟨mEq, mEq, mEq, mPtU, mEq, mEq, mEq, mEq, mEq, mEq, (mAl (by decide)), mAny, mEq, trivial⟩
     refine cE_regionK (fun (D : Nat → Bool) (w : World) => St w0 w [.blk g242 45 #[(iV (floorA ((l[i]'(by omega)).From) k)), (iV ((l[i]'(by omega)).Count)), (iV ((l[i]'(by omega)).Sum)), (iV ((l[i]'(by omega)).Min)), (iV ((l[i]'(by omega)).Max)), (iV ((l[i]'(by omega)).First)), (iV ((l[i]'(by omega)).Last))], rowT 45 aggE vo out] ∧ (D 11 = false → St w0 w [.blk g242 45 #[(iV (floorA ((l[i]'(by omega)).From) k)), (iV ((l[i]'(by omega)).Count)), (iV ((l[i]'(by omega)).Sum)), (iV ((l[i]'(by omega)).Min)), (iV ((l[i]'(by omega)).Max)), (iV ((l[i]'(by omega)).First)), (iV ((l[i]'(by omega)).Last))], rowT 45 aggE vo out])) [[(6, none)], [(9, none)], [(58, some 1)], [(57, some 0), (59, some 2)], [(60, some 3)], [(8, none)], [(61, some 4), (62, some 5)], [(63, some 6)], [(56, some 7)], [(56, some 7)], [], [(10, some 10), (64, some 8)], [(65, some 9)]] (RofK [(kEq vo), (kEq (iV (out.length : Int))), (kEq (iV ((out.length : Int) - 1))), (kPtU [11] (aggC (out[(out.length - 1)]'(by omega)))), (kEq (.agg (aggA (out[(out.length - 1)]'(by omega))))), (kEq (.agg #[(iV (floorA ((l[i]'(by omega)).From) k)), (iV ((l[i]'(by omega)).Count)), (iV ((l[i]'(by omega)).Sum)), (iV ((l[i]'(by omega)).Min)), (iV ((l[i]'(by omega)).Max)), (iV ((l[i]'(by omega)).First)), (iV ((l[i]'(by omega)).Last))])), (kEq (.tuple #[(.agg (aggA ((joinA (out[(out.length - 1)]'(by omega)) (⟨(floorA ((l[i]'(by omega)).From) k), (l[i]'(by omega)).Count, (l[i]'(by omega)).Sum, (l[i]'(by omega)).Min, (l[i]'(by omega)).Max, (l[i]'(by omega)).First, (l[i]'(by omega)).Last⟩ : Agg)).1))), (iV ((joinA (out[(out.length - 1)]'(by omega)) (⟨(floorA ((l[i]'(by omega)).From) k), (l[i]'(by omega)).Count, (l[i]'(by omega)).Sum, (l[i]'(by omega)).Min, (l[i]'(by omega)).Max, (l[i]'(by omega)).First, (l[i]'(by omega)).Last⟩ : Agg)).2))])), (kEq (.tuple #[(.agg (aggA ((joinA (out[(out.length - 1)]'(by omega)) (⟨(floorA ((l[i]'(by omega)).From) k), (l[i]'(by omega)).Count, (l[i]'(by omega)).Sum, (l[i]'(by omega)).Min, (l[i]'(by omega)).Max, (l[i]'(by omega)).First, (l[i]'(by omega)).Last⟩ : Agg)).1))), (iV ((joinA (out[(out.length - 1)]'(by omega)) (⟨(floorA ((l[i]'(by omega)).From) k), (l[i]'(by omega)).Count, (l[i]'(by omega)).Sum, (l[i]'(by omega)).Min, (l[i]'(by omega)).Max, (l[i]'(by omega)).First, (l[i]'(by omega)).Last⟩ : Agg)).2))])), (kEq (.agg (aggA ((joinA (out[(out.length - 1)]'(by omega)) (⟨(floorA ((l[i]'(by omega)).From) k), (l[i]'(by omega)).Count, (l[i]'(by omega)).Sum, (l[i]'(by omega)).Min, (l[i]'(by omega)).Max, (l[i]'(by omega)).First, (l[i]'(by omega)).Last⟩ : Agg)).1)))), (kEq (iV ((joinA (out[(out.length - 1)]'(by omega)) (⟨(floorA ((l[i]'(by omega)).From) k), (l[i]'(by omega)).Count, (l[i]'(by omega)).Sum, (l[i]'(by omega)).Min, (l[i]'(by omega)).Max, (l[i]'(by omega)).First, (l[i]'(by omega)).Last⟩ : Agg)).2))), (kAl w0 11 (fun g356 => [.blk g356 45 #[(iV 0), (iV 0), (iV 0), (iV 0), (iV 0), (iV 0), (iV 0)], .blk g242 45 #[(iV (floorA ((l[i]'(by omega)).From) k)), (iV ((l[i]'(by omega)).Count)), (iV ((l[i]'(by omega)).Sum)), (iV ((l[i]'(by omega)).Min)), (iV ((l[i]'(by omega)).Max)), (iV ((l[i]'(by omega)).First)), (iV ((l[i]'(by omega)).Last))], rowT 45 aggE vo out]) (fun g356 => [.blk g356 45 (aggA ((joinA (out[(out.length - 1)]'(by omega)) (⟨(floorA ((l[i]'(by omega)).From) k), (l[i]'(by omega)).Count, (l[i]'(by omega)).Sum, (l[i]'(by omega)).Min, (l[i]'(by omega)).Max, (l[i]'(by omega)).First, (l[i]'(by omega)).Last⟩ : Agg)).1)), .blk g242 45 #[(iV (floorA ((l[i]'(by omega)).From) k)), (iV ((l[i]'(by omega)).Count)), (iV ((l[i]'(by omega)).Sum)), (iV ((l[i]'(by omega)).Min)), (iV ((l[i]'(by omega)).Max)), (iV ((l[i]'(by omega)).First)), (iV ((l[i]'(by omega)).Last))], rowT 45 aggE vo out])), kAny, (kEq (iV ((joinA (out[(out.length - 1)]'(by omega)) (⟨(floorA ((l[i]'(by omega)).From) k), (l[i]'(by omega)).Count, (l[i]'(by omega)).Sum, (l[i]'(by omega)).Min, (l[i]'(by omega)).Max, (l[i]'(by omega)).First, (l[i]'(by omega)).Last⟩ : Agg)).2)))]) (by kernel_rfl) rfl (by kernel_rfl) ⟨hst.drewW.sub (.cons_cons _ (.cons_cons _ .slnil)), (fun _ => hst.drewW)⟩ ⟨?_, ?_, ?_, ?_, ?_, ?_, ?_, ?_, ?_, ?_, ?_, ?_, ?_, trivial⟩ ?_
     ·rintro D360 ρ361 w362 hD363 hE364 hC365 hJ366 - ⟨f6, _⟩
      have hst := hJ366.2 (not_yet hD363 (fun hm => (hC365 11 0 hm (by kernel_rfl))))
      exact go_plain (op_move vo (f6.trans uw349_6) (kN0 (i := 0) hM359 (by decide) (by exact hJ366) (by exact rfl)))
     ·rintro D367 ρ368 w369 hD370 hE371 hC372 hJ373 - ⟨f9, _⟩
      have hst := hJ373.2 (not_yet hD370 (fun hm => (hC372 11 1 hm (by kernel_rfl))))
      exact go_plain (op_move (iV (out.length : Int)) (f9.trans uw349_9) (kN0 (i := 1) hM359 (by decide) (by exact hJ373) (by exact rfl)))
     ·rintro D374 ρ375 w376 hD377 hE378 hC379 hJ380 - ⟨f58, _⟩
      have hst := hJ380.2 (not_yet hD377 (fun hm => (hC379 11 2 hm (by kernel_rfl))))
      exact go_plain (op_sub (k := .i64) (a := (out.length : Int)) (b := 1) ((out.length : Int) - 1) f58 rfl (xi64 (by omega) (by omega)) (kN0 (i := 2) hM359 (by decide) (by exact hJ380) (by exact rfl)))
     ·rintro D381 ρ382 w383 hD384 hE385 hC386 hJ387 - ⟨f57, f59, _⟩
      have hst := hJ387.2 (not_yet hD384 (fun hm => (hC386 11 3 hm (by kernel_rfl))))
      refine go_plain (op_indexAddrN (E := aggE) (xs := out) (out.length - 1) Tryd.underlying24 Tryd.sizeOf45 f57 (hst.sl 1 rfl) f59 (by omega) (by omega) (fun a388 o389 p390 => ?_))
      exact (kN0 (i := 3) hM359 (by decide) (by exact hJ387) (by exact ⟨_, _, rfl, fun _ => p390⟩))
     ·rintro D391 ρ392 w393 hD394 hE395 hC396 hJ397 - ⟨f60, _⟩
      have hst := hJ397.2 (not_yet hD394 (fun hm => (hC396 11 4 hm (by kernel_rfl))))
      obtain ⟨a398, o399, e400, p401⟩ := f60
      have p401 := p401 (by intro m hm; obtain rfl := List.mem_singleton.1 hm; exact (not_yet hD394 (fun hm => (hC396 11 4 hm (by kernel_rfl)))))
      exact go_plain (op_loadN (cs := (aggC (out[(out.length - 1)]'(by omega)))) Tryd.isAgg45 Tryd.sizeOf45 e400 (Pt.of p401 rfl) rfl (kN0 (i := 4) hM359 (by decide) (by exact hJ397) (by exact rfl)))
     ·rintro D402 ρ403 w404 hD405 hE406 hC407 hJ408 - ⟨f8, _⟩
      have hst := hJ408.2 (not_yet hD405 (fun hm => (hC407 11 5 hm (by kernel_rfl))))
      exact go_plain (op_loadN (cs := [(iV (floorA ((l[i]'(by omega)).From) k)), (iV ((l[i]'(by omega)).Count)), (iV ((l[i]'(by omega)).Sum)), (iV ((l[i]'(by omega)).Min)), (iV ((l[i]'(by omega)).Max)), (iV ((l[i]'(by omega)).First)), (iV ((l[i]'(by omega)).Last))]) Tryd.isAgg45 Tryd.sizeOf45 (f8.trans uw349_8) (Pt.of (hst.cell 0 rfl) rfl) rfl (kN0 (i := 5) hM359 (by decide) (by exact hJ408) (by exact rfl)))
     ·rintro D409 ρ410 w411 hD412 hE413 hC414 hJ415 - ⟨f61, f62, _⟩
      have hst := hJ415.2 (not_yet hD412 (fun hm => (hC414 11 6 hm (by kernel_rfl))))
      refine go_plain (op_call Tryd.call50 (evs_cons (v := (.agg (aggA (out[(out.length - 1)]'(by omega))))) f61 (evs_cons (v := (.agg #[(iV (floorA ((l[i]'(by omega)).From) k)), (iV ((l[i]'(by omega)).Count)), (iV ((l[i]'(by omega)).Sum)), (iV ((l[i]'(by omega)).Min)), (iV ((l[i]'(by omega)).Max)), (iV ((l[i]'(by omega)).First)), (iV ((l[i]'(by omega)).Last))])) f62 evs_nil)) (c_Join (w0 := w411) (a := (out[(out.length - 1)]'(by omega))) (b := (⟨(floorA ((l[i]'(by omega)).From) k), (l[i]'(by omega)).Count, (l[i]'(by omega)).Sum, (l[i]'(by omega)).Min, (l[i]'(by omega)).Max, (l[i]'(by omega)).First, (l[i]'(by omega)).Last⟩ : Agg)) (ha := (hok _ (List.getElem_mem _))) (hb := hro)) ?_)
      rintro _ w416 ⟨rfl, hcall⟩
      refine ⟨_, rfl, ?_⟩
      exact kN (i := 6) hM359 (by decide) hcall.below (by exact ⟨hJ415.1.ext hcall.below, (fun x0 => (hJ415.2 x0).ext hcall.below)⟩) (by exact rfl)
     ·rintro D417 ρ418 w419 hD420 hE421 hC422 hJ423 - ⟨f63, _⟩
      have hst := hJ423.2 (not_yet hD420 (fun hm => (hC422 11 7 hm (by kernel_rfl))))
      exact go_plain (op_move (.tuple #[(.agg (aggA ((joinA (out[(out.length - 1)]'(by omega)) (⟨(floorA ((l[i]'(by omega)).From) k), (l[i]'(by omega)).Count, (l[i]'(by omega)).Sum, (l[i]'(by omega)).Min, (l[i]'(by omega)).Max, (l[i]'(by omega)).First, (l[i]'(by omega)).Last⟩ : Agg)).1))), (iV ((joinA (out[(out.length - 1)]'(by omega)) (⟨(floorA ((l[i]'(by omega)).From) k), (l[i]'(by omega)).Count, (l[i]'(by omega)).Sum, (l[i]'(by omega)).Min, (l[i]'(by omega)).Max, (l[i]'(by omega)).First, (l[i]'(by omega)).Last⟩ : Agg)).2))]) f63 (kN0 (i := 7) hM359 (by decide) (by exact hJ423) (by exact rfl)))
     ·rintro D424 ρ425 w426 hD427 hE428 hC429 hJ430 - ⟨f56, _⟩
      have hst := hJ430.2 (not_yet hD427 (fun hm => (hC429 11 8 hm (by kernel_rfl))))
      exact go_plain (op_extract (.agg (aggA ((joinA (out[(out.length - 1)]'(by omega)) (⟨(floorA ((l[i]'(by omega)).From) k), (l[i]'(by omega)).Count, (l[i]'(by omega)).Sum, (l[i]'(by omega)).Min, (l[i]'(by omega)).Max, (l[i]'(by omega)).First, (l[i]'(by omega)).Last⟩ : Agg)).1))) f56 rfl (kN0 (i := 8) hM359 (by decide) (by exact hJ430) (by exact rfl)))
     ·rintro D431 ρ432 w433 hD434 hE435 hC436 hJ437 - ⟨f56, _⟩
      have hst := hJ437.1
      exact go_plain (op_extract (iV ((joinA (out[(out.length - 1)]'(by omega)) (⟨(floorA ((l[i]'(by omega)).From) k), (l[i]'(by omega)).Count, (l[i]'(by omega)).Sum, (l[i]'(by omega)).Min, (l[i]'(by omega)).Max, (l[i]'(by omega)).First, (l[i]'(by omega)).Last⟩ : Agg)).2)) f56 rfl (kN0 (i := 9) hM359 (by decide) (by exact hJ437) (by exact rfl)))
     ·rintro D438 ρ439 w440 hD441 hE442 hC443 hJ444 - ⟨_⟩
      have hst := hJ444.2 (not_yet hD441 (fun hm => (hC443 11 10 hm (by kernel_rfl))))
      have hst0 := hst
      have hst := St.start w440
      refine go_plain (op_alloc (cs := #[(iV 0), (iV 0), (iV 0), (iV 0), (iV 0), (iV 0), (iV 0)]) hst Tryd.zeroValue45 rfl (fun g445 w446 hst _ => ?_))
      exact kN (i := 10) hM359 (by decide) hst.below (by exact ⟨hJ444.1.ext hst.below, (fun x0 => (hJ444.2 x0).ext hst.below)⟩) (by exact ⟨_, rfl, fun _ => hst0.call hst, fun h => absurd (show D438 11 = true from h) (by rw [(not_yet hD441 (fun hm => (hC443 11 10 hm (by kernel_rfl))))]; decide)⟩)
     ·rintro D447 ρ448 w449 hD450 hE451 hC452 hJ453 - ⟨f10, f64, _⟩
      have hst := hJ453.2 hD450
      obtain ⟨g454, e455, h456, h457⟩ := f10
      have hst := h456 hD450
      have hI459 : stabIX 11 10 D447 0 [(kEq vo), (kEq (iV (out.length : Int))), (kEq (iV ((out.length : Int) - 1))), (kPtU [11] (aggC (out[(out.length - 1)]'(by omega)))), (kEq (.agg (aggA (out[(out.length - 1)]'(by omega))))), (kEq (.agg #[(iV (floorA ((l[i]'(by omega)).From) k)), (iV ((l[i]'(by omega)).Count)), (iV ((l[i]'(by omega)).Sum)), (iV ((l[i]'(by omega)).Min)), (iV ((l[i]'(by omega)).Max)), (iV ((l[i]'(by omega)).First)), (iV ((l[i]'(by omega)).Last))])), (kEq (.tuple #[(.agg (aggA ((joinA (out[(out.length - 1)]'(by omega)) (⟨(floorA ((l[i]'(by omega)).From) k), (l[i]'(by omega)).Count, (l[i]'(by omega)).Sum, (l[i]'(by omega)).Min, (l[i]'(by omega)).Max, (l[i]'(by omega)).First, (l[i]'(by omega)).Last⟩ : Agg)).1))), (iV ((joinA (out[(out.length - 1)]'(by omega)) (⟨(floorA ((l[i]'(by omega)).From) k), (l[i]'(by omega)).Count, (l[i]'(by omega)).Sum, (l[i]'(by omega)).Min, (l[i]'(by omega)).Max, (l[i]'(by omega)).First, (l[i]'(by omega)).Last⟩ : Agg)).2))])), (kEq (.tuple #[(.agg (aggA ((joinA (out[(out.length - 1)]'(by omega)) (⟨(floorA ((l[i]'(by omega)).From) k), (l[i]'(by omega)).Count, (l[i]'(by omega)).Sum, (l[i]'(by omega)).Min, (l[i]'(by omega)).Max, (l[i]'(by omega)).First, (l[i]'(by omega)).Last⟩ : Agg)).1))), (iV ((joinA (out[(out.length - 1)]'(by omega)) (⟨(floorA ((l[i]'(by omega)).From) k), (l[i]'(by omega)).Count, (l[i]'(by omega)).Sum, (l[i]'(by omega)).Min, (l[i]'(by omega)).Max, (l[i]'(by omega)).First, (l[i]'(by omega)).Last⟩ : Agg)).2))])), (kEq (.agg (aggA ((joinA (out[(out.length - 1)]'(by omega)) (⟨(floorA ((l[i]'(by omega)).From) k), (l[i]'(by omega)).Count, (l[i]'(by omega)).Sum, (l[i]'(by omega)).Min, (l[i]'(by omega)).Max, (l[i]'(by omega)).First, (l[i]'(by omega)).Last⟩ : Agg)).1)))), (kEq (iV ((joinA (out[(out.length - 1)]'(by omega)) (⟨(floorA ((l[i]'(by omega)).From) k), (l[i]'(by omega)).Count, (l[i]'(by omega)).Sum, (l[i]'(by omega)).Min, (l[i]'(by omega)).Max, (l[i]'(by omega)).First, (l[i]'(by omega)).Last⟩ : Agg)).2))), (kAl w0 11 (fun g356 => [.blk g356 45 #[(iV 0), (iV 0), (iV 0), (iV 0), (iV 0), (iV 0), (iV 0)], .blk g242 45 #[(iV (floorA ((l[i]'(by omega)).From) k)), (iV ((l[i]'(by omega)).Count)), (iV ((l[i]'(by omega)).Sum)), (iV ((l[i]'(by omega)).Min)), (iV ((l[i]'(by omega)).Max)), (iV ((l[i]'(by omega)).First)), (iV ((l[i]'(by omega)).Last))], rowT 45 aggE vo out]) (fun g356 => [.blk g356 45 (aggA ((joinA (out[(out.length - 1)]'(by omega)) (⟨(floorA ((l[i]'(by omega)).From) k), (l[i]'(by omega)).Count, (l[i]'(by omega)).Sum, (l[i]'(by omega)).Min, (l[i]'(by omega)).Max, (l[i]'(by omega)).First, (l[i]'(by omega)).Last⟩ : Agg)).1)), .blk g242 45 #[(iV (floorA ((l[i]'(by omega)).From) k)), (iV ((l[i]'(by omega)).Count)), (iV ((l[i]'(by omega)).Sum)), (iV ((l[i]'(by omega)).Min)), (iV ((l[i]'(by omega)).Max)), (iV ((l[i]'(by omega)).First)), (iV ((l[i]'(by omega)).Last))], rowT 45 aggE vo out])), kAny, (kEq (iV ((joinA (out[(out.length - 1)]'(by omega)) (⟨(floorA ((l[i]'(by omega)).From) k), (l[i]'(by omega)).Count, (l[i]'(by omega)).Sum, (l[i]'(by omega)).Min, (l[i]'(by omega)).Max, (l[i]'(by omega)).First, (l[i]'(by omega)).Last⟩ : Agg)).2)))] := ⟨Or.inr (Or.inr (Or.inr iEq)), Or.inr (Or.inr (Or.inr iEq)), Or.inr (Or.inr (Or.inr iEq)), Or.inr (Or.inr (Or.inr (iPtU (by decide)))), Or.inr (Or.inr (Or.inr iEq)), Or.inr (Or.inr (Or.inr iEq)), Or.inr (Or.inr (Or.inr iEq)), Or.inr (Or.inr (Or.inr iEq)), Or.inr (Or.inr (Or.inr iEq)), Or.inr (Or.inr (Or.inr iEq)), Or.inr (Or.inl rfl), Or.inl rfl, Or.inr (Or.inr (Or.inr iEq)), trivial⟩
      refine go_plain (op_storeAll hst 0 rfl Tryd.sizeOf45 e455 f64 rfl rfl (by simp [Value.oneCell']) (fun w458 hst => ?_))
      replace hst : St w0 w458 [.blk g454 45 (aggA ((joinA (out[(out.length - 1)]'(by omega)) (⟨(floorA ((l[i]'(by omega)).From) k), (l[i]'(by omega)).Count, (l[i]'(by omega)).Sum, (l[i]'(by omega)).Min, (l[i]'(by omega)).Max, (l[i]'(by omega)).First, (l[i]'(by omega)).Last⟩ : Agg)).1)), .blk g242 45 #[(iV (floorA ((l[i]'(by omega)).From) k)), (iV ((l[i]'(by omega)).Count)), (iV ((l[i]'(by omega)).Sum)), (iV ((l[i]'(by omega)).Min)), (iV ((l[i]'(by omega)).Max)), (iV ((l[i]'(by omega)).First)), (iV ((l[i]'(by omega)).Last))], rowT 45 aggE vo out] := hst
      exact kIx (i := 11) 10 10 rfl hI459 (by exact ⟨hst.sub (.cons _ (.cons_cons _ (.cons_cons _ .slnil))), (fun h => absurd h (fun h => Bool.noConfusion h))⟩) (by exact trivial) (by exact ⟨_, e455, fun h => absurd h (fun h => Bool.noConfusion h), fun _ => hst⟩)
     ·rintro D460 ρ461 w462 hD463 hE464 hC465 hJ466 - ⟨f65, _⟩
      have hst := hJ466.1
      exact go_plain (op_assign (iV ((joinA (out[(out.length - 1)]'(by omega)) (⟨(floorA ((l[i]'(by omega)).From) k), (l[i]'(by omega)).Count, (l[i]'(by omega)).Sum, (l[i]'(by omega)).Min, (l[i]'(by omega)).Max, (l[i]'(by omega)).First, (l[i]'(by omega)).Last⟩ : Agg)).2)) f65 (kN0 (i := 12) hM359 (by decide) (by exact hJ466) (by exact rfl)))
     intro ρ467 w468 Dw468 hallw468 hJw468 hRw468 hkw468
     obtain ⟨g356, uw468_10, _, halw468⟩ := hRw468 10 10 rfl
     have hst := halw468 (hallw468 11 (show 11 < 13 from by decide))
     replace hst : St w0 w468 [.blk g356 45 (aggA ((joinA (out[(out.length - 1)]'(by omega)) (⟨(floorA ((l[i]'(by omega)).From) k), (l[i]'(by omega)).Count, (l[i]'(by omega)).Sum, (l[i]'(by omega)).Min, (l[i]'(by omega)).Max, (l[i]'(by omega)).First, (l[i]'(by omega)).Last⟩ : Agg)).1)), .blk g242 45 #[(iV (floorA ((l[i]'(by omega)).From) k)), (iV ((l[i]'(by omega)).Count)), (iV ((l[i]'(by omega)).Sum)), (iV ((l[i]'(by omega)).Min)), (iV ((l[i]'(by omega)).Max)), (iV ((l[i]'(by omega)).First)), (iV ((l[i]'(by omega)).Last))], rowT 45 aggE vo out] := hst
     have uw468_0 : ρ467 0 = v_l := (hkw468 0 rfl).trans uw349_0
     have uw468_1 : ρ467 1 = (iV k) := (hkw468 1 rfl).trans uw349_1
     have uw468_26 : ρ467 26 = v_l := (hkw468 26 rfl).trans uw349_26
     have uw468_27 : ρ467 27 = (iV (l.length : Int)) := (hkw468 27 rfl).trans uw349_27
     have uw468_28 : ρ467 28 = (iV (i : Int)) := (hkw468 28 rfl).trans uw349_28
     have uw468_6 : ρ467 6 = vo := (hkw468 6 rfl).trans uw349_6
     have uw468_29 : ρ467 29 = (.bool (decide ((i : Int) < (l.length : Int)))) := (hkw468 29 rfl).trans uw349_29
     have uw468_30 : ρ467 30 = (.pointer (some ⟨a239, o240, none⟩)) := (hkw468 30 rfl).trans uw349_30
     have uw468_31 : ρ467 31 = (.agg (aggA (l[i]'(by omega)))) := (hkw468 31 rfl).trans uw349_31
     have uw468_8 : ρ467 8 = (.pointer (some ⟨g242, 0, none⟩)) := (hkw468 8 rfl).trans uw349_8
     have uw468_32 : ρ467 32 = (.pointer (some ⟨g242, (0 + 0), none⟩)) := (hkw468 32 rfl).trans uw349_32
     have uw468_33 : ρ467 33 = (iV ((l[i]'(by omega)).From)) := (hkw468 33 rfl).trans uw349_33
     have uw468_34 : ρ467 34 = (iV k) := (hkw468 34 rfl).trans uw349_34
     have uw468_35 : ρ467 35 = (iV (floorA ((l[i]'(by omega)).From) k)) := (hkw468 35 rfl).trans uw349_35
     have uw468_36 : ρ467 36 = (.pointer (some ⟨g242, (0 + 0), none⟩)) := (hkw468 36 rfl).trans uw349_36
     have uw468_37 : ρ467 37 = vo := (hkw468 37 rfl).trans uw349_37
     have uw468_38 : ρ467 38 = (iV (out.length : Int)) := (hkw468 38 rfl).trans uw349_38
     have uw468_9 : ρ467 9 = (iV (out.length : Int)) := (hkw468 9 rfl).trans uw349_9
     have uw468_51 : ρ467 51 = (.bool (!decide (((out[(out.length - 1)]'(by omega)).From) = (floorA ((l[i]'(by omega)).From) k)))) := (hkw468 51 rfl).trans uw349_51
     have uw468_11 : ρ467 11 = (iV ((joinA (out[(out.length - 1)]'(by omega)) (⟨(floorA ((l[i]'(by omega)).From) k), (l[i]'(by omega)).Count, (l[i]'(by omega)).Sum, (l[i]'(by omega)).Min, (l[i]'(by omega)).Max, (l[i]'(by omega)).First, (l[i]'(by omega)).Last⟩ : Agg)).2)) := hRw468 12 11 rfl
     refine then_n (cE_seq (cE_seq (cE_region rfl (s_cons (op_move (iV ((joinA (out[(out.length - 1)]'(by omega)) (⟨(floorA ((l[i]'(by omega)).From) k), (l[i]'(by omega)).Count, (l[i]'(by omega)).Sum, (l[i]'(by omega)).Min, (l[i]'(by omega)).Max, (l[i]'(by omega)).First, (l[i]'(by omega)).Last⟩ : Agg)).2)) uw468_11 (s_cons (op_neq (k := .i64) (a := (joinA (out[(out.length - 1)]'(by omega)) (⟨(floorA ((l[i]'(by omega)).From) k), (l[i]'(by omega)).Count, (l[i]'(by omega)).Sum, (l[i]'(by omega)).Min, (l[i]'(by omega)).Max, (l[i]'(by omega)).First, (l[i]'(by omega)).Last⟩ : Agg)).2) (b := 0) rfl rfl ?_)))))))
     refine s_nil (then_n ?_)
     rcases Bool.eq_false_or_eq_true (decide (((joinA (out[(out.length - 1)]'(by omega)) (⟨(floorA ((l[i]'(by omega)).From) k), (l[i]'(by omega)).Count, (l[i]'(by omega)).Sum, (l[i]'(by omega)).Min, (l[i]'(by omega)).Max, (l[i]'(by omega)).First, (l[i]'(by omega)).Last⟩ : Agg)).2) = 0)) with b469 | b469
     ·have c470 : ((joinA (out[(out.length - 1)]'(by omega)) (⟨(floorA ((l[i]'(by omega)).From) k), (l[i]'(by omega)).Count, (l[i]'(by omega)).Sum, (l[i]'(by omega)).Min, (l[i]'(by omega)).Max, (l[i]'(by omega)).First, (l[i]'(by omega)).Last⟩ : Agg)).2) = 0 := of_decide_eq_true b469
      refine cE_cond false (congrArg Value.bool (congrArg (! ·) b469)) (fun h => by cases h) (fun _ => ?_)
      refine cE_skip (then_n (cE_region rfl (s_cons (op_move vo uw468_6 (s_cons (op_move (iV (out.length : Int)) uw468_9 (s_cons (op_sub (k := .i64) (a := (out.length : Int)) (b := 1) ((out.length : Int) - 1) rfl rfl (xi64 (by omega) (by omega)) (s_cons (op_loadN (cs := (aggC ((joinA (out[(out.length - 1)]'(by omega)) (⟨(floorA ((l[i]'(by omega)).From) k), (l[i]'(by omega)).Count, (l[i]'(by omega)).Sum, (l[i]'(by omega)).Min, (l[i]'(by omega)).Max, (l[i]'(by omega)).First, (l[i]'(by omega)).Last⟩ : Agg)).1))) Tryd.isAgg45 Tryd.sizeOf45 uw468_10 (Pt.of (hst.cell 0 rfl) rfl) rfl ?_))))))))))
      refine s_cons (op_indexRowN hst 2 rfl (out.length - 1) Tryd.underlying24 Tryd.sizeOf45 rfl rfl (by omega) (by omega) (fun g475 hb474 p473 => ?_))
      refine s_cons0 (op_storeRowN (y := ((joinA (out[(out.length - 1)]'(by omega)) (⟨(floorA ((l[i]'(by omega)).From) k), (l[i]'(by omega)).Count, (l[i]'(by omega)).Sum, (l[i]'(by omega)).Min, (l[i]'(by omega)).Max, (l[i]'(by omega)).First, (l[i]'(by omega)).Last⟩ : Agg)).1)) hst 2 rfl hb474 Tryd.sizeOf45 rfl rfl ((out.length - 1)) rfl (by omega) rfl (fun w476 hst => ?_))
      replace hst : St w0 w476 [.blk g356 45 (aggA ((joinA (out[(out.length - 1)]'(by omega)) (⟨(floorA ((l[i]'(by omega)).From) k), (l[i]'(by omega)).Count, (l[i]'(by omega)).Sum, (l[i]'(by omega)).Min, (l[i]'(by omega)).Max, (l[i]'(by omega)).First, (l[i]'(by omega)).Last⟩ : Agg)).1)), .blk g242 45 #[(iV (floorA ((l[i]'(by omega)).From) k)), (iV ((l[i]'(by omega)).Count)), (iV ((l[i]'(by omega)).Sum)), (iV ((l[i]'(by omega)).Min)), (iV ((l[i]'(by omega)).Max)), (iV ((l[i]'(by omega)).First)), (iV ((l[i]'(by omega)).Last))], rowT 45 aggE vo (out.set ((out.length - 1)) ((joinA (out[(out.length - 1)]'(by omega)) (⟨(floorA ((l[i]'(by omega)).From) k), (l[i]'(by omega)).Count, (l[i]'(by omega)).Sum, (l[i]'(by omega)).Min, (l[i]'(by omega)).Max, (l[i]'(by omega)).First, (l[i]'(by omega)).Last⟩ : Agg)).1))] := hst
      refine s_nil (block_n (then_n (cE_region rfl (s_cons (op_add (k := .i64) (a := (i : Int)) (b := 1) ((i : Int) + 1) uw468_28 rfl (xi64 (by omega) (by omega)) (s_cons (op_move (iV ((i : Int) + 1)) rfl (s_nil (then_n ?_)))))))))
      exact ⟨_, ⟨vo, (out.set ((out.length - 1)) ((joinA (out[(out.length - 1)]'(by omega)) (⟨(floorA ((l[i]'(by omega)).From) k), (l[i]'(by omega)).Count, (l[i]'(by omega)).Sum, (l[i]'(by omega)).Min, (l[i]'(by omega)).Max, (l[i]'(by omega)).First, (l[i]'(by omega)).Last⟩ : Agg)).1)), (i + 1), rfl, uw468_0, uw468_1, uw468_26, uw468_27, (congrArg iV (show ((i : Int) + 1) = _ from by omega)), uw468_6, (hst.sub (.cons _ (.cons _ (.cons_cons _ .slnil)))), (by omega), (by first | exact nil_okA | exact snoc_okA hok hro | exact set_okA hok (joinA_ok (hok _ (List.getElem_mem _)) hro)), (by first | omega | (simp only [List.length_append, List.length_cons, List.length_nil, List.length_set]; omega)), (by first | exact hI.trans (down_new (by omega) (by assumption)) | exact hI.trans (down_next (by omega) (by omega) (by assumption)) | exact hI.trans (down_join (by omega) (by omega) (by assumption) (by assumption)) | exact down_start (by omega) hal hco)⟩, (by simp only [id]; omega)⟩
     have c477 : ¬ (((joinA (out[(out.length - 1)]'(by omega)) (⟨(floorA ((l[i]'(by omega)).From) k), (l[i]'(by omega)).Count, (l[i]'(by omega)).Sum, (l[i]'(by omega)).Min, (l[i]'(by omega)).Max, (l[i]'(by omega)).First, (l[i]'(by omega)).Last⟩ : Agg)).2) = 0) := of_decide_eq_false b469
     refine cE_cond true (congrArg Value.bool (congrArg (! ·) b469)) (fun _ => ?_) (fun h => by cases h)
     refine cE_seq (cE_region rfl (s_cons (op_move (iV ((joinA (out[(out.length - 1)]'(by omega)) (⟨(floorA ((l[i]'(by omega)).From) k), (l[i]'(by omega)).Count, (l[i]'(by omega)).Sum, (l[i]'(by omega)).Min, (l[i]'(by omega)).Max, (l[i]'(by omega)).First, (l[i]'(by omega)).Last⟩ : Agg)).2)) uw468_11 (s_cons (op_assign nS rfl (s_cons (op_assign (iV ((joinA (out[(out.length - 1)]'(by omega)) (⟨(floorA ((l[i]'(by omega)).From) k), (l[i]'(by omega)).Count, (l[i]'(by omega)).Sum, (l[i]'(by omega)).Min, (l[i]'(by omega)).Max, (l[i]'(by omega)).First, (l[i]'(by omega)).Last⟩ : Agg)).2)) rfl ?_)))))))
     refine s_nil (then_n (cE_ret (then_r (block_r (then_r (then_r (block_r (then_r (scope_r (post_r _ (res2 (v := nS) rfl (x := (iV ((joinA (out[(out.length - 1)]'(by omega)) (⟨(floorA ((l[i]'(by omega)).From) k), (l[i]'(by omega)).Count, (l[i]'(by omega)).Sum, (l[i]'(by omega)).Min, (l[i]'(by omega)).Max, (l[i]'(by omega)).First, (l[i]'(by omega)).Last⟩ : Agg)).2))) rfl) ?_))))))))))
     replace hst : St w0 w468 [rowT 45 aggE nS ([]), .blk g356 45 (aggA ((joinA (out[(out.length - 1)]'(by omega)) (⟨(floorA ((l[i]'(by omega)).From) k), (l[i]'(by omega)).Count, (l[i]'(by omega)).Sum, (l[i]'(by omega)).Min, (l[i]'(by omega)).Max, (l[i]'(by omega)).First, (l[i]'(by omega)).Last⟩ : Agg)).1)), .blk g242 45 #[(iV (floorA ((l[i]'(by omega)).From) k)), (iV ((l[i]'(by omega)).Count)), (iV ((l[i]'(by omega)).Sum)), (iV ((l[i]'(by omega)).Min)), (iV ((l[i]'(by omega)).Max)), (iV ((l[i]'(by omega)).First)), (iV ((l[i]'(by omega)).Last))], rowT 45 aggE vo out] := hst.nilRow 45 aggE
     have e478 : [] = (downA l k).1 := by first | exact (congrArg Prod.fst (down_none (Or.inl (by omega)))).symm | exact (congrArg Prod.snd (down_none (Or.inl (by omega)))).symm | exact (congrArg Prod.fst (down_none (Or.inr (Or.inl (by assumption))))).symm | exact (congrArg Prod.snd (down_none (Or.inr (Or.inl (by assumption))))).symm | exact (congrArg Prod.fst (down_none (Or.inr (Or.inr (by assumption))))).symm | exact (congrArg Prod.snd (down_none (Or.inr (Or.inr (by assumption))))).symm | exact (congrArg Prod.fst (hI.trans (down_stop (by omega) (by omega) (by assumption) (by assumption)))).symm | exact (congrArg Prod.snd (hI.trans (down_stop (by omega) (by omega) (by assumption) (by assumption)))).symm | exact (congrArg Prod.fst (hI.trans (down_end (by omega)))).symm | exact (congrArg Prod.snd (hI.trans (down_end (by omega)))).symm
     replace hst : St w0 w468 [rowT 45 aggE nS ((downA l k).1), .blk g356 45 (aggA ((joinA (out[(out.length - 1)]'(by omega)) (⟨(floorA ((l[i]'(by omega)).From) k), (l[i]'(by omega)).Count, (l[i]'(by omega)).Sum, (l[i]'(by omega)).Min, (l[i]'(by omega)).Max, (l[i]'(by omega)).First, (l[i]'(by omega)).Last⟩ : Agg)).1)), .blk g242 45 #[(iV (floorA ((l[i]'(by omega)).From) k)), (iV ((l[i]'(by omega)).Count)), (iV ((l[i]'(by omega)).Sum)), (iV ((l[i]'(by omega)).Min)), (iV ((l[i]'(by omega)).Max)), (iV ((l[i]'(by omega)).First)), (iV ((l[i]'(by omega)).Last))], rowT 45 aggE vo out] := by rw [congrArg (fun l => rowT 45 aggE nS l) e478] at hst; exact hst
     exact ⟨nS, (retv2 rfl (congrArg iV (show (joinA (out[(out.length - 1)]'(by omega)) (⟨(floorA ((l[i]'(by omega)).From) k), (l[i]'(by omega)).Count, (l[i]'(by omega)).Sum, (l[i]'(by omega)).Min, (l[i]'(by omega)).Max, (l[i]'(by omega)).First, (l[i]'(by omega)).Last⟩ : Agg)).2 = (downA l k).2 from by first | exact (congrArg Prod.fst (down_none (Or.inl (by omega)))).symm | exact (congrArg Prod.snd (down_none (Or.inl (by omega)))).symm | exact (congrArg Prod.fst (down_none (Or.inr (Or.inl (by assumption))))).symm | exact (congrArg Prod.snd (down_none (Or.inr (Or.inl (by assumption))))).symm | exact (congrArg Prod.fst (down_none (Or.inr (Or.inr (by assumption))))).symm | exact (congrArg Prod.snd (down_none (Or.inr (Or.inr (by assumption))))).symm | exact (congrArg Prod.fst (hI.trans (down_stop (by omega) (by omega) (by assumption) (by assumption)))).symm | exact (congrArg Prod.snd (hI.trans (down_stop (by omega) (by omega) (by assumption) (by assumption)))).symm | exact (congrArg Prod.fst (hI.trans (down_end (by omega)))).symm | exact (congrArg Prod.snd (hI.trans (down_end (by omega)))).symm))), hst.sub (.cons_cons _ (.cons _ (.cons _ (.cons _ .slnil))))⟩
    have c479 : ¬ (((out[(out.length - 1)]'(by omega)).From) = (floorA ((l[i]'(by omega)).From) k)) := of_decide_eq_false b350
    refine cE_cond true (uw349_51.trans (congrArg Value.bool (congrArg (! ·) b350))) (fun _ => ?_) (fun h => by cases h)
    refine cE_seq (cE_region rfl (s_cons (op_move vo uw349_6 (s_cons (op_loadN (cs := [(iV (floorA ((l[i]'(by omega)).From) k)), (iV ((l[i]'(by omega)).Count)), (iV ((l[i]'(by omega)).Sum)), (iV ((l[i]'(by omega)).Min)), (iV ((l[i]'(by omega)).Max)), (iV ((l[i]'(by omega)).First)), (iV ((l[i]'(by omega)).Last))]) Tryd.isAgg45 Tryd.sizeOf45 uw349_8 (Pt.of (hst.cell 0 rfl) rfl) rfl (s_cons (op_buildSlice (E := aggE) [(⟨(floorA ((l[i]'(by omega)).From) k), (l[i]'(by omega)).Count, (l[i]'(by omega)).Sum, (l[i]'(by omega)).Min, (l[i]'(by omega)).Max, (l[i]'(by omega)).First, (l[i]'(by omega)).Last⟩ : Agg)] hst Tryd.underlying24 Tryd.sizeOf45 Tryd.zeroValue45 (evp_cons (v := (.agg #[(iV (floorA ((l[i]'(by omega)).From) k)), (iV ((l[i]'(by omega)).Count)), (iV ((l[i]'(by omega)).Sum)), (iV ((l[i]'(by omega)).Min)), (iV ((l[i]'(by omega)).Max)), (iV ((l[i]'(by omega)).First)), (iV ((l[i]'(by omega)).Last))])) rfl evp_nil) (parts_cons rfl parts_nil) rfl (by decide) (fun v480 w481 hst => ?_))))))))
    replace hst : St w0 w481 [rowT 45 aggE v480 ([(⟨(floorA ((l[i]'(by omega)).From) k), (l[i]'(by omega)).Count, (l[i]'(by omega)).Sum, (l[i]'(by omega)).Min, (l[i]'(by omega)).Max, (l[i]'(by omega)).First, (l[i]'(by omega)).Last⟩ : Agg)]), .blk g242 45 #[(iV (floorA ((l[i]'(by omega)).From) k)), (iV ((l[i]'(by omega)).Count)), (iV ((l[i]'(by omega)).Sum)), (iV ((l[i]'(by omega)).Min)), (iV ((l[i]'(by omega)).Max)), (iV ((l[i]'(by omega)).First)), (iV ((l[i]'(by omega)).Last))], rowT 45 aggE vo out] := hst
    refine s_cons (op_append (E := aggE) (xs := out) (ys := [(⟨(floorA ((l[i]'(by omega)).From) k), (l[i]'(by omega)).Count, (l[i]'(by omega)).Sum, (l[i]'(by omega)).Min, (l[i]'(by omega)).Max, (l[i]'(by omega)).First, (l[i]'(by omega)).Last⟩ : Agg)]) (z := (.agg #[(iV 0), (iV 0), (iV 0), (iV 0), (iV 0), (iV 0), (iV 0)])) (bytes := 56) hst 2 rfl Tryd.underlying24 (by kernel_rfl) rfl rfl rfl (hst.sl 0 rfl) (by first | omega | (simp; omega) | (simp; done)) (by first | omega | (simp; omega) | (simp; done)) (fun v482 w483 hst => ?_))
    replace hst : St w0 w483 [rowT 45 aggE v480 ([(⟨(floorA ((l[i]'(by omega)).From) k), (l[i]'(by omega)).Count, (l[i]'(by omega)).Sum, (l[i]'(by omega)).Min, (l[i]'(by omega)).Max, (l[i]'(by omega)).First, (l[i]'(by omega)).Last⟩ : Agg)]), .blk g242 45 #[(iV (floorA ((l[i]'(by omega)).From) k)), (iV ((l[i]'(by omega)).Count)), (iV ((l[i]'(by omega)).Sum)), (iV ((l[i]'(by omega)).Min)), (iV ((l[i]'(by omega)).Max)), (iV ((l[i]'(by omega)).First)), (iV ((l[i]'(by omega)).Last))], rowT 45 aggE v482 (out ++ ([(⟨(floorA ((l[i]'(by omega)).From) k), (l[i]'(by omega)).Count, (l[i]'(by omega)).Sum, (l[i]'(by omega)).Min, (l[i]'(by omega)).Max, (l[i]'(by omega)).First, (l[i]'(by omega)).Last⟩ : Agg)]))] := hst
    refine s_cons (op_assign v482 rfl (s_nil (then_n (cE_exit (then_x (block_hit (then_n (cE_region rfl (s_cons (op_add (k := .i64) (a := (i : Int)) (b := 1) ((i : Int) + 1) uw349_28 rfl (xi64 (by omega) (by omega)) (s_cons (op_move (iV ((i : Int) + 1)) rfl (s_nil (then_n ?_))))))))))))))
    exact ⟨_, ⟨v482, (out ++ ([(⟨(floorA ((l[i]'(by omega)).From) k), (l[i]'(by omega)).Count, (l[i]'(by omega)).Sum, (l[i]'(by omega)).Min, (l[i]'(by omega)).Max, (l[i]'(by omega)).First, (l[i]'(by omega)).Last⟩ : Agg)])), (i + 1), rfl, uw349_0, uw349_1, uw349_26, uw349_27, (congrArg iV (show ((i : Int) + 1) = _ from by omega)), rfl, (hst.sub (.cons _ (.cons _ (.cons_cons _ .slnil)))), (by omega), (by first | exact nil_okA | exact snoc_okA hok hro | exact set_okA hok (joinA_ok (hok _ (List.getElem_mem _)) hro)), (by first | omega | (simp only [List.length_append, List.length_cons, List.length_nil, List.length_set]; omega)), (by first | exact hI.trans (down_new (by omega) (by assumption)) | exact hI.trans (down_next (by omega) (by omega) (by assumption)) | exact hI.trans (down_join (by omega) (by omega) (by assumption) (by assumption)) | exact down_start (by omega) hal hco)⟩, (by simp only [id]; omega)⟩
   have c484 : ¬ ((i : Int) < (l.length : Int)) := of_decide_eq_false b237
   refine cE_cond false (congrArg Value.bool b237) (fun h => by cases h) (fun _ => ?_)
   refine cE_exit (then_x (then_x (block_hit (then_n (cE_seq (cE_region rfl (s_cons (op_move vo q233_6 (s_cons (op_assign vo rfl (s_cons (op_assign (iV 0) rfl (s_nil (then_n (cE_ret (scope_r (post_r _ (res2 (v := vo) rfl (x := (iV 0)) rfl) ?_)))))))))))))))))
   have e485 : out = (downA l k).1 := by first | exact (congrArg Prod.fst (down_none (Or.inl (by omega)))).symm | exact (congrArg Prod.snd (down_none (Or.inl (by omega)))).symm | exact (congrArg Prod.fst (down_none (Or.inr (Or.inl (by assumption))))).symm | exact (congrArg Prod.snd (down_none (Or.inr (Or.inl (by assumption))))).symm | exact (congrArg Prod.fst (down_none (Or.inr (Or.inr (by assumption))))).symm | exact (congrArg Prod.snd (down_none (Or.inr (Or.inr (by assumption))))).symm | exact (congrArg Prod.fst (hI.trans (down_stop (by omega) (by omega) (by assumption) (by assumption)))).symm | exact (congrArg Prod.snd (hI.trans (down_stop (by omega) (by omega) (by assumption) (by assumption)))).symm | exact (congrArg Prod.fst (hI.trans (down_end (by omega)))).symm | exact (congrArg Prod.snd (hI.trans (down_end (by omega)))).symm
   replace hst : St w0 w236 [rowT 45 aggE vo ((downA l k).1)] := by rw [congrArg (fun l => rowT 45 aggE vo l) e485] at hst; exact hst
   exact ⟨vo, (retv2 rfl (congrArg iV (show 0 = (downA l k).2 from by first | exact (congrArg Prod.fst (down_none (Or.inl (by omega)))).symm | exact (congrArg Prod.snd (down_none (Or.inl (by omega)))).symm | exact (congrArg Prod.fst (down_none (Or.inr (Or.inl (by assumption))))).symm | exact (congrArg Prod.snd (down_none (Or.inr (Or.inl (by assumption))))).symm | exact (congrArg Prod.fst (down_none (Or.inr (Or.inr (by assumption))))).symm | exact (congrArg Prod.snd (down_none (Or.inr (Or.inr (by assumption))))).symm | exact (congrArg Prod.fst (hI.trans (down_stop (by omega) (by omega) (by assumption) (by assumption)))).symm | exact (congrArg Prod.snd (hI.trans (down_stop (by omega) (by omega) (by assumption) (by assumption)))).symm | exact (congrArg Prod.fst (hI.trans (down_end (by omega)))).symm | exact (congrArg Prod.snd (hI.trans (down_end (by omega)))).symm))), hst.sub (.cons_cons _ .slnil)⟩
  refine cE_cond true (congrArg Value.bool (congrArg (! ·) b232)) (fun _ => ?_) (fun h => by cases h)
  refine cE_seq (cE_region rfl (s_cons (op_assign nS rfl (s_cons (op_assign (iV 1) rfl (s_nil (then_n (cE_ret (then_r (scope_r (post_r _ (res2 (v := nS) rfl (x := (iV 1)) rfl) ?_)))))))))))
  replace hst : St w0 w231 [rowT 45 aggE nS ([])] := hst.nilRow 45 aggE
  have e486 : [] = (downA l k).1 := by first | exact (congrArg Prod.fst (down_none (Or.inl (by omega)))).symm | exact (congrArg Prod.snd (down_none (Or.inl (by omega)))).symm | exact (congrArg Prod.fst (down_none (Or.inr (Or.inl (by assumption))))).symm | exact (congrArg Prod.snd (down_none (Or.inr (Or.inl (by assumption))))).symm | exact (congrArg Prod.fst (down_none (Or.inr (Or.inr (by assumption))))).symm | exact (congrArg Prod.snd (down_none (Or.inr (Or.inr (by assumption))))).symm | exact (congrArg Prod.fst (hI.trans (down_stop (by omega) (by omega) (by assumption) (by assumption)))).symm | exact (congrArg Prod.snd (hI.trans (down_stop (by omega) (by omega) (by assumption) (by assumption)))).symm | exact (congrArg Prod.fst (hI.trans (down_end (by omega)))).symm | exact (congrArg Prod.snd (hI.trans (down_end (by omega)))).symm
  replace hst : St w0 w231 [rowT 45 aggE nS ((downA l k).1)] := by rw [congrArg (fun l => rowT 45 aggE nS l) e486] at hst; exact hst
  exact ⟨nS, (retv2 rfl (congrArg iV (show 1 = (downA l k).2 from by first | exact (congrArg Prod.fst (down_none (Or.inl (by omega)))).symm | exact (congrArg Prod.snd (down_none (Or.inl (by omega)))).symm | exact (congrArg Prod.fst (down_none (Or.inr (Or.inl (by assumption))))).symm | exact (congrArg Prod.snd (down_none (Or.inr (Or.inl (by assumption))))).symm | exact (congrArg Prod.fst (down_none (Or.inr (Or.inr (by assumption))))).symm | exact (congrArg Prod.snd (down_none (Or.inr (Or.inr (by assumption))))).symm | exact (congrArg Prod.fst (hI.trans (down_stop (by omega) (by omega) (by assumption) (by assumption)))).symm | exact (congrArg Prod.snd (hI.trans (down_stop (by omega) (by omega) (by assumption) (by assumption)))).symm | exact (congrArg Prod.fst (hI.trans (down_end (by omega)))).symm | exact (congrArg Prod.snd (hI.trans (down_end (by omega)))).symm))), hst.sub (.cons_cons _ .slnil)⟩
 refine s_no 21 rfl (congrArg Value.bool (congrArg (! ·) b230)) (s_no 21 rfl (congrArg Value.bool (congrArg (! ·) b230)) (s_no 21 rfl (congrArg Value.bool (congrArg (! ·) b230)) (s_cons (op_pick_t (.bool true) (congrArg Value.bool (congrArg (! ·) b230)) rfl (s_nil (then_n (cE_cond true rfl (fun _ => ?_) (fun h => by cases h))))))))
 refine cE_seq (cE_region rfl (s_cons (op_assign nS rfl (s_cons (op_assign (iV 1) rfl (s_nil (then_n (cE_ret (then_r (scope_r (post_r _ (res2 (v := nS) rfl (x := (iV 1)) rfl) ?_)))))))))))
 replace hst : St w0 w229 [rowT 45 aggE nS ([])] := hst.nilRow 45 aggE
 have e487 : [] = (downA l k).1 := by first | exact (congrArg Prod.fst (down_none (Or.inl (by omega)))).symm | exact (congrArg Prod.snd (down_none (Or.inl (by omega)))).symm | exact (congrArg Prod.fst (down_none (Or.inr (Or.inl (by assumption))))).symm | exact (congrArg Prod.snd (down_none (Or.inr (Or.inl (by assumption))))).symm | exact (congrArg Prod.fst (down_none (Or.inr (Or.inr (by assumption))))).symm | exact (congrArg Prod.snd (down_none (Or.inr (Or.inr (by assumption))))).symm | exact (congrArg Prod.fst (hI.trans (down_stop (by omega) (by omega) (by assumption) (by assumption)))).symm | exact (congrArg Prod.snd (hI.trans (down_stop (by omega) (by omega) (by assumption) (by assumption)))).symm | exact (congrArg Prod.fst (hI.trans (down_end (by omega)))).symm | exact (congrArg Prod.snd (hI.trans (down_end (by omega)))).symm
 replace hst : St w0 w229 [rowT 45 aggE nS ((downA l k).1)] := by rw [congrArg (fun l => rowT 45 aggE nS l) e487] at hst; exact hst
 exact ⟨nS, (retv2 rfl (congrArg iV (show 1 = (downA l k).2 from by first | exact (congrArg Prod.fst (down_none (Or.inl (by omega)))).symm | exact (congrArg Prod.snd (down_none (Or.inl (by omega)))).symm | exact (congrArg Prod.fst (down_none (Or.inr (Or.inl (by assumption))))).symm | exact (congrArg Prod.snd (down_none (Or.inr (Or.inl (by assumption))))).symm | exact (congrArg Prod.fst (down_none (Or.inr (Or.inr (by assumption))))).symm | exact (congrArg Prod.snd (down_none (Or.inr (Or.inr (by assumption))))).symm | exact (congrArg Prod.fst (hI.trans (down_stop (by omega) (by omega) (by assumption) (by assumption)))).symm | exact (congrArg Prod.snd (hI.trans (down_stop (by omega) (by omega) (by assumption) (by assumption)))).symm | exact (congrArg Prod.fst (hI.trans (down_end (by omega)))).symm | exact (congrArg Prod.snd (hI.trans (down_end (by omega)))).symm))), hst.sub (.cons_cons _ .slnil)⟩

end Go.Proofs.YtgibfidebdgffaaDoor
