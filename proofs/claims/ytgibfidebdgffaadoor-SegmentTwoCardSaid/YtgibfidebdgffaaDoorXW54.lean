/- segment.joined -/
import Derived.Test.YtgibfidebdgffaaDoorXLB
import Derived.Test.YtgibfidebdgffaaDoorXW5
namespace Go.Proofs.YtgibfidebdgffaaDoor
open Go.RowKit

set_option maxRecDepth 8000 in
set_option maxHeartbeats 4000000 in
theorem c_joined (w0 : World) (v_l : Value) (l : List Agg) (h_l : Sl w0 aggE v_l l) (hup : l.Pairwise fun a b => a.From < b.From) (hll : l.length ≤ 1000000) :
  Calls Tryd.prog 35 #[v_l] w0 fun e w' => ∃ (r : Value), e = .returned (.tuple #[r, (iV 0)]) ∧ St w0 w' [rowT 45 aggE r l] := by
 refine calls_E (n := 55) (ts := [2, 3]) Tryd.func35 rfl rfl rfl (by simp) ?_
 have hst := St.start w0
 refine cE_seq (cE_region rfl (s_cons (op_assign nS rfl (s_cons (op_assign (iV 0) rfl (s_nil (then_n (cE_scope (cE_seq (cE_region rfl (s_cons (op_assign nS rfl (s_nil (then_n (cE_seq (cE_label (then_n (cE_seq (cE_seq (cE_region rfl (s_cons (op_move v_l rfl (s_cons (op_len (E := aggE) (xs := l) Tryd.underlying24 rfl h_l (s_cons (op_move (iV 0) rfl (s_nil (then_n (cE_block ?_)))))))))))))))))))))))))))))
 replace hst : St w0 w0 [rowT 45 aggE nS ([])] := hst.nilRow 45 aggE
 refine cE_loop (fun (m : Nat) (ρ : Env) (w : World) => ∃ (vo : Value) (i : Nat), m = l.length - i ∧ ρ 0 = v_l ∧ ρ 10 = v_l ∧ ρ 11 = (iV (l.length : Int)) ∧ ρ 12 = (iV (i : Int)) ∧ ρ 4 = vo ∧ St w0 w [rowT 45 aggE vo (l.take i)] ∧ (i ≤ l.length)) id _ ⟨nS, 0, rfl, rfl, rfl, rfl, (congrArg iV (show 0 = _ from by omega)), rfl, (by have h := hst; first | exact h | (refine (?_ : St _ _ _); simpa using h)), (by omega)⟩ ?_
 rintro m2 ρ3 w4 ⟨vo, i, hm2, q1_0, q1_10, q1_11, q1_12, q1_4, hst, hi⟩
 have hlen := h_l.len
 have htl : (l.take i).length ≤ i := by rw [List.length_take]; omega
 refine cE_seq (cE_region rfl (s_cons (op_lss (k := .i64) (a := (i : Int)) (b := (l.length : Int)) q1_12 q1_11 (s_nil (then_n (cE_seq ?_))))))
 rcases Bool.eq_false_or_eq_true (decide ((i : Int) < (l.length : Int))) with b5 | b5
 ·have c6 : (i : Int) < (l.length : Int) := of_decide_eq_true b5
  refine cE_cond true (congrArg Value.bool b5) (fun _ => ?_) (fun h => by cases h)
  refine cE_skip (then_n (cE_seq (cE_block (cE_seq (cE_region rfl (s_cons (op_indexAddrN (E := aggE) (xs := l) i Tryd.underlying24 Tryd.sizeOf45 q1_10 h_l q1_12 (by omega) (by omega) (fun a7 o8 p9 => ?_))))))))
  refine s_cons (op_loadN (cs := (aggC (l[i]'(by omega)))) Tryd.isAgg45 Tryd.sizeOf45 rfl (Pt.of (p9.below hst.below) rfl) rfl (s_cons (op_alloc (cs := #[(iV 0), (iV 0), (iV 0), (iV 0), (iV 0), (iV 0), (iV 0)]) hst Tryd.zeroValue45 rfl (fun g10 w11 hst _ => ?_))))
  replace hst : St w0 w11 [.blk g10 45 #[(iV 0), (iV 0), (iV 0), (iV 0), (iV 0), (iV 0), (iV 0)], rowT 45 aggE vo (l.take i)] := hst
  refine s_cons0 (op_storeAll hst 0 rfl Tryd.sizeOf45 rfl rfl rfl rfl (by simp [Value.oneCell']) (fun w12 hst => ?_))
  replace hst : St w0 w12 [.blk g10 45 (aggA (l[i]'(by omega))), rowT 45 aggE vo (l.take i)] := hst
  refine s_nil (then_n (cE_seq (cE_region rfl (s_cons (op_move vo q1_4 (s_cons (op_len (E := aggE) (xs := (l.take i)) Tryd.underlying24 rfl (hst.sl 1 rfl) (s_cons (op_assign (iV ((l.take i).length : Int)) rfl (s_nil (then_n (cE_seq (cE_seq ?_)))))))))))))
  obtain ⟨g13, hg14⟩ : ∃ x : Bool, x = !(decide (((l.take i).length : Int) = 0)) := ⟨_, rfl⟩
  obtain ⟨g54, hg55⟩ : ∃ x : Bool, x = ((decide (((l.take i).length : Int) = 0)) || (!decide (((gd (l.take i) ((l.take i).length - 1)).From) = ((l[i]'(by omega)).From)))) := ⟨_, rfl⟩
  refine cE_regionM (fun (D : Nat → Bool) (w : World) => St w0 w [.blk g10 45 (aggA (l[i]'(by omega))), rowT 45 aggE vo (l.take i)] ∧ (St w0 w [.blk g10 45 (aggA (l[i]'(by omega))), rowT 45 aggE vo (l.take i)])) [[(7, none)], [(18, some 0)], [(19, some 1)], [(4, none), (20, some 2)], [(7, none), (20, some 2)], [(22, some 4), (20, some 2)], [(21, some 3), (23, some 5), (20, some 2)], [(24, some 6), (20, some 2)], [(25, some 7), (20, some 2)], [(6, none), (20, some 2)], [(27, some 9), (20, some 2)], [(26, some 8), (28, some 10), (20, some 2)], [(20, some 2), (29, some 11)]] [] [(kEq (iV ((l.take i).length : Int))), (kEq (.bool (decide (((l.take i).length : Int) = 0)))), (kEq (.bool (decide (((l.take i).length : Int) = 0)))), (kEq (bif g13 then vo else undef)), (kEq (bif g13 then (iV ((l.take i).length : Int)) else undef)), (kEq (bif g13 then (iV (((l.take i).length : Int) - 1)) else undef)), (kPtUc g13 (aggC (gd (l.take i) ((l.take i).length - 1)))), (kPtUc g13 (aggC (gd (l.take i) ((l.take i).length - 1)))), (kEq (bif g13 then (iV ((gd (l.take i) ((l.take i).length - 1)).From)) else undef)), (kEq (bif g13 then (.pointer (some ⟨g10, (0 + 0), none⟩)) else undef)), (kEq (bif g13 then (iV ((l[i]'(by omega)).From)) else undef)), (kEq (bif g13 then (.bool (!decide (((gd (l.take i) ((l.take i).length - 1)).From) = ((l[i]'(by omega)).From)))) else undef)), (kEq (.bool g54))] ⟨mEq, mEq, mEq, mEq, mEq, mEq, mPtUc, mPtUc, mEq, mEq, mEq, mEq, mEq, trivial⟩ (by kernel_rfl) rfl (by kernel_rfl) ⟨hst.drewW.sub (.cons_cons _ (.cons_cons _ .slnil)), hst.drewW⟩ (fun hM => ⟨?_, ?_, ?_, ?_, ?_, ?_, ?_, ?_, ?_, ?_, ?_, ?_, ?_, trivial⟩) ?_
  ·rintro D ρo wo nD eD cD jD aD ⟨f7, _⟩
   exact go_plain (op_move (iV ((l.take i).length : Int)) (f7.trans rfl) (kN0 (i := 0) hM (by decide) (by exact jD) (by exact rfl)))
  ·rintro D ρo wo nD eD cD jD aD ⟨f18, _⟩
   exact go_plain (op_eql (k := .i64) (a := ((l.take i).length : Int)) (b := 0) f18 rfl (kN0 (i := 1) hM (by decide) (by exact jD) (by exact rfl)))
  ·rintro D ρo wo nD eD cD jD aD ⟨f19, _⟩
   exact go_plain (op_move (.bool (decide (((l.take i).length : Int) = 0))) f19 (kN0 (i := 2) hM (by decide) (by exact jD) (by exact rfl)))
  ·rintro D ρo wo nD eD cD jD aD ⟨f4, f20, _⟩
   refine go_lz 20 rfl ((gA_f f20).trans hg14.symm) ?_ (fun hc57 => (kN0 (i := 3) hM (by decide) (by exact jD) (by exact (gf hc57).symm)))
   intro hc57
   exact id (op_move vo (f4.trans q1_4) (kN0 (i := 3) hM (by decide) (by exact jD) (by exact (gt hc57).symm)))
  ·rintro D ρo wo nD eD cD jD aD ⟨f7, f20, _⟩
   refine go_lz 20 rfl ((gA_f f20).trans hg14.symm) ?_ (fun hc58 => (kN0 (i := 4) hM (by decide) (by exact jD) (by exact (gf hc58).symm)))
   intro hc58
   exact id (op_move (iV ((l.take i).length : Int)) (f7.trans rfl) (kN0 (i := 4) hM (by decide) (by exact jD) (by exact (gt hc58).symm)))
  ·rintro D ρo wo nD eD cD jD aD ⟨f22, f20, _⟩
   refine go_lz 20 rfl ((gA_f f20).trans hg14.symm) ?_ (fun hc59 => (kN0 (i := 5) hM (by decide) (by exact jD) (by exact (gf hc59).symm)))
   intro hc59
   have c60 : ¬ (((l.take i).length : Int) = 0) := of_decide_eq_false (not_t (hg14.symm.trans hc59))
   exact id (op_sub (k := .i64) (a := ((l.take i).length : Int)) (b := 1) (((l.take i).length : Int) - 1) (f22.trans (gt hc59)) rfl (xi64 (by omega) (by omega)) (kN0 (i := 5) hM (by decide) (by exact jD) (by exact (gt hc59).symm)))
  ·rintro D ρo wo nD eD cD jD aD ⟨f21, f23, f20, _⟩
   refine go_lz 20 rfl ((gA_f f20).trans hg14.symm) ?_ (fun hc61 => (kN0 (i := 6) hM (by decide) (by exact jD) (by exact fun h => absurd (show _ = true from h) (by rw [hc61]; decide))))
   intro hc61
   have c62 : ¬ (((l.take i).length : Int) = 0) := of_decide_eq_false (not_t (hg14.symm.trans hc61))
   have hst := jD.2 
   replace hst : St w0 wo [.blk g10 45 (aggA (l[i]'(by omega))), rowT 45 aggE vo (l.take i)] := hst
   refine id (op_indexAddrD (E := aggE) (xs := (l.take i)) ((l.take i).length - 1) Tryd.underlying24 Tryd.sizeOf45 (f21.trans (gt hc61)) (hst.sl 1 rfl) (f23.trans (gt hc61)) (by omega) (by omega) (fun a63 o64 p65 => ?_))
   exact (kN0 (i := 6) hM (by decide) (by exact jD) (by exact fun _ => ⟨_, _, rfl, p65⟩))
  ·rintro D ρo wo nD eD cD jD aD ⟨f24, f20, _⟩
   refine go_lz 20 rfl ((gA_f f20).trans hg14.symm) ?_ (fun hc66 => (kN0 (i := 7) hM (by decide) (by exact jD) (by exact fun h => absurd (show _ = true from h) (by rw [hc66]; decide))))
   intro hc66
   obtain ⟨a67, o68, e69, p70⟩ := f24 hc66
   exact id (op_fieldAddr (s := 0) Tryd.underlying45 rfl rfl Tryd.sizeOf2 e69 (kN0 (i := 7) hM (by decide) (by exact jD) (by exact fun _ => ⟨_, _, rfl, p70⟩)))
  ·rintro D ρo wo nD eD cD jD aD ⟨f25, f20, _⟩
   refine go_lz 20 rfl ((gA_f f20).trans hg14.symm) ?_ (fun hc71 => (kN0 (i := 8) hM (by decide) (by exact jD) (by exact (gf hc71).symm)))
   intro hc71
   obtain ⟨a72, o73, e74, p75⟩ := f25 hc71
   exact id (op_load1 (u := (iV ((gd (l.take i) ((l.take i).length - 1)).From))) Tryd.isAgg2 e74 p75 (kN0 (i := 8) hM (by decide) (by exact jD) (by exact (gt hc71).symm)))
  ·rintro D ρo wo nD eD cD jD aD ⟨f6, f20, _⟩
   refine go_lz 20 rfl ((gA_f f20).trans hg14.symm) ?_ (fun hc76 => (kN0 (i := 9) hM (by decide) (by exact jD) (by exact (gf hc76).symm)))
   intro hc76
   exact id (op_fieldAddr (s := 0) Tryd.underlying45 rfl rfl Tryd.sizeOf2 (f6.trans rfl) (kN0 (i := 9) hM (by decide) (by exact jD) (by exact (gt hc76).symm)))
  ·rintro D ρo wo nD eD cD jD aD ⟨f27, f20, _⟩
   refine go_lz 20 rfl ((gA_f f20).trans hg14.symm) ?_ (fun hc77 => (kN0 (i := 10) hM (by decide) (by exact jD) (by exact (gf hc77).symm)))
   intro hc77
   have hst := jD.2 
   replace hst : St w0 wo [.blk g10 45 (aggA (l[i]'(by omega))), rowT 45 aggE vo (l.take i)] := hst
   exact id (op_load1 (u := (iV ((l[i]'(by omega)).From))) Tryd.isAgg2 (f27.trans (gt hc77)) (hst.cell 0 rfl) (kN0 (i := 10) hM (by decide) (by exact jD) (by exact (gt hc77).symm)))
  ·rintro D ρo wo nD eD cD jD aD ⟨f26, f28, f20, _⟩
   refine go_lz 20 rfl ((gA_f f20).trans hg14.symm) ?_ (fun hc78 => (kN0 (i := 11) hM (by decide) (by exact jD) (by exact (gf hc78).symm)))
   intro hc78
   exact id (op_neq (k := .i64) (a := (gd (l.take i) ((l.take i).length - 1)).From) (b := (l[i]'(by omega)).From) (f26.trans (gt hc78)) (f28.trans (gt hc78)) (kN0 (i := 11) hM (by decide) (by exact jD) (by exact (gt hc78).symm)))
  ·rintro D ρo wo nD eD cD jD aD ⟨f20, f29, _⟩
   refine go_plain (op_pick_or f20 rfl f29 (fun hp => (hg14.trans (congrArg (! ·) hp))) ?_)
   exact (kN0 (i := 12) hM (by decide) (by exact jD) (by exact (congrArg Value.bool hg55.symm)))
  intro ρ79 w80 Dw80 hallw80 hJw80 hRw80 hkw80
  have hst : St w0 w80 [.blk g10 45 (aggA (l[i]'(by omega))), rowT 45 aggE vo (l.take i)] := hJw80.2 
  have uw80_0 : ρ79 0 = v_l := (hkw80 0 rfl).trans q1_0
  have uw80_10 : ρ79 10 = v_l := (hkw80 10 rfl).trans q1_10
  have uw80_11 : ρ79 11 = (iV (l.length : Int)) := (hkw80 11 rfl).trans q1_11
  have uw80_12 : ρ79 12 = (iV (i : Int)) := (hkw80 12 rfl).trans q1_12
  have uw80_4 : ρ79 4 = vo := (hkw80 4 rfl).trans q1_4
  have uw80_13 : ρ79 13 = (.bool (decide ((i : Int) < (l.length : Int)))) := (hkw80 13 rfl).trans rfl
  have uw80_14 : ρ79 14 = (.pointer (some ⟨a7, o8, none⟩)) := (hkw80 14 rfl).trans rfl
  have uw80_15 : ρ79 15 = (.agg (aggA (l[i]'(by omega)))) := (hkw80 15 rfl).trans rfl
  have uw80_6 : ρ79 6 = (.pointer (some ⟨g10, 0, none⟩)) := (hkw80 6 rfl).trans rfl
  have uw80_16 : ρ79 16 = vo := (hkw80 16 rfl).trans rfl
  have uw80_17 : ρ79 17 = (iV ((l.take i).length : Int)) := (hkw80 17 rfl).trans rfl
  have uw80_7 : ρ79 7 = (iV ((l.take i).length : Int)) := (hkw80 7 rfl).trans rfl
  have uw80_30 : ρ79 30 = (.bool g54) := hRw80 12 30 rfl
  refine then_n ?_
  rcases Bool.eq_false_or_eq_true g54 with b81 | b81
  ·have c82 : (((l.take i).length : Int) = 0) ∨ (¬ (((gd (l.take i) ((l.take i).length - 1)).From) = ((l[i]'(by omega)).From))) := (pi_or pi_dec (pi_not pi_dec)).1 (hg55.symm.trans b81)
   refine cE_cond true (uw80_30.trans (congrArg Value.bool b81)) (fun _ => ?_) (fun h => by cases h)
   refine cE_seq (cE_region rfl (s_cons (op_move vo uw80_4 (s_cons (op_loadN (cs := (aggC (l[i]'(by omega)))) Tryd.isAgg45 Tryd.sizeOf45 uw80_6 (Pt.of (hst.cell 0 rfl) rfl) rfl (s_cons (op_buildSlice (E := aggE) [(l[i]'(by omega))] hst Tryd.underlying24 Tryd.sizeOf45 Tryd.zeroValue45 (evp_cons (v := (.agg (aggA (l[i]'(by omega))))) rfl evp_nil) (parts_cons rfl parts_nil) rfl (by decide) (fun v83 w84 hst => ?_))))))))
   replace hst : St w0 w84 [rowT 45 aggE v83 ([(l[i]'(by omega))]), .blk g10 45 (aggA (l[i]'(by omega))), rowT 45 aggE vo (l.take i)] := hst
   refine s_cons (op_append (E := aggE) (xs := (l.take i)) (ys := [(l[i]'(by omega))]) (z := (.agg #[(iV 0), (iV 0), (iV 0), (iV 0), (iV 0), (iV 0), (iV 0)])) (bytes := 56) hst 2 rfl Tryd.underlying24 (by kernel_rfl) rfl rfl rfl (hst.sl 0 rfl) (by first | omega | (simp only [List.length_cons, List.length_nil, List.length_take]; omega)) (by first | omega | (simp only [List.length_cons, List.length_nil, List.length_take]; omega)) (fun v85 w86 hst => ?_))
   replace hst : St w0 w86 [rowT 45 aggE v83 ([(l[i]'(by omega))]), .blk g10 45 (aggA (l[i]'(by omega))), rowT 45 aggE v85 (l.take (i + 1))] := by rw [show ((l.take i) ++ ([(l[i]'(by omega))])) = (l.take (i + 1)) from (List.take_succ_eq_append_getElem (by omega)).symm] at hst; exact hst
   refine s_cons (op_assign v85 rfl (s_nil (then_n (cE_exit (then_x (block_hit (then_n (cE_region rfl (s_cons (op_add (k := .i64) (a := (i : Int)) (b := 1) ((i : Int) + 1) uw80_12 rfl (xi64 (by omega) (by omega)) (s_cons (op_move (iV ((i : Int) + 1)) rfl (s_nil (then_n ?_))))))))))))))
   exact ⟨_, ⟨v85, (i + 1), rfl, uw80_0, uw80_10, uw80_11, (congrArg iV (show ((i : Int) + 1) = _ from by omega)), rfl, (hst.sub (.cons _ (.cons _ (.cons_cons _ .slnil)))), (by omega)⟩, (by simp only [id]; omega)⟩
  have c87 : ¬ (((l.take i).length : Int) = 0) := of_decide_eq_false (or_l (hg55.symm.trans b81))
  have c88 : ((gd (l.take i) ((l.take i).length - 1)).From) = ((l[i]'(by omega)).From) := of_decide_eq_true (not_f (or_r (hg55.symm.trans b81)))
  exfalso; exact joined_ne (i := i) hup (by omega) (by assumption) (by assumption)
 have c89 : ¬ ((i : Int) < (l.length : Int)) := of_decide_eq_false b5
 refine cE_cond false (congrArg Value.bool b5) (fun h => by cases h) (fun _ => ?_)
 refine cE_exit (then_x (then_x (block_hit (then_n (cE_seq ?_)))))
 have hTA : l.take i = l := List.take_of_length_le (by omega)
 replace hst : St w0 w4 [rowT 45 aggE vo l] := by rw [hTA] at hst; exact hst
 refine cE_region rfl (s_cons (op_move vo q1_4 (s_cons (op_assign vo rfl (s_cons (op_assign (iV 0) rfl (s_nil (then_n (cE_ret (scope_r (post_r _ (res2 (v := vo) rfl (x := (iV 0)) rfl) ?_)))))))))))
 exact ⟨vo, rfl, hst.sub (.cons_cons _ .slnil)⟩

end Go.Proofs.YtgibfidebdgffaaDoor
