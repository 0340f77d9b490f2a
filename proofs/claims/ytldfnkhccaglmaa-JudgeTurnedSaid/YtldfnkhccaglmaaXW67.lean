/- judge.Answer -/
import Derived.Test.YtldfnkhccaglmaaXW65
import Derived.Test.YtldfnkhccaglmaaXLA
import Derived.Test.YtldfnkhccaglmaaXW66
namespace Go.Proofs.Ytldfnkhccaglmaa
open Go.RowKit

set_option maxRecDepth 8000 in
set_option maxHeartbeats 8000000 in
theorem c_Answer (w0 : World) (v_h : Value) (h : List Sample) (h_h : Sl w0 sampE v_h h) (v_ws : Value) (ws : List Win) (h_ws : Sl w0 winE v_ws ws) (fr : Int) (to : Int) (hho : ∀ s ∈ h, s.ok) (hwo : ∀ w ∈ ws, w.ok) (hhl : h.length ≤ 1000000) (fr0 : -9223372036854775808 ≤ fr) (to0 : -9223372036854775808 ≤ to) (fr1 : fr ≤ 9223372036854775807) (to1 : to ≤ 9223372036854775807) :
  Calls Try.prog 13 #[v_h, v_ws, (iV fr), (iV to)] w0 fun e w' => e = .returned (iV (answerC h ws fr to)) ∧ St w0 w' [] := by
 refine calls_E (n := 81) (ts := [8]) Try.func13 rfl rfl rfl (by simp) ?_
 have hst := St.start w0
 refine cE_seq (cE_region rfl (s_cons (op_assign (iV 0) rfl (s_nil (then_n (cE_scope (cE_seq (cE_seq (cE_region rfl (s_cons (op_move v_ws rfl (s_cons (op_call Try.call24 (evs_cons (v := v_ws) rfl (evs_cons (v := (.func (.func 25) #[] #[])) rfl evs_nil)) (c_containsA1 (w0 := w0) (v_l := v_ws) (l := ws) (h_l := (h_ws.below hst.below)) (hwo := hwo)) ?_)))))))))))))
 rintro _ w1 ⟨rfl, hcall⟩
 refine ⟨_, rfl, ?_⟩
 have hst := hst.call hcall
 refine s_nil (then_n ?_)
 rcases Bool.eq_false_or_eq_true (ws.any (fun (y : Win) => !(mayW y))) with b2 | b2
 ·refine cE_cond true (congrArg Value.bool b2) (fun _ => ?_) (fun h => by cases h)
  refine cE_seq (cE_region rfl (s_cons (op_assign (iV 1) rfl (s_nil (then_n (cE_ret (then_r (scope_r (post_r _ (res1 (v := (iV 1)) rfl) ?_)))))))))
  exact ⟨(retv1 (congrArg iV (show 1 = (answerC h ws fr to) from by exact (ans_1 (by assumption)).symm))), hst.bare⟩
 refine cE_cond false (congrArg Value.bool b2) (fun h => by cases h) (fun _ => ?_)
 refine cE_skip (then_n (cE_seq (cE_seq (cE_region rfl (s_cons (op_move v_ws rfl (s_cons (op_len (E := winE) (xs := ws) Try.underlying27 rfl h_ws (s_cons (op_move (iV 0) rfl (s_nil (then_n (cE_block (cE_loop (fun (m : Nat) (ρ : Env) (w : World) => ∃ (i : Nat), m = ws.length - i ∧ ρ 0 = v_h ∧ ρ 1 = v_ws ∧ ρ 2 = (iV fr) ∧ ρ 3 = (iV to) ∧ ρ 19 = v_ws ∧ ρ 20 = (iV (ws.length : Int)) ∧ ρ 21 = (iV (i : Int)) ∧ St w0 w [] ∧ (i ≤ ws.length) ∧ (apartTo ws i = true)) id _ ⟨0, rfl, rfl, rfl, rfl, rfl, rfl, rfl, (congrArg iV (show 0 = _ from by omega)), hst, (by omega), (by rfl)⟩ ?_))))))))))))))
 rintro m4 ρ5 w6 ⟨i, hm4, q3_0, q3_1, q3_2, q3_3, q3_19, q3_20, q3_21, hst, hi, hI⟩
 have hlen := h_ws.len
 refine cE_seq (cE_region rfl (s_cons (op_lss (k := .i64) (a := (i : Int)) (b := (ws.length : Int)) q3_21 q3_20 (s_nil (then_n (cE_seq ?_))))))
 rcases Bool.eq_false_or_eq_true (decide ((i : Int) < (ws.length : Int))) with b7 | b7
 ·have c8 := of_decide_eq_true b7
  refine cE_cond true (congrArg Value.bool b7) (fun _ => ?_) (fun h => by cases h)
  refine cE_skip (then_n (cE_seq (cE_block (cE_seq (cE_region rfl (s_cons (op_move (iV (i : Int)) q3_21 (s_cons (op_indexAddrD (E := winE) (xs := ws) i Try.underlying27 Try.sizeOf33 q3_19 h_ws q3_21 (by omega) (by omega) (fun a9 o10 p11 => ?_))))))))))
  refine s_cons (op_loadN (cs := [(iV ((gd ws i).Tier)), (iV ((gd ws i).Lo)), (iV ((gd ws i).Hi)), (iV (((gd ws i).Agg).From)), (iV (((gd ws i).Agg).Count)), (iV (((gd ws i).Agg).Sum)), (iV (((gd ws i).Agg).Min)), (iV (((gd ws i).Agg).Max)), (iV (((gd ws i).Agg).First)), (iV (((gd ws i).Agg).Last))]) Try.isAgg33 Try.sizeOf33 rfl (Pt.of (p11.below hst.below) rfl) rfl (s_cons (op_alloc (cs := #[(iV 0), (iV 0), (iV 0), (iV 0), (iV 0), (iV 0), (iV 0), (iV 0), (iV 0), (iV 0)]) hst Try.zeroValue33 rfl (fun g12 w13 hst _ => ?_))))
  refine s_cons (op_assign (iV (i : Int)) rfl (s_cons0 (op_storeAll hst 0 rfl Try.sizeOf33 rfl rfl rfl rfl (by simp [Value.oneCell']) (fun w14 hst => ?_))))
  refine s_nil (then_n (cE_seq ?_))
  obtain ⟨g38, hg39⟩ : ∃ x : Bool, x = ((decide (0 < (i : Int))) && (decide (((gd ws i).Lo) < ((gd ws (i - 1)).Hi)))) := ⟨_, rfl⟩
  refine cE_regionM (fun (D : Nat → Bool) (w : World) => St w0 w [.blk g12 33 #[(iV ((gd ws i).Tier)), (iV ((gd ws i).Lo)), (iV ((gd ws i).Hi)), (iV (((gd ws i).Agg).From)), (iV (((gd ws i).Agg).Count)), (iV (((gd ws i).Agg).Sum)), (iV (((gd ws i).Agg).Min)), (iV (((gd ws i).Agg).Max)), (iV (((gd ws i).Agg).First)), (iV (((gd ws i).Agg).Last))]] ∧ (St w0 w [.blk g12 33 #[(iV ((gd ws i).Tier)), (iV ((gd ws i).Lo)), (iV ((gd ws i).Hi)), (iV (((gd ws i).Agg).From)), (iV (((gd ws i).Agg).Count)), (iV (((gd ws i).Agg).Sum)), (iV (((gd ws i).Agg).Min)), (iV (((gd ws i).Agg).Max)), (iV (((gd ws i).Agg).First)), (iV (((gd ws i).Agg).Last))]])) [[(9, none)], [(26, some 0)], [(27, some 1)], [(10, none), (28, some 2)], [(29, some 3), (28, some 2)], [(1, none), (28, some 2)], [(9, none), (28, some 2)], [(32, some 6), (28, some 2)], [(31, some 5), (33, some 7), (28, some 2)], [(34, some 8), (28, some 2)], [(35, some 9), (28, some 2)], [(30, some 4), (36, some 10), (28, some 2)], [(28, some 2), (37, some 11)]] [] [(kEq (iV (i : Int))), (kEq (.bool (decide (0 < (i : Int))))), (kEq (.bool (decide (0 < (i : Int))))), (kEq (bif (decide (0 < (i : Int))) then (.pointer (some ⟨g12, (0 + 1), none⟩)) else undef)), (kEq (bif (decide (0 < (i : Int))) then (iV ((gd ws i).Lo)) else undef)), (kEq (bif (decide (0 < (i : Int))) then v_ws else undef)), (kEq (bif (decide (0 < (i : Int))) then (iV (i : Int)) else undef)), (kEq (bif (decide (0 < (i : Int))) then (iV ((i : Int) - 1)) else undef)), (kPtc w0 (decide (0 < (i : Int))) [(iV ((gd ws (i - 1)).Tier)), (iV ((gd ws (i - 1)).Lo)), (iV ((gd ws (i - 1)).Hi)), (iV (((gd ws (i - 1)).Agg).From)), (iV (((gd ws (i - 1)).Agg).Count)), (iV (((gd ws (i - 1)).Agg).Sum)), (iV (((gd ws (i - 1)).Agg).Min)), (iV (((gd ws (i - 1)).Agg).Max)), (iV (((gd ws (i - 1)).Agg).First)), (iV (((gd ws (i - 1)).Agg).Last))]), (kPtc w0 (decide (0 < (i : Int))) [(iV ((gd ws (i - 1)).Hi)), (iV (((gd ws (i - 1)).Agg).From)), (iV (((gd ws (i - 1)).Agg).Count)), (iV (((gd ws (i - 1)).Agg).Sum)), (iV (((gd ws (i - 1)).Agg).Min)), (iV (((gd ws (i - 1)).Agg).Max)), (iV (((gd ws (i - 1)).Agg).First)), (iV (((gd ws (i - 1)).Agg).Last))]), (kEq (bif (decide (0 < (i : Int))) then (iV ((gd ws (i - 1)).Hi)) else undef)), (kEq (bif (decide (0 < (i : Int))) then (.bool (decide (((gd ws i).Lo) < ((gd ws (i - 1)).Hi)))) else undef)), (kEq (.bool g38))] ⟨mEq, mEq, mEq, mEq, mEq, mEq, mEq, mEq, mPtc, mPtc, mEq, mEq, mEq, trivial⟩ (by kernel_rfl) rfl (by kernel_rfl) ⟨hst.drewW.sub (.cons_cons _ .slnil), hst.drewW⟩ (fun hM => ⟨?_, ?_, ?_, ?_, ?_, ?_, ?_, ?_, ?_, ?_, ?_, ?_, ?_, trivial⟩) ?_
  ·rintro D ρo wo nD eD cD jD aD ⟨f9, _⟩
   exact go_plain (op_move (iV (i : Int)) (f9.trans rfl) (kN0 (i := 0) hM (by decide) (by exact jD) (by exact rfl)))
  ·rintro D ρo wo nD eD cD jD aD ⟨f26, _⟩
   exact go_plain (op_gtr (k := .i64) (a := (i : Int)) (b := 0) f26 rfl (kN0 (i := 1) hM (by decide) (by exact jD) (by exact rfl)))
  ·rintro D ρo wo nD eD cD jD aD ⟨f27, _⟩
   exact go_plain (op_move (.bool (decide (0 < (i : Int)))) f27 (kN0 (i := 2) hM (by decide) (by exact jD) (by exact rfl)))
  ·rintro D ρo wo nD eD cD jD aD ⟨f10, f28, _⟩
   refine go_lz 28 rfl (gA_t f28) ?_ (fun hc41 => (kN0 (i := 3) hM (by decide) (by exact jD) (by exact (gf hc41).symm)))
   intro hc41
   exact id (op_fieldAddr (s := 0) Try.underlying33 rfl rfl Try.sizeOf2 (f10.trans rfl) (kN0 (i := 3) hM (by decide) (by exact jD) (by exact (gt hc41).symm)))
  ·rintro D ρo wo nD eD cD jD aD ⟨f29, f28, _⟩
   refine go_lz 28 rfl (gA_t f28) ?_ (fun hc42 => (kN0 (i := 4) hM (by decide) (by exact jD) (by exact (gf hc42).symm)))
   intro hc42
   have hst := jD.2 
   exact id (op_load1 (u := (iV ((gd ws i).Lo))) Try.isAgg2 (f29.trans (gt hc42)) ((hst.cell 0 rfl).drop 1) (kN0 (i := 4) hM (by decide) (by exact jD) (by exact (gt hc42).symm)))
  ·rintro D ρo wo nD eD cD jD aD ⟨f1, f28, _⟩
   refine go_lz 28 rfl (gA_t f28) ?_ (fun hc43 => (kN0 (i := 5) hM (by decide) (by exact jD) (by exact (gf hc43).symm)))
   intro hc43
   exact id (op_move v_ws (f1.trans q3_1) (kN0 (i := 5) hM (by decide) (by exact jD) (by exact (gt hc43).symm)))
  ·rintro D ρo wo nD eD cD jD aD ⟨f9, f28, _⟩
   refine go_lz 28 rfl (gA_t f28) ?_ (fun hc44 => (kN0 (i := 6) hM (by decide) (by exact jD) (by exact (gf hc44).symm)))
   intro hc44
   exact id (op_move (iV (i : Int)) (f9.trans rfl) (kN0 (i := 6) hM (by decide) (by exact jD) (by exact (gt hc44).symm)))
  ·rintro D ρo wo nD eD cD jD aD ⟨f32, f28, _⟩
   refine go_lz 28 rfl (gA_t f28) ?_ (fun hc45 => (kN0 (i := 7) hM (by decide) (by exact jD) (by exact (gf hc45).symm)))
   intro hc45
   have c46 := of_decide_eq_true hc45
   exact id (op_sub (k := .i64) (a := (i : Int)) (b := 1) ((i : Int) - 1) (f32.trans (gt hc45)) rfl (xi64 (by omega) (by omega)) (kN0 (i := 7) hM (by decide) (by exact jD) (by exact (gt hc45).symm)))
  ·rintro D ρo wo nD eD cD jD aD ⟨f31, f33, f28, _⟩
   refine go_lz 28 rfl (gA_t f28) ?_ (fun hc47 => (kN0 (i := 8) hM (by decide) (by exact jD) (by exact fun h => absurd (show _ = true from h) (by rw [hc47]; decide))))
   intro hc47
   have c48 := of_decide_eq_true hc47
   refine id (op_indexAddrD (E := winE) (xs := ws) (i - 1) Try.underlying27 Try.sizeOf33 (f31.trans (gt hc47)) h_ws (f33.trans (gt hc47)) (by omega) (by omega) (fun a49 o50 p51 => ?_))
   exact (kN0 (i := 8) hM (by decide) (by exact jD) (by exact fun _ => ⟨_, _, rfl, p51⟩))
  ·rintro D ρo wo nD eD cD jD aD ⟨f34, f28, _⟩
   refine go_lz 28 rfl (gA_t f28) ?_ (fun hc52 => (kN0 (i := 9) hM (by decide) (by exact jD) (by exact fun h => absurd (show _ = true from h) (by rw [hc52]; decide))))
   intro hc52
   obtain ⟨a53, o54, e55, p56⟩ := f34 hc52
   exact id (op_fieldAddr (s := 0) Try.underlying33 rfl rfl Try.sizeOf2 e55 (kN0 (i := 9) hM (by decide) (by exact jD) (by exact fun _ => ⟨_, _, rfl, (p56.drop 2)⟩)))
  ·rintro D ρo wo nD eD cD jD aD ⟨f35, f28, _⟩
   refine go_lz 28 rfl (gA_t f28) ?_ (fun hc57 => (kN0 (i := 10) hM (by decide) (by exact jD) (by exact (gf hc57).symm)))
   intro hc57
   have hst := jD.2 
   obtain ⟨a58, o59, e60, p61⟩ := f35 hc57
   exact id (op_load1 (u := (iV ((gd ws (i - 1)).Hi))) Try.isAgg2 e60 (p61.below hst.below) (kN0 (i := 10) hM (by decide) (by exact jD) (by exact (gt hc57).symm)))
  ·rintro D ρo wo nD eD cD jD aD ⟨f30, f36, f28, _⟩
   refine go_lz 28 rfl (gA_t f28) ?_ (fun hc62 => (kN0 (i := 11) hM (by decide) (by exact jD) (by exact (gf hc62).symm)))
   intro hc62
   exact id (op_lss (k := .i64) (a := (gd ws i).Lo) (b := (gd ws (i - 1)).Hi) (f30.trans (gt hc62)) (f36.trans (gt hc62)) (kN0 (i := 11) hM (by decide) (by exact jD) (by exact (gt hc62).symm)))
  ·rintro D ρo wo nD eD cD jD aD ⟨f28, f37, _⟩
   refine go_plain (op_pick_and f28 f37 (fun hp => hp) rfl ?_)
   exact (kN0 (i := 12) hM (by decide) (by exact jD) (by exact (congrArg Value.bool hg39.symm)))
  intro ρ63 w64 Dw64 hallw64 hJw64 hRw64 hkw64
  have hst : St w0 w64 [.blk g12 33 #[(iV ((gd ws i).Tier)), (iV ((gd ws i).Lo)), (iV ((gd ws i).Hi)), (iV (((gd ws i).Agg).From)), (iV (((gd ws i).Agg).Count)), (iV (((gd ws i).Agg).Sum)), (iV (((gd ws i).Agg).Min)), (iV (((gd ws i).Agg).Max)), (iV (((gd ws i).Agg).First)), (iV (((gd ws i).Agg).Last))]] := hJw64.2 
  have uw64_0 := (hkw64 0 rfl).trans q3_0
  have uw64_1 := (hkw64 1 rfl).trans q3_1
  have uw64_2 := (hkw64 2 rfl).trans q3_2
  have uw64_3 := (hkw64 3 rfl).trans q3_3
  have uw64_19 := (hkw64 19 rfl).trans q3_19
  have uw64_20 := (hkw64 20 rfl).trans q3_20
  have uw64_21 := (hkw64 21 rfl).trans q3_21
  have uw64_38 : ρ63 38 = (.bool g38) := hRw64 12 38 rfl
  refine then_n ?_
  rcases Bool.eq_false_or_eq_true g38 with b65 | b65
  ·have c66 : 0 < (i : Int) := of_decide_eq_true (and_l (hg39.symm.trans b65))
   have c67 : ((gd ws i).Lo) < ((gd ws (i - 1)).Hi) := of_decide_eq_true (and_r (hg39.symm.trans b65))
   refine cE_cond true (uw64_38.trans (congrArg Value.bool b65)) (fun _ => ?_) (fun h => by cases h)
   refine cE_seq (cE_region rfl (s_cons (op_assign (iV 2) rfl (s_nil (then_n (cE_ret (block_r (then_r (then_r (block_r (then_r (scope_r (post_r _ (res1 (v := (iV 2)) rfl) ?_)))))))))))))
   exact ⟨(retv1 (congrArg iV (show 2 = (answerC h ws fr to) from by exact (ans_2 (by assumption) (i := i) (by omega) (by omega) (by omega)).symm))), hst.bare⟩
  have c68 : ¬ ((0 < (i : Int)) ∧ (((gd ws i).Lo) < ((gd ws (i - 1)).Hi))) := pi_f (pi_and pi_dec pi_dec) (hg39.symm.trans b65)
  refine cE_cond false (uw64_38.trans (congrArg Value.bool b65)) (fun h => by cases h) (fun _ => ?_)
  refine cE_skip (block_n (then_n (cE_region rfl (s_cons (op_add (k := .i64) (a := (i : Int)) (b := 1) ((i : Int) + 1) uw64_21 rfl (xi64 (by omega) (by omega)) (s_cons (op_move (iV ((i : Int) + 1)) rfl (s_nil (then_n ?_)))))))))
  exact ⟨_, ⟨(i + 1), rfl, uw64_0, uw64_1, uw64_2, uw64_3, uw64_19, uw64_20, (congrArg iV (show ((i : Int) + 1) = _ from by omega)), (hst.sub (.cons _ .slnil)), (by omega), (by exact apart_step hI (by omega))⟩, (by simp only [id]; omega)⟩
 have c69 := of_decide_eq_false b7
 refine cE_cond false (congrArg Value.bool b7) (fun h => by cases h) (fun _ => ?_)
 refine cE_exit (then_x (then_x (block_hit (then_n (cE_seq (cE_label (then_n (cE_seq (cE_seq ?_)))))))))
 have hIA : apartTo ws ws.length = true := by rw [show ws.length = i by omega]; exact hI
 have hzl := filt_len h (inT fr to)
 refine cE_region rfl (s_cons (op_move v_h q3_0 (s_cons (op_move (iV fr) q3_2 (s_cons (op_move (iV to) q3_3 (s_cons (op_call Try.call27 (evs_cons (v := v_h) rfl (evs_cons (v := (iV fr)) rfl (evs_cons (v := (iV to)) rfl evs_nil))) (c_within (w0 := w6) (v_l := v_h) (l := h) (h_l := (h_h.below hst.below)) (lo := fr) (up := to) (hll := hhl)) ?_))))))))
 rintro _ w71 ⟨r70, rfl, hcall⟩
 refine ⟨_, rfl, ?_⟩
 have hst := hst.call hcall
 refine s_cons (op_len (E := sampE) (xs := (h.filter (inT fr to))) Try.underlying23 rfl (hst.sl 0 rfl) (s_cons (op_move (iV 0) rfl (s_nil (then_n (cE_block (cE_loop (fun (m : Nat) (ρ : Env) (w : World) => ∃ (j : Nat), m = (h.filter (inT fr to)).length - j ∧ ρ 0 = v_h ∧ ρ 1 = v_ws ∧ ρ 2 = (iV fr) ∧ ρ 3 = (iV to) ∧ ρ 19 = v_ws ∧ ρ 20 = (iV (ws.length : Int)) ∧ ρ 21 = (iV (i : Int)) ∧ ρ 43 = r70 ∧ ρ 44 = (iV ((h.filter (inT fr to)).length : Int)) ∧ ρ 45 = (iV (j : Int)) ∧ St w0 w [rowT 51 sampE r70 (h.filter (inT fr to))] ∧ (j ≤ (h.filter (inT fr to)).length) ∧ (((h.filter (inT fr to)).take j).any (fun s => !coverB ws s) = false)) id _ ⟨0, rfl, q3_0, q3_1, q3_2, q3_3, q3_19, q3_20, q3_21, rfl, rfl, (congrArg iV (show 0 = _ from by omega)), hst, (by omega), (by rfl)⟩ ?_)))))))
 rintro m73 ρ74 w75 ⟨j, hm73, q72_0, q72_1, q72_2, q72_3, q72_19, q72_20, q72_21, q72_43, q72_44, q72_45, hst, hj, hC⟩
 refine cE_seq (cE_region rfl (s_cons (op_lss (k := .i64) (a := (j : Int)) (b := ((h.filter (inT fr to)).length : Int)) q72_45 q72_44 (s_nil (then_n (cE_seq ?_))))))
 rcases Bool.eq_false_or_eq_true (decide ((j : Int) < ((h.filter (inT fr to)).length : Int))) with b76 | b76
 ·have c77 := of_decide_eq_true b76
  refine cE_cond true (congrArg Value.bool b76) (fun _ => ?_) (fun h => by cases h)
  refine cE_skip (then_n (cE_seq (cE_block (cE_seq (cE_region rfl (s_cons (op_indexAddrD (E := sampE) (xs := (h.filter (inT fr to))) j Try.underlying23 Try.sizeOf51 q72_43 (hst.sl 0 rfl) q72_45 (by omega) (by omega) (fun a78 o79 p80 => ?_))))))))
  refine s_cons (op_loadN (cs := [(iV ((gd (h.filter (inT fr to)) j).T)), (iV ((gd (h.filter (inT fr to)) j).V))]) Try.isAgg51 Try.sizeOf51 rfl (Pt.of p80 rfl) rfl (s_cons (op_alloc (cs := #[(iV 0), (iV 0)]) hst Try.zeroValue51 rfl (fun g81 w82 hst _ => ?_))))
  refine s_cons0 (op_storeAll hst 0 rfl Try.sizeOf51 rfl rfl rfl rfl (by simp [Value.oneCell']) (fun w83 hst => ?_))
  refine s_nil (then_n (cE_seq (cE_seq (cE_region rfl (s_cons (op_move v_ws q72_1 (s_cons (op_makeFunc (evs_cons (v := (.pointer (some ⟨g81, 0, none⟩))) rfl evs_nil) (s_cons (op_call Try.call24 (evs_cons (v := v_ws) rfl (evs_cons (v := (.func (.func 28) #[] #[(.pointer (some ⟨g81, 0, none⟩))])) rfl evs_nil)) (c_containsA2 (v_l := v_ws) (l := ws) (h_l := h_ws) (g_x := g81) (x0 := (gd (h.filter (inT fr to)) j).T) (x1 := (gd (h.filter (inT fr to)) j).V) (hst := hst)) ?_))))))))))
  rintro _ w84 ⟨rfl, hcall⟩
  refine ⟨_, rfl, ?_⟩
  have hst : St w0 w84 [.blk g81 51 #[(iV ((gd (h.filter (inT fr to)) j).T)), (iV ((gd (h.filter (inT fr to)) j).V))], rowT 51 sampE r70 (h.filter (inT fr to))] := hcall
  refine s_nil (then_n ?_)
  rcases Bool.eq_false_or_eq_true (ws.any (fun (y : Win) => decide (y.Lo ≤ ((gd (h.filter (inT fr to)) j).T) ∧ ((gd (h.filter (inT fr to)) j).T) < y.Hi))) with b85 | b85
  ·refine cE_cond true (congrArg Value.bool b85) (fun _ => ?_) (fun h => by cases h)
   refine cE_exit (then_x (block_hit (then_n (cE_region rfl (s_cons (op_add (k := .i64) (a := (j : Int)) (b := 1) ((j : Int) + 1) q72_45 rfl (xi64 (by omega) (by omega)) (s_cons (op_move (iV ((j : Int) + 1)) rfl (s_nil (then_n ?_))))))))))
   exact ⟨_, ⟨(j + 1), rfl, q72_0, q72_1, q72_2, q72_3, q72_19, q72_20, q72_21, q72_43, q72_44, (congrArg iV (show ((j : Int) + 1) = _ from by omega)), (hst.sub (.cons _ (.cons_cons _ .slnil))), (by omega), (by exact cov_step (by omega) hC (by assumption))⟩, (by simp only [id]; omega)⟩
  refine cE_cond false (congrArg Value.bool b85) (fun h => by cases h) (fun _ => ?_)
  refine cE_skip (then_n (cE_seq (cE_region rfl (s_cons (op_assign (iV 3) rfl (s_nil (then_n (cE_ret (block_r (then_r (then_r (block_r (then_r (scope_r (post_r _ (res1 (v := (iV 3)) rfl) ?_)))))))))))))))
  exact ⟨(retv1 (congrArg iV (show 3 = (answerC h ws fr to) from by exact (ans_3 (by assumption) hIA (j := j) (by omega) (by assumption)).symm))), hst.bare⟩
 have c86 := of_decide_eq_false b76
 refine cE_cond false (congrArg Value.bool b76) (fun h => by cases h) (fun _ => ?_)
 refine cE_exit (then_x (then_x (block_hit (then_n (cE_seq (cE_seq ?_))))))
 have hCA : (h.filter (inT fr to)).any (fun s => !coverB ws s) = false := by rw [List.take_of_length_le (by omega)] at hC; exact hC
 refine cE_region rfl (s_cons (op_move v_ws q72_1 (s_cons (op_len (E := winE) (xs := ws) Try.underlying27 rfl h_ws (s_cons (op_move (iV 0) rfl (s_nil (then_n (cE_block (cE_loop (fun (m : Nat) (ρ : Env) (w : World) => ∃ (q : Nat), m = ws.length - q ∧ ρ 0 = v_h ∧ ρ 1 = v_ws ∧ ρ 2 = (iV fr) ∧ ρ 3 = (iV to) ∧ ρ 19 = v_ws ∧ ρ 20 = (iV (ws.length : Int)) ∧ ρ 21 = (iV (i : Int)) ∧ ρ 43 = r70 ∧ ρ 44 = (iV ((h.filter (inT fr to)).length : Int)) ∧ ρ 45 = (iV (j : Int)) ∧ ρ 53 = v_ws ∧ ρ 54 = (iV (ws.length : Int)) ∧ ρ 55 = (iV (q : Int)) ∧ St w0 w [rowT 51 sampE r70 (h.filter (inT fr to))] ∧ (q ≤ ws.length) ∧ ((ws.take q).any (fun w => !rightW h w) = false)) id _ ⟨0, rfl, q72_0, q72_1, q72_2, q72_3, q72_19, q72_20, q72_21, q72_43, q72_44, q72_45, rfl, rfl, (congrArg iV (show 0 = _ from by omega)), hst, (by omega), (by rfl)⟩ ?_))))))))))
 rintro m88 ρ89 w90 ⟨q, hm88, q87_0, q87_1, q87_2, q87_3, q87_19, q87_20, q87_21, q87_43, q87_44, q87_45, q87_53, q87_54, q87_55, hst, hq, hR⟩
 refine cE_seq (cE_region rfl (s_cons (op_lss (k := .i64) (a := (q : Int)) (b := (ws.length : Int)) q87_55 q87_54 (s_nil (then_n (cE_seq ?_))))))
 rcases Bool.eq_false_or_eq_true (decide ((q : Int) < (ws.length : Int))) with b91 | b91
 ·have c92 := of_decide_eq_true b91
  refine cE_cond true (congrArg Value.bool b91) (fun _ => ?_) (fun h => by cases h)
  refine cE_skip (then_n (cE_seq (cE_block (cE_seq (cE_region rfl (s_cons (op_indexAddrD (E := winE) (xs := ws) q Try.underlying27 Try.sizeOf33 q87_53 h_ws q87_55 (by omega) (by omega) (fun a93 o94 p95 => ?_))))))))
  refine s_cons (op_loadN (cs := [(iV ((gd ws q).Tier)), (iV ((gd ws q).Lo)), (iV ((gd ws q).Hi)), (iV (((gd ws q).Agg).From)), (iV (((gd ws q).Agg).Count)), (iV (((gd ws q).Agg).Sum)), (iV (((gd ws q).Agg).Min)), (iV (((gd ws q).Agg).Max)), (iV (((gd ws q).Agg).First)), (iV (((gd ws q).Agg).Last))]) Try.isAgg33 Try.sizeOf33 rfl (Pt.of (p95.below hst.below) rfl) rfl (s_cons (op_alloc (cs := #[(iV 0), (iV 0), (iV 0), (iV 0), (iV 0), (iV 0), (iV 0), (iV 0), (iV 0), (iV 0)]) hst Try.zeroValue33 rfl (fun g96 w97 hst _ => ?_))))
  refine s_cons0 (op_storeAll hst 0 rfl Try.sizeOf33 rfl rfl rfl rfl (by simp [Value.oneCell']) (fun w98 hst => ?_))
  refine s_nil (then_n (cE_seq ?_))
  have hgl := filt_len h (inT (gd ws q).Lo (gd ws q).Hi)
  have hgo := filt_ok (p := inT (gd ws q).Lo (gd ws q).Hi) hho
  have hwq : (gd ws q).ok := by rw [gd_eq (by omega)]; exact hwo _ (List.getElem_mem _)
  refine cE_regionM (fun (D : Nat → Bool) (w : World) => St w0 w [.blk g96 33 #[(iV ((gd ws q).Tier)), (iV ((gd ws q).Lo)), (iV ((gd ws q).Hi)), (iV (((gd ws q).Agg).From)), (iV (((gd ws q).Agg).Count)), (iV (((gd ws q).Agg).Sum)), (iV (((gd ws q).Agg).Min)), (iV (((gd ws q).Agg).Max)), (iV (((gd ws q).Agg).First)), (iV (((gd ws q).Agg).Last))], rowT 51 sampE r70 (h.filter (inT fr to))] ∧ (D 14 = false → St w0 w [.blk g96 33 #[(iV ((gd ws q).Tier)), (iV ((gd ws q).Lo)), (iV ((gd ws q).Hi)), (iV (((gd ws q).Agg).From)), (iV (((gd ws q).Agg).Count)), (iV (((gd ws q).Agg).Sum)), (iV (((gd ws q).Agg).Min)), (iV (((gd ws q).Agg).Max)), (iV (((gd ws q).Agg).First)), (iV (((gd ws q).Agg).Last))], rowT 51 sampE r70 (h.filter (inT fr to))]) ∧ (D 14 = true → St w0 w [.blk g96 33 #[(iV ((gd ws q).Tier)), (iV ((gd ws q).Lo)), (iV ((gd ws q).Hi)), (iV (((gd ws q).Agg).From)), (iV (((gd ws q).Agg).Count)), (iV (((gd ws q).Agg).Sum)), (iV (((gd ws q).Agg).Min)), (iV (((gd ws q).Agg).Max)), (iV (((gd ws q).Agg).First)), (iV (((gd ws q).Agg).Last))], rowT 51 sampE r70 (h.filter (inT fr to))])) [[(0, none)], [(14, none)], [(61, some 1)], [(14, none)], [(63, some 3)], [(60, some 0), (62, some 2), (64, some 4)], [(14, none)], [(66, some 6)], [(67, some 7)], [(65, some 5), (68, some 8)], [(69, some 9)], [(59, some 10)], [(59, some 10)], [], [(15, some 13), (70, some 11)], [(71, some 12)]] [14] [(kEq v_h), (kEq (.pointer (some ⟨g96, (0 + 1), none⟩))), (kEq (iV ((gd ws q).Lo))), (kEq (.pointer (some ⟨g96, (0 + 2), none⟩))), (kEq (iV ((gd ws q).Hi))), (kSlU [14] sampE (h.filter (inT ((gd ws q).Lo) ((gd ws q).Hi)))), (kEq (.pointer (some ⟨g96, (0 + 3), none⟩))), (kEq (.pointer (some ⟨g96, ((0 + 3) + 0), none⟩))), (kEq (iV (((gd ws q).Agg).From))), (kEq (.tuple #[(.agg (aggA ((allA (h.filter (inT ((gd ws q).Lo) ((gd ws q).Hi))) (((gd ws q).Agg).From)).1))), (iV ((allA (h.filter (inT ((gd ws q).Lo) ((gd ws q).Hi))) (((gd ws q).Agg).From)).2))])), (kEq (.tuple #[(.agg (aggA ((allA (h.filter (inT ((gd ws q).Lo) ((gd ws q).Hi))) (((gd ws q).Agg).From)).1))), (iV ((allA (h.filter (inT ((gd ws q).Lo) ((gd ws q).Hi))) (((gd ws q).Agg).From)).2))])), (kEq (.agg (aggA ((allA (h.filter (inT ((gd ws q).Lo) ((gd ws q).Hi))) (((gd ws q).Agg).From)).1)))), (kEq (iV ((allA (h.filter (inT ((gd ws q).Lo) ((gd ws q).Hi))) (((gd ws q).Agg).From)).2))), (fun (D : Nat → Bool) (v : Value) (w : World) => ∃ g102 : Nat, v = .pointer (some ⟨g102, 0, none⟩) ∧ (D 14 = false → St w0 w [.blk g102 29 #[(iV 0), (iV 0), (iV 0), (iV 0), (iV 0), (iV 0), (iV 0)], .blk g96 33 #[(iV ((gd ws q).Tier)), (iV ((gd ws q).Lo)), (iV ((gd ws q).Hi)), (iV (((gd ws q).Agg).From)), (iV (((gd ws q).Agg).Count)), (iV (((gd ws q).Agg).Sum)), (iV (((gd ws q).Agg).Min)), (iV (((gd ws q).Agg).Max)), (iV (((gd ws q).Agg).First)), (iV (((gd ws q).Agg).Last))], rowT 51 sampE r70 (h.filter (inT fr to))]) ∧ (D 14 = true → St w0 w [.blk g102 29 (aggA ((allA (h.filter (inT ((gd ws q).Lo) ((gd ws q).Hi))) (((gd ws q).Agg).From)).1)), .blk g96 33 #[(iV ((gd ws q).Tier)), (iV ((gd ws q).Lo)), (iV ((gd ws q).Hi)), (iV (((gd ws q).Agg).From)), (iV (((gd ws q).Agg).Count)), (iV (((gd ws q).Agg).Sum)), (iV (((gd ws q).Agg).Min)), (iV (((gd ws q).Agg).Max)), (iV (((gd ws q).Agg).First)), (iV (((gd ws q).Agg).Last))], rowT 51 sampE r70 (h.filter (inT fr to))])), kAny, (kEq (iV ((allA (h.filter (inT ((gd ws q).Lo) ((gd ws q).Hi))) (((gd ws q).Agg).From)).2)))] ⟨mEq, mEq, mEq, mEq, mEq, (mSlUs (by decide)), mEq, mEq, mEq, mEq, mEq, mEq, mEq, (fun D D' v w w' hD hb ⟨g, h1, h2⟩ => ⟨g, h1, (fun x0 => (h2.1 ((hD 14 (by decide)).symm.trans x0)).ext hb), (fun x0 => (h2.2 ((hD 14 (by decide)).symm.trans x0)).ext hb)⟩), mAny, mEq, trivial⟩ (by kernel_rfl) rfl (by kernel_rfl) ⟨hst.drewW.sub (.cons_cons _ (.cons_cons _ .slnil)), (fun _ => hst.drewW), (fun h => absurd h Bool.false_ne_true)⟩ (fun hM => ⟨?_, ?_, ?_, ?_, ?_, ?_, ?_, ?_, ?_, ?_, ?_, ?_, ?_, ?_, ?_, ?_, trivial⟩) ?_
  ·rintro D ρo wo nD eD cD jD aD ⟨f0, _⟩
   exact go_plain (op_move v_h (f0.trans q87_0) (kN0 (i := 0) hM (by decide) (by exact jD) (by exact rfl)))
  ·rintro D ρo wo nD eD cD jD aD ⟨f14, _⟩
   exact go_plain (op_fieldAddr (s := 0) Try.underlying33 rfl rfl Try.sizeOf2 (f14.trans rfl) (kN0 (i := 1) hM (by decide) (by exact jD) (by exact rfl)))
  ·rintro D ρo wo nD eD cD jD aD ⟨f61, _⟩
   have hst := jD.2.1 (not_yet nD (fun hm => (cD 14 2 hm (by kernel_rfl))))
   exact go_plain (op_load1 (u := (iV ((gd ws q).Lo))) Try.isAgg2 f61 ((hst.cell 0 rfl).drop 1) (kN0 (i := 2) hM (by decide) (by exact jD) (by exact rfl)))
  ·rintro D ρo wo nD eD cD jD aD ⟨f14, _⟩
   exact go_plain (op_fieldAddr (s := 0) Try.underlying33 rfl rfl Try.sizeOf2 (f14.trans rfl) (kN0 (i := 3) hM (by decide) (by exact jD) (by exact rfl)))
  ·rintro D ρo wo nD eD cD jD aD ⟨f63, _⟩
   have hst := jD.2.1 (not_yet nD (fun hm => (cD 14 4 hm (by kernel_rfl))))
   exact go_plain (op_load1 (u := (iV ((gd ws q).Hi))) Try.isAgg2 f63 ((hst.cell 0 rfl).drop 2) (kN0 (i := 4) hM (by decide) (by exact jD) (by exact rfl)))
  ·rintro D ρo wo nD eD cD jD aD ⟨f60, f62, f64, _⟩
   have hst := jD.2.1 (not_yet nD (fun hm => (cD 14 5 hm (by kernel_rfl))))
   refine go_plain (op_call Try.call27 (evs_cons (v := v_h) f60 (evs_cons (v := (iV ((gd ws q).Lo))) f62 (evs_cons (v := (iV ((gd ws q).Hi))) f64 evs_nil))) (c_within (w0 := wo) (v_l := v_h) (l := h) (h_l := (h_h.below hst.below)) (lo := (gd ws q).Lo) (up := (gd ws q).Hi) (hll := hhl)) ?_)
   rintro _ w107 ⟨r106, rfl, hcall⟩
   refine ⟨_, rfl, ?_⟩
   exact kN (i := 5) hM (by decide) hcall.below (by exact ⟨(jD.1).ext hcall.below, (fun x0 => (jD.2.1 x0).ext hcall.below), (fun x0 => (jD.2.2 x0).ext hcall.below)⟩) (by exact fun _ => hcall.sl 0 rfl)
  ·rintro D ρo wo nD eD cD jD aD ⟨f14, _⟩
   exact go_plain (op_fieldAddr (s := 6) Try.underlying33 rfl rfl Try.sizeOf29 (f14.trans rfl) (kN0 (i := 6) hM (by decide) (by exact jD) (by exact rfl)))
  ·rintro D ρo wo nD eD cD jD aD ⟨f66, _⟩
   exact go_plain (op_fieldAddr (s := 0) Try.underlying29 rfl rfl Try.sizeOf2 f66 (kN0 (i := 7) hM (by decide) (by exact jD) (by exact rfl)))
  ·rintro D ρo wo nD eD cD jD aD ⟨f67, _⟩
   have hst := jD.2.1 (not_yet nD (fun hm => (cD 14 8 hm (by kernel_rfl))))
   exact go_plain (op_load1 (u := (iV (((gd ws q).Agg).From))) Try.isAgg2 f67 ((hst.cell 0 rfl).drop 3) (kN0 (i := 8) hM (by decide) (by exact jD) (by exact rfl)))
  ·rintro D ρo wo nD eD cD jD aD ⟨f65, f68, _⟩
   obtain ⟨v109, e110⟩ : ∃ x, ρo 65 = x := ⟨_, rfl⟩
   have hs108 := f65 (by intro m hm; obtain rfl := List.mem_singleton.1 hm; exact (not_yet nD (fun hm => (cD 14 9 hm (by kernel_rfl)))))
   replace hs108 : Sl wo sampE v109 (h.filter (inT ((gd ws q).Lo) ((gd ws q).Hi))) := e110 ▸ hs108
   refine go_plain (op_call Try.call29 (evs_cons (v := v109) e110 (evs_cons (v := (iV (((gd ws q).Agg).From))) f68 evs_nil)) (c_All (w0 := wo) (v_l := v109) (l := (h.filter (inT ((gd ws q).Lo) ((gd ws q).Hi)))) (h_l := hs108) (fr := ((gd ws q).Agg).From) (hl := hgo) (fr0 := (by omega)) (fr1 := (by omega)) (hn := (by omega))) ?_)
   rintro _ w111 ⟨rfl, hcall⟩
   refine ⟨_, rfl, ?_⟩
   exact kN (i := 9) hM (by decide) hcall.below (by exact ⟨(jD.1).ext hcall.below, (fun x0 => (jD.2.1 x0).ext hcall.below), (fun x0 => (jD.2.2 x0).ext hcall.below)⟩) (by exact rfl)
  ·rintro D ρo wo nD eD cD jD aD ⟨f69, _⟩
   exact go_plain (op_move (.tuple #[(.agg (aggA ((allA (h.filter (inT ((gd ws q).Lo) ((gd ws q).Hi))) (((gd ws q).Agg).From)).1))), (iV ((allA (h.filter (inT ((gd ws q).Lo) ((gd ws q).Hi))) (((gd ws q).Agg).From)).2))]) f69 (kN0 (i := 10) hM (by decide) (by exact jD) (by exact rfl)))
  ·rintro D ρo wo nD eD cD jD aD ⟨f59, _⟩
   exact go_plain (op_extract (.agg (aggA ((allA (h.filter (inT ((gd ws q).Lo) ((gd ws q).Hi))) (((gd ws q).Agg).From)).1))) f59 rfl (kN0 (i := 11) hM (by decide) (by exact jD) (by exact rfl)))
  ·rintro D ρo wo nD eD cD jD aD ⟨f59, _⟩
   exact go_plain (op_extract (iV ((allA (h.filter (inT ((gd ws q).Lo) ((gd ws q).Hi))) (((gd ws q).Agg).From)).2)) f59 rfl (kN0 (i := 12) hM (by decide) (by exact jD) (by exact rfl)))
  ·rintro D ρo wo nD eD cD jD aD ⟨_⟩
   have hst := jD.2.1 (not_yet nD (fun hm => (cD 14 13 hm (by kernel_rfl))))
   have hst := St.start wo
   refine go_plain (op_alloc (cs := #[(iV 0), (iV 0), (iV 0), (iV 0), (iV 0), (iV 0), (iV 0)]) hst Try.zeroValue29 rfl (fun g112 w113 hst _ => ?_))
   exact kN (i := 13) hM (by decide) hst.below (by exact ⟨(jD.1).ext hst.below, (fun x0 => (jD.2.1 x0).ext hst.below), (fun x0 => (jD.2.2 x0).ext hst.below)⟩) (by exact ⟨_, rfl, (fun y0 => (jD.2.1 y0).call hst), (fun y0 => absurd (show D 14 = true from y0) (by rw [(not_yet nD (fun hm => (cD 14 13 hm (by kernel_rfl))))]; decide))⟩)
  ·rintro D ρo wo nD eD cD jD aD ⟨f15, f70, _⟩
   obtain ⟨g114, e115, hh116⟩ := aD 13 15 (eD 13 (by kernel_rfl)) rfl
   have hst : St w0 wo [.blk g114 29 #[(iV 0), (iV 0), (iV 0), (iV 0), (iV 0), (iV 0), (iV 0)], .blk g96 33 #[(iV ((gd ws q).Tier)), (iV ((gd ws q).Lo)), (iV ((gd ws q).Hi)), (iV (((gd ws q).Agg).From)), (iV (((gd ws q).Agg).Count)), (iV (((gd ws q).Agg).Sum)), (iV (((gd ws q).Agg).Min)), (iV (((gd ws q).Agg).Max)), (iV (((gd ws q).Agg).First)), (iV (((gd ws q).Agg).Last))], rowT 51 sampE r70 (h.filter (inT fr to))] := hh116.1 nD
   refine go_plain (op_storeAll hst 0 rfl Try.sizeOf29 e115 f70 rfl rfl (by simp [Value.oneCell']) (fun w117 hst => ?_))
   refine ⟨by exact ⟨hst.sub (.cons _ (.cons_cons _ (.cons_cons _ .slnil))), (fun y0 => absurd y0 (fun h => Bool.noConfusion h)), (fun y0 => hst.sub (.cons _ (.cons_cons _ (.cons_cons _ .slnil))))⟩, by exact trivial, kX [13] (by exact ⟨Or.inr (Or.inr (Or.inr iEq)), Or.inr (Or.inr (Or.inr iEq)), Or.inr (Or.inr (Or.inr iEq)), Or.inr (Or.inr (Or.inr iEq)), Or.inr (Or.inr (Or.inr iEq)), Or.inr (Or.inr (Or.inr (iSlU (by decide)))), Or.inr (Or.inr (Or.inr iEq)), Or.inr (Or.inr (Or.inr iEq)), Or.inr (Or.inr (Or.inr iEq)), Or.inr (Or.inr (Or.inr iEq)), Or.inr (Or.inr (Or.inr iEq)), Or.inr (Or.inr (Or.inr iEq)), Or.inr (Or.inr (Or.inr iEq)), Or.inr (Or.inl (by decide)), Or.inl rfl, Or.inr (Or.inr (Or.inl (not_yet nD (fun hm => (cD 15 14 hm (by kernel_rfl)))))), trivial⟩) ?_⟩
   intro j d hj hjd hDj h
   simp only [List.mem_cons, List.not_mem_nil, or_false] at hj
   subst hj
   obtain rfl : 15 = d := Option.some.inj hjd
   exact ⟨_, e115, (fun y0 => absurd y0 (fun h => Bool.noConfusion h)), (fun y0 => hst.sub (.cons_cons _ (.cons_cons _ (.cons_cons _ .slnil))))⟩
  ·rintro D ρo wo nD eD cD jD aD ⟨f71, _⟩
   exact go_plain (op_assign (iV ((allA (h.filter (inT ((gd ws q).Lo) ((gd ws q).Hi))) (((gd ws q).Agg).From)).2)) f71 (kN0 (i := 15) hM (by decide) (by exact jD) (by exact rfl)))
  intro ρ119 w120 Dw120 hallw120 hJw120 hRw120 hkw120
  obtain ⟨g121, uw120_15, hhw120⟩ := hRw120 13 15 rfl
  have hst : St w0 w120 [.blk g121 29 (aggA ((allA (h.filter (inT ((gd ws q).Lo) ((gd ws q).Hi))) (((gd ws q).Agg).From)).1)), .blk g96 33 #[(iV ((gd ws q).Tier)), (iV ((gd ws q).Lo)), (iV ((gd ws q).Hi)), (iV (((gd ws q).Agg).From)), (iV (((gd ws q).Agg).Count)), (iV (((gd ws q).Agg).Sum)), (iV (((gd ws q).Agg).Min)), (iV (((gd ws q).Agg).Max)), (iV (((gd ws q).Agg).First)), (iV (((gd ws q).Agg).Last))], rowT 51 sampE r70 (h.filter (inT fr to))] := hhw120.2 (hallw120 14 (show 14 < 16 from by decide))
  have uw120_0 := (hkw120 0 rfl).trans q87_0
  have uw120_1 := (hkw120 1 rfl).trans q87_1
  have uw120_2 := (hkw120 2 rfl).trans q87_2
  have uw120_3 := (hkw120 3 rfl).trans q87_3
  have uw120_19 := (hkw120 19 rfl).trans q87_19
  have uw120_20 := (hkw120 20 rfl).trans q87_20
  have uw120_21 := (hkw120 21 rfl).trans q87_21
  have uw120_43 := (hkw120 43 rfl).trans q87_43
  have uw120_44 := (hkw120 44 rfl).trans q87_44
  have uw120_45 := (hkw120 45 rfl).trans q87_45
  have uw120_53 := (hkw120 53 rfl).trans q87_53
  have uw120_54 := (hkw120 54 rfl).trans q87_54
  have uw120_55 := (hkw120 55 rfl).trans q87_55
  have uw120_14 : ρ119 14 = (.pointer (some ⟨g96, 0, none⟩)) := (hkw120 14 rfl).trans rfl
  have uw120_16 : ρ119 16 = (iV ((allA (h.filter (inT ((gd ws q).Lo) ((gd ws q).Hi))) (((gd ws q).Agg).From)).2)) := hRw120 15 16 rfl
  refine then_n (cE_seq (cE_region rfl (s_cons (op_move (iV ((allA (h.filter (inT ((gd ws q).Lo) ((gd ws q).Hi))) (((gd ws q).Agg).From)).2)) uw120_16 (s_cons (op_neq (k := .i64) (a := (allA (h.filter (inT ((gd ws q).Lo) ((gd ws q).Hi))) (((gd ws q).Agg).From)).2) (b := 0) rfl rfl (s_cons (op_move (.bool (!decide (((allA (h.filter (inT ((gd ws q).Lo) ((gd ws q).Hi))) (((gd ws q).Agg).From)).2) = 0))) rfl ?_))))))))
  obtain ⟨g122, hg123⟩ : ∃ x : Bool, x = !(!decide (((allA (h.filter (inT ((gd ws q).Lo) ((gd ws q).Hi))) (((gd ws q).Agg).From)).2) = 0)) := ⟨_, rfl⟩
  refine s_lz 74 rfl ((gA_f rfl).trans hg123.symm) (Rlz g122 (.agg (aggA ((allA (h.filter (inT ((gd ws q).Lo) ((gd ws q).Hi))) (((gd ws q).Agg).From)).1))) w120) ?_ (fun hc124 => rlz_f hc124) ?_
  ·intro hc124
   refine op_loadN (cs := (aggC ((allA (h.filter (inT ((gd ws q).Lo) ((gd ws q).Hi))) (((gd ws q).Agg).From)).1))) Try.isAgg29 Try.sizeOf29 uw120_15 (Pt.of (hst.cell 0 rfl) rfl) rfl ?_
   exact rlz_t hc124
  rintro _ _ ⟨rfl, rfl⟩
  refine s_lz 74 rfl ((gA_f rfl).trans hg123.symm) (Rlz g122 (.pointer (some ⟨g96, (0 + 3), none⟩)) w120) ?_ (fun hc125 => rlz_f hc125) ?_
  ·intro hc125
   refine op_fieldAddr (s := 6) Try.underlying33 rfl rfl Try.sizeOf29 uw120_14 ?_
   exact rlz_t hc125
  rintro _ _ ⟨rfl, rfl⟩
  refine s_lz 74 rfl ((gA_f rfl).trans hg123.symm) (Rlz g122 (.agg (aggA ((gd ws q).Agg))) w120) ?_ (fun hc126 => rlz_f hc126) ?_
  ·intro hc126
   refine op_loadN (cs := (aggC ((gd ws q).Agg))) Try.isAgg29 Try.sizeOf29 (gt hc126) (Pt.of ((hst.cell 1 rfl).drop 3) rfl) rfl ?_
   exact rlz_t hc126
  rintro _ _ ⟨rfl, rfl⟩
  refine s_lz 74 rfl ((gA_f rfl).trans hg123.symm) (Rlz g122 (.bool (!decide (((allA (h.filter (inT ((gd ws q).Lo) ((gd ws q).Hi))) (((gd ws q).Agg).From)).1) = ((gd ws q).Agg)))) w120) ?_ (fun hc127 => rlz_f hc127) ?_
  ·intro hc127
   refine op_neqG Try.eqGuardType29 (Try.eqAgg ((allA (h.filter (inT ((gd ws q).Lo) ((gd ws q).Hi))) (((gd ws q).Agg).From)).1) ((gd ws q).Agg) _) (gt hc127) (gt hc127) ?_
   exact rlz_t hc127
  rintro _ _ ⟨rfl, rfl⟩
  obtain ⟨g128, hg129⟩ : ∃ x : Bool, x = ((!decide (((allA (h.filter (inT ((gd ws q).Lo) ((gd ws q).Hi))) (((gd ws q).Agg).From)).2) = 0)) || (!decide (((allA (h.filter (inT ((gd ws q).Lo) ((gd ws q).Hi))) (((gd ws q).Agg).From)).1) = ((gd ws q).Agg)))) := ⟨_, rfl⟩
  refine s_cons (op_pick_or rfl rfl rfl (fun hp => (hg123.trans (congrArg (! ·) (congrArg (! ·) (not_f hp))))) (s_nil (then_n ?_)))
  rcases Bool.eq_false_or_eq_true g128 with b130 | b130
  ·have c131 : (¬ (((allA (h.filter (inT ((gd ws q).Lo) ((gd ws q).Hi))) (((gd ws q).Agg).From)).2) = 0)) ∨ (¬ (((allA (h.filter (inT ((gd ws q).Lo) ((gd ws q).Hi))) (((gd ws q).Agg).From)).1) = ((gd ws q).Agg))) := (pi_or (pi_not pi_dec) (pi_not pi_dec)).1 (hg129.symm.trans b130)
   refine cE_cond true ((congrArg Value.bool hg129.symm).trans (congrArg Value.bool b130)) (fun _ => ?_) (fun h => by cases h)
   refine cE_seq (cE_region rfl (s_cons (op_assign (iV 4) rfl (s_nil (then_n (cE_ret (block_r (then_r (then_r (block_r (then_r (scope_r (post_r _ (res1 (v := (iV 4)) rfl) ?_)))))))))))))
   exact ⟨(retv1 (congrArg iV (show 4 = (answerC h ws fr to) from by exact (ans_4 (by assumption) hIA hCA (q := q) (by omega) (by assumption)).symm))), hst.bare⟩
  have c132 : ((allA (h.filter (inT ((gd ws q).Lo) ((gd ws q).Hi))) (((gd ws q).Agg).From)).2) = 0 := of_decide_eq_true (not_f (or_l (hg129.symm.trans b130)))
  have c133 : ((allA (h.filter (inT ((gd ws q).Lo) ((gd ws q).Hi))) (((gd ws q).Agg).From)).1) = ((gd ws q).Agg) := of_decide_eq_true (not_f (or_r (hg129.symm.trans b130)))
  refine cE_cond false ((congrArg Value.bool hg129.symm).trans (congrArg Value.bool b130)) (fun h => by cases h) (fun _ => ?_)
  refine cE_skip (block_n (then_n (cE_region rfl (s_cons (op_add (k := .i64) (a := (q : Int)) (b := 1) ((q : Int) + 1) uw120_55 rfl (xi64 (by omega) (by omega)) (s_cons (op_move (iV ((q : Int) + 1)) rfl (s_nil (then_n ?_)))))))))
  exact ⟨_, ⟨(q + 1), rfl, uw120_0, uw120_1, uw120_2, uw120_3, uw120_19, uw120_20, uw120_21, uw120_43, uw120_44, uw120_45, uw120_53, uw120_54, (congrArg iV (show ((q : Int) + 1) = _ from by omega)), (hst.sub (.cons _ (.cons _ (.cons_cons _ .slnil)))), (by omega), (by exact right_step (by omega) hR (by assumption) (by assumption))⟩, (by simp only [id]; omega)⟩
 have c134 := of_decide_eq_false b91
 refine cE_cond false (congrArg Value.bool b91) (fun h => by cases h) (fun _ => ?_)
 refine cE_exit (then_x (then_x (block_hit (then_n (cE_seq (cE_region rfl (s_cons (op_assign (iV 0) rfl (s_nil (then_n (cE_ret (scope_r (post_r _ (res1 (v := (iV 0)) rfl) ?_)))))))))))))
 exact ⟨(retv1 (congrArg iV (show 0 = (answerC h ws fr to) from by exact (ans_0 (by assumption) hIA hCA hR (by omega)).symm))), hst.bare⟩

end Go.Proofs.Ytldfnkhccaglmaa
