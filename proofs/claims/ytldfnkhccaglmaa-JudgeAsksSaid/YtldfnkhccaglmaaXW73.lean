/- twinkeeplaw23.of -/
import Derived.Test.YtldfnkhccaglmaaXLA
import Derived.Test.YtldfnkhccaglmaaXW64
namespace Go.Proofs.Ytldfnkhccaglmaa
open Go.RowKit

set_option maxRecDepth 8000 in
set_option maxHeartbeats 4000000 in
theorem c_of (w0 : World) (v_l : Value) (l : List Win) (h_l : Sl w0 winE v_l l) (hll : l.length ≤ 1000000) :
  Calls Try.prog 15 #[v_l] w0 fun e w' => ∃ (r : Value), e = .returned r ∧ St w0 w' [rowT 70 winE r l] := by
 refine calls_E (n := 36) (ts := [2]) Try.func15 rfl rfl rfl (by simp) ?_
 have hst := St.start w0
 refine cE_seq (cE_region rfl (s_cons (op_assign nS rfl (s_nil (then_n (cE_seq (cE_region rfl (s_cons (op_assign nS rfl (s_nil (then_n (cE_seq (cE_seq (cE_region rfl (s_cons (op_assign (iV 0) rfl (s_nil (then_n (cE_block ?_)))))))))))))))))))
 replace hst : St w0 w0 [rowT 70 winE nS ([])] := hst.nilRow 70 winE
 refine cE_loop (fun (m : Nat) (ρ : Env) (w : World) => ∃ (vo : Value) (i : Nat), m = l.length - i ∧ ρ 0 = v_l ∧ ρ 2 = nS ∧ ρ 3 = vo ∧ ρ 4 = (iV (i : Int)) ∧ St w0 w [rowT 70 winE vo (l.take i)] ∧ (i ≤ l.length)) id _ ⟨nS, 0, rfl, rfl, rfl, rfl, (congrArg iV (show 0 = _ from by omega)), (by have h := hst; first | exact h | (refine (?_ : St _ _ _); simpa using h)), (by omega)⟩ ?_
 rintro m2 ρ3 w4 ⟨vo, i, hm2, q1_0, q1_2, q1_3, q1_4, hst, hi⟩
 have hlen := h_l.len
 refine cE_seq (cE_seq (cE_region rfl (s_cons (op_move (iV (i : Int)) q1_4 (s_cons (op_move v_l q1_0 (s_cons (op_len (E := winE) (xs := l) Try.underlying27 rfl h_l (s_cons (op_lss (k := .i64) (a := (i : Int)) (b := (l.length : Int)) rfl rfl (s_nil (then_n ?_))))))))))))
 rcases Bool.eq_false_or_eq_true (decide ((i : Int) < (l.length : Int))) with b5 | b5
 ·have c6 : (i : Int) < (l.length : Int) := of_decide_eq_true b5
  refine cE_cond true (congrArg Value.bool b5) (fun _ => ?_) (fun h => by cases h)
  refine cE_skip (then_n (cE_seq (cE_block (cE_regionM (fun (D : Nat → Bool) (w : World) => St w0 w [] ∧ (D 23 = false → St w0 w [rowT 70 winE vo (l.take i)])) [[(3, none)], [(0, none)], [(4, none)], [(12, some 1), (13, some 2)], [(14, some 3)], [(15, some 4)], [(0, none)], [(4, none)], [(17, some 6), (18, some 7)], [(19, some 8)], [(20, some 9)], [(0, none)], [(4, none)], [(22, some 11), (23, some 12)], [(24, some 13)], [(25, some 14)], [(0, none)], [(4, none)], [(27, some 16), (28, some 17)], [(29, some 18)], [(30, some 19)], [(16, some 5), (21, some 10), (26, some 15), (31, some 20)], [(32, some 21)], [(11, some 0), (33, some 22)], [(34, some 23)]] [23] [(kEq vo), (kEq v_l), (kEq (iV (i : Int))), (kPt0 w0 [(iV ((gd l i).Tier)), (iV ((gd l i).Lo)), (iV ((gd l i).Hi)), (iV (((gd l i).Agg).From)), (iV (((gd l i).Agg).Count)), (iV (((gd l i).Agg).Sum)), (iV (((gd l i).Agg).Min)), (iV (((gd l i).Agg).Max)), (iV (((gd l i).Agg).First)), (iV (((gd l i).Agg).Last))]), (kPt0 w0 [(iV ((gd l i).Tier)), (iV ((gd l i).Lo)), (iV ((gd l i).Hi)), (iV (((gd l i).Agg).From)), (iV (((gd l i).Agg).Count)), (iV (((gd l i).Agg).Sum)), (iV (((gd l i).Agg).Min)), (iV (((gd l i).Agg).Max)), (iV (((gd l i).Agg).First)), (iV (((gd l i).Agg).Last))]), (kEq (iV ((gd l i).Tier))), (kEq v_l), (kEq (iV (i : Int))), (kPt0 w0 [(iV ((gd l i).Tier)), (iV ((gd l i).Lo)), (iV ((gd l i).Hi)), (iV (((gd l i).Agg).From)), (iV (((gd l i).Agg).Count)), (iV (((gd l i).Agg).Sum)), (iV (((gd l i).Agg).Min)), (iV (((gd l i).Agg).Max)), (iV (((gd l i).Agg).First)), (iV (((gd l i).Agg).Last))]), (kPt0 w0 [(iV ((gd l i).Lo)), (iV ((gd l i).Hi)), (iV (((gd l i).Agg).From)), (iV (((gd l i).Agg).Count)), (iV (((gd l i).Agg).Sum)), (iV (((gd l i).Agg).Min)), (iV (((gd l i).Agg).Max)), (iV (((gd l i).Agg).First)), (iV (((gd l i).Agg).Last))]), (kEq (iV ((gd l i).Lo))), (kEq v_l), (kEq (iV (i : Int))), (kPt0 w0 [(iV ((gd l i).Tier)), (iV ((gd l i).Lo)), (iV ((gd l i).Hi)), (iV (((gd l i).Agg).From)), (iV (((gd l i).Agg).Count)), (iV (((gd l i).Agg).Sum)), (iV (((gd l i).Agg).Min)), (iV (((gd l i).Agg).Max)), (iV (((gd l i).Agg).First)), (iV (((gd l i).Agg).Last))]), (kPt0 w0 [(iV ((gd l i).Hi)), (iV (((gd l i).Agg).From)), (iV (((gd l i).Agg).Count)), (iV (((gd l i).Agg).Sum)), (iV (((gd l i).Agg).Min)), (iV (((gd l i).Agg).Max)), (iV (((gd l i).Agg).First)), (iV (((gd l i).Agg).Last))]), (kEq (iV ((gd l i).Hi))), (kEq v_l), (kEq (iV (i : Int))), (kPt0 w0 [(iV ((gd l i).Tier)), (iV ((gd l i).Lo)), (iV ((gd l i).Hi)), (iV (((gd l i).Agg).From)), (iV (((gd l i).Agg).Count)), (iV (((gd l i).Agg).Sum)), (iV (((gd l i).Agg).Min)), (iV (((gd l i).Agg).Max)), (iV (((gd l i).Agg).First)), (iV (((gd l i).Agg).Last))]), (kPt0 w0 (aggC ((gd l i).Agg))), (kEq (.agg (aggA ((gd l i).Agg)))), (kEq (.agg #[(iV ((gd l i).Tier)), (iV ((gd l i).Lo)), (iV ((gd l i).Hi)), (iV (((gd l i).Agg).From)), (iV (((gd l i).Agg).Count)), (iV (((gd l i).Agg).Sum)), (iV (((gd l i).Agg).Min)), (iV (((gd l i).Agg).Max)), (iV (((gd l i).Agg).First)), (iV (((gd l i).Agg).Last))])), (kSlU [23] winE ([(gd l i)])), (fun (D : Nat → Bool) (v21 : Value) (w : World) => (D 23 = true → St w0 w [rowT 70 winE v21 (l.take (i + 1))])), (fun (D : Nat → Bool) (v21 : Value) (w : World) => (D 23 = true → St w0 w [rowT 70 winE v21 (l.take (i + 1))]))] ⟨mEq, mEq, mEq, mPt0, mPt0, mEq, mEq, mEq, mPt0, mPt0, mEq, mEq, mEq, mPt0, mPt0, mEq, mEq, mEq, mPt0, mPt0, mEq, mEq, (mSlUs (by decide)), (fun D D' v w w' hD hb h2 => (fun x0 => (h2 ((hD 23 (by decide)).symm.trans x0)).ext hb)), (fun D D' v w w' hD hb h2 => (fun x0 => (h2 ((hD 23 (by decide)).symm.trans x0)).ext hb)), trivial⟩ (by kernel_rfl) rfl (by kernel_rfl) ⟨hst.drewW.sub (.cons _ .slnil), (fun _ => hst.drewW)⟩ (fun hM => ⟨?_, ?_, ?_, ?_, ?_, ?_, ?_, ?_, ?_, ?_, ?_, ?_, ?_, ?_, ?_, ?_, ?_, ?_, ?_, ?_, ?_, ?_, ?_, ?_, ?_, trivial⟩) ?_))))
  ·rintro D ρo wo nD eD cD jD aD ⟨f3, _⟩
   exact go_plain (op_move vo (f3.trans q1_3) (kN0 (i := 0) hM (by decide) (by exact jD) (by exact rfl)))
  ·rintro D ρo wo nD eD cD jD aD ⟨f0, _⟩
   exact go_plain (op_move v_l (f0.trans q1_0) (kN0 (i := 1) hM (by decide) (by exact jD) (by exact rfl)))
  ·rintro D ρo wo nD eD cD jD aD ⟨f4, _⟩
   exact go_plain (op_move (iV (i : Int)) (f4.trans q1_4) (kN0 (i := 2) hM (by decide) (by exact jD) (by exact rfl)))
  ·rintro D ρo wo nD eD cD jD aD ⟨f12, f13, _⟩
   refine go_plain (op_indexAddrD (E := winE) (xs := l) i Try.underlying27 Try.sizeOf33 f12 h_l f13 (by omega) (by omega) (fun a24 o25 p26 => ?_))
   exact (kN0 (i := 3) hM (by decide) (by exact jD) (by exact ⟨_, _, rfl, p26⟩))
  ·rintro D ρo wo nD eD cD jD aD ⟨f14, _⟩
   obtain ⟨a27, o28, e29, p30⟩ := f14
   exact go_plain (op_fieldAddr (s := 0) Try.underlying33 rfl rfl Try.sizeOf3 e29 (kN0 (i := 4) hM (by decide) (by exact jD) (by exact ⟨_, _, rfl, p30⟩)))
  ·rintro D ρo wo nD eD cD jD aD ⟨f15, _⟩
   have hst := jD.2 (not_yet nD (fun hm => (cD 21 5 (cD 22 21 (cD 23 22 hm (by kernel_rfl)) (by kernel_rfl)) (by kernel_rfl))))
   replace hst : St w0 wo [rowT 70 winE vo (l.take i)] := hst
   obtain ⟨a31, o32, e33, p34⟩ := f15
   exact go_plain (op_load1 (u := (iV ((gd l i).Tier))) Try.isAgg3 e33 (p34.below hst.below) (kN0 (i := 5) hM (by decide) (by exact jD) (by exact rfl)))
  ·rintro D ρo wo nD eD cD jD aD ⟨f0, _⟩
   exact go_plain (op_move v_l (f0.trans q1_0) (kN0 (i := 6) hM (by decide) (by exact jD) (by exact rfl)))
  ·rintro D ρo wo nD eD cD jD aD ⟨f4, _⟩
   exact go_plain (op_move (iV (i : Int)) (f4.trans q1_4) (kN0 (i := 7) hM (by decide) (by exact jD) (by exact rfl)))
  ·rintro D ρo wo nD eD cD jD aD ⟨f17, f18, _⟩
   refine go_plain (op_indexAddrD (E := winE) (xs := l) i Try.underlying27 Try.sizeOf33 f17 h_l f18 (by omega) (by omega) (fun a35 o36 p37 => ?_))
   exact (kN0 (i := 8) hM (by decide) (by exact jD) (by exact ⟨_, _, rfl, p37⟩))
  ·rintro D ρo wo nD eD cD jD aD ⟨f19, _⟩
   obtain ⟨a38, o39, e40, p41⟩ := f19
   exact go_plain (op_fieldAddr (s := 0) Try.underlying33 rfl rfl Try.sizeOf2 e40 (kN0 (i := 9) hM (by decide) (by exact jD) (by exact ⟨_, _, rfl, (p41.drop 1)⟩)))
  ·rintro D ρo wo nD eD cD jD aD ⟨f20, _⟩
   have hst := jD.2 (not_yet nD (fun hm => (cD 21 10 (cD 22 21 (cD 23 22 hm (by kernel_rfl)) (by kernel_rfl)) (by kernel_rfl))))
   replace hst : St w0 wo [rowT 70 winE vo (l.take i)] := hst
   obtain ⟨a42, o43, e44, p45⟩ := f20
   exact go_plain (op_load1 (u := (iV ((gd l i).Lo))) Try.isAgg2 e44 (p45.below hst.below) (kN0 (i := 10) hM (by decide) (by exact jD) (by exact rfl)))
  ·rintro D ρo wo nD eD cD jD aD ⟨f0, _⟩
   exact go_plain (op_move v_l (f0.trans q1_0) (kN0 (i := 11) hM (by decide) (by exact jD) (by exact rfl)))
  ·rintro D ρo wo nD eD cD jD aD ⟨f4, _⟩
   exact go_plain (op_move (iV (i : Int)) (f4.trans q1_4) (kN0 (i := 12) hM (by decide) (by exact jD) (by exact rfl)))
  ·rintro D ρo wo nD eD cD jD aD ⟨f22, f23, _⟩
   refine go_plain (op_indexAddrD (E := winE) (xs := l) i Try.underlying27 Try.sizeOf33 f22 h_l f23 (by omega) (by omega) (fun a46 o47 p48 => ?_))
   exact (kN0 (i := 13) hM (by decide) (by exact jD) (by exact ⟨_, _, rfl, p48⟩))
  ·rintro D ρo wo nD eD cD jD aD ⟨f24, _⟩
   obtain ⟨a49, o50, e51, p52⟩ := f24
   exact go_plain (op_fieldAddr (s := 0) Try.underlying33 rfl rfl Try.sizeOf2 e51 (kN0 (i := 14) hM (by decide) (by exact jD) (by exact ⟨_, _, rfl, (p52.drop 2)⟩)))
  ·rintro D ρo wo nD eD cD jD aD ⟨f25, _⟩
   have hst := jD.2 (not_yet nD (fun hm => (cD 21 15 (cD 22 21 (cD 23 22 hm (by kernel_rfl)) (by kernel_rfl)) (by kernel_rfl))))
   replace hst : St w0 wo [rowT 70 winE vo (l.take i)] := hst
   obtain ⟨a53, o54, e55, p56⟩ := f25
   exact go_plain (op_load1 (u := (iV ((gd l i).Hi))) Try.isAgg2 e55 (p56.below hst.below) (kN0 (i := 15) hM (by decide) (by exact jD) (by exact rfl)))
  ·rintro D ρo wo nD eD cD jD aD ⟨f0, _⟩
   exact go_plain (op_move v_l (f0.trans q1_0) (kN0 (i := 16) hM (by decide) (by exact jD) (by exact rfl)))
  ·rintro D ρo wo nD eD cD jD aD ⟨f4, _⟩
   exact go_plain (op_move (iV (i : Int)) (f4.trans q1_4) (kN0 (i := 17) hM (by decide) (by exact jD) (by exact rfl)))
  ·rintro D ρo wo nD eD cD jD aD ⟨f27, f28, _⟩
   refine go_plain (op_indexAddrD (E := winE) (xs := l) i Try.underlying27 Try.sizeOf33 f27 h_l f28 (by omega) (by omega) (fun a57 o58 p59 => ?_))
   exact (kN0 (i := 18) hM (by decide) (by exact jD) (by exact ⟨_, _, rfl, p59⟩))
  ·rintro D ρo wo nD eD cD jD aD ⟨f29, _⟩
   obtain ⟨a60, o61, e62, p63⟩ := f29
   exact go_plain (op_fieldAddr (s := 6) Try.underlying33 rfl rfl Try.sizeOf29 e62 (kN0 (i := 19) hM (by decide) (by exact jD) (by exact ⟨_, _, rfl, (p63.drop 3)⟩)))
  ·rintro D ρo wo nD eD cD jD aD ⟨f30, _⟩
   have hst := jD.2 (not_yet nD (fun hm => (cD 21 20 (cD 22 21 (cD 23 22 hm (by kernel_rfl)) (by kernel_rfl)) (by kernel_rfl))))
   replace hst : St w0 wo [rowT 70 winE vo (l.take i)] := hst
   obtain ⟨a64, o65, e66, p67⟩ := f30
   exact go_plain (op_loadN (cs := (aggC ((gd l i).Agg))) Try.isAgg29 Try.sizeOf29 e66 (Pt.of (p67.below hst.below) rfl) rfl (kN0 (i := 20) hM (by decide) (by exact jD) (by exact rfl)))
  ·rintro D ρo wo nD eD cD jD aD ⟨f16, f21, f26, f31, _⟩
   exact go_plain (op_build (r := (.agg #[(iV ((gd l i).Tier)), (iV ((gd l i).Lo)), (iV ((gd l i).Hi)), (iV (((gd l i).Agg).From)), (iV (((gd l i).Agg).Count)), (iV (((gd l i).Agg).Sum)), (iV (((gd l i).Agg).Min)), (iV (((gd l i).Agg).Max)), (iV (((gd l i).Agg).First)), (iV (((gd l i).Agg).Last))])) (evp_cons (v := (iV ((gd l i).Tier))) f16 (evp_cons (v := (iV ((gd l i).Lo))) f21 (evp_cons (v := (iV ((gd l i).Hi))) f26 (evp_cons (v := (.agg (aggA ((gd l i).Agg)))) f31 evp_nil)))) (by simp [Instr.build, Instr.fill, Value.cells, Try.runUnderlying70, Try.zeroValue70]) (kN0 (i := 21) hM (by decide) (by exact jD) (by exact rfl)))
  ·rintro D ρo wo nD eD cD jD aD ⟨f32, _⟩
   have hst := jD.2 (not_yet nD (fun hm => (cD 23 22 hm (by kernel_rfl))))
   replace hst : St w0 wo [rowT 70 winE vo (l.take i)] := hst
   have hst := St.start wo
   refine go_plain (op_buildSlice (E := winE) [(gd l i)] hst Try.underlying38 Try.sizeOf70 Try.zeroValue70 (evp_cons (v := (.agg #[(iV ((gd l i).Tier)), (iV ((gd l i).Lo)), (iV ((gd l i).Hi)), (iV (((gd l i).Agg).From)), (iV (((gd l i).Agg).Count)), (iV (((gd l i).Agg).Sum)), (iV (((gd l i).Agg).Min)), (iV (((gd l i).Agg).Max)), (iV (((gd l i).Agg).First)), (iV (((gd l i).Agg).Last))])) f32 evp_nil) (parts_cons rfl parts_nil) rfl (by decide) (fun v68 w69 hst => ?_))
   exact kN (i := 22) hM (by decide) hst.below (by exact ⟨(jD.1).ext hst.below, (fun x0 => (jD.2 x0).ext hst.below)⟩) (by exact fun _ => hst.sl 0 rfl)
  ·rintro D ρo wo nD eD cD jD aD ⟨f11, f33, _⟩
   have hst := jD.2 nD
   replace hst : St w0 wo [rowT 70 winE vo (l.take i)] := hst
   obtain ⟨v71, e72⟩ : ∃ x, ρo 33 = x := ⟨_, rfl⟩
   have hs70 := f33 (by intro m hm; obtain rfl := List.mem_singleton.1 hm; exact nD)
   replace hs70 : Sl wo winE v71 ([(gd l i)]) := e72 ▸ hs70
   refine go_plain (op_append (E := winE) (xs := (l.take i)) (ys := [(gd l i)]) (z := (.agg #[(iV 0), (iV 0), (iV 0), (iV 0), (iV 0), (iV 0), (iV 0), (iV 0), (iV 0), (iV 0)])) (bytes := 80) hst 0 rfl Try.underlying38 (by kernel_rfl) rfl f11 e72 hs70 (by first | omega | (simp only [List.length_cons, List.length_nil, List.length_take]; omega)) (by first | omega | (simp only [List.length_cons, List.length_nil, List.length_take]; omega)) (fun v73 w74 hst => ?_))
   replace hst : St w0 w74 [rowT 70 winE v73 (l.take (i + 1))] := by rw [show ((l.take i) ++ ([(gd l i)])) = (l.take (i + 1)) from (take_gd (by omega)).symm] at hst; exact hst
   have hI75 : stabIXs 23 [] D 0 [(kEq vo), (kEq v_l), (kEq (iV (i : Int))), (kPt0 w0 [(iV ((gd l i).Tier)), (iV ((gd l i).Lo)), (iV ((gd l i).Hi)), (iV (((gd l i).Agg).From)), (iV (((gd l i).Agg).Count)), (iV (((gd l i).Agg).Sum)), (iV (((gd l i).Agg).Min)), (iV (((gd l i).Agg).Max)), (iV (((gd l i).Agg).First)), (iV (((gd l i).Agg).Last))]), (kPt0 w0 [(iV ((gd l i).Tier)), (iV ((gd l i).Lo)), (iV ((gd l i).Hi)), (iV (((gd l i).Agg).From)), (iV (((gd l i).Agg).Count)), (iV (((gd l i).Agg).Sum)), (iV (((gd l i).Agg).Min)), (iV (((gd l i).Agg).Max)), (iV (((gd l i).Agg).First)), (iV (((gd l i).Agg).Last))]), (kEq (iV ((gd l i).Tier))), (kEq v_l), (kEq (iV (i : Int))), (kPt0 w0 [(iV ((gd l i).Tier)), (iV ((gd l i).Lo)), (iV ((gd l i).Hi)), (iV (((gd l i).Agg).From)), (iV (((gd l i).Agg).Count)), (iV (((gd l i).Agg).Sum)), (iV (((gd l i).Agg).Min)), (iV (((gd l i).Agg).Max)), (iV (((gd l i).Agg).First)), (iV (((gd l i).Agg).Last))]), (kPt0 w0 [(iV ((gd l i).Lo)), (iV ((gd l i).Hi)), (iV (((gd l i).Agg).From)), (iV (((gd l i).Agg).Count)), (iV (((gd l i).Agg).Sum)), (iV (((gd l i).Agg).Min)), (iV (((gd l i).Agg).Max)), (iV (((gd l i).Agg).First)), (iV (((gd l i).Agg).Last))]), (kEq (iV ((gd l i).Lo))), (kEq v_l), (kEq (iV (i : Int))), (kPt0 w0 [(iV ((gd l i).Tier)), (iV ((gd l i).Lo)), (iV ((gd l i).Hi)), (iV (((gd l i).Agg).From)), (iV (((gd l i).Agg).Count)), (iV (((gd l i).Agg).Sum)), (iV (((gd l i).Agg).Min)), (iV (((gd l i).Agg).Max)), (iV (((gd l i).Agg).First)), (iV (((gd l i).Agg).Last))]), (kPt0 w0 [(iV ((gd l i).Hi)), (iV (((gd l i).Agg).From)), (iV (((gd l i).Agg).Count)), (iV (((gd l i).Agg).Sum)), (iV (((gd l i).Agg).Min)), (iV (((gd l i).Agg).Max)), (iV (((gd l i).Agg).First)), (iV (((gd l i).Agg).Last))]), (kEq (iV ((gd l i).Hi))), (kEq v_l), (kEq (iV (i : Int))), (kPt0 w0 [(iV ((gd l i).Tier)), (iV ((gd l i).Lo)), (iV ((gd l i).Hi)), (iV (((gd l i).Agg).From)), (iV (((gd l i).Agg).Count)), (iV (((gd l i).Agg).Sum)), (iV (((gd l i).Agg).Min)), (iV (((gd l i).Agg).Max)), (iV (((gd l i).Agg).First)), (iV (((gd l i).Agg).Last))]), (kPt0 w0 (aggC ((gd l i).Agg))), (kEq (.agg (aggA ((gd l i).Agg)))), (kEq (.agg #[(iV ((gd l i).Tier)), (iV ((gd l i).Lo)), (iV ((gd l i).Hi)), (iV (((gd l i).Agg).From)), (iV (((gd l i).Agg).Count)), (iV (((gd l i).Agg).Sum)), (iV (((gd l i).Agg).Min)), (iV (((gd l i).Agg).Max)), (iV (((gd l i).Agg).First)), (iV (((gd l i).Agg).Last))])), (kSlU [23] winE ([(gd l i)])), (fun (D : Nat → Bool) (v21 : Value) (w : World) => (D 23 = true → St w0 w [rowT 70 winE v21 (l.take (i + 1))])), (fun (D : Nat → Bool) (v21 : Value) (w : World) => (D 23 = true → St w0 w [rowT 70 winE v21 (l.take (i + 1))]))] := ⟨Or.inr (Or.inr (Or.inr iEq)), Or.inr (Or.inr (Or.inr iEq)), Or.inr (Or.inr (Or.inr iEq)), Or.inr (Or.inr (Or.inr iPt0)), Or.inr (Or.inr (Or.inr iPt0)), Or.inr (Or.inr (Or.inr iEq)), Or.inr (Or.inr (Or.inr iEq)), Or.inr (Or.inr (Or.inr iEq)), Or.inr (Or.inr (Or.inr iPt0)), Or.inr (Or.inr (Or.inr iPt0)), Or.inr (Or.inr (Or.inr iEq)), Or.inr (Or.inr (Or.inr iEq)), Or.inr (Or.inr (Or.inr iEq)), Or.inr (Or.inr (Or.inr iPt0)), Or.inr (Or.inr (Or.inr iPt0)), Or.inr (Or.inr (Or.inr iEq)), Or.inr (Or.inr (Or.inr iEq)), Or.inr (Or.inr (Or.inr iEq)), Or.inr (Or.inr (Or.inr iPt0)), Or.inr (Or.inr (Or.inr iPt0)), Or.inr (Or.inr (Or.inr iEq)), Or.inr (Or.inr (Or.inr iEq)), Or.inr (Or.inr (Or.inr (iSlU (by decide)))), Or.inl rfl, Or.inr (Or.inr (Or.inl (not_yet nD (fun hm => (cD 24 23 hm (by kernel_rfl)))))), trivial⟩
   refine ⟨by exact ⟨hst.sub (.cons _ .slnil), (fun y0 => absurd y0 (fun h => Bool.noConfusion h))⟩, by exact (fun y0 => hst.sub (.cons_cons _ .slnil)), kX [] hI75 ?_⟩
   intro j d hj; cases hj
  ·rintro D ρo wo nD eD cD jD aD ⟨f34, _⟩
   obtain ⟨v76, e77⟩ : ∃ x, ρo 34 = x := ⟨_, rfl⟩
   have hh78 := aD 23 34 (eD 23 (by kernel_rfl)) rfl
   have hst : St w0 wo [rowT 70 winE v76 (l.take (i + 1))] := by have h := hh78 (eD 23 (by kernel_rfl)); rw [e77] at h; exact h
   exact go_plain (op_assign _ rfl (kN0 (i := 24) hM (by decide) (by exact jD) (by exact f34)))
  intro ρ79 w80 Dw80 hallw80 hJw80 hRw80 hkw80
  obtain ⟨v81, uw80_3⟩ : ∃ x, ρ79 3 = x := ⟨_, rfl⟩
  have hst : St w0 w80 [rowT 70 winE v81 (l.take (i + 1))] := by have h := hRw80 24 3 rfl; rw [uw80_3] at h; exact (h (hallw80 23 (show 23 < 25 from by decide)))
  have uw80_0 : ρ79 0 = v_l := (hkw80 0 rfl).trans q1_0
  have uw80_2 : ρ79 2 = nS := (hkw80 2 rfl).trans q1_2
  have uw80_4 : ρ79 4 = (iV (i : Int)) := (hkw80 4 rfl).trans q1_4
  have uw80_5 : ρ79 5 = (iV (i : Int)) := (hkw80 5 rfl).trans rfl
  have uw80_6 : ρ79 6 = v_l := (hkw80 6 rfl).trans rfl
  have uw80_7 : ρ79 7 = (iV (l.length : Int)) := (hkw80 7 rfl).trans rfl
  have uw80_8 : ρ79 8 = (.bool (decide ((i : Int) < (l.length : Int)))) := (hkw80 8 rfl).trans rfl
  refine block_n (then_n (cE_region rfl (s_cons (op_move (iV (i : Int)) uw80_4 (s_cons (op_add (k := .i64) (a := (i : Int)) (b := 1) ((i : Int) + 1) rfl rfl (xi64 (by omega) (by omega)) (s_cons (op_assign (iV ((i : Int) + 1)) rfl (s_nil (then_n ?_))))))))))
  exact ⟨_, ⟨v81, (i + 1), rfl, uw80_0, uw80_2, uw80_3, (congrArg iV (show ((i : Int) + 1) = _ from by omega)), hst, (by omega)⟩, (by simp only [id]; omega)⟩
 have c82 : ¬ ((i : Int) < (l.length : Int)) := of_decide_eq_false b5
 refine cE_cond false (congrArg Value.bool b5) (fun h => by cases h) (fun _ => ?_)
 refine cE_exit (then_x (then_x (block_hit (then_n (cE_seq ?_)))))
 have hTA : l.take i = l := List.take_of_length_le (by omega)
 replace hst : St w0 w4 [rowT 70 winE vo l] := by rw [hTA] at hst; exact hst
 refine cE_region rfl (s_cons (op_move vo q1_3 (s_cons (op_assign vo rfl (s_nil (then_n (cE_ret (post_r _ (res1 (v := vo) rfl) ?_))))))))
 exact ⟨vo, rfl, hst.sub (.cons_cons _ .slnil)⟩

end Go.Proofs.Ytldfnkhccaglmaa
