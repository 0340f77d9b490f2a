/- twinkeepref17.Total -/
import Derived.Test.YthanfecefjfbjaaXLA
import Derived.Test.YthanfecefjfbjaaXW34
namespace Go.Proofs.Ythanfecefjfbjaa
open Go.RowKit

set_option maxRecDepth 8000 in
set_option maxHeartbeats 4000000 in
theorem c_rTotal (w0 : World) (v_l : Value) (l : List Win) (h_l : Sl w0 winE v_l l) (hl : ∀ w ∈ l, w.Agg.ok) :
  Calls Try.prog 15 #[v_l] w0 fun e w' => e = .returned (.tuple #[(.agg (aggA ((totW l).1))), (iV ((totW l).2))]) ∧ St w0 w' [] := by
 refine calls_G (n := 38) (rs := [.cell 2 37, .tmp 3]) Try.func15 rfl rfl rfl (by simp) ?_
 have hst := St.start w0
 refine cE_seq (cE_region rfl (s_cons (op_alloc (cs := #[(iV 0), (iV 0), (iV 0), (iV 0), (iV 0), (iV 0), (iV 0)]) hst Try.zeroValue37 rfl (fun g1 w2 hst _ => ?_))))
 refine s_cons (op_assign (iV 0) rfl (s_nil (then_n (cE_seq (cE_seq (cE_region rfl (s_cons (op_move v_l rfl (s_cons (op_len (E := winE) (xs := l) Try.underlying33 rfl h_l (s_cons (op_eql (k := .i64) (a := (l.length : Int)) (b := 0) rfl rfl (s_nil (then_n ?_))))))))))))))
 rcases Bool.eq_false_or_eq_true (decide ((l.length : Int) = 0)) with b3 | b3
 ·have c4 := of_decide_eq_true b3
  refine cE_cond true (congrArg Value.bool b3) (fun _ => ?_) (fun h => by cases h)
  refine cE_seq (cE_region rfl (s_cons (op_build (r := (.agg #[(iV 0), (iV 0), (iV 0), (iV 0), (iV 0), (iV 0), (iV 0)])) evp_nil (by simp [Instr.build, Instr.fill, Value.cells, Try.runUnderlying37, Try.zeroValue37]) (s_cons0 (op_storeAll hst 0 rfl Try.sizeOf37 rfl rfl rfl rfl (by simp [Value.oneCell']) (fun w5 hst => ?_))))))
  refine s_cons (op_assign (iV 9) rfl (s_nil (then_n (cE_ret (then_r (postG_r _ (rvN (cs := [(iV 0), (iV 0), (iV 0), (iV 0), (iV 0), (iV 0), (iV 0)]) Try.isAgg37 Try.sizeOf37 rfl (Pt.of (hst.cell 0 rfl) rfl) rfl (rvt (v := (iV 9)) rfl rvnil)) ?_))))))
  exact ⟨(retv2 (congrArg aggV (show (⟨0, 0, 0, 0, 0, 0, 0⟩ : Agg) = (totW l).1 from by exact fst_of (tot_none (by omega)))) (congrArg iV (show 9 = (totW l).2 from by exact snd_of (tot_none (by omega))))), hst.bare⟩
 have c6 := of_decide_eq_false b3
 refine cE_cond false (congrArg Value.bool b3) (fun h => by cases h) (fun _ => ?_)
 refine cE_skip (then_n (cE_seq (cE_region rfl (s_cons (op_move v_l rfl (s_cons (op_indexAddrN (E := winE) (xs := l) 0 Try.underlying33 Try.sizeOf73 rfl h_l rfl (by omega) (by omega) (fun a7 o8 p9 => ?_))))))))
 refine s_cons (op_fieldAddr (s := 6) Try.underlying73 rfl rfl Try.sizeOf37 rfl (s_cons (op_loadN (cs := (aggC ((l[0]'(by omega)).Agg))) Try.isAgg37 Try.sizeOf37 rfl (Pt.of ((p9.below hst.below).drop 3) rfl) rfl (s_cons (op_alloc (cs := #[(iV 0), (iV 0), (iV 0), (iV 0), (iV 0), (iV 0), (iV 0)]) hst Try.zeroValue37 rfl (fun g10 w11 hst _ => ?_))))))
 refine s_cons0 (op_storeAll hst 0 rfl Try.sizeOf37 rfl rfl rfl rfl (by simp [Value.oneCell']) (fun w12 hst => ?_))
 refine s_nil (then_n (cE_seq (cE_seq (cE_region rfl (s_cons (op_assign (iV 1) rfl (s_nil (then_n (cE_block (cE_loop (fun (m : Nat) (ρ : Env) (w : World) => ∃ (acc : Agg) (i : Nat), m = l.length - i ∧ ρ 0 = v_l ∧ ρ 2 = (.pointer (some ⟨g1, 0, none⟩)) ∧ ρ 4 = (.pointer (some ⟨g10, 0, none⟩)) ∧ ρ 5 = (iV (i : Int)) ∧ St w0 w [.blk g10 37 (aggA acc), .blk g1 37 #[(iV 0), (iV 0), (iV 0), (iV 0), (iV 0), (iV 0), (iV 0)]] ∧ (i ≤ l.length) ∧ acc.ok ∧ (totW l = totG acc (l.drop i))) id _ ⟨((l[0]'(by omega)).Agg), 1, rfl, rfl, rfl, rfl, (congrArg iV (show 1 = _ from by omega)), (hst.sub (.cons_cons _ (.cons_cons _ .slnil))), (by omega), (by exact (hl _ (List.getElem_mem _))), (by exact tot_first (by omega))⟩ ?_))))))))))
 rintro m14 ρ15 w16 ⟨acc, i, hm14, q13_0, q13_2, q13_4, q13_5, hst, hi, hok, hI⟩
 have hlen := h_l.len
 refine cE_seq (cE_seq (cE_region rfl (s_cons (op_move (iV (i : Int)) q13_5 (s_cons (op_move v_l q13_0 (s_cons (op_len (E := winE) (xs := l) Try.underlying33 rfl h_l (s_cons (op_lss (k := .i64) (a := (i : Int)) (b := (l.length : Int)) rfl rfl (s_nil (then_n ?_))))))))))))
 rcases Bool.eq_false_or_eq_true (decide ((i : Int) < (l.length : Int))) with b17 | b17
 ·have c18 := of_decide_eq_true b17
  refine cE_cond true (congrArg Value.bool b17) (fun _ => ?_) (fun h => by cases h)
  refine cE_skip (then_n (cE_seq (cE_block (cE_seq (cE_regionM (fun (D : Nat → Bool) (w : World) => St w0 w [.blk g10 37 (aggA acc), .blk g1 37 #[(iV 0), (iV 0), (iV 0), (iV 0), (iV 0), (iV 0), (iV 0)]] ∧ (D 11 = false → St w0 w [.blk g10 37 (aggA acc), .blk g1 37 #[(iV 0), (iV 0), (iV 0), (iV 0), (iV 0), (iV 0), (iV 0)]]) ∧ (D 11 = true → St w0 w [.blk g10 37 (aggA acc), .blk g1 37 #[(iV 0), (iV 0), (iV 0), (iV 0), (iV 0), (iV 0), (iV 0)]])) [[(4, none)], [(0, none)], [(5, none)], [(24, some 1), (25, some 2)], [(26, some 3)], [(27, some 4)], [(23, some 0), (28, some 5)], [(29, some 6)], [(22, some 7)], [(22, some 7)], [], [(6, some 10), (30, some 8)], [(31, some 9)]] [11] [(kEq (.agg (aggA acc))), (kEq v_l), (kEq (iV (i : Int))), (kPt0 w0 [(iV ((l[i]'(by omega)).Tier)), (iV ((l[i]'(by omega)).Lo)), (iV ((l[i]'(by omega)).Hi)), (iV (((l[i]'(by omega)).Agg).From)), (iV (((l[i]'(by omega)).Agg).Count)), (iV (((l[i]'(by omega)).Agg).Sum)), (iV (((l[i]'(by omega)).Agg).Min)), (iV (((l[i]'(by omega)).Agg).Max)), (iV (((l[i]'(by omega)).Agg).First)), (iV (((l[i]'(by omega)).Agg).Last))]), (kPt0 w0 (aggC ((l[i]'(by omega)).Agg))), (kEq (.agg (aggA ((l[i]'(by omega)).Agg)))), (kEq (.tuple #[(.agg (aggA ((joinA acc ((l[i]'(by omega)).Agg)).1))), (iV ((joinA acc ((l[i]'(by omega)).Agg)).2))])), (kEq (.tuple #[(.agg (aggA ((joinA acc ((l[i]'(by omega)).Agg)).1))), (iV ((joinA acc ((l[i]'(by omega)).Agg)).2))])), (kEq (.agg (aggA ((joinA acc ((l[i]'(by omega)).Agg)).1)))), (kEq (iV ((joinA acc ((l[i]'(by omega)).Agg)).2))), (fun (D : Nat → Bool) (v : Value) (w : World) => ∃ g23 : Nat, v = .pointer (some ⟨g23, 0, none⟩) ∧ (D 11 = false → St w0 w [.blk g23 37 #[(iV 0), (iV 0), (iV 0), (iV 0), (iV 0), (iV 0), (iV 0)], .blk g10 37 (aggA acc), .blk g1 37 #[(iV 0), (iV 0), (iV 0), (iV 0), (iV 0), (iV 0), (iV 0)]]) ∧ (D 11 = true → St w0 w [.blk g23 37 (aggA ((joinA acc ((l[i]'(by omega)).Agg)).1)), .blk g10 37 (aggA acc), .blk g1 37 #[(iV 0), (iV 0), (iV 0), (iV 0), (iV 0), (iV 0), (iV 0)]])), kAny, (kEq (iV ((joinA acc ((l[i]'(by omega)).Agg)).2)))] ⟨mEq, mEq, mEq, mPt0, mPt0, mEq, mEq, mEq, mEq, mEq, (fun D D' v w w' hD hb ⟨g, h1, h2⟩ => ⟨g, h1, (fun x0 => (h2.1 ((hD 11 (by decide)).symm.trans x0)).ext hb), (fun x0 => (h2.2 ((hD 11 (by decide)).symm.trans x0)).ext hb)⟩), mAny, mEq, trivial⟩ (by kernel_rfl) rfl (by kernel_rfl) ⟨hst.drewW.sub (.cons_cons _ (.cons_cons _ .slnil)), (fun _ => hst.drewW), (fun h => absurd h Bool.false_ne_true)⟩ (fun hM => ⟨?_, ?_, ?_, ?_, ?_, ?_, ?_, ?_, ?_, ?_, ?_, ?_, ?_, trivial⟩) ?_)))))
  ·rintro D ρo wo nD eD cD jD aD ⟨f4, _⟩
   have hst := jD.2.1 (not_yet nD (fun hm => (cD 11 0 hm (by kernel_rfl))))
   exact go_plain (op_loadN (cs := (aggC acc)) Try.isAgg37 Try.sizeOf37 (f4.trans q13_4) (Pt.of (hst.cell 0 rfl) rfl) rfl (kN0 (i := 0) hM (by decide) (by exact jD) (by exact rfl)))
  ·rintro D ρo wo nD eD cD jD aD ⟨f0, _⟩
   exact go_plain (op_move v_l (f0.trans q13_0) (kN0 (i := 1) hM (by decide) (by exact jD) (by exact rfl)))
  ·rintro D ρo wo nD eD cD jD aD ⟨f5, _⟩
   exact go_plain (op_move (iV (i : Int)) (f5.trans q13_5) (kN0 (i := 2) hM (by decide) (by exact jD) (by exact rfl)))
  ·rintro D ρo wo nD eD cD jD aD ⟨f24, f25, _⟩
   refine go_plain (op_indexAddrN (E := winE) (xs := l) i Try.underlying33 Try.sizeOf73 f24 h_l f25 (by omega) (by omega) (fun a27 o28 p29 => ?_))
   exact (kN0 (i := 3) hM (by decide) (by exact jD) (by exact ⟨_, _, rfl, p29⟩))
  ·rintro D ρo wo nD eD cD jD aD ⟨f26, _⟩
   obtain ⟨a30, o31, e32, p33⟩ := f26
   exact go_plain (op_fieldAddr (s := 6) Try.underlying73 rfl rfl Try.sizeOf37 e32 (kN0 (i := 4) hM (by decide) (by exact jD) (by exact ⟨_, _, rfl, (p33.drop 3)⟩)))
  ·rintro D ρo wo nD eD cD jD aD ⟨f27, _⟩
   have hst := jD.2.1 (not_yet nD (fun hm => (cD 11 5 hm (by kernel_rfl))))
   obtain ⟨a34, o35, e36, p37⟩ := f27
   exact go_plain (op_loadN (cs := (aggC ((l[i]'(by omega)).Agg))) Try.isAgg37 Try.sizeOf37 e36 (Pt.of (p37.below hst.below) rfl) rfl (kN0 (i := 5) hM (by decide) (by exact jD) (by exact rfl)))
  ·rintro D ρo wo nD eD cD jD aD ⟨f23, f28, _⟩
   refine go_plain (op_call Try.call35 (evs_cons (v := (.agg (aggA acc))) f23 (evs_cons (v := (.agg (aggA ((l[i]'(by omega)).Agg)))) f28 evs_nil)) (c_rJoin (w0 := wo) (a := acc) (b := ((l[i]'(by omega)).Agg)) (ha := hok) (hb := (hl _ (List.getElem_mem _)))) ?_)
   rintro _ w38 ⟨rfl, hcall⟩
   refine ⟨_, rfl, ?_⟩
   exact kN (i := 6) hM (by decide) hcall.below (by exact ⟨(jD.1).ext hcall.below, (fun x0 => (jD.2.1 x0).ext hcall.below), (fun x0 => (jD.2.2 x0).ext hcall.below)⟩) (by exact rfl)
  ·rintro D ρo wo nD eD cD jD aD ⟨f29, _⟩
   exact go_plain (op_move (.tuple #[(.agg (aggA ((joinA acc ((l[i]'(by omega)).Agg)).1))), (iV ((joinA acc ((l[i]'(by omega)).Agg)).2))]) f29 (kN0 (i := 7) hM (by decide) (by exact jD) (by exact rfl)))
  ·rintro D ρo wo nD eD cD jD aD ⟨f22, _⟩
   exact go_plain (op_extract (.agg (aggA ((joinA acc ((l[i]'(by omega)).Agg)).1))) f22 rfl (kN0 (i := 8) hM (by decide) (by exact jD) (by exact rfl)))
  ·rintro D ρo wo nD eD cD jD aD ⟨f22, _⟩
   exact go_plain (op_extract (iV ((joinA acc ((l[i]'(by omega)).Agg)).2)) f22 rfl (kN0 (i := 9) hM (by decide) (by exact jD) (by exact rfl)))
  ·rintro D ρo wo nD eD cD jD aD ⟨_⟩
   have hst := jD.2.1 (not_yet nD (fun hm => (cD 11 10 hm (by kernel_rfl))))
   have hst := St.start wo
   refine go_plain (op_alloc (cs := #[(iV 0), (iV 0), (iV 0), (iV 0), (iV 0), (iV 0), (iV 0)]) hst Try.zeroValue37 rfl (fun g39 w40 hst _ => ?_))
   exact kN (i := 10) hM (by decide) hst.below (by exact ⟨(jD.1).ext hst.below, (fun x0 => (jD.2.1 x0).ext hst.below), (fun x0 => (jD.2.2 x0).ext hst.below)⟩) (by exact ⟨_, rfl, (fun y0 => (jD.2.1 y0).call hst), (fun y0 => absurd (show D 11 = true from y0) (by rw [(not_yet nD (fun hm => (cD 11 10 hm (by kernel_rfl))))]; decide))⟩)
  ·rintro D ρo wo nD eD cD jD aD ⟨f6, f30, _⟩
   obtain ⟨g41, e42, hh43⟩ := aD 10 6 (eD 10 (by kernel_rfl)) rfl
   have hst : St w0 wo [.blk g41 37 #[(iV 0), (iV 0), (iV 0), (iV 0), (iV 0), (iV 0), (iV 0)], .blk g10 37 (aggA acc), .blk g1 37 #[(iV 0), (iV 0), (iV 0), (iV 0), (iV 0), (iV 0), (iV 0)]] := hh43.1 nD
   refine go_plain (op_storeAll hst 0 rfl Try.sizeOf37 e42 f30 rfl rfl (by simp [Value.oneCell']) (fun w44 hst => ?_))
   refine ⟨by exact ⟨hst.sub (.cons _ (.cons_cons _ (.cons_cons _ .slnil))), (fun y0 => absurd y0 (fun h => Bool.noConfusion h)), (fun y0 => hst.sub (.cons _ (.cons_cons _ (.cons_cons _ .slnil))))⟩, by exact trivial, kX [10] (by exact ⟨Or.inr (Or.inr (Or.inr iEq)), Or.inr (Or.inr (Or.inr iEq)), Or.inr (Or.inr (Or.inr iEq)), Or.inr (Or.inr (Or.inr iPt0)), Or.inr (Or.inr (Or.inr iPt0)), Or.inr (Or.inr (Or.inr iEq)), Or.inr (Or.inr (Or.inr iEq)), Or.inr (Or.inr (Or.inr iEq)), Or.inr (Or.inr (Or.inr iEq)), Or.inr (Or.inr (Or.inr iEq)), Or.inr (Or.inl (by decide)), Or.inl rfl, Or.inr (Or.inr (Or.inl (not_yet nD (fun hm => (cD 12 11 hm (by kernel_rfl)))))), trivial⟩) ?_⟩
   intro j d hj hjd hDj h
   simp only [List.mem_cons, List.not_mem_nil, or_false] at hj
   subst hj
   obtain rfl : 6 = d := Option.some.inj hjd
   exact ⟨_, e42, (fun y0 => absurd y0 (fun h => Bool.noConfusion h)), (fun y0 => hst.sub (.cons_cons _ (.cons_cons _ (.cons_cons _ .slnil))))⟩
  ·rintro D ρo wo nD eD cD jD aD ⟨f31, _⟩
   exact go_plain (op_assign (iV ((joinA acc ((l[i]'(by omega)).Agg)).2)) f31 (kN0 (i := 12) hM (by decide) (by exact jD) (by exact rfl)))
  intro ρ46 w47 Dw47 hallw47 hJw47 hRw47 hkw47
  obtain ⟨g48, uw47_6, hhw47⟩ := hRw47 10 6 rfl
  have hst : St w0 w47 [.blk g48 37 (aggA ((joinA acc ((l[i]'(by omega)).Agg)).1)), .blk g10 37 (aggA acc), .blk g1 37 #[(iV 0), (iV 0), (iV 0), (iV 0), (iV 0), (iV 0), (iV 0)]] := hhw47.2 (hallw47 11 (show 11 < 13 from by decide))
  have uw47_0 := (hkw47 0 rfl).trans q13_0
  have uw47_2 := (hkw47 2 rfl).trans q13_2
  have uw47_4 := (hkw47 4 rfl).trans q13_4
  have uw47_5 := (hkw47 5 rfl).trans q13_5
  have uw47_7 : ρ46 7 = (iV ((joinA acc ((l[i]'(by omega)).Agg)).2)) := hRw47 12 7 rfl
  refine then_n (cE_seq (cE_seq (cE_region rfl (s_cons (op_move (iV ((joinA acc ((l[i]'(by omega)).Agg)).2)) uw47_7 (s_cons (op_neq (k := .i64) (a := (joinA acc ((l[i]'(by omega)).Agg)).2) (b := 0) rfl rfl (s_nil (then_n ?_)))))))))
  rcases Bool.eq_false_or_eq_true (decide (((joinA acc ((l[i]'(by omega)).Agg)).2) = 0)) with b49 | b49
  ·have c50 := of_decide_eq_true b49
   refine cE_cond false (congrArg Value.bool (congrArg (! ·) b49)) (fun h => by cases h) (fun _ => ?_)
   refine cE_skip (then_n (cE_region rfl (s_cons (op_loadN (cs := (aggC ((joinA acc ((l[i]'(by omega)).Agg)).1))) Try.isAgg37 Try.sizeOf37 uw47_6 (Pt.of (hst.cell 0 rfl) rfl) rfl (s_cons0 (op_storeAll hst 1 rfl Try.sizeOf37 uw47_4 rfl rfl rfl (by simp [Value.oneCell']) (fun w51 hst => ?_)))))))
   refine s_nil (block_n (then_n (cE_region rfl (s_cons (op_move (iV (i : Int)) uw47_5 (s_cons (op_add (k := .i64) (a := (i : Int)) (b := 1) ((i : Int) + 1) rfl rfl (xi64 (by omega) (by omega)) (s_cons (op_assign (iV ((i : Int) + 1)) rfl (s_nil (then_n ?_)))))))))))
   exact ⟨_, ⟨((joinA acc ((l[i]'(by omega)).Agg)).1), (i + 1), rfl, uw47_0, uw47_2, uw47_4, (congrArg iV (show ((i : Int) + 1) = _ from by omega)), (hst.sub (.cons _ (.cons_cons _ (.cons_cons _ .slnil)))), (by omega), (by exact joinA_ok hok (hl _ (by exact List.getElem_mem _))), (by exact hI.trans (tot_go (by omega) (by assumption)))⟩, (by simp only [id]; omega)⟩
  have c52 := of_decide_eq_false b49
  refine cE_cond true (congrArg Value.bool (congrArg (! ·) b49)) (fun _ => ?_) (fun h => by cases h)
  refine cE_seq (cE_region rfl (s_cons (op_build (r := (.agg #[(iV 0), (iV 0), (iV 0), (iV 0), (iV 0), (iV 0), (iV 0)])) evp_nil (by simp [Instr.build, Instr.fill, Value.cells, Try.runUnderlying37, Try.zeroValue37]) (s_cons (op_move (iV ((joinA acc ((l[i]'(by omega)).Agg)).2)) uw47_7 (s_cons0 (op_storeAll hst 2 rfl Try.sizeOf37 uw47_2 rfl rfl rfl (by simp [Value.oneCell']) (fun w53 hst => ?_))))))))
  refine s_cons (op_assign (iV ((joinA acc ((l[i]'(by omega)).Agg)).2)) rfl (s_nil (then_n (cE_ret (then_r (block_r (then_r (then_r (block_r (then_r (postG_r _ (rvN (cs := [(iV 0), (iV 0), (iV 0), (iV 0), (iV 0), (iV 0), (iV 0)]) Try.isAgg37 Try.sizeOf37 uw47_2 (Pt.of (hst.cell 2 rfl) rfl) rfl (rvt (v := (iV ((joinA acc ((l[i]'(by omega)).Agg)).2))) rfl rvnil)) ?_)))))))))))
  exact ⟨(retv2 (congrArg aggV (show (⟨0, 0, 0, 0, 0, 0, 0⟩ : Agg) = (totW l).1 from by exact fst_of (hI.trans (tot_stop (by omega) (by assumption))))) (congrArg iV (show (joinA acc ((l[i]'(by omega)).Agg)).2 = (totW l).2 from by exact snd_of (hI.trans (tot_stop (by omega) (by assumption)))))), hst.bare⟩
 have c54 := of_decide_eq_false b17
 refine cE_cond false (congrArg Value.bool b17) (fun h => by cases h) (fun _ => ?_)
 refine cE_exit (then_x (then_x (block_hit (then_n (cE_seq (cE_region rfl (s_cons (op_loadN (cs := (aggC acc)) Try.isAgg37 Try.sizeOf37 q13_4 (Pt.of (hst.cell 0 rfl) rfl) rfl (s_cons0 (op_storeAll hst 1 rfl Try.sizeOf37 q13_2 rfl rfl rfl (by simp [Value.oneCell']) (fun w55 hst => ?_)))))))))))
 refine s_cons (op_assign (iV 0) rfl (s_nil (then_n (cE_ret (postG_r _ (rvN (cs := (aggC acc)) Try.isAgg37 Try.sizeOf37 q13_2 (Pt.of (hst.cell 1 rfl) rfl) rfl (rvt (v := (iV 0)) rfl rvnil)) ?_)))))
 exact ⟨(retv2 (congrArg aggV (show acc = (totW l).1 from by exact fst_of (hI.trans (tot_end (by omega))))) (congrArg iV (show 0 = (totW l).2 from by exact snd_of (hI.trans (tot_end (by omega)))))), hst.bare⟩

end Go.Proofs.Ythanfecefjfbjaa
