/- block.Put, block.reader).next, block.reader).count -/
import Derived.Test.YtgibfidebdgffaaDoorXW1
import Derived.Test.YtgibfidebdgffaaDoorXLB
import Derived.Test.YtgibfidebdgffaaDoorXW5
import Derived.Test.YtgibfidebdgffaaDoorXLA
namespace Go.Proofs.YtgibfidebdgffaaDoor
open Go.RowKit

set_option maxRecDepth 8000 in
set_option maxHeartbeats 2000000 in
theorem c_kPut (w0 : World) (v_l : Value) (l : List Sample) (h_l : Sl w0 sampE v_l l) (hl : ∀ s ∈ l, s.ok) :
  Calls Tryd.prog 17 #[v_l] w0 fun e w' => ∃ (r : Value), e = .returned (.tuple #[r, (iV ((encS l).2))]) ∧ St w0 w' [rowT 5 u8E r ((encS l).1)] := by
 refine calls_E (n := 72) (ts := [2, 3]) Tryd.func17 rfl rfl rfl (by simp) ?_
 have hst := St.start w0
 refine cE_seq (cE_region rfl (s_cons (op_assign nS rfl (s_cons (op_assign (iV 0) rfl (s_nil (then_n (cE_scope (cE_seq (cE_seq (cE_region rfl (s_cons (op_move v_l rfl (s_cons (op_call Tryd.call24 (evs_cons (v := v_l) rfl evs_nil) (c_Rising (w0 := w0) (v_l := v_l) (l := l) (h_l := (h_l.below hst.below))) ?_)))))))))))))))
 rintro _ w1 ⟨rfl, hcall⟩
 refine ⟨_, rfl, ?_⟩
 have hst : St w0 w1 [] := hst.call hcall
 refine s_cons (op_not (b := risingA l) rfl (s_cons (op_move (.bool (!(risingA l))) rfl ?_)))
 rcases Bool.eq_false_or_eq_true (risingA l) with b2 | b2
 ·have hri := b2
  have htr := rising_tR hri
  refine s_yes 12 rfl (congrArg Value.bool (congrArg (! ·) b2)) (op_move v_l rfl (s_yes 12 rfl (congrArg Value.bool (congrArg (! ·) b2)) (op_len (E := sampE) (xs := l) Tryd.underlying23 rfl h_l (s_yes 12 rfl (congrArg Value.bool (congrArg (! ·) b2)) (op_gtr (k := .i64) (a := (l.length : Int)) (b := 64) rfl rfl (s_cons (op_pick_f (.bool (decide (64 < (l.length : Int)))) (congrArg Value.bool (congrArg (! ·) b2)) rfl ?_)))))))
  refine s_nil (then_n ?_)
  rcases Bool.eq_false_or_eq_true (decide (64 < (l.length : Int))) with b3 | b3
  ·have c4 : 64 < (l.length : Int) := of_decide_eq_true b3
   refine cE_cond true (congrArg Value.bool b3) (fun _ => ?_) (fun h => by cases h)
   refine cE_seq (cE_region rfl (s_cons (op_assign nS rfl (s_cons (op_assign (iV 1) rfl (s_nil (then_n (cE_ret (then_r (scope_r (post_r _ (res2 (v := nS) rfl (x := (iV 1)) rfl) ?_)))))))))))
   replace hst : St w0 w1 [rowT 5 u8E nS ([])] := hst.nilRow 5 u8E
   have e5 : [] = (encS l).1 := by first | rw [encS_no (Or.inl (by assumption))] | rw [encS_no (Or.inr (by omega))] | (rw [encS_yes hok]; done) | (rw [encS_yes hok]; show _ = putS l; rw [hp, restS_end (by omega), List.append_nil])
   replace hst : St w0 w1 [rowT 5 u8E nS ((encS l).1)] := by rw [congrArg (fun l => rowT 5 u8E nS l) e5] at hst; exact hst
   exact ⟨nS, (retv2 rfl (congrArg iV (show 1 = (encS l).2 from by first | rw [encS_no (Or.inl (by assumption))] | rw [encS_no (Or.inr (by omega))] | (rw [encS_yes hok]; done) | (rw [encS_yes hok]; show _ = putS l; rw [hp, restS_end (by omega), List.append_nil])))), hst.sub (.cons_cons _ .slnil)⟩
  have c6 : ¬ (64 < (l.length : Int)) := of_decide_eq_false b3
  refine cE_cond false (congrArg Value.bool b3) (fun h => by cases h) (fun _ => ?_)
  refine cE_skip (then_n (cE_seq ?_))
  have hok := okS_iff.2 ⟨hri, (by omega : l.length ≤ 64)⟩
  have hp0 := put_length (l.length : Int)
  refine cE_region rfl (s_cons (op_move v_l rfl (s_cons (op_len (E := sampE) (xs := l) Tryd.underlying23 rfl h_l (s_cons (op_conv (k := .i64) (a := (l.length : Int)) (l.length : Int) Tryd.underlying54 (by rw [Tryd.underlying3]; rfl) rfl (xu64 (by omega) (by omega)) (s_cons (op_call Tryd.call16 (evs_cons (v := (.int .u64 (l.length : Int))) rfl evs_nil) (c_Put (w0 := w1) (n := (l.length : Int)) (h0 := (by omega)) (h1 := (by omega))) ?_))))))))
  rintro _ w8 ⟨r7, rfl, hcall⟩
  refine ⟨_, rfl, ?_⟩
  have hst : St w0 w8 [rowT 5 u8E r7 (put (l.length : Int))] := hst.call hcall
  refine s_cons (op_assign r7 rfl (s_nil (then_n (cE_seq (cE_region rfl (s_cons (op_assign (iV 0) rfl (s_nil (then_n (cE_seq (cE_label (then_n (cE_seq (cE_seq (cE_region rfl (s_cons (op_move v_l rfl (s_cons (op_len (E := sampE) (xs := l) Tryd.underlying23 rfl h_l (s_cons (op_move (iV 0) rfl (s_nil (then_n (cE_block (cE_loop (fun (m : Nat) (ρ : Env) (w : World) => ∃ (v : Value) (done : List UInt8) (i : Nat) (st : Int), m = l.length - i ∧ ρ 0 = v_l ∧ ρ 2 = nS ∧ ρ 3 = (iV 0) ∧ ρ 21 = v_l ∧ ρ 22 = (iV (l.length : Int)) ∧ ρ 4 = v ∧ ρ 23 = (iV (i : Int)) ∧ ρ 5 = (iV st) ∧ St w0 w [rowT 5 u8E v done] ∧ (i ≤ l.length) ∧ (i ≠ 0 ∨ st = 0) ∧ (-1099511627776 ≤ st ∧ st ≤ 1099511627776) ∧ (done.length ≤ 10 + 20 * i) ∧ (putS l = done ++ restS l i st)) id _ ⟨r7, (put (l.length : Int)), 0, 0, rfl, rfl, rfl, rfl, rfl, rfl, rfl, (congrArg iV (show 0 = _ from by omega)), rfl, hst, (by omega), (by omega), (by omega), (by first | omega | (simp; omega)), (by first | rfl | (rw [hp, restS_first (by omega) (by omega), show st = 0 from (by omega)]; simp; done) | (rw [hp, restS_next (by omega) (by omega)]; simp; done))⟩ ?_)))))))))))))))))))))))))
  rintro m10 ρ11 w12 ⟨v, done, i, st, hm10, q9_0, q9_2, q9_3, q9_21, q9_22, q9_4, q9_23, q9_5, hst, hi, hs0, hsr, hdl, hp⟩
  have hlen := h_l.len
  refine cE_seq (cE_region rfl (s_cons (op_lss (k := .i64) (a := (i : Int)) (b := (l.length : Int)) q9_23 q9_22 (s_nil (then_n (cE_seq ?_))))))
  rcases Bool.eq_false_or_eq_true (decide ((i : Int) < (l.length : Int))) with b13 | b13
  ·have c14 : (i : Int) < (l.length : Int) := of_decide_eq_true b13
   refine cE_cond true (congrArg Value.bool b13) (fun _ => ?_) (fun h => by cases h)
   refine cE_skip (then_n (cE_seq (cE_block (cE_seq (cE_region rfl (s_cons (op_move (iV (i : Int)) q9_23 (s_cons (op_indexAddrN (E := sampE) (xs := l) i Tryd.underlying23 Tryd.sizeOf28 q9_21 h_l q9_23 (by omega) (by first | omega | (simp; omega) | (simp; done)) (fun a15 o16 p17 => ?_))))))))))
   refine s_cons (op_loadN (cs := [(iV ((l[i]'(by first | omega | (simp; omega) | (simp; done))).T)), (iV ((l[i]'(by first | omega | (simp; omega) | (simp; done))).V))]) Tryd.isAgg28 Tryd.sizeOf28 rfl (Pt.of (p17.below hst.below) rfl) rfl (s_cons (op_alloc (cs := #[(iV 0), (iV 0)]) hst Tryd.zeroValue28 rfl (fun g18 w19 hst _ => ?_))))
   replace hst : St w0 w19 [.blk g18 28 #[(iV 0), (iV 0)], rowT 5 u8E v done] := hst
   refine s_cons (op_assign (iV (i : Int)) rfl (s_cons0 (op_storeAll hst 0 rfl Tryd.sizeOf28 rfl rfl rfl rfl (by simp [Value.oneCell']) (fun w20 hst => ?_))))
   replace hst : St w0 w20 [.blk g18 28 #[(iV ((l[i]'(by first | omega | (simp; omega) | (simp; done))).T)), (iV ((l[i]'(by first | omega | (simp; omega) | (simp; done))).V))], rowT 5 u8E v done] := hst
   refine s_nil (then_n (cE_seq (cE_seq (cE_region rfl (s_cons (op_move (iV (i : Int)) rfl (s_cons (op_eql (k := .i64) (a := (i : Int)) (b := 0) rfl rfl (s_nil (then_n ?_))))))))))
   rcases Bool.eq_false_or_eq_true (decide ((i : Int) = 0)) with b21 | b21
   ·have c22 : (i : Int) = 0 := of_decide_eq_true b21
    refine cE_cond true (congrArg Value.bool b21) (fun _ => ?_) (fun h => by cases h)
    refine cE_seq ?_
    have ht := htr _ (List.getElem_mem (show i < l.length by omega))
    have hv := (hl _ (List.getElem_mem (show i < l.length by omega))).2
    have hz := zig_r hv
    have q1 := put_length (l[i]'(by omega)).T
    have q2 := put_length (zig (l[i]'(by omega)).V)
    refine cE_regionM (fun (D : Nat → Bool) (w : World) => St w0 w [.blk g18 28 #[(iV ((l[i]'(by first | omega | (simp; omega) | (simp; done))).T)), (iV ((l[i]'(by first | omega | (simp; omega) | (simp; done))).V))]] ∧ (D 5 = false → St w0 w [.blk g18 28 #[(iV ((l[i]'(by first | omega | (simp; omega) | (simp; done))).T)), (iV ((l[i]'(by first | omega | (simp; omega) | (simp; done))).V))], rowT 5 u8E v done])) [[(4, none)], [(7, none)], [(31, some 1)], [(32, some 2)], [(33, some 3)], [(30, some 0), (34, some 4)], [(7, none)], [(36, some 6)], [(37, some 7)], [(38, some 8)], [(35, some 5), (39, some 9)], [(40, some 10)]] [5, 10] [(kEq v), (kEq (.pointer (some ⟨g18, (0 + 0), none⟩))), (kEq (iV ((l[i]'(by first | omega | (simp; omega) | (simp; done))).T))), (kEq (.int .u64 ((l[i]'(by first | omega | (simp; omega) | (simp; done))).T))), (kSlU [5, 10] u8E (put ((l[i]'(by first | omega | (simp; omega) | (simp; done))).T))), (fun (D : Nat → Bool) (v25 : Value) (w : World) => (D 5 = true → D 10 = false → St w0 w [rowT 5 u8E v25 (done ++ (put ((l[i]'(by first | omega | (simp; omega) | (simp; done))).T))), .blk g18 28 #[(iV ((l[i]'(by first | omega | (simp; omega) | (simp; done))).T)), (iV ((l[i]'(by first | omega | (simp; omega) | (simp; done))).V))]])), (kEq (.pointer (some ⟨g18, (0 + 1), none⟩))), (kEq (iV ((l[i]'(by first | omega | (simp; omega) | (simp; done))).V))), (kEq (.int .u64 (zig ((l[i]'(by first | omega | (simp; omega) | (simp; done))).V)))), (kSlU [10] u8E (put (zig ((l[i]'(by first | omega | (simp; omega) | (simp; done))).V)))), (fun (D : Nat → Bool) (v30 : Value) (w : World) => (D 10 = true → St w0 w [rowT 5 u8E v30 ((done ++ (put ((l[i]'(by first | omega | (simp; omega) | (simp; done))).T))) ++ (put (zig ((l[i]'(by first | omega | (simp; omega) | (simp; done))).V)))), .blk g18 28 #[(iV ((l[i]'(by first | omega | (simp; omega) | (simp; done))).T)), (iV ((l[i]'(by first | omega | (simp; omega) | (simp; done))).V))]])), (fun (D : Nat → Bool) (v30 : Value) (w : World) => (D 10 = true → St w0 w [rowT 5 u8E v30 ((done ++ (put ((l[i]'(by first | omega | (simp; omega) | (simp; done))).T))) ++ (put (zig ((l[i]'(by first | omega | (simp; omega) | (simp; done))).V)))), .blk g18 28 #[(iV ((l[i]'(by first | omega | (simp; omega) | (simp; done))).T)), (iV ((l[i]'(by first | omega | (simp; omega) | (simp; done))).V))]]))] ⟨mEq, mEq, mEq, mEq, (mSlUs (by decide)), (fun D D' v w w' hD hb h2 => (fun x0 x1 => (h2 ((hD 5 (by decide)).symm.trans x0) ((hD 10 (by decide)).symm.trans x1)).ext hb)), mEq, mEq, mEq, (mSlUs (by decide)), (fun D D' v w w' hD hb h2 => (fun x0 => (h2 ((hD 10 (by decide)).symm.trans x0)).ext hb)), (fun D D' v w w' hD hb h2 => (fun x0 => (h2 ((hD 10 (by decide)).symm.trans x0)).ext hb)), trivial⟩ (by kernel_rfl) rfl (by kernel_rfl) ⟨hst.drewW.sub (.cons_cons _ (.cons _ .slnil)), (fun _ => hst.drewW)⟩ (fun hM => ⟨?_, ?_, ?_, ?_, ?_, ?_, ?_, ?_, ?_, ?_, ?_, ?_, trivial⟩) ?_
    ·rintro D ρo wo nD eD cD jD aD ⟨f4, _⟩
     exact go_plain (op_move v (f4.trans q9_4) (kN0 (i := 0) hM (by decide) (by exact jD) (by exact rfl)))
    ·rintro D ρo wo nD eD cD jD aD ⟨f7, _⟩
     exact go_plain (op_fieldAddr (s := 0) Tryd.underlying28 rfl rfl Tryd.sizeOf2 (f7.trans rfl) (kN0 (i := 1) hM (by decide) (by exact jD) (by exact rfl)))
    ·rintro D ρo wo nD eD cD jD aD ⟨f31, _⟩
     have hst := jD.2 (not_yet nD (fun hm => (cD 3 2 (cD 4 3 (cD 5 4 hm (by kernel_rfl)) (by kernel_rfl)) (by kernel_rfl))))
     replace hst : St w0 wo [.blk g18 28 #[(iV ((l[i]'(by first | omega | (simp; omega) | (simp; done))).T)), (iV ((l[i]'(by first | omega | (simp; omega) | (simp; done))).V))], rowT 5 u8E v done] := hst
     exact go_plain (op_load1 (u := (iV ((l[i]'(by first | omega | (simp; omega) | (simp; done))).T))) Tryd.isAgg2 f31 (hst.cell 0 rfl) (kN0 (i := 2) hM (by decide) (by exact jD) (by exact rfl)))
    ·rintro D ρo wo nD eD cD jD aD ⟨f32, _⟩
     exact go_plain (op_conv (k := .i64) (a := (l[i]'(by first | omega | (simp; omega) | (simp; done))).T) ((l[i]'(by first | omega | (simp; omega) | (simp; done))).T) Tryd.underlying54 (by rw [Tryd.underlying2]; rfl) f32 (xu64 (by omega) (by omega)) (kN0 (i := 3) hM (by decide) (by exact jD) (by exact rfl)))
    ·rintro D ρo wo nD eD cD jD aD ⟨f33, _⟩
     refine go_plain (op_call Tryd.call16 (evs_cons (v := (.int .u64 ((l[i]'(by first | omega | (simp; omega) | (simp; done))).T))) f33 evs_nil) (c_Put (w0 := wo) (n := (l[i]'(by first | omega | (simp; omega) | (simp; done))).T) (h0 := (by omega)) (h1 := (by omega))) ?_)
     rintro _ w34 ⟨r33, rfl, hcall⟩
     refine ⟨_, rfl, ?_⟩
     exact kN (i := 4) hM (by decide) hcall.below (by exact ⟨(jD.1).ext hcall.below, (fun x0 => (jD.2 x0).ext hcall.below)⟩) (by exact fun _ => hcall.sl 0 rfl)
    ·rintro D ρo wo nD eD cD jD aD ⟨f30, f34, _⟩
     have hst := jD.2 nD
     replace hst : St w0 wo [.blk g18 28 #[(iV ((l[i]'(by first | omega | (simp; omega) | (simp; done))).T)), (iV ((l[i]'(by first | omega | (simp; omega) | (simp; done))).V))], rowT 5 u8E v done] := hst
     obtain ⟨v36, e37⟩ : ∃ x, ρo 34 = x := ⟨_, rfl⟩
     have hs35 := f34 (by intro m hm; simp only [List.mem_cons, List.not_mem_nil, or_false] at hm; rcases hm with rfl | rfl; exact nD; exact (not_yet nD (fun hm => (cD 10 5 hm (by kernel_rfl)))))
     replace hs35 : Sl wo u8E v36 (put ((l[i]'(by first | omega | (simp; omega) | (simp; done))).T)) := e37 ▸ hs35
     refine go_plain (op_append (E := u8E) (xs := done) (ys := (put ((l[i]'(by first | omega | (simp; omega) | (simp; done))).T))) (z := (.int .u8 0)) (bytes := 1) hst 1 rfl Tryd.underlying29 (by kernel_rfl) rfl f30 e37 hs35 (by first | omega | (simp; omega) | (simp; done)) (by first | omega | (simp; omega) | (simp; done)) (fun v38 w39 hst => ?_))
     replace hst : St w0 w39 [.blk g18 28 #[(iV ((l[i]'(by first | omega | (simp; omega) | (simp; done))).T)), (iV ((l[i]'(by first | omega | (simp; omega) | (simp; done))).V))], rowT 5 u8E v38 (done ++ (put ((l[i]'(by first | omega | (simp; omega) | (simp; done))).T)))] := hst
     replace hst : St w0 w39 [rowT 5 u8E v38 (done ++ (put ((l[i]'(by first | omega | (simp; omega) | (simp; done))).T))), .blk g18 28 #[(iV ((l[i]'(by first | omega | (simp; omega) | (simp; done))).T)), (iV ((l[i]'(by first | omega | (simp; omega) | (simp; done))).V))]] := hst.front 1 rfl
     have hI40 : stabIXs 5 [] D 0 [(kEq v), (kEq (.pointer (some ⟨g18, (0 + 0), none⟩))), (kEq (iV ((l[i]'(by first | omega | (simp; omega) | (simp; done))).T))), (kEq (.int .u64 ((l[i]'(by first | omega | (simp; omega) | (simp; done))).T))), (kSlU [5, 10] u8E (put ((l[i]'(by first | omega | (simp; omega) | (simp; done))).T))), (fun (D : Nat → Bool) (v25 : Value) (w : World) => (D 5 = true → D 10 = false → St w0 w [rowT 5 u8E v25 (done ++ (put ((l[i]'(by first | omega | (simp; omega) | (simp; done))).T))), .blk g18 28 #[(iV ((l[i]'(by first | omega | (simp; omega) | (simp; done))).T)), (iV ((l[i]'(by first | omega | (simp; omega) | (simp; done))).V))]])), (kEq (.pointer (some ⟨g18, (0 + 1), none⟩))), (kEq (iV ((l[i]'(by first | omega | (simp; omega) | (simp; done))).V))), (kEq (.int .u64 (zig ((l[i]'(by first | omega | (simp; omega) | (simp; done))).V)))), (kSlU [10] u8E (put (zig ((l[i]'(by first | omega | (simp; omega) | (simp; done))).V)))), (fun (D : Nat → Bool) (v30 : Value) (w : World) => (D 10 = true → St w0 w [rowT 5 u8E v30 ((done ++ (put ((l[i]'(by first | omega | (simp; omega) | (simp; done))).T))) ++ (put (zig ((l[i]'(by first | omega | (simp; omega) | (simp; done))).V)))), .blk g18 28 #[(iV ((l[i]'(by first | omega | (simp; omega) | (simp; done))).T)), (iV ((l[i]'(by first | omega | (simp; omega) | (simp; done))).V))]])), (fun (D : Nat → Bool) (v30 : Value) (w : World) => (D 10 = true → St w0 w [rowT 5 u8E v30 ((done ++ (put ((l[i]'(by first | omega | (simp; omega) | (simp; done))).T))) ++ (put (zig ((l[i]'(by first | omega | (simp; omega) | (simp; done))).V)))), .blk g18 28 #[(iV ((l[i]'(by first | omega | (simp; omega) | (simp; done))).T)), (iV ((l[i]'(by first | omega | (simp; omega) | (simp; done))).V))]]))] := ⟨Or.inr (Or.inr (Or.inr iEq)), Or.inr (Or.inr (Or.inr iEq)), Or.inr (Or.inr (Or.inr iEq)), Or.inr (Or.inr (Or.inr iEq)), Or.inr (Or.inr (Or.inr (iSlU (by decide)))), Or.inl rfl, Or.inr (Or.inr (Or.inr iEq)), Or.inr (Or.inr (Or.inr iEq)), Or.inr (Or.inr (Or.inl (not_yet nD (fun hm => (cD 8 5 hm (by kernel_rfl)))))), Or.inr (Or.inr (Or.inl (not_yet nD (fun hm => (cD 8 5 (cD 9 8 hm (by kernel_rfl)) (by kernel_rfl)))))), Or.inr (Or.inr (Or.inl (not_yet nD (fun hm => (cD 10 5 hm (by kernel_rfl)))))), Or.inr (Or.inr (Or.inl (not_yet nD (fun hm => (cD 11 5 hm (by kernel_rfl)))))), trivial⟩
     refine ⟨by exact ⟨hst.sub (.cons _ (.cons_cons _ .slnil)), (fun y0 => absurd y0 (fun h => Bool.noConfusion h))⟩, by exact (fun y0 y1 => hst.sub (.cons_cons _ (.cons_cons _ .slnil))), kX [] hI40 ?_⟩
     intro j d hj; cases hj
    ·rintro D ρo wo nD eD cD jD aD ⟨f7, _⟩
     exact go_plain (op_fieldAddr (s := 0) Tryd.underlying28 rfl rfl Tryd.sizeOf2 (f7.trans rfl) (kN0 (i := 6) hM (by decide) (by exact jD) (by exact rfl)))
    ·rintro D ρo wo nD eD cD jD aD ⟨f36, _⟩
     have hst := jD.1
     exact go_plain (op_load1 (u := (iV ((l[i]'(by first | omega | (simp; omega) | (simp; done))).V))) Tryd.isAgg2 f36 ((hst.cell 0 rfl).drop 1) (kN0 (i := 7) hM (by decide) (by exact jD) (by exact rfl)))
    ·rintro D ρo wo nD eD cD jD aD ⟨f37, _⟩
     obtain ⟨v41, e42⟩ : ∃ x, ρo 35 = x := ⟨_, rfl⟩
     have hh43 := aD 5 35 (eD 5 (by kernel_rfl)) rfl
     have hst : St w0 wo [rowT 5 u8E v41 (done ++ (put ((l[i]'(by first | omega | (simp; omega) | (simp; done))).T))), .blk g18 28 #[(iV ((l[i]'(by first | omega | (simp; omega) | (simp; done))).T)), (iV ((l[i]'(by first | omega | (simp; omega) | (simp; done))).V))]] := by have h := hh43 (eD 5 (by kernel_rfl)) (not_yet nD (fun hm => (cD 9 8 (cD 10 9 hm (by kernel_rfl)) (by kernel_rfl)))); rw [e42] at h; exact h
     refine go_plain (op_call Tryd.call37 (evs_cons (v := (iV ((l[i]'(by first | omega | (simp; omega) | (simp; done))).V))) f37 evs_nil) (c_Zig (w0 := wo) (m := (l[i]'(by first | omega | (simp; omega) | (simp; done))).V) (h0 := (by omega)) (h1 := (by omega))) ?_)
     rintro _ w44 ⟨rfl, hcall⟩
     refine ⟨_, rfl, ?_⟩
     exact kN (i := 8) hM (by decide) hcall.below (by exact ⟨(jD.1).ext hcall.below, (fun x0 => (jD.2 x0).ext hcall.below)⟩) (by exact rfl)
    ·rintro D ρo wo nD eD cD jD aD ⟨f38, _⟩
     obtain ⟨v45, e46⟩ : ∃ x, ρo 35 = x := ⟨_, rfl⟩
     have hh47 := aD 5 35 (cD 8 5 (eD 8 (by kernel_rfl)) (by kernel_rfl)) rfl
     have hst : St w0 wo [rowT 5 u8E v45 (done ++ (put ((l[i]'(by first | omega | (simp; omega) | (simp; done))).T))), .blk g18 28 #[(iV ((l[i]'(by first | omega | (simp; omega) | (simp; done))).T)), (iV ((l[i]'(by first | omega | (simp; omega) | (simp; done))).V))]] := by have h := hh47 (cD 8 5 (eD 8 (by kernel_rfl)) (by kernel_rfl)) (not_yet nD (fun hm => (cD 10 9 hm (by kernel_rfl)))); rw [e46] at h; exact h
     refine go_plain (op_call Tryd.call16 (evs_cons (v := (.int .u64 (zig ((l[i]'(by first | omega | (simp; omega) | (simp; done))).V)))) f38 evs_nil) (c_Put (w0 := wo) (n := (zig ((l[i]'(by first | omega | (simp; omega) | (simp; done))).V))) (h0 := (by omega)) (h1 := (by omega))) ?_)
     rintro _ w49 ⟨r48, rfl, hcall⟩
     refine ⟨_, rfl, ?_⟩
     exact kN (i := 9) hM (by decide) hcall.below (by exact ⟨(jD.1).ext hcall.below, (fun x0 => (jD.2 x0).ext hcall.below)⟩) (by exact fun _ => hcall.sl 0 rfl)
    ·rintro D ρo wo nD eD cD jD aD ⟨f35, f39, _⟩
     obtain ⟨v50, e51⟩ : ∃ x, ρo 35 = x := ⟨_, rfl⟩
     have hh52 := aD 5 35 (eD 5 (by kernel_rfl)) rfl
     have hst : St w0 wo [rowT 5 u8E v50 (done ++ (put ((l[i]'(by first | omega | (simp; omega) | (simp; done))).T))), .blk g18 28 #[(iV ((l[i]'(by first | omega | (simp; omega) | (simp; done))).T)), (iV ((l[i]'(by first | omega | (simp; omega) | (simp; done))).V))]] := by have h := hh52 (eD 5 (by kernel_rfl)) nD; rw [e51] at h; exact h
     obtain ⟨v54, e55⟩ : ∃ x, ρo 39 = x := ⟨_, rfl⟩
     have hs53 := f39 (by intro m hm; obtain rfl := List.mem_singleton.1 hm; exact nD)
     replace hs53 : Sl wo u8E v54 (put (zig ((l[i]'(by first | omega | (simp; omega) | (simp; done))).V))) := e55 ▸ hs53
     refine go_plain (op_append (E := u8E) (xs := (done ++ (put ((l[i]'(by first | omega | (simp; omega) | (simp; done))).T)))) (ys := (put (zig ((l[i]'(by first | omega | (simp; omega) | (simp; done))).V)))) (z := (.int .u8 0)) (bytes := 1) hst 0 rfl Tryd.underlying29 (by kernel_rfl) rfl e51 e55 hs53 (by first | omega | (simp; omega) | (simp; done)) (by first | omega | (simp; omega) | (simp; done)) (fun v56 w57 hst => ?_))
     replace hst : St w0 w57 [rowT 5 u8E v56 ((done ++ (put ((l[i]'(by first | omega | (simp; omega) | (simp; done))).T))) ++ (put (zig ((l[i]'(by first | omega | (simp; omega) | (simp; done))).V)))), .blk g18 28 #[(iV ((l[i]'(by first | omega | (simp; omega) | (simp; done))).T)), (iV ((l[i]'(by first | omega | (simp; omega) | (simp; done))).V))]] := hst
     have hI58 : stabIXs 10 [5] D 0 [(kEq v), (kEq (.pointer (some ⟨g18, (0 + 0), none⟩))), (kEq (iV ((l[i]'(by first | omega | (simp; omega) | (simp; done))).T))), (kEq (.int .u64 ((l[i]'(by first | omega | (simp; omega) | (simp; done))).T))), (kSlU [5, 10] u8E (put ((l[i]'(by first | omega | (simp; omega) | (simp; done))).T))), (fun (D : Nat → Bool) (v25 : Value) (w : World) => (D 5 = true → D 10 = false → St w0 w [rowT 5 u8E v25 (done ++ (put ((l[i]'(by first | omega | (simp; omega) | (simp; done))).T))), .blk g18 28 #[(iV ((l[i]'(by first | omega | (simp; omega) | (simp; done))).T)), (iV ((l[i]'(by first | omega | (simp; omega) | (simp; done))).V))]])), (kEq (.pointer (some ⟨g18, (0 + 1), none⟩))), (kEq (iV ((l[i]'(by first | omega | (simp; omega) | (simp; done))).V))), (kEq (.int .u64 (zig ((l[i]'(by first | omega | (simp; omega) | (simp; done))).V)))), (kSlU [10] u8E (put (zig ((l[i]'(by first | omega | (simp; omega) | (simp; done))).V)))), (fun (D : Nat → Bool) (v30 : Value) (w : World) => (D 10 = true → St w0 w [rowT 5 u8E v30 ((done ++ (put ((l[i]'(by first | omega | (simp; omega) | (simp; done))).T))) ++ (put (zig ((l[i]'(by first | omega | (simp; omega) | (simp; done))).V)))), .blk g18 28 #[(iV ((l[i]'(by first | omega | (simp; omega) | (simp; done))).T)), (iV ((l[i]'(by first | omega | (simp; omega) | (simp; done))).V))]])), (fun (D : Nat → Bool) (v30 : Value) (w : World) => (D 10 = true → St w0 w [rowT 5 u8E v30 ((done ++ (put ((l[i]'(by first | omega | (simp; omega) | (simp; done))).T))) ++ (put (zig ((l[i]'(by first | omega | (simp; omega) | (simp; done))).V)))), .blk g18 28 #[(iV ((l[i]'(by first | omega | (simp; omega) | (simp; done))).T)), (iV ((l[i]'(by first | omega | (simp; omega) | (simp; done))).V))]]))] := ⟨Or.inr (Or.inr (Or.inr iEq)), Or.inr (Or.inr (Or.inr iEq)), Or.inr (Or.inr (Or.inr iEq)), Or.inr (Or.inr (Or.inr iEq)), Or.inr (Or.inr (Or.inr (iSlU (by decide)))), Or.inr (Or.inl (by decide)), Or.inr (Or.inr (Or.inr iEq)), Or.inr (Or.inr (Or.inr iEq)), Or.inr (Or.inr (Or.inr iEq)), Or.inr (Or.inr (Or.inr (iSlU (by decide)))), Or.inl rfl, Or.inr (Or.inr (Or.inl (not_yet nD (fun hm => (cD 11 10 hm (by kernel_rfl)))))), trivial⟩
     refine ⟨by exact ⟨hst.sub (.cons _ (.cons_cons _ .slnil)), (fun y0 => absurd (show D 5 = false from y0) (by rw [(eD 5 (by kernel_rfl))]; decide))⟩, by exact (fun y0 => hst.sub (.cons_cons _ (.cons_cons _ .slnil))), kX [5] hI58 ?_⟩
     intro j d hj hjd hDj h
     simp only [List.mem_cons, List.not_mem_nil, or_false] at hj
     subst hj
     obtain rfl : 35 = d := Option.some.inj hjd
     exact (by rw [e51]; exact (fun y0 y1 => absurd y1 (fun h => Bool.noConfusion h)))
    ·rintro D ρo wo nD eD cD jD aD ⟨f40, _⟩
     obtain ⟨v59, e60⟩ : ∃ x, ρo 40 = x := ⟨_, rfl⟩
     have hh61 := aD 10 40 (eD 10 (by kernel_rfl)) rfl
     have hst : St w0 wo [rowT 5 u8E v59 ((done ++ (put ((l[i]'(by first | omega | (simp; omega) | (simp; done))).T))) ++ (put (zig ((l[i]'(by first | omega | (simp; omega) | (simp; done))).V)))), .blk g18 28 #[(iV ((l[i]'(by first | omega | (simp; omega) | (simp; done))).T)), (iV ((l[i]'(by first | omega | (simp; omega) | (simp; done))).V))]] := by have h := hh61 (eD 10 (by kernel_rfl)); rw [e60] at h; exact h
     exact go_plain (op_assign _ rfl (kN0 (i := 11) hM (by decide) (by exact jD) (by exact f40)))
    intro ρ62 w63 Dw63 hallw63 hJw63 hRw63 hkw63
    obtain ⟨v64, uw63_4⟩ : ∃ x, ρ62 4 = x := ⟨_, rfl⟩
    have hst : St w0 w63 [rowT 5 u8E v64 ((done ++ (put ((l[i]'(by first | omega | (simp; omega) | (simp; done))).T))) ++ (put (zig ((l[i]'(by first | omega | (simp; omega) | (simp; done))).V)))), .blk g18 28 #[(iV ((l[i]'(by first | omega | (simp; omega) | (simp; done))).T)), (iV ((l[i]'(by first | omega | (simp; omega) | (simp; done))).V))]] := by have h := hRw63 11 4 rfl; rw [uw63_4] at h; exact (h (hallw63 10 (show 10 < 12 from by decide)))
    have uw63_0 : ρ62 0 = v_l := (hkw63 0 rfl).trans q9_0
    have uw63_2 : ρ62 2 = nS := (hkw63 2 rfl).trans q9_2
    have uw63_3 : ρ62 3 = (iV 0) := (hkw63 3 rfl).trans q9_3
    have uw63_21 : ρ62 21 = v_l := (hkw63 21 rfl).trans q9_21
    have uw63_22 : ρ62 22 = (iV (l.length : Int)) := (hkw63 22 rfl).trans q9_22
    have uw63_23 : ρ62 23 = (iV (i : Int)) := (hkw63 23 rfl).trans q9_23
    have uw63_5 : ρ62 5 = (iV st) := (hkw63 5 rfl).trans q9_5
    have uw63_24 : ρ62 24 = (.bool (decide ((i : Int) < (l.length : Int)))) := (hkw63 24 rfl).trans rfl
    have uw63_25 : ρ62 25 = (iV (i : Int)) := (hkw63 25 rfl).trans rfl
    have uw63_26 : ρ62 26 = (.pointer (some ⟨a15, o16, none⟩)) := (hkw63 26 rfl).trans rfl
    have uw63_27 : ρ62 27 = (.agg #[(iV ((l[i]'(by first | omega | (simp; omega) | (simp; done))).T)), (iV ((l[i]'(by first | omega | (simp; omega) | (simp; done))).V))]) := (hkw63 27 rfl).trans rfl
    have uw63_7 : ρ62 7 = (.pointer (some ⟨g18, 0, none⟩)) := (hkw63 7 rfl).trans rfl
    have uw63_6 : ρ62 6 = (iV (i : Int)) := (hkw63 6 rfl).trans rfl
    have uw63_28 : ρ62 28 = (iV (i : Int)) := (hkw63 28 rfl).trans rfl
    have uw63_29 : ρ62 29 = (.bool (decide ((i : Int) = 0))) := (hkw63 29 rfl).trans rfl
    refine then_n (cE_exit (then_x (block_hit (then_n (cE_region rfl (s_cons (op_add (k := .i64) (a := (i : Int)) (b := 1) ((i : Int) + 1) uw63_23 rfl (xi64 (by omega) (by omega)) (s_cons (op_move (iV ((i : Int) + 1)) rfl (s_nil (then_n ?_)))))))))))
    exact ⟨_, ⟨v64, ((done ++ (put ((l[i]'(by first | omega | (simp; omega) | (simp; done))).T))) ++ (put (zig ((l[i]'(by first | omega | (simp; omega) | (simp; done))).V)))), (i + 1), st, rfl, uw63_0, uw63_2, uw63_3, uw63_21, uw63_22, uw63_4, (congrArg iV (show ((i : Int) + 1) = _ from by omega)), uw63_5, (hst.sub (.cons_cons _ (.cons _ .slnil))), (by omega), (by omega), (by omega), (by first | omega | (simp; omega)), (by first | rfl | (rw [hp, restS_first (by omega) (by omega), show st = 0 from (by omega)]; simp; done) | (rw [hp, restS_next (by omega) (by omega)]; simp; done))⟩, (by simp only [id]; omega)⟩
   have c65 : ¬ ((i : Int) = 0) := of_decide_eq_false b21
   refine cE_cond false (congrArg Value.bool b21) (fun h => by cases h) (fun _ => ?_)
   refine cE_skip (then_n (cE_seq ?_))
   have ht := htr _ (List.getElem_mem (show i < l.length by omega))
   have ht2 := htr _ (List.getElem_mem (show (i - 1) < l.length by omega))
   refine cE_regionL hst [[(7, none)], [(41, some 0)], [(0, none)], [(6, none)], [(44, some 3)], [(43, some 2), (45, some 4)], [(46, some 5)], [(47, some 6)], [(42, some 1), (48, some 7)], [(49, some 8)]] [(rEq (.pointer (some ⟨g18, (0 + 0), none⟩))), (rEq (iV ((l[i]'(by first | omega | (simp; omega) | (simp; done))).T))), (rEq v_l), (rEq (iV (i : Int))), (rEq (iV ((i : Int) - 1))), (rPt [(iV ((l[(i - 1)]'(by first | omega | (simp; omega) | (simp; done))).T)), (iV ((l[(i - 1)]'(by first | omega | (simp; omega) | (simp; done))).V))]), (rPt [(iV ((l[(i - 1)]'(by first | omega | (simp; omega) | (simp; done))).T)), (iV ((l[(i - 1)]'(by first | omega | (simp; omega) | (simp; done))).V))]), (rEq (iV ((l[(i - 1)]'(by first | omega | (simp; omega) | (simp; done))).T))), (rEq (iV (((l[i]'(by first | omega | (simp; omega) | (simp; done))).T) - ((l[(i - 1)]'(by first | omega | (simp; omega) | (simp; done))).T)))), (rEq (iV (((l[i]'(by first | omega | (simp; omega) | (simp; done))).T) - ((l[(i - 1)]'(by first | omega | (simp; omega) | (simp; done))).T))))] (by kernel_rfl) rfl (by kernel_rfl) ⟨sEq, sEq, sEq, sEq, sEq, sPt, sPt, sEq, sEq, sEq, trivial⟩ ⟨?_, ?_, ?_, ?_, ?_, ?_, ?_, ?_, ?_, ?_, trivial⟩ ?_
   ·rintro ρ69 w70 hj71 ⟨f7, _⟩
    have hst := hj71.2
    exact go_plain (op_fieldAddr (s := 0) Tryd.underlying28 rfl rfl Tryd.sizeOf2 (f7.trans rfl) (kS hj71 rfl))
   ·rintro ρ72 w73 hj74 ⟨f41, _⟩
    have hst := hj74.2
    exact go_plain (op_load1 (u := (iV ((l[i]'(by first | omega | (simp; omega) | (simp; done))).T))) Tryd.isAgg2 f41 (hst.cell 0 rfl) (kS hj74 rfl))
   ·rintro ρ75 w76 hj77 ⟨f0, _⟩
    have hst := hj77.2
    exact go_plain (op_move v_l (f0.trans q9_0) (kS hj77 rfl))
   ·rintro ρ78 w79 hj80 ⟨f6, _⟩
    have hst := hj80.2
    exact go_plain (op_move (iV (i : Int)) (f6.trans rfl) (kS hj80 rfl))
   ·rintro ρ81 w82 hj83 ⟨f44, _⟩
    have hst := hj83.2
    exact go_plain (op_sub (k := .i64) (a := (i : Int)) (b := 1) ((i : Int) - 1) f44 rfl (xi64 (by omega) (by omega)) (kS hj83 rfl))
   ·rintro ρ84 w85 hj86 ⟨f43, f45, _⟩
    have hst := hj86.2
    refine go_plain (op_indexAddrN (E := sampE) (xs := l) (i - 1) Tryd.underlying23 Tryd.sizeOf28 f43 h_l f45 (by omega) (by first | omega | (simp; omega) | (simp; done)) (fun a87 o88 p89 => ?_))
    exact kS hj86 ⟨_, _, rfl, (p89.below hst.below)⟩
   ·rintro ρ90 w91 hj92 ⟨f46, _⟩
    have hst := hj92.2
    obtain ⟨a93, o94, e95, p96⟩ := f46
    exact go_plain (op_fieldAddr (s := 0) Tryd.underlying28 rfl rfl Tryd.sizeOf2 e95 (kS hj92 ⟨_, _, rfl, p96⟩))
   ·rintro ρ97 w98 hj99 ⟨f47, _⟩
    have hst := hj99.2
    obtain ⟨a100, o101, e102, p103⟩ := f47
    exact go_plain (op_load1 (u := (iV ((l[(i - 1)]'(by first | omega | (simp; omega) | (simp; done))).T))) Tryd.isAgg2 e102 p103 (kS hj99 rfl))
   ·rintro ρ104 w105 hj106 ⟨f42, f48, _⟩
    have hst := hj106.2
    exact go_plain (op_sub (k := .i64) (a := (l[i]'(by first | omega | (simp; omega) | (simp; done))).T) (b := (l[(i - 1)]'(by first | omega | (simp; omega) | (simp; done))).T) (((l[i]'(by first | omega | (simp; omega) | (simp; done))).T) - ((l[(i - 1)]'(by first | omega | (simp; omega) | (simp; done))).T)) f42 f48 (xi64 (by omega) (by omega)) (kS hj106 rfl))
   ·rintro ρ107 w108 hj109 ⟨f49, _⟩
    have hst := hj109.2
    exact go_plain (op_assign (iV (((l[i]'(by first | omega | (simp; omega) | (simp; done))).T) - ((l[(i - 1)]'(by first | omega | (simp; omega) | (simp; done))).T))) f49 (kS hj109 rfl))
   intro ρ110 w111 hbw111 hst hRw111 hkw111
   have uw111_0 : ρ110 0 = v_l := (hkw111 0 rfl).trans q9_0
   have uw111_2 : ρ110 2 = nS := (hkw111 2 rfl).trans q9_2
   have uw111_3 : ρ110 3 = (iV 0) := (hkw111 3 rfl).trans q9_3
   have uw111_21 : ρ110 21 = v_l := (hkw111 21 rfl).trans q9_21
   have uw111_22 : ρ110 22 = (iV (l.length : Int)) := (hkw111 22 rfl).trans q9_22
   have uw111_4 : ρ110 4 = v := (hkw111 4 rfl).trans q9_4
   have uw111_23 : ρ110 23 = (iV (i : Int)) := (hkw111 23 rfl).trans q9_23
   have uw111_5 : ρ110 5 = (iV st) := (hkw111 5 rfl).trans q9_5
   have uw111_24 : ρ110 24 = (.bool (decide ((i : Int) < (l.length : Int)))) := (hkw111 24 rfl).trans rfl
   have uw111_25 : ρ110 25 = (iV (i : Int)) := (hkw111 25 rfl).trans rfl
   have uw111_26 : ρ110 26 = (.pointer (some ⟨a15, o16, none⟩)) := (hkw111 26 rfl).trans rfl
   have uw111_27 : ρ110 27 = (.agg #[(iV ((l[i]'(by first | omega | (simp; omega) | (simp; done))).T)), (iV ((l[i]'(by first | omega | (simp; omega) | (simp; done))).V))]) := (hkw111 27 rfl).trans rfl
   have uw111_7 : ρ110 7 = (.pointer (some ⟨g18, 0, none⟩)) := (hkw111 7 rfl).trans rfl
   have uw111_6 : ρ110 6 = (iV (i : Int)) := (hkw111 6 rfl).trans rfl
   have uw111_28 : ρ110 28 = (iV (i : Int)) := (hkw111 28 rfl).trans rfl
   have uw111_29 : ρ110 29 = (.bool (decide ((i : Int) = 0))) := (hkw111 29 rfl).trans rfl
   have uw111_8 : ρ110 8 = (iV (((l[i]'(by first | omega | (simp; omega) | (simp; done))).T) - ((l[(i - 1)]'(by first | omega | (simp; omega) | (simp; done))).T))) := hRw111 9 8 rfl
   refine then_n (cE_seq ?_)
   have hv := (hl _ (List.getElem_mem (show i < l.length by omega))).2
   have hz1 := zig_r (m := (l[i]'(by omega)).T - (l[i - 1]'(by omega)).T - st) ⟨by omega, by omega⟩
   have hw := wr_r ((l[i]'(by omega)).V - (l[i - 1]'(by omega)).V)
   have hz2 := zig_r hw
   have q1 := put_length (zig ((l[i]'(by omega)).T - (l[i - 1]'(by omega)).T - st))
   have q2 := put_length (zig (wr ((l[i]'(by omega)).V - (l[i - 1]'(by omega)).V)))
   refine cE_regionM (fun (D : Nat → Bool) (w : World) => St w0 w [.blk g18 28 #[(iV ((l[i]'(by first | omega | (simp; omega) | (simp; done))).T)), (iV ((l[i]'(by first | omega | (simp; omega) | (simp; done))).V))]] ∧ (D 6 = false → St w0 w [.blk g18 28 #[(iV ((l[i]'(by first | omega | (simp; omega) | (simp; done))).T)), (iV ((l[i]'(by first | omega | (simp; omega) | (simp; done))).V))], rowT 5 u8E v done])) [[(4, none)], [(8, none)], [(5, none)], [(51, some 1), (52, some 2)], [(53, some 3)], [(54, some 4)], [(50, some 0), (55, some 5)], [(7, none)], [(57, some 7)], [(0, none)], [(6, none)], [(60, some 10)], [(59, some 9), (61, some 11)], [(62, some 12)], [(63, some 13)], [(58, some 8), (64, some 14)], [(65, some 15)], [(66, some 16)], [(56, some 6), (67, some 17)], [(68, some 18)]] [6, 18] [(kEq v), (kEq (iV (((l[i]'(by first | omega | (simp; omega) | (simp; done))).T) - ((l[(i - 1)]'(by first | omega | (simp; omega) | (simp; done))).T)))), (kEq (iV st)), (kEq (iV ((((l[i]'(by first | omega | (simp; omega) | (simp; done))).T) - ((l[(i - 1)]'(by first | omega | (simp; omega) | (simp; done))).T)) - st))), (kEq (.int .u64 (zig ((((l[i]'(by first | omega | (simp; omega) | (simp; done))).T) - ((l[(i - 1)]'(by first | omega | (simp; omega) | (simp; done))).T)) - st)))), (kSlU [6, 18] u8E (put (zig ((((l[i]'(by first | omega | (simp; omega) | (simp; done))).T) - ((l[(i - 1)]'(by first | omega | (simp; omega) | (simp; done))).T)) - st)))), (fun (D : Nat → Bool) (v115 : Value) (w : World) => (D 6 = true → D 18 = false → St w0 w [rowT 5 u8E v115 (done ++ (put (zig ((((l[i]'(by first | omega | (simp; omega) | (simp; done))).T) - ((l[(i - 1)]'(by first | omega | (simp; omega) | (simp; done))).T)) - st)))), .blk g18 28 #[(iV ((l[i]'(by first | omega | (simp; omega) | (simp; done))).T)), (iV ((l[i]'(by first | omega | (simp; omega) | (simp; done))).V))]])), (kEq (.pointer (some ⟨g18, (0 + 1), none⟩))), (kEq (iV ((l[i]'(by first | omega | (simp; omega) | (simp; done))).V))), (kEq v_l), (kEq (iV (i : Int))), (kEq (iV ((i : Int) - 1))), (kPt0 w0 [(iV ((l[(i - 1)]'(by first | omega | (simp; omega) | (simp; done))).T)), (iV ((l[(i - 1)]'(by first | omega | (simp; omega) | (simp; done))).V))]), (kPt0 w0 [(iV ((l[(i - 1)]'(by first | omega | (simp; omega) | (simp; done))).V))]), (kEq (iV ((l[(i - 1)]'(by first | omega | (simp; omega) | (simp; done))).V))), (kEq (iV (wr ((l[i]'(by first | omega | (simp; omega) | (simp; done))).V - (l[(i - 1)]'(by first | omega | (simp; omega) | (simp; done))).V)))), (kEq (.int .u64 (zig (wr ((l[i]'(by first | omega | (simp; omega) | (simp; done))).V - (l[(i - 1)]'(by first | omega | (simp; omega) | (simp; done))).V))))), (kSlU [18] u8E (put (zig (wr ((l[i]'(by first | omega | (simp; omega) | (simp; done))).V - (l[(i - 1)]'(by first | omega | (simp; omega) | (simp; done))).V))))), (fun (D : Nat → Bool) (v123 : Value) (w : World) => (D 18 = true → St w0 w [rowT 5 u8E v123 ((done ++ (put (zig ((((l[i]'(by first | omega | (simp; omega) | (simp; done))).T) - ((l[(i - 1)]'(by first | omega | (simp; omega) | (simp; done))).T)) - st)))) ++ (put (zig (wr ((l[i]'(by first | omega | (simp; omega) | (simp; done))).V - (l[(i - 1)]'(by first | omega | (simp; omega) | (simp; done))).V))))), .blk g18 28 #[(iV ((l[i]'(by first | omega | (simp; omega) | (simp; done))).T)), (iV ((l[i]'(by first | omega | (simp; omega) | (simp; done))).V))]])), (fun (D : Nat → Bool) (v123 : Value) (w : World) => (D 18 = true → St w0 w [rowT 5 u8E v123 ((done ++ (put (zig ((((l[i]'(by first | omega | (simp; omega) | (simp; done))).T) - ((l[(i - 1)]'(by first | omega | (simp; omega) | (simp; done))).T)) - st)))) ++ (put (zig (wr ((l[i]'(by first | omega | (simp; omega) | (simp; done))).V - (l[(i - 1)]'(by first | omega | (simp; omega) | (simp; done))).V))))), .blk g18 28 #[(iV ((l[i]'(by first | omega | (simp; omega) | (simp; done))).T)), (iV ((l[i]'(by first | omega | (simp; omega) | (simp; done))).V))]]))] ⟨mEq, mEq, mEq, mEq, mEq, (mSlUs (by decide)), (fun D D' v w w' hD hb h2 => (fun x0 x1 => (h2 ((hD 6 (by decide)).symm.trans x0) ((hD 18 (by decide)).symm.trans x1)).ext hb)), mEq, mEq, mEq, mEq, mEq, mPt0, mPt0, mEq, mEq, mEq, (mSlUs (by decide)), (fun D D' v w w' hD hb h2 => (fun x0 => (h2 ((hD 18 (by decide)).symm.trans x0)).ext hb)), (fun D D' v w w' hD hb h2 => (fun x0 => (h2 ((hD 18 (by decide)).symm.trans x0)).ext hb)), trivial⟩ (by kernel_rfl) rfl (by kernel_rfl) ⟨hst.drewW.sub (.cons_cons _ (.cons _ .slnil)), (fun _ => hst.drewW)⟩ (fun hM => ⟨?_, ?_, ?_, ?_, ?_, ?_, ?_, ?_, ?_, ?_, ?_, ?_, ?_, ?_, ?_, ?_, ?_, ?_, ?_, ?_, trivial⟩) ?_
   ·rintro D ρo wo nD eD cD jD aD ⟨f4, _⟩
    exact go_plain (op_move v (f4.trans uw111_4) (kN0 (i := 0) hM (by decide) (by exact jD) (by exact rfl)))
   ·rintro D ρo wo nD eD cD jD aD ⟨f8, _⟩
    exact go_plain (op_move (iV (((l[i]'(by first | omega | (simp; omega) | (simp; done))).T) - ((l[(i - 1)]'(by first | omega | (simp; omega) | (simp; done))).T))) (f8.trans uw111_8) (kN0 (i := 1) hM (by decide) (by exact jD) (by exact rfl)))
   ·rintro D ρo wo nD eD cD jD aD ⟨f5, _⟩
    exact go_plain (op_move (iV st) (f5.trans uw111_5) (kN0 (i := 2) hM (by decide) (by exact jD) (by exact rfl)))
   ·rintro D ρo wo nD eD cD jD aD ⟨f51, f52, _⟩
    exact go_plain (op_sub (k := .i64) (a := (((l[i]'(by first | omega | (simp; omega) | (simp; done))).T) - ((l[(i - 1)]'(by first | omega | (simp; omega) | (simp; done))).T))) (b := st) ((((l[i]'(by first | omega | (simp; omega) | (simp; done))).T) - ((l[(i - 1)]'(by first | omega | (simp; omega) | (simp; done))).T)) - st) f51 f52 (xi64 (by omega) (by omega)) (kN0 (i := 3) hM (by decide) (by exact jD) (by exact rfl)))
   ·rintro D ρo wo nD eD cD jD aD ⟨f53, _⟩
    refine go_plain (op_call Tryd.call37 (evs_cons (v := (iV ((((l[i]'(by first | omega | (simp; omega) | (simp; done))).T) - ((l[(i - 1)]'(by first | omega | (simp; omega) | (simp; done))).T)) - st))) f53 evs_nil) (c_Zig (w0 := wo) (m := ((((l[i]'(by first | omega | (simp; omega) | (simp; done))).T) - ((l[(i - 1)]'(by first | omega | (simp; omega) | (simp; done))).T)) - st)) (h0 := (by omega)) (h1 := (by omega))) ?_)
    rintro _ w126 ⟨rfl, hcall⟩
    refine ⟨_, rfl, ?_⟩
    exact kN (i := 4) hM (by decide) hcall.below (by exact ⟨(jD.1).ext hcall.below, (fun x0 => (jD.2 x0).ext hcall.below)⟩) (by exact rfl)
   ·rintro D ρo wo nD eD cD jD aD ⟨f54, _⟩
    refine go_plain (op_call Tryd.call16 (evs_cons (v := (.int .u64 (zig ((((l[i]'(by first | omega | (simp; omega) | (simp; done))).T) - ((l[(i - 1)]'(by first | omega | (simp; omega) | (simp; done))).T)) - st)))) f54 evs_nil) (c_Put (w0 := wo) (n := (zig ((((l[i]'(by first | omega | (simp; omega) | (simp; done))).T) - ((l[(i - 1)]'(by first | omega | (simp; omega) | (simp; done))).T)) - st))) (h0 := (by omega)) (h1 := (by omega))) ?_)
    rintro _ w128 ⟨r127, rfl, hcall⟩
    refine ⟨_, rfl, ?_⟩
    exact kN (i := 5) hM (by decide) hcall.below (by exact ⟨(jD.1).ext hcall.below, (fun x0 => (jD.2 x0).ext hcall.below)⟩) (by exact fun _ => hcall.sl 0 rfl)
   ·rintro D ρo wo nD eD cD jD aD ⟨f50, f55, _⟩
    have hst := jD.2 nD
    replace hst : St w0 wo [.blk g18 28 #[(iV ((l[i]'(by first | omega | (simp; omega) | (simp; done))).T)), (iV ((l[i]'(by first | omega | (simp; omega) | (simp; done))).V))], rowT 5 u8E v done] := hst
    obtain ⟨v130, e131⟩ : ∃ x, ρo 55 = x := ⟨_, rfl⟩
    have hs129 := f55 (by intro m hm; simp only [List.mem_cons, List.not_mem_nil, or_false] at hm; rcases hm with rfl | rfl; exact nD; exact (not_yet nD (fun hm => (cD 18 6 hm (by kernel_rfl)))))
    replace hs129 : Sl wo u8E v130 (put (zig ((((l[i]'(by first | omega | (simp; omega) | (simp; done))).T) - ((l[(i - 1)]'(by first | omega | (simp; omega) | (simp; done))).T)) - st))) := e131 ▸ hs129
    refine go_plain (op_append (E := u8E) (xs := done) (ys := (put (zig ((((l[i]'(by first | omega | (simp; omega) | (simp; done))).T) - ((l[(i - 1)]'(by first | omega | (simp; omega) | (simp; done))).T)) - st)))) (z := (.int .u8 0)) (bytes := 1) hst 1 rfl Tryd.underlying29 (by kernel_rfl) rfl f50 e131 hs129 (by first | omega | (simp; omega) | (simp; done)) (by first | omega | (simp; omega) | (simp; done)) (fun v132 w133 hst => ?_))
    replace hst : St w0 w133 [.blk g18 28 #[(iV ((l[i]'(by first | omega | (simp; omega) | (simp; done))).T)), (iV ((l[i]'(by first | omega | (simp; omega) | (simp; done))).V))], rowT 5 u8E v132 (done ++ (put (zig ((((l[i]'(by first | omega | (simp; omega) | (simp; done))).T) - ((l[(i - 1)]'(by first | omega | (simp; omega) | (simp; done))).T)) - st))))] := hst
    replace hst : St w0 w133 [rowT 5 u8E v132 (done ++ (put (zig ((((l[i]'(by first | omega | (simp; omega) | (simp; done))).T) - ((l[(i - 1)]'(by first | omega | (simp; omega) | (simp; done))).T)) - st)))), .blk g18 28 #[(iV ((l[i]'(by first | omega | (simp; omega) | (simp; done))).T)), (iV ((l[i]'(by first | omega | (simp; omega) | (simp; done))).V))]] := hst.front 1 rfl
    have hI134 : stabIXs 6 [] D 0 [(kEq v), (kEq (iV (((l[i]'(by first | omega | (simp; omega) | (simp; done))).T) - ((l[(i - 1)]'(by first | omega | (simp; omega) | (simp; done))).T)))), (kEq (iV st)), (kEq (iV ((((l[i]'(by first | omega | (simp; omega) | (simp; done))).T) - ((l[(i - 1)]'(by first | omega | (simp; omega) | (simp; done))).T)) - st))), (kEq (.int .u64 (zig ((((l[i]'(by first | omega | (simp; omega) | (simp; done))).T) - ((l[(i - 1)]'(by first | omega | (simp; omega) | (simp; done))).T)) - st)))), (kSlU [6, 18] u8E (put (zig ((((l[i]'(by first | omega | (simp; omega) | (simp; done))).T) - ((l[(i - 1)]'(by first | omega | (simp; omega) | (simp; done))).T)) - st)))), (fun (D : Nat → Bool) (v115 : Value) (w : World) => (D 6 = true → D 18 = false → St w0 w [rowT 5 u8E v115 (done ++ (put (zig ((((l[i]'(by first | omega | (simp; omega) | (simp; done))).T) - ((l[(i - 1)]'(by first | omega | (simp; omega) | (simp; done))).T)) - st)))), .blk g18 28 #[(iV ((l[i]'(by first | omega | (simp; omega) | (simp; done))).T)), (iV ((l[i]'(by first | omega | (simp; omega) | (simp; done))).V))]])), (kEq (.pointer (some ⟨g18, (0 + 1), none⟩))), (kEq (iV ((l[i]'(by first | omega | (simp; omega) | (simp; done))).V))), (kEq v_l), (kEq (iV (i : Int))), (kEq (iV ((i : Int) - 1))), (kPt0 w0 [(iV ((l[(i - 1)]'(by first | omega | (simp; omega) | (simp; done))).T)), (iV ((l[(i - 1)]'(by first | omega | (simp; omega) | (simp; done))).V))]), (kPt0 w0 [(iV ((l[(i - 1)]'(by first | omega | (simp; omega) | (simp; done))).V))]), (kEq (iV ((l[(i - 1)]'(by first | omega | (simp; omega) | (simp; done))).V))), (kEq (iV (wr ((l[i]'(by first | omega | (simp; omega) | (simp; done))).V - (l[(i - 1)]'(by first | omega | (simp; omega) | (simp; done))).V)))), (kEq (.int .u64 (zig (wr ((l[i]'(by first | omega | (simp; omega) | (simp; done))).V - (l[(i - 1)]'(by first | omega | (simp; omega) | (simp; done))).V))))), (kSlU [18] u8E (put (zig (wr ((l[i]'(by first | omega | (simp; omega) | (simp; done))).V - (l[(i - 1)]'(by first | omega | (simp; omega) | (simp; done))).V))))), (fun (D : Nat → Bool) (v123 : Value) (w : World) => (D 18 = true → St w0 w [rowT 5 u8E v123 ((done ++ (put (zig ((((l[i]'(by first | omega | (simp; omega) | (simp; done))).T) - ((l[(i - 1)]'(by first | omega | (simp; omega) | (simp; done))).T)) - st)))) ++ (put (zig (wr ((l[i]'(by first | omega | (simp; omega) | (simp; done))).V - (l[(i - 1)]'(by first | omega | (simp; omega) | (simp; done))).V))))), .blk g18 28 #[(iV ((l[i]'(by first | omega | (simp; omega) | (simp; done))).T)), (iV ((l[i]'(by first | omega | (simp; omega) | (simp; done))).V))]])), (fun (D : Nat → Bool) (v123 : Value) (w : World) => (D 18 = true → St w0 w [rowT 5 u8E v123 ((done ++ (put (zig ((((l[i]'(by first | omega | (simp; omega) | (simp; done))).T) - ((l[(i - 1)]'(by first | omega | (simp; omega) | (simp; done))).T)) - st)))) ++ (put (zig (wr ((l[i]'(by first | omega | (simp; omega) | (simp; done))).V - (l[(i - 1)]'(by first | omega | (simp; omega) | (simp; done))).V))))), .blk g18 28 #[(iV ((l[i]'(by first | omega | (simp; omega) | (simp; done))).T)), (iV ((l[i]'(by first | omega | (simp; omega) | (simp; done))).V))]]))] := ⟨Or.inr (Or.inr (Or.inr iEq)), Or.inr (Or.inr (Or.inr iEq)), Or.inr (Or.inr (Or.inr iEq)), Or.inr (Or.inr (Or.inr iEq)), Or.inr (Or.inr (Or.inr iEq)), Or.inr (Or.inr (Or.inr (iSlU (by decide)))), Or.inl rfl, Or.inr (Or.inr (Or.inr iEq)), Or.inr (Or.inr (Or.inr iEq)), Or.inr (Or.inr (Or.inr iEq)), Or.inr (Or.inr (Or.inr iEq)), Or.inr (Or.inr (Or.inr iEq)), Or.inr (Or.inr (Or.inr iPt0)), Or.inr (Or.inr (Or.inr iPt0)), Or.inr (Or.inr (Or.inr iEq)), Or.inr (Or.inr (Or.inr iEq)), Or.inr (Or.inr (Or.inl (not_yet nD (fun hm => (cD 16 6 hm (by kernel_rfl)))))), Or.inr (Or.inr (Or.inl (not_yet nD (fun hm => (cD 16 6 (cD 17 16 hm (by kernel_rfl)) (by kernel_rfl)))))), Or.inr (Or.inr (Or.inl (not_yet nD (fun hm => (cD 18 6 hm (by kernel_rfl)))))), Or.inr (Or.inr (Or.inl (not_yet nD (fun hm => (cD 19 6 hm (by kernel_rfl)))))), trivial⟩
    refine ⟨by exact ⟨hst.sub (.cons _ (.cons_cons _ .slnil)), (fun y0 => absurd y0 (fun h => Bool.noConfusion h))⟩, by exact (fun y0 y1 => hst.sub (.cons_cons _ (.cons_cons _ .slnil))), kX [] hI134 ?_⟩
    intro j d hj; cases hj
   ·rintro D ρo wo nD eD cD jD aD ⟨f7, _⟩
    exact go_plain (op_fieldAddr (s := 0) Tryd.underlying28 rfl rfl Tryd.sizeOf2 (f7.trans uw111_7) (kN0 (i := 7) hM (by decide) (by exact jD) (by exact rfl)))
   ·rintro D ρo wo nD eD cD jD aD ⟨f57, _⟩
    have hst := jD.1
    exact go_plain (op_load1 (u := (iV ((l[i]'(by first | omega | (simp; omega) | (simp; done))).V))) Tryd.isAgg2 f57 ((hst.cell 0 rfl).drop 1) (kN0 (i := 8) hM (by decide) (by exact jD) (by exact rfl)))
   ·rintro D ρo wo nD eD cD jD aD ⟨f0, _⟩
    exact go_plain (op_move v_l (f0.trans uw111_0) (kN0 (i := 9) hM (by decide) (by exact jD) (by exact rfl)))
   ·rintro D ρo wo nD eD cD jD aD ⟨f6, _⟩
    exact go_plain (op_move (iV (i : Int)) (f6.trans uw111_6) (kN0 (i := 10) hM (by decide) (by exact jD) (by exact rfl)))
   ·rintro D ρo wo nD eD cD jD aD ⟨f60, _⟩
    exact go_plain (op_sub (k := .i64) (a := (i : Int)) (b := 1) ((i : Int) - 1) f60 rfl (xi64 (by omega) (by omega)) (kN0 (i := 11) hM (by decide) (by exact jD) (by exact rfl)))
   ·rintro D ρo wo nD eD cD jD aD ⟨f59, f61, _⟩
    refine go_plain (op_indexAddrN (E := sampE) (xs := l) (i - 1) Tryd.underlying23 Tryd.sizeOf28 f59 h_l f61 (by omega) (by first | omega | (simp; omega) | (simp; done)) (fun a135 o136 p137 => ?_))
    exact (kN0 (i := 12) hM (by decide) (by exact jD) (by exact ⟨_, _, rfl, p137⟩))
   ·rintro D ρo wo nD eD cD jD aD ⟨f62, _⟩
    obtain ⟨a138, o139, e140, p141⟩ := f62
    exact go_plain (op_fieldAddr (s := 0) Tryd.underlying28 rfl rfl Tryd.sizeOf2 e140 (kN0 (i := 13) hM (by decide) (by exact jD) (by exact ⟨_, _, rfl, (p141.drop 1)⟩)))
   ·rintro D ρo wo nD eD cD jD aD ⟨f63, _⟩
    have hst := jD.1
    obtain ⟨a142, o143, e144, p145⟩ := f63
    exact go_plain (op_load1 (u := (iV ((l[(i - 1)]'(by first | omega | (simp; omega) | (simp; done))).V))) Tryd.isAgg2 e144 (p145.below hst.below) (kN0 (i := 14) hM (by decide) (by exact jD) (by exact rfl)))
   ·rintro D ρo wo nD eD cD jD aD ⟨f58, f64, _⟩
    exact go_plain (op_sub (k := .i64) (a := (l[i]'(by first | omega | (simp; omega) | (simp; done))).V) (b := (l[(i - 1)]'(by first | omega | (simp; omega) | (simp; done))).V) (wr ((l[i]'(by first | omega | (simp; omega) | (simp; done))).V - (l[(i - 1)]'(by first | omega | (simp; omega) | (simp; done))).V)) f58 f64 rfl (kN0 (i := 15) hM (by decide) (by exact jD) (by exact rfl)))
   ·rintro D ρo wo nD eD cD jD aD ⟨f65, _⟩
    obtain ⟨v146, e147⟩ : ∃ x, ρo 56 = x := ⟨_, rfl⟩
    have hh148 := aD 6 56 (eD 6 (by kernel_rfl)) rfl
    have hst : St w0 wo [rowT 5 u8E v146 (done ++ (put (zig ((((l[i]'(by first | omega | (simp; omega) | (simp; done))).T) - ((l[(i - 1)]'(by first | omega | (simp; omega) | (simp; done))).T)) - st)))), .blk g18 28 #[(iV ((l[i]'(by first | omega | (simp; omega) | (simp; done))).T)), (iV ((l[i]'(by first | omega | (simp; omega) | (simp; done))).V))]] := by have h := hh148 (eD 6 (by kernel_rfl)) (not_yet nD (fun hm => (cD 17 16 (cD 18 17 hm (by kernel_rfl)) (by kernel_rfl)))); rw [e147] at h; exact h
    refine go_plain (op_call Tryd.call37 (evs_cons (v := (iV (wr ((l[i]'(by first | omega | (simp; omega) | (simp; done))).V - (l[(i - 1)]'(by first | omega | (simp; omega) | (simp; done))).V)))) f65 evs_nil) (c_Zig (w0 := wo) (m := (wr ((l[i]'(by first | omega | (simp; omega) | (simp; done))).V - (l[(i - 1)]'(by first | omega | (simp; omega) | (simp; done))).V))) (h0 := (by omega)) (h1 := (by omega))) ?_)
    rintro _ w149 ⟨rfl, hcall⟩
    refine ⟨_, rfl, ?_⟩
    exact kN (i := 16) hM (by decide) hcall.below (by exact ⟨(jD.1).ext hcall.below, (fun x0 => (jD.2 x0).ext hcall.below)⟩) (by exact rfl)
   ·rintro D ρo wo nD eD cD jD aD ⟨f66, _⟩
    obtain ⟨v150, e151⟩ : ∃ x, ρo 56 = x := ⟨_, rfl⟩
    have hh152 := aD 6 56 (cD 16 6 (eD 16 (by kernel_rfl)) (by kernel_rfl)) rfl
    have hst : St w0 wo [rowT 5 u8E v150 (done ++ (put (zig ((((l[i]'(by first | omega | (simp; omega) | (simp; done))).T) - ((l[(i - 1)]'(by first | omega | (simp; omega) | (simp; done))).T)) - st)))), .blk g18 28 #[(iV ((l[i]'(by first | omega | (simp; omega) | (simp; done))).T)), (iV ((l[i]'(by first | omega | (simp; omega) | (simp; done))).V))]] := by have h := hh152 (cD 16 6 (eD 16 (by kernel_rfl)) (by kernel_rfl)) (not_yet nD (fun hm => (cD 18 17 hm (by kernel_rfl)))); rw [e151] at h; exact h
    refine go_plain (op_call Tryd.call16 (evs_cons (v := (.int .u64 (zig (wr ((l[i]'(by first | omega | (simp; omega) | (simp; done))).V - (l[(i - 1)]'(by first | omega | (simp; omega) | (simp; done))).V))))) f66 evs_nil) (c_Put (w0 := wo) (n := (zig (wr ((l[i]'(by first | omega | (simp; omega) | (simp; done))).V - (l[(i - 1)]'(by first | omega | (simp; omega) | (simp; done))).V)))) (h0 := (by omega)) (h1 := (by omega))) ?_)
    rintro _ w154 ⟨r153, rfl, hcall⟩
    refine ⟨_, rfl, ?_⟩
    exact kN (i := 17) hM (by decide) hcall.below (by exact ⟨(jD.1).ext hcall.below, (fun x0 => (jD.2 x0).ext hcall.below)⟩) (by exact fun _ => hcall.sl 0 rfl)
   ·rintro D ρo wo nD eD cD jD aD ⟨f56, f67, _⟩
    obtain ⟨v155, e156⟩ : ∃ x, ρo 56 = x := ⟨_, rfl⟩
    have hh157 := aD 6 56 (eD 6 (by kernel_rfl)) rfl
    have hst : St w0 wo [rowT 5 u8E v155 (done ++ (put (zig ((((l[i]'(by first | omega | (simp; omega) | (simp; done))).T) - ((l[(i - 1)]'(by first | omega | (simp; omega) | (simp; done))).T)) - st)))), .blk g18 28 #[(iV ((l[i]'(by first | omega | (simp; omega) | (simp; done))).T)), (iV ((l[i]'(by first | omega | (simp; omega) | (simp; done))).V))]] := by have h := hh157 (eD 6 (by kernel_rfl)) nD; rw [e156] at h; exact h
    obtain ⟨v159, e160⟩ : ∃ x, ρo 67 = x := ⟨_, rfl⟩
    have hs158 := f67 (by intro m hm; obtain rfl := List.mem_singleton.1 hm; exact nD)
    replace hs158 : Sl wo u8E v159 (put (zig (wr ((l[i]'(by first | omega | (simp; omega) | (simp; done))).V - (l[(i - 1)]'(by first | omega | (simp; omega) | (simp; done))).V)))) := e160 ▸ hs158
    refine go_plain (op_append (E := u8E) (xs := (done ++ (put (zig ((((l[i]'(by first | omega | (simp; omega) | (simp; done))).T) - ((l[(i - 1)]'(by first | omega | (simp; omega) | (simp; done))).T)) - st))))) (ys := (put (zig (wr ((l[i]'(by first | omega | (simp; omega) | (simp; done))).V - (l[(i - 1)]'(by first | omega | (simp; omega) | (simp; done))).V))))) (z := (.int .u8 0)) (bytes := 1) hst 0 rfl Tryd.underlying29 (by kernel_rfl) rfl e156 e160 hs158 (by first | omega | (simp; omega) | (simp; done)) (by first | omega | (simp; omega) | (simp; done)) (fun v161 w162 hst => ?_))
    replace hst : St w0 w162 [rowT 5 u8E v161 ((done ++ (put (zig ((((l[i]'(by first | omega | (simp; omega) | (simp; done))).T) - ((l[(i - 1)]'(by first | omega | (simp; omega) | (simp; done))).T)) - st)))) ++ (put (zig (wr ((l[i]'(by first | omega | (simp; omega) | (simp; done))).V - (l[(i - 1)]'(by first | omega | (simp; omega) | (simp; done))).V))))), .blk g18 28 #[(iV ((l[i]'(by first | omega | (simp; omega) | (simp; done))).T)), (iV ((l[i]'(by first | omega | (simp; omega) | (simp; done))).V))]] := hst
    have hI163 : stabIXs 18 [6] D 0 [(kEq v), (kEq (iV (((l[i]'(by first | omega | (simp; omega) | (simp; done))).T) - ((l[(i - 1)]'(by first | omega | (simp; omega) | (simp; done))).T)))), (kEq (iV st)), (kEq (iV ((((l[i]'(by first | omega | (simp; omega) | (simp; done))).T) - ((l[(i - 1)]'(by first | omega | (simp; omega) | (simp; done))).T)) - st))), (kEq (.int .u64 (zig ((((l[i]'(by first | omega | (simp; omega) | (simp; done))).T) - ((l[(i - 1)]'(by first | omega | (simp; omega) | (simp; done))).T)) - st)))), (kSlU [6, 18] u8E (put (zig ((((l[i]'(by first | omega | (simp; omega) | (simp; done))).T) - ((l[(i - 1)]'(by first | omega | (simp; omega) | (simp; done))).T)) - st)))), (fun (D : Nat → Bool) (v115 : Value) (w : World) => (D 6 = true → D 18 = false → St w0 w [rowT 5 u8E v115 (done ++ (put (zig ((((l[i]'(by first | omega | (simp; omega) | (simp; done))).T) - ((l[(i - 1)]'(by first | omega | (simp; omega) | (simp; done))).T)) - st)))), .blk g18 28 #[(iV ((l[i]'(by first | omega | (simp; omega) | (simp; done))).T)), (iV ((l[i]'(by first | omega | (simp; omega) | (simp; done))).V))]])), (kEq (.pointer (some ⟨g18, (0 + 1), none⟩))), (kEq (iV ((l[i]'(by first | omega | (simp; omega) | (simp; done))).V))), (kEq v_l), (kEq (iV (i : Int))), (kEq (iV ((i : Int) - 1))), (kPt0 w0 [(iV ((l[(i - 1)]'(by first | omega | (simp; omega) | (simp; done))).T)), (iV ((l[(i - 1)]'(by first | omega | (simp; omega) | (simp; done))).V))]), (kPt0 w0 [(iV ((l[(i - 1)]'(by first | omega | (simp; omega) | (simp; done))).V))]), (kEq (iV ((l[(i - 1)]'(by first | omega | (simp; omega) | (simp; done))).V))), (kEq (iV (wr ((l[i]'(by first | omega | (simp; omega) | (simp; done))).V - (l[(i - 1)]'(by first | omega | (simp; omega) | (simp; done))).V)))), (kEq (.int .u64 (zig (wr ((l[i]'(by first | omega | (simp; omega) | (simp; done))).V - (l[(i - 1)]'(by first | omega | (simp; omega) | (simp; done))).V))))), (kSlU [18] u8E (put (zig (wr ((l[i]'(by first | omega | (simp; omega) | (simp; done))).V - (l[(i - 1)]'(by first | omega | (simp; omega) | (simp; done))).V))))), (fun (D : Nat → Bool) (v123 : Value) (w : World) => (D 18 = true → St w0 w [rowT 5 u8E v123 ((done ++ (put (zig ((((l[i]'(by first | omega | (simp; omega) | (simp; done))).T) - ((l[(i - 1)]'(by first | omega | (simp; omega) | (simp; done))).T)) - st)))) ++ (put (zig (wr ((l[i]'(by first | omega | (simp; omega) | (simp; done))).V - (l[(i - 1)]'(by first | omega | (simp; omega) | (simp; done))).V))))), .blk g18 28 #[(iV ((l[i]'(by first | omega | (simp; omega) | (simp; done))).T)), (iV ((l[i]'(by first | omega | (simp; omega) | (simp; done))).V))]])), (fun (D : Nat → Bool) (v123 : Value) (w : World) => (D 18 = true → St w0 w [rowT 5 u8E v123 ((done ++ (put (zig ((((l[i]'(by first | omega | (simp; omega) | (simp; done))).T) - ((l[(i - 1)]'(by first | omega | (simp; omega) | (simp; done))).T)) - st)))) ++ (put (zig (wr ((l[i]'(by first | omega | (simp; omega) | (simp; done))).V - (l[(i - 1)]'(by first | omega | (simp; omega) | (simp; done))).V))))), .blk g18 28 #[(iV ((l[i]'(by first | omega | (simp; omega) | (simp; done))).T)), (iV ((l[i]'(by first | omega | (simp; omega) | (simp; done))).V))]]))] := ⟨Or.inr (Or.inr (Or.inr iEq)), Or.inr (Or.inr (Or.inr iEq)), Or.inr (Or.inr (Or.inr iEq)), Or.inr (Or.inr (Or.inr iEq)), Or.inr (Or.inr (Or.inr iEq)), Or.inr (Or.inr (Or.inr (iSlU (by decide)))), Or.inr (Or.inl (by decide)), Or.inr (Or.inr (Or.inr iEq)), Or.inr (Or.inr (Or.inr iEq)), Or.inr (Or.inr (Or.inr iEq)), Or.inr (Or.inr (Or.inr iEq)), Or.inr (Or.inr (Or.inr iEq)), Or.inr (Or.inr (Or.inr iPt0)), Or.inr (Or.inr (Or.inr iPt0)), Or.inr (Or.inr (Or.inr iEq)), Or.inr (Or.inr (Or.inr iEq)), Or.inr (Or.inr (Or.inr iEq)), Or.inr (Or.inr (Or.inr (iSlU (by decide)))), Or.inl rfl, Or.inr (Or.inr (Or.inl (not_yet nD (fun hm => (cD 19 18 hm (by kernel_rfl)))))), trivial⟩
    refine ⟨by exact ⟨hst.sub (.cons _ (.cons_cons _ .slnil)), (fun y0 => absurd (show D 6 = false from y0) (by rw [(eD 6 (by kernel_rfl))]; decide))⟩, by exact (fun y0 => hst.sub (.cons_cons _ (.cons_cons _ .slnil))), kX [6] hI163 ?_⟩
    intro j d hj hjd hDj h
    simp only [List.mem_cons, List.not_mem_nil, or_false] at hj
    subst hj
    obtain rfl : 56 = d := Option.some.inj hjd
    exact (by rw [e156]; exact (fun y0 y1 => absurd y1 (fun h => Bool.noConfusion h)))
   ·rintro D ρo wo nD eD cD jD aD ⟨f68, _⟩
    obtain ⟨v164, e165⟩ : ∃ x, ρo 68 = x := ⟨_, rfl⟩
    have hh166 := aD 18 68 (eD 18 (by kernel_rfl)) rfl
    have hst : St w0 wo [rowT 5 u8E v164 ((done ++ (put (zig ((((l[i]'(by first | omega | (simp; omega) | (simp; done))).T) - ((l[(i - 1)]'(by first | omega | (simp; omega) | (simp; done))).T)) - st)))) ++ (put (zig (wr ((l[i]'(by first | omega | (simp; omega) | (simp; done))).V - (l[(i - 1)]'(by first | omega | (simp; omega) | (simp; done))).V))))), .blk g18 28 #[(iV ((l[i]'(by first | omega | (simp; omega) | (simp; done))).T)), (iV ((l[i]'(by first | omega | (simp; omega) | (simp; done))).V))]] := by have h := hh166 (eD 18 (by kernel_rfl)); rw [e165] at h; exact h
    exact go_plain (op_assign _ rfl (kN0 (i := 19) hM (by decide) (by exact jD) (by exact f68)))
   intro ρ167 w168 Dw168 hallw168 hJw168 hRw168 hkw168
   obtain ⟨v169, uw168_4⟩ : ∃ x, ρ167 4 = x := ⟨_, rfl⟩
   have hst : St w0 w168 [rowT 5 u8E v169 ((done ++ (put (zig ((((l[i]'(by first | omega | (simp; omega) | (simp; done))).T) - ((l[(i - 1)]'(by first | omega | (simp; omega) | (simp; done))).T)) - st)))) ++ (put (zig (wr ((l[i]'(by first | omega | (simp; omega) | (simp; done))).V - (l[(i - 1)]'(by first | omega | (simp; omega) | (simp; done))).V))))), .blk g18 28 #[(iV ((l[i]'(by first | omega | (simp; omega) | (simp; done))).T)), (iV ((l[i]'(by first | omega | (simp; omega) | (simp; done))).V))]] := by have h := hRw168 19 4 rfl; rw [uw168_4] at h; exact (h (hallw168 18 (show 18 < 20 from by decide)))
   have uw168_0 : ρ167 0 = v_l := (hkw168 0 rfl).trans uw111_0
   have uw168_2 : ρ167 2 = nS := (hkw168 2 rfl).trans uw111_2
   have uw168_3 : ρ167 3 = (iV 0) := (hkw168 3 rfl).trans uw111_3
   have uw168_21 : ρ167 21 = v_l := (hkw168 21 rfl).trans uw111_21
   have uw168_22 : ρ167 22 = (iV (l.length : Int)) := (hkw168 22 rfl).trans uw111_22
   have uw168_23 : ρ167 23 = (iV (i : Int)) := (hkw168 23 rfl).trans uw111_23
   have uw168_5 : ρ167 5 = (iV st) := (hkw168 5 rfl).trans uw111_5
   have uw168_24 : ρ167 24 = (.bool (decide ((i : Int) < (l.length : Int)))) := (hkw168 24 rfl).trans uw111_24
   have uw168_25 : ρ167 25 = (iV (i : Int)) := (hkw168 25 rfl).trans uw111_25
   have uw168_26 : ρ167 26 = (.pointer (some ⟨a15, o16, none⟩)) := (hkw168 26 rfl).trans uw111_26
   have uw168_27 : ρ167 27 = (.agg #[(iV ((l[i]'(by first | omega | (simp; omega) | (simp; done))).T)), (iV ((l[i]'(by first | omega | (simp; omega) | (simp; done))).V))]) := (hkw168 27 rfl).trans uw111_27
   have uw168_7 : ρ167 7 = (.pointer (some ⟨g18, 0, none⟩)) := (hkw168 7 rfl).trans uw111_7
   have uw168_6 : ρ167 6 = (iV (i : Int)) := (hkw168 6 rfl).trans uw111_6
   have uw168_28 : ρ167 28 = (iV (i : Int)) := (hkw168 28 rfl).trans uw111_28
   have uw168_29 : ρ167 29 = (.bool (decide ((i : Int) = 0))) := (hkw168 29 rfl).trans uw111_29
   have uw168_8 : ρ167 8 = (iV (((l[i]'(by first | omega | (simp; omega) | (simp; done))).T) - ((l[(i - 1)]'(by first | omega | (simp; omega) | (simp; done))).T))) := (hkw168 8 rfl).trans uw111_8
   refine then_n (cE_region rfl (s_cons (op_move (iV (((l[i]'(by first | omega | (simp; omega) | (simp; done))).T) - ((l[(i - 1)]'(by first | omega | (simp; omega) | (simp; done))).T))) uw168_8 (s_cons (op_assign (iV (((l[i]'(by first | omega | (simp; omega) | (simp; done))).T) - ((l[(i - 1)]'(by first | omega | (simp; omega) | (simp; done))).T))) rfl (s_nil (block_n (then_n (cE_region rfl ?_)))))))))
   refine s_cons (op_add (k := .i64) (a := (i : Int)) (b := 1) ((i : Int) + 1) uw168_23 rfl (xi64 (by omega) (by omega)) (s_cons (op_move (iV ((i : Int) + 1)) rfl (s_nil (then_n ?_)))))
   exact ⟨_, ⟨v169, ((done ++ (put (zig ((((l[i]'(by first | omega | (simp; omega) | (simp; done))).T) - ((l[(i - 1)]'(by first | omega | (simp; omega) | (simp; done))).T)) - st)))) ++ (put (zig (wr ((l[i]'(by first | omega | (simp; omega) | (simp; done))).V - (l[(i - 1)]'(by first | omega | (simp; omega) | (simp; done))).V))))), (i + 1), (((l[i]'(by first | omega | (simp; omega) | (simp; done))).T) - ((l[(i - 1)]'(by first | omega | (simp; omega) | (simp; done))).T)), rfl, uw168_0, uw168_2, uw168_3, uw168_21, uw168_22, uw168_4, (congrArg iV (show ((i : Int) + 1) = _ from by omega)), rfl, (hst.sub (.cons_cons _ (.cons _ .slnil))), (by omega), (by omega), (by omega), (by first | omega | (simp; omega)), (by first | rfl | (rw [hp, restS_first (by omega) (by omega), show st = 0 from (by omega)]; simp; done) | (rw [hp, restS_next (by omega) (by omega)]; simp; done))⟩, (by simp only [id]; omega)⟩
  have c170 : ¬ ((i : Int) < (l.length : Int)) := of_decide_eq_false b13
  refine cE_cond false (congrArg Value.bool b13) (fun h => by cases h) (fun _ => ?_)
  refine cE_exit (then_x (then_x (block_hit (then_n (cE_seq (cE_region rfl (s_cons (op_move v q9_4 (s_cons (op_assign v rfl (s_cons (op_assign (iV 0) rfl (s_nil (then_n (cE_ret (scope_r (post_r _ (res2 (v := v) rfl (x := (iV 0)) rfl) ?_)))))))))))))))))
  have e171 : done = (encS l).1 := by first | rw [encS_no (Or.inl (by assumption))] | rw [encS_no (Or.inr (by omega))] | (rw [encS_yes hok]; done) | (rw [encS_yes hok]; show _ = putS l; rw [hp, restS_end (by omega), List.append_nil])
  replace hst : St w0 w12 [rowT 5 u8E v ((encS l).1)] := by rw [congrArg (fun l => rowT 5 u8E v l) e171] at hst; exact hst
  exact ⟨v, (retv2 rfl (congrArg iV (show 0 = (encS l).2 from by first | rw [encS_no (Or.inl (by assumption))] | rw [encS_no (Or.inr (by omega))] | (rw [encS_yes hok]; done) | (rw [encS_yes hok]; show _ = putS l; rw [hp, restS_end (by omega), List.append_nil])))), hst.sub (.cons_cons _ .slnil)⟩
 refine s_no 12 rfl (congrArg Value.bool (congrArg (! ·) b2)) (s_no 12 rfl (congrArg Value.bool (congrArg (! ·) b2)) (s_no 12 rfl (congrArg Value.bool (congrArg (! ·) b2)) (s_cons (op_pick_t (.bool true) (congrArg Value.bool (congrArg (! ·) b2)) rfl (s_nil (then_n (cE_cond true rfl (fun _ => ?_) (fun h => by cases h))))))))
 refine cE_seq (cE_region rfl (s_cons (op_assign nS rfl (s_cons (op_assign (iV 1) rfl (s_nil (then_n (cE_ret (then_r (scope_r (post_r _ (res2 (v := nS) rfl (x := (iV 1)) rfl) ?_)))))))))))
 replace hst : St w0 w1 [rowT 5 u8E nS ([])] := hst.nilRow 5 u8E
 have e172 : [] = (encS l).1 := by first | rw [encS_no (Or.inl (by assumption))] | rw [encS_no (Or.inr (by omega))] | (rw [encS_yes hok]; done) | (rw [encS_yes hok]; show _ = putS l; rw [hp, restS_end (by omega), List.append_nil])
 replace hst : St w0 w1 [rowT 5 u8E nS ((encS l).1)] := by rw [congrArg (fun l => rowT 5 u8E nS l) e172] at hst; exact hst
 exact ⟨nS, (retv2 rfl (congrArg iV (show 1 = (encS l).2 from by first | rw [encS_no (Or.inl (by assumption))] | rw [encS_no (Or.inr (by omega))] | (rw [encS_yes hok]; done) | (rw [encS_yes hok]; show _ = putS l; rw [hp, restS_end (by omega), List.append_nil])))), hst.sub (.cons_cons _ .slnil)⟩

set_option maxRecDepth 8000 in
theorem c_kNext {w0 w : World} {L : List Item} (g_r : Nat) (v_b : Value) (b : List UInt8) (h_b : Sl w0 u8E v_b b) (at_ : Int) (bad : Bool) (hl : b.length ≤ 1000000000) (hst : St w0 w (.blk g_r 88 #[v_b, (iV at_), (.bool bad)] :: L)) :
  Calls Tryd.prog 47 #[(.pointer (some ⟨g_r, 0, none⟩))] w fun e w' => e = .returned (.int .u64 ((get b at_).1)) ∧ St w0 w' (.blk g_r 88 #[v_b, (iV ((get b at_).2.1)), (.bool (rbad bad b at_))] :: L) := by
 refine calls_E (n := 29) (ts := [2]) Tryd.func47 rfl rfl rfl (by simp) (cE_seq (cE_region rfl (s_cons (op_assign (.int .u64 0) rfl (s_nil (then_n (cE_seq (cE_regionL hst [[(0, none)], [(7, some 0)], [(8, some 1)], [(9, some 2)], [(0, none)], [(11, some 4)], [(12, some 5)], [(13, some 6)], [(10, some 3), (14, some 7)], [(15, some 8)], [(6, some 9)], [(6, some 9)], [(6, some 9)], [(16, some 10)], [(17, some 11)], [(18, some 12)]] [(rEq (.pointer (some ⟨g_r, 0, none⟩))), (rEq (.pointer (some ⟨g_r, 0, none⟩))), (rEq (.pointer (some ⟨g_r, (0 + 0), none⟩))), (rEq v_b), (rEq (.pointer (some ⟨g_r, 0, none⟩))), (rEq (.pointer (some ⟨g_r, 0, none⟩))), (rEq (.pointer (some ⟨g_r, (0 + 1), none⟩))), (rEq (iV at_)), (rEq (.tuple #[(.int .u64 ((get b at_).1)), (iV ((get b at_).2.1)), (iV ((get b at_).2.2))])), (rEq (.tuple #[(.int .u64 ((get b at_).1)), (iV ((get b at_).2.1)), (iV ((get b at_).2.2))])), (rEq (.int .u64 ((get b at_).1))), (rEq (iV ((get b at_).2.1))), (rEq (iV ((get b at_).2.2))), (rEq (.int .u64 ((get b at_).1))), (rEq (iV ((get b at_).2.1))), (rEq (iV ((get b at_).2.2)))] (by kernel_rfl) rfl (by kernel_rfl) ⟨sEq, sEq, sEq, sEq, sEq, sEq, sEq, sEq, sEq, sEq, sEq, sEq, sEq, sEq, sEq, sEq, trivial⟩ ⟨?_, ?_, ?_, ?_, ?_, ?_, ?_, ?_, ?_, ?_, ?_, ?_, ?_, ?_, ?_, ?_, trivial⟩ ?_))))))))
 ·rintro ρ174 w175 hj176 ⟨f0, _⟩
  have hst := hj176.2
  exact go_plain (op_move (.pointer (some ⟨g_r, 0, none⟩)) (f0.trans rfl) (kS hj176 rfl))
 ·rintro ρ177 w178 hj179 ⟨f7, _⟩
  have hst := hj179.2
  exact go_plain (op_nilCheck f7 (kS hj179 rfl))
 ·rintro ρ180 w181 hj182 ⟨f8, _⟩
  have hst := hj182.2
  exact go_plain (op_fieldAddr (s := 0) Tryd.underlying88 rfl rfl Tryd.sizeOf29 f8 (kS hj182 rfl))
 ·rintro ρ183 w184 hj185 ⟨f9, _⟩
  have hst := hj185.2
  exact go_plain (op_load1 (u := v_b) Tryd.isAgg29 f9 (hst.cell 0 rfl) (kS hj185 rfl))
 ·rintro ρ186 w187 hj188 ⟨f0, _⟩
  have hst := hj188.2
  exact go_plain (op_move (.pointer (some ⟨g_r, 0, none⟩)) (f0.trans rfl) (kS hj188 rfl))
 ·rintro ρ189 w190 hj191 ⟨f11, _⟩
  have hst := hj191.2
  exact go_plain (op_nilCheck f11 (kS hj191 rfl))
 ·rintro ρ192 w193 hj194 ⟨f12, _⟩
  have hst := hj194.2
  exact go_plain (op_fieldAddr (s := 0) Tryd.underlying88 rfl rfl Tryd.sizeOf3 f12 (kS hj194 rfl))
 ·rintro ρ195 w196 hj197 ⟨f13, _⟩
  have hst := hj197.2
  exact go_plain (op_load1 (u := (iV at_)) Tryd.isAgg3 f13 ((hst.cell 0 rfl).drop 1) (kS hj197 rfl))
 ·rintro ρ198 w199 hj200 ⟨f10, f14, _⟩
  have hst := hj200.2
  refine go_plain (op_call Tryd.call28 (evs_cons (v := v_b) f10 (evs_cons (v := (iV at_)) f14 evs_nil)) (c_Get (w0 := w199) (v_b := v_b) (b := b) (h_b := (h_b.below hst.below)) (at_ := at_) (hl := (by omega))) ?_)
  rintro _ w201 ⟨rfl, hcall⟩
  refine ⟨_, rfl, ?_⟩
  exact kD hj200 hcall rfl
 ·rintro ρ202 w203 hj204 ⟨f15, _⟩
  have hst := hj204.2
  exact go_plain (op_move (.tuple #[(.int .u64 ((get b at_).1)), (iV ((get b at_).2.1)), (iV ((get b at_).2.2))]) f15 (kS hj204 rfl))
 ·rintro ρ205 w206 hj207 ⟨f6, _⟩
  have hst := hj207.2
  exact go_plain (op_extract (.int .u64 ((get b at_).1)) f6 rfl (kS hj207 rfl))
 ·rintro ρ208 w209 hj210 ⟨f6, _⟩
  have hst := hj210.2
  exact go_plain (op_extract (iV ((get b at_).2.1)) f6 rfl (kS hj210 rfl))
 ·rintro ρ211 w212 hj213 ⟨f6, _⟩
  have hst := hj213.2
  exact go_plain (op_extract (iV ((get b at_).2.2)) f6 rfl (kS hj213 rfl))
 ·rintro ρ214 w215 hj216 ⟨f16, _⟩
  have hst := hj216.2
  exact go_plain (op_assign (.int .u64 ((get b at_).1)) f16 (kS hj216 rfl))
 ·rintro ρ217 w218 hj219 ⟨f17, _⟩
  have hst := hj219.2
  exact go_plain (op_assign (iV ((get b at_).2.1)) f17 (kS hj219 rfl))
 ·rintro ρ220 w221 hj222 ⟨f18, _⟩
  have hst := hj222.2
  exact go_plain (op_assign (iV ((get b at_).2.2)) f18 (kS hj222 rfl))
 intro ρ223 w224 hbw224 hst hRw224 hkw224
 have uw224_0 : ρ223 0 = (.pointer (some ⟨g_r, 0, none⟩)) := (hkw224 0 rfl).trans rfl
 have uw224_2 : ρ223 2 = (.int .u64 0) := (hkw224 2 rfl).trans rfl
 have uw224_3 : ρ223 3 = (.int .u64 ((get b at_).1)) := hRw224 13 3 rfl
 have uw224_4 : ρ223 4 = (iV ((get b at_).2.1)) := hRw224 14 4 rfl
 have uw224_5 : ρ223 5 = (iV ((get b at_).2.2)) := hRw224 15 5 rfl
 refine then_n (cE_seq (cE_seq (cE_region rfl (s_cons (op_move (iV ((get b at_).2.2)) uw224_5 (s_cons (op_neq (k := .i64) (a := (get b at_).2.2) (b := 0) rfl rfl (s_nil (then_n ?_)))))))))
 rcases Bool.eq_false_or_eq_true (decide (((get b at_).2.2) = 0)) with b225 | b225
 ·have c226 : ((get b at_).2.2) = 0 := of_decide_eq_true b225
  refine cE_cond false (congrArg Value.bool (congrArg (! ·) b225)) (fun h => by cases h) (fun _ => ?_)
  refine cE_skip (then_n (cE_seq (cE_region rfl (s_cons (op_move (.pointer (some ⟨g_r, 0, none⟩)) uw224_0 (s_cons (op_move (iV ((get b at_).2.1)) uw224_4 (s_cons (op_nilCheck rfl (s_cons (op_fieldAddr (s := 0) Tryd.underlying88 rfl rfl Tryd.sizeOf3 rfl (s_cons0 (op_store1 hst 0 rfl Tryd.sizeOf3 rfl rfl rfl (show 1 < 3 from by decide) (fun w227 hst => ?_))))))))))))))
  replace hst : St w0 w227 (.blk g_r 88 #[v_b, (iV ((get b at_).2.1)), (.bool bad)] :: L) := hst
  refine s_nil (then_n (cE_seq (cE_region rfl (s_cons (op_move (.int .u64 ((get b at_).1)) uw224_3 (s_cons (op_assign (.int .u64 ((get b at_).1)) rfl (s_nil (then_n (cE_ret (post_r _ (res1 (v := (.int .u64 ((get b at_).1))) rfl) ?_)))))))))))
  have e228 : ((.bool bad) : Value) = (.bool (rbad bad b at_)) := (congrArg Value.bool (show bad = (rbad bad b at_) from by first | rfl | (simp [rbad, b225]; done)))
  replace hst : St w0 w227 (.blk g_r 88 #[v_b, (iV ((get b at_).2.1)), (.bool (rbad bad b at_))] :: L) := by rw [e228] at hst; exact hst
  exact ⟨rfl, hst.sub (.cons_cons _ (List.Sublist.refl _))⟩
 have c229 : ¬ (((get b at_).2.2) = 0) := of_decide_eq_false b225
 refine cE_cond true (congrArg Value.bool (congrArg (! ·) b225)) (fun _ => ?_) (fun h => by cases h)
 refine cE_region rfl (s_cons (op_move (.pointer (some ⟨g_r, 0, none⟩)) uw224_0 (s_cons (op_nilCheck rfl (s_cons (op_fieldAddr (s := 0) Tryd.underlying88 rfl rfl Tryd.sizeOf4 rfl (s_cons0 (op_store1 hst 0 rfl Tryd.sizeOf4 rfl rfl rfl (show 2 < 3 from by decide) (fun w230 hst => ?_)))))))))
 replace hst : St w0 w230 (.blk g_r 88 #[v_b, (iV at_), (.bool true)] :: L) := hst
 refine s_nil (then_n (cE_seq (cE_region rfl (s_cons (op_move (.pointer (some ⟨g_r, 0, none⟩)) uw224_0 (s_cons (op_move (iV ((get b at_).2.1)) uw224_4 (s_cons (op_nilCheck rfl (s_cons (op_fieldAddr (s := 0) Tryd.underlying88 rfl rfl Tryd.sizeOf3 rfl (s_cons0 (op_store1 hst 0 rfl Tryd.sizeOf3 rfl rfl rfl (show 1 < 3 from by decide) (fun w231 hst => ?_))))))))))))))
 replace hst : St w0 w231 (.blk g_r 88 #[v_b, (iV ((get b at_).2.1)), (.bool true)] :: L) := hst
 refine s_nil (then_n (cE_seq (cE_region rfl (s_cons (op_move (.int .u64 ((get b at_).1)) uw224_3 (s_cons (op_assign (.int .u64 ((get b at_).1)) rfl (s_nil (then_n (cE_ret (post_r _ (res1 (v := (.int .u64 ((get b at_).1))) rfl) ?_)))))))))))
 have e232 : ((.bool true) : Value) = (.bool (rbad bad b at_)) := (congrArg Value.bool (show true = (rbad bad b at_) from by first | rfl | (simp [rbad, b225]; done)))
 replace hst : St w0 w231 (.blk g_r 88 #[v_b, (iV ((get b at_).2.1)), (.bool (rbad bad b at_))] :: L) := by rw [e232] at hst; exact hst
 exact ⟨rfl, hst.sub (.cons_cons _ (List.Sublist.refl _))⟩

set_option maxRecDepth 8000 in
theorem c_kCount {w0 w : World} {L : List Item} (g_r : Nat) (v_b : Value) (b : List UInt8) (h_b : Sl w0 u8E v_b b) (at_ : Int) (bad : Bool) (most : Int) (hl : b.length ≤ 1000000000) (m0 : 0 ≤ most) (m1 : most ≤ 1000000) (hst : St w0 w (.blk g_r 88 #[v_b, (iV at_), (.bool bad)] :: L)) :
  Calls Tryd.prog 46 #[(.pointer (some ⟨g_r, 0, none⟩)), (iV most)] w fun e w' => e = .returned (iV (cntV b at_ most)) ∧ St w0 w' (.blk g_r 88 #[v_b, (iV ((get b at_).2.1)), (.bool (cntBad bad b at_ most))] :: L) := by
 have hgn := get_nn b at_
 refine calls_E (n := 17) (ts := [4]) Tryd.func46 rfl rfl rfl (by simp) (cE_seq (cE_region rfl (s_cons (op_assign (iV 0) rfl (s_nil (then_n (cE_seq (cE_region rfl (s_cons (op_move (.pointer (some ⟨g_r, 0, none⟩)) rfl (s_cons (op_call Tryd.call47 (evs_cons (v := (.pointer (some ⟨g_r, 0, none⟩))) rfl evs_nil) (c_kNext (g_r := g_r) (v_b := v_b) (b := b) (h_b := h_b) (at_ := at_) (bad := bad) (hl := (by omega)) (hst := hst)) ?_))))))))))))
 rintro _ w233 ⟨rfl, hcall⟩
 refine ⟨_, rfl, ?_⟩
 have hst : St w0 w233 (.blk g_r 88 #[v_b, (iV ((get b at_).2.1)), (.bool (rbad bad b at_))] :: L) := hcall
 refine s_cons (op_assign (.int .u64 ((get b at_).1)) rfl (s_nil (then_n (cE_seq (cE_seq (cE_region rfl (s_cons (op_move (.int .u64 ((get b at_).1)) rfl (s_cons (op_move (iV most) rfl (s_cons (op_conv (k := .i64) (a := most) most Tryd.underlying54 (by rw [Tryd.underlying3]; rfl) rfl (xu64 (by omega) (by omega)) (s_cons (op_gtr (k := .u64) (a := (get b at_).1) (b := most) rfl rfl (s_nil ?_)))))))))))))))
 refine then_n ?_
 rcases Bool.eq_false_or_eq_true (decide (most < ((get b at_).1))) with b234 | b234
 ·have c235 : most < ((get b at_).1) := of_decide_eq_true b234
  refine cE_cond true (congrArg Value.bool b234) (fun _ => ?_) (fun h => by cases h)
  refine cE_seq (cE_region rfl (s_cons (op_move (.pointer (some ⟨g_r, 0, none⟩)) rfl (s_cons (op_nilCheck rfl (s_cons (op_fieldAddr (s := 0) Tryd.underlying88 rfl rfl Tryd.sizeOf4 rfl (s_cons0 (op_store1 hst 0 rfl Tryd.sizeOf4 rfl rfl rfl (show 2 < 3 from by decide) (fun w236 hst => ?_))))))))))
  replace hst : St w0 w236 (.blk g_r 88 #[v_b, (iV ((get b at_).2.1)), (.bool true)] :: L) := hst
  refine s_nil (then_n (cE_seq (cE_region rfl (s_cons (op_assign (iV 0) rfl (s_nil (then_n (cE_ret (then_r (post_r _ (res1 (v := (iV 0)) rfl) ?_))))))))))
  have e237 : ((.bool true) : Value) = (.bool (cntBad bad b at_ most)) := (congrArg Value.bool (show true = (cntBad bad b at_ most) from by first | rfl | exact cntV_yes (by assumption) | exact cntV_no (by assumption) | (simp [cntBad, b234]; done)))
  replace hst : St w0 w236 (.blk g_r 88 #[v_b, (iV ((get b at_).2.1)), (.bool (cntBad bad b at_ most))] :: L) := by rw [e237] at hst; exact hst
  exact ⟨(retv1 (congrArg iV (show 0 = (cntV b at_ most) from by first | rfl | exact cntV_yes (by assumption) | exact cntV_no (by assumption) | (simp [cntBad, b234]; done)))), hst.sub (.cons_cons _ (List.Sublist.refl _))⟩
 have c238 : ¬ (most < ((get b at_).1)) := of_decide_eq_false b234
 refine cE_cond false (congrArg Value.bool b234) (fun h => by cases h) (fun _ => ?_)
 refine cE_skip (then_n (cE_seq (cE_region rfl (s_cons (op_move (.int .u64 ((get b at_).1)) rfl (s_cons (op_conv (k := .u64) (a := (get b at_).1) ((get b at_).1) Tryd.underlying3 (by rw [Tryd.underlying54]; rfl) rfl (xi64 (by omega) (by omega)) (s_cons (op_assign (iV ((get b at_).1)) rfl (s_nil (then_n (cE_ret (post_r _ (res1 (v := (iV ((get b at_).1))) rfl) ?_)))))))))))))
 have e239 : ((.bool (rbad bad b at_)) : Value) = (.bool (cntBad bad b at_ most)) := (congrArg Value.bool (show (rbad bad b at_) = (cntBad bad b at_ most) from by first | rfl | exact cntV_yes (by assumption) | exact cntV_no (by assumption) | (simp [cntBad, b234]; done)))
 replace hst : St w0 w233 (.blk g_r 88 #[v_b, (iV ((get b at_).2.1)), (.bool (cntBad bad b at_ most))] :: L) := by rw [e239] at hst; exact hst
 exact ⟨(retv1 (congrArg iV (show (get b at_).1 = (cntV b at_ most) from by first | rfl | exact cntV_yes (by assumption) | exact cntV_no (by assumption) | (simp [cntBad, b234]; done)))), hst.sub (.cons_cons _ (List.Sublist.refl _))⟩

end Go.Proofs.YtgibfidebdgffaaDoor
