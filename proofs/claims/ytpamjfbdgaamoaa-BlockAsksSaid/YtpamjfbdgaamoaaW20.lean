/- block.Put, block.reader).next, block.reader).count -/
import Derived.Test.YtpamjfbdgaamoaaW1
import Derived.Test.YtpamjfbdgaamoaaW5
import Derived.Test.YtpamjfbdgaamoaaBA
namespace Go.Proofs.Ytpamjfbdgaamoaa
open Go.RowKit

set_option maxHeartbeats 2000000 in
theorem c_kPut (w0 : World) (v_l : Value) (l : List Sample) (h_l : Sl w0 sampE v_l l) (hl : ∀ s ∈ l, s.ok) :
    Calls Try.prog 9 #[v_l] w0 fun e w' => ∃ (r : Value), e = .returned (.tuple #[r, (.int .i64 ((encS l).2))]) ∧ St w0 w' [rowT 5 u8E r ((encS l).1)] := by
  refine calls_E (n := 72) (ts := [2, 3]) Try.func9 rfl rfl rfl (by simp) ?_
  have hst := St.start w0
  refine cE_seq ?_
  refine cE_region rfl ?_
  refine s_cons (op_assign (.slice none 0 0) rfl ?_)
  refine s_cons (op_assign (.int .i64 0) rfl ?_)
  refine s_nil ?_
  refine then_n ?_
  refine cE_scope ?_
  refine cE_seq ?_
  refine cE_seq ?_
  refine cE_region rfl ?_
  refine s_cons (op_move v_l rfl ?_)
  refine s_cons (op_call Try.call21 (evs_cons (v := v_l) rfl evs_nil) (c_Rising (w0 := w0) (v_l := v_l) (l := l) (h_l := (h_l.below hst.below))) ?_)
  rintro _ w1 ⟨rfl, hcall⟩
  refine ⟨_, rfl, ?_⟩
  have hst : St w0 w1 [] := hst.call hcall
  refine s_cons (op_not (b := risingA l) rfl ?_)
  refine s_cons (op_move (.bool (!(risingA l))) rfl ?_)
  rcases Bool.eq_false_or_eq_true (risingA l) with b2 | b2
  · have hri := b2
    have htr := rising_tR hri
    refine s_yes 12 rfl (congrArg Value.bool (congrArg (! ·) b2)) (op_move v_l rfl ?_)
    refine s_yes 12 rfl (congrArg Value.bool (congrArg (! ·) b2)) (op_len (E := sampE) (xs := l) Try.underlying22 rfl h_l ?_)
    refine s_yes 12 rfl (congrArg Value.bool (congrArg (! ·) b2)) (op_gtr (k := .i64) (a := (l.length : Int)) (b := 64) rfl rfl ?_)
    refine s_cons (op_pick_f (.bool (decide (64 < (l.length : Int)))) (congrArg Value.bool (congrArg (! ·) b2)) rfl ?_)
    refine s_nil ?_
    refine then_n ?_
    rcases Bool.eq_false_or_eq_true (decide (64 < (l.length : Int))) with b3 | b3
    · have c4 : 64 < (l.length : Int) := of_decide_eq_true b3
      refine cE_cond true (congrArg Value.bool b3) (fun _ => ?_) (fun h => by cases h)
      refine cE_seq ?_
      refine cE_region rfl ?_
      refine s_cons (op_assign (.slice none 0 0) rfl ?_)
      refine s_cons (op_assign (.int .i64 1) rfl ?_)
      refine s_nil ?_
      refine then_n ?_
      refine cE_ret ?_
      refine then_r (scope_r ?_)
      refine post_r _ (res2 (v := (.slice none 0 0)) rfl (x := (.int .i64 1)) rfl) ?_
      replace hst : St w0 w1 [rowT 5 u8E (.slice none 0 0) ([])] := hst.nilRow 5 u8E
      have e5 : [] = (encS l).1 := by first | rw [encS_no (Or.inl (by assumption))] | rw [encS_no (Or.inr (by omega))] | (rw [encS_yes hok]; done) | (rw [encS_yes hok]; show _ = putS l; rw [hp, restS_end (by omega), List.append_nil])
      replace hst : St w0 w1 [rowT 5 u8E (.slice none 0 0) ((encS l).1)] := by rw [congrArg (fun l => rowT 5 u8E (.slice none 0 0) l) e5] at hst; exact hst
      exact ⟨(.slice none 0 0), (retv2 rfl (congrArg (Value.int .i64) (show 1 = (encS l).2 from by first | rw [encS_no (Or.inl (by assumption))] | rw [encS_no (Or.inr (by omega))] | (rw [encS_yes hok]; done) | (rw [encS_yes hok]; show _ = putS l; rw [hp, restS_end (by omega), List.append_nil])))), hst.sub (.cons_cons _ .slnil)⟩
    have c6 : ¬ (64 < (l.length : Int)) := of_decide_eq_false b3
    refine cE_cond false (congrArg Value.bool b3) (fun h => by cases h) (fun _ => ?_)
    refine cE_skip ?_
    refine then_n ?_
    refine cE_seq ?_
    have hok := okS_iff.2 ⟨hri, (by omega : l.length ≤ 64)⟩
    have hp0 := put_length (l.length : Int)
    refine cE_region rfl ?_
    refine s_cons (op_move v_l rfl ?_)
    refine s_cons (op_len (E := sampE) (xs := l) Try.underlying22 rfl h_l ?_)
    refine s_cons (op_conv (k := .i64) (a := (l.length : Int)) (l.length : Int) Try.underlying54 (by rw [Try.underlying3]; rfl) rfl (xu64 (by omega) (by omega)) ?_)
    refine s_cons (op_call Try.call22 (evs_cons (v := (.int .u64 (l.length : Int))) rfl evs_nil) (c_Put (w0 := w1) (n := (l.length : Int)) (h0 := (by omega)) (h1 := (by omega))) ?_)
    rintro _ w8 ⟨r7, rfl, hcall⟩
    refine ⟨_, rfl, ?_⟩
    have hst : St w0 w8 [rowT 5 u8E r7 (put (l.length : Int))] := hst.call hcall
    refine s_cons (op_assign r7 rfl ?_)
    refine s_nil ?_
    refine then_n ?_
    refine cE_seq ?_
    refine cE_region rfl ?_
    refine s_cons (op_assign (.int .i64 0) rfl ?_)
    refine s_nil ?_
    refine then_n ?_
    refine cE_seq ?_
    refine cE_label ?_
    refine then_n ?_
    refine cE_seq ?_
    refine cE_seq ?_
    refine cE_region rfl ?_
    refine s_cons (op_move v_l rfl ?_)
    refine s_cons (op_len (E := sampE) (xs := l) Try.underlying22 rfl h_l ?_)
    refine s_cons (op_move (.int .i64 0) rfl ?_)
    refine s_nil ?_
    refine then_n ?_
    refine cE_block ?_
    refine cE_loop (fun (m : Nat) (ρ : Env) (w : World) => ∃ (v : Value) (done : List UInt8) (i : Nat) (st : Int), m = l.length - i ∧ ρ 0 = v_l ∧ ρ 2 = (.slice none 0 0) ∧ ρ 3 = (.int .i64 0) ∧ ρ 21 = v_l ∧ ρ 22 = (.int .i64 (l.length : Int)) ∧ ρ 4 = v ∧ ρ 23 = (.int .i64 (i : Int)) ∧ ρ 5 = (.int .i64 st) ∧ St w0 w [rowT 5 u8E v done] ∧ (i ≤ l.length) ∧ (i ≠ 0 ∨ st = 0) ∧ (-1099511627776 ≤ st ∧ st ≤ 1099511627776) ∧ (done.length ≤ 10 + 20 * i) ∧ (putS l = done ++ restS l i st)) id _ ⟨r7, (put (l.length : Int)), 0, 0, rfl, rfl, rfl, rfl, rfl, rfl, rfl, (congrArg (Value.int .i64) (show 0 = _ from by omega)), rfl, hst, (by omega), (by omega), (by omega), (by first | omega | (simp; omega)), (by first | rfl | (rw [hp, restS_first (by omega) (by omega), show st = 0 from (by omega)]; simp; done) | (rw [hp, restS_next (by omega) (by omega)]; simp; done))⟩ ?_
    rintro m10 ρ11 w12 ⟨v, done, i, st, hm10, q9_0, q9_2, q9_3, q9_21, q9_22, q9_4, q9_23, q9_5, hst, hi, hs0, hsr, hdl, hp⟩
    have hlen := h_l.len
    refine cE_seq ?_
    refine cE_region rfl ?_
    refine s_cons (op_lss (k := .i64) (a := (i : Int)) (b := (l.length : Int)) q9_23 q9_22 ?_)
    refine s_nil ?_
    refine then_n ?_
    refine cE_seq ?_
    rcases Bool.eq_false_or_eq_true (decide ((i : Int) < (l.length : Int))) with b13 | b13
    · have c14 : (i : Int) < (l.length : Int) := of_decide_eq_true b13
      refine cE_cond true (congrArg Value.bool b13) (fun _ => ?_) (fun h => by cases h)
      refine cE_skip ?_
      refine then_n ?_
      refine cE_seq ?_
      refine cE_block ?_
      refine cE_seq ?_
      refine cE_region rfl ?_
      refine s_cons (op_move (.int .i64 (i : Int)) q9_23 ?_)
      refine s_cons (op_indexAddrN (E := sampE) (xs := l) i Try.underlying22 Try.sizeOf48 q9_21 h_l q9_23 (by omega) (by first | omega | (simp; omega) | (simp; done)) (fun a15 o16 p17 => ?_))
      refine s_cons (op_loadN (cs := [(.int .i64 ((l[i]'(by first | omega | (simp; omega) | (simp; done))).T)), (.int .i64 ((l[i]'(by first | omega | (simp; omega) | (simp; done))).V))]) Try.isAgg48 Try.sizeOf48 rfl (Pt.of (p17.below hst.below) rfl) rfl ?_)
      refine s_cons (op_alloc (cs := #[(.int .i64 0), (.int .i64 0)]) hst Try.zeroValue48 rfl (fun g18 w19 hst _ => ?_))
      replace hst : St w0 w19 [.blk g18 48 #[(.int .i64 0), (.int .i64 0)], rowT 5 u8E v done] := hst
      refine s_cons (op_assign (.int .i64 (i : Int)) rfl ?_)
      refine s_cons0 (op_storeAll hst 0 rfl Try.sizeOf48 rfl rfl rfl rfl (by simp [Value.oneCell']) (fun w20 hst => ?_))
      replace hst : St w0 w20 [.blk g18 48 #[(.int .i64 ((l[i]'(by first | omega | (simp; omega) | (simp; done))).T)), (.int .i64 ((l[i]'(by first | omega | (simp; omega) | (simp; done))).V))], rowT 5 u8E v done] := hst
      refine s_nil ?_
      refine then_n ?_
      refine cE_seq ?_
      refine cE_seq ?_
      refine cE_region rfl ?_
      refine s_cons (op_move (.int .i64 (i : Int)) rfl ?_)
      refine s_cons (op_eql (k := .i64) (a := (i : Int)) (b := 0) rfl rfl ?_)
      refine s_nil ?_
      refine then_n ?_
      rcases Bool.eq_false_or_eq_true (decide ((i : Int) = 0)) with b21 | b21
      · have c22 : (i : Int) = 0 := of_decide_eq_true b21
        refine cE_cond true (congrArg Value.bool b21) (fun _ => ?_) (fun h => by cases h)
        refine cE_seq ?_
        have ht := htr _ (List.getElem_mem (show i < l.length by omega))
        have hv := (hl _ (List.getElem_mem (show i < l.length by omega))).2
        have hz := zig_r hv
        have q1 := put_length (l[i]'(by omega)).T
        have q2 := put_length (zig (l[i]'(by omega)).V)
        have hM32 : stabML [5, 10] [(kEq v), (kEq (.pointer (some ⟨g18, (0 + 0), none⟩))), (kEq (.int .i64 ((l[i]'(by first | omega | (simp; omega) | (simp; done))).T))), (kEq (.int .u64 ((l[i]'(by first | omega | (simp; omega) | (simp; done))).T))), (kSlU [5, 10] u8E (put ((l[i]'(by first | omega | (simp; omega) | (simp; done))).T))), (fun (D : Nat → Bool) (v25 : Value) (w : World) => (D 5 = true → D 10 = false → St w0 w [rowT 5 u8E v25 (done ++ (put ((l[i]'(by first | omega | (simp; omega) | (simp; done))).T))), .blk g18 48 #[(.int .i64 ((l[i]'(by first | omega | (simp; omega) | (simp; done))).T)), (.int .i64 ((l[i]'(by first | omega | (simp; omega) | (simp; done))).V))]])), (kEq (.pointer (some ⟨g18, (0 + 1), none⟩))), (kEq (.int .i64 ((l[i]'(by first | omega | (simp; omega) | (simp; done))).V))), (kEq (.int .u64 (zig ((l[i]'(by first | omega | (simp; omega) | (simp; done))).V)))), (kSlU [10] u8E (put (zig ((l[i]'(by first | omega | (simp; omega) | (simp; done))).V)))), (fun (D : Nat → Bool) (v30 : Value) (w : World) => (D 10 = true → St w0 w [rowT 5 u8E v30 ((done ++ (put ((l[i]'(by first | omega | (simp; omega) | (simp; done))).T))) ++ (put (zig ((l[i]'(by first | omega | (simp; omega) | (simp; done))).V)))), .blk g18 48 #[(.int .i64 ((l[i]'(by first | omega | (simp; omega) | (simp; done))).T)), (.int .i64 ((l[i]'(by first | omega | (simp; omega) | (simp; done))).V))]])), (fun (D : Nat → Bool) (v30 : Value) (w : World) => (D 10 = true → St w0 w [rowT 5 u8E v30 ((done ++ (put ((l[i]'(by first | omega | (simp; omega) | (simp; done))).T))) ++ (put (zig ((l[i]'(by first | omega | (simp; omega) | (simp; done))).V)))), .blk g18 48 #[(.int .i64 ((l[i]'(by first | omega | (simp; omega) | (simp; done))).T)), (.int .i64 ((l[i]'(by first | omega | (simp; omega) | (simp; done))).V))]]))] := ⟨mEq, mEq, mEq, mEq, (mSlUs (by decide)), (fun D D' v w w' hD hb h2 => (fun x0 x1 => (h2 ((hD 5 (by decide)).symm.trans x0) ((hD 10 (by decide)).symm.trans x1)).ext hb)), mEq, mEq, mEq, (mSlUs (by decide)), (fun D D' v w w' hD hb h2 => (fun x0 => (h2 ((hD 10 (by decide)).symm.trans x0)).ext hb)), (fun D D' v w w' hD hb h2 => (fun x0 => (h2 ((hD 10 (by decide)).symm.trans x0)).ext hb)), trivial⟩
        refine cE_regionK (fun (D : Nat → Bool) (w : World) => St w0 w [.blk g18 48 #[(.int .i64 ((l[i]'(by first | omega | (simp; omega) | (simp; done))).T)), (.int .i64 ((l[i]'(by first | omega | (simp; omega) | (simp; done))).V))]] ∧ (D 5 = false → St w0 w [.blk g18 48 #[(.int .i64 ((l[i]'(by first | omega | (simp; omega) | (simp; done))).T)), (.int .i64 ((l[i]'(by first | omega | (simp; omega) | (simp; done))).V))], rowT 5 u8E v done])) [[(4, none)], [(7, none)], [(31, some 1)], [(32, some 2)], [(33, some 3)], [(30, some 0), (34, some 4)], [(7, none)], [(36, some 6)], [(37, some 7)], [(38, some 8)], [(35, some 5), (39, some 9)], [(40, some 10)]] (RofK [(kEq v), (kEq (.pointer (some ⟨g18, (0 + 0), none⟩))), (kEq (.int .i64 ((l[i]'(by first | omega | (simp; omega) | (simp; done))).T))), (kEq (.int .u64 ((l[i]'(by first | omega | (simp; omega) | (simp; done))).T))), (kSlU [5, 10] u8E (put ((l[i]'(by first | omega | (simp; omega) | (simp; done))).T))), (fun (D : Nat → Bool) (v25 : Value) (w : World) => (D 5 = true → D 10 = false → St w0 w [rowT 5 u8E v25 (done ++ (put ((l[i]'(by first | omega | (simp; omega) | (simp; done))).T))), .blk g18 48 #[(.int .i64 ((l[i]'(by first | omega | (simp; omega) | (simp; done))).T)), (.int .i64 ((l[i]'(by first | omega | (simp; omega) | (simp; done))).V))]])), (kEq (.pointer (some ⟨g18, (0 + 1), none⟩))), (kEq (.int .i64 ((l[i]'(by first | omega | (simp; omega) | (simp; done))).V))), (kEq (.int .u64 (zig ((l[i]'(by first | omega | (simp; omega) | (simp; done))).V)))), (kSlU [10] u8E (put (zig ((l[i]'(by first | omega | (simp; omega) | (simp; done))).V)))), (fun (D : Nat → Bool) (v30 : Value) (w : World) => (D 10 = true → St w0 w [rowT 5 u8E v30 ((done ++ (put ((l[i]'(by first | omega | (simp; omega) | (simp; done))).T))) ++ (put (zig ((l[i]'(by first | omega | (simp; omega) | (simp; done))).V)))), .blk g18 48 #[(.int .i64 ((l[i]'(by first | omega | (simp; omega) | (simp; done))).T)), (.int .i64 ((l[i]'(by first | omega | (simp; omega) | (simp; done))).V))]])), (fun (D : Nat → Bool) (v30 : Value) (w : World) => (D 10 = true → St w0 w [rowT 5 u8E v30 ((done ++ (put ((l[i]'(by first | omega | (simp; omega) | (simp; done))).T))) ++ (put (zig ((l[i]'(by first | omega | (simp; omega) | (simp; done))).V)))), .blk g18 48 #[(.int .i64 ((l[i]'(by first | omega | (simp; omega) | (simp; done))).T)), (.int .i64 ((l[i]'(by first | omega | (simp; omega) | (simp; done))).V))]]))]) (by kernel_rfl) rfl (by kernel_rfl) ⟨hst.drewW.sub (.cons_cons _ (.cons _ .slnil)), (fun _ => hst.drewW)⟩ ⟨?_, ?_, ?_, ?_, ?_, ?_, ?_, ?_, ?_, ?_, ?_, ?_, trivial⟩ ?_
        · rintro D34 ρ35 w36 hD37 hE38 hC39 hJ40 hA41 ⟨f4, _⟩
          have hst := hJ40.2 (not_yet hD37 (fun hm => (hC39 5 0 hm (by kernel_rfl))))
          replace hst : St w0 w36 [.blk g18 48 #[(.int .i64 ((l[i]'(by first | omega | (simp; omega) | (simp; done))).T)), (.int .i64 ((l[i]'(by first | omega | (simp; omega) | (simp; done))).V))], rowT 5 u8E v done] := hst
          exact go_plain (op_move v (f4.trans q9_4) (kN0 (i := 0) hM32 (by decide) (by exact hJ40) (by exact rfl)))
        · rintro D42 ρ43 w44 hD45 hE46 hC47 hJ48 hA49 ⟨f7, _⟩
          have hst := hJ48.2 (not_yet hD45 (fun hm => (hC47 2 1 (hC47 3 2 (hC47 4 3 (hC47 5 4 hm (by kernel_rfl)) (by kernel_rfl)) (by kernel_rfl)) (by kernel_rfl))))
          replace hst : St w0 w44 [.blk g18 48 #[(.int .i64 ((l[i]'(by first | omega | (simp; omega) | (simp; done))).T)), (.int .i64 ((l[i]'(by first | omega | (simp; omega) | (simp; done))).V))], rowT 5 u8E v done] := hst
          exact go_plain (op_fieldAddr (s := 0) Try.underlying48 rfl rfl Try.sizeOf2 (f7.trans rfl) (kN0 (i := 1) hM32 (by decide) (by exact hJ48) (by exact rfl)))
        · rintro D50 ρ51 w52 hD53 hE54 hC55 hJ56 hA57 ⟨f31, _⟩
          have hst := hJ56.2 (not_yet hD53 (fun hm => (hC55 3 2 (hC55 4 3 (hC55 5 4 hm (by kernel_rfl)) (by kernel_rfl)) (by kernel_rfl))))
          replace hst : St w0 w52 [.blk g18 48 #[(.int .i64 ((l[i]'(by first | omega | (simp; omega) | (simp; done))).T)), (.int .i64 ((l[i]'(by first | omega | (simp; omega) | (simp; done))).V))], rowT 5 u8E v done] := hst
          exact go_plain (op_load1 (u := (.int .i64 ((l[i]'(by first | omega | (simp; omega) | (simp; done))).T))) Try.isAgg2 f31 (hst.cell 0 rfl) (kN0 (i := 2) hM32 (by decide) (by exact hJ56) (by exact rfl)))
        · rintro D58 ρ59 w60 hD61 hE62 hC63 hJ64 hA65 ⟨f32, _⟩
          have hst := hJ64.2 (not_yet hD61 (fun hm => (hC63 4 3 (hC63 5 4 hm (by kernel_rfl)) (by kernel_rfl))))
          replace hst : St w0 w60 [.blk g18 48 #[(.int .i64 ((l[i]'(by first | omega | (simp; omega) | (simp; done))).T)), (.int .i64 ((l[i]'(by first | omega | (simp; omega) | (simp; done))).V))], rowT 5 u8E v done] := hst
          exact go_plain (op_conv (k := .i64) (a := (l[i]'(by first | omega | (simp; omega) | (simp; done))).T) ((l[i]'(by first | omega | (simp; omega) | (simp; done))).T) Try.underlying54 (by rw [Try.underlying2]; rfl) f32 (xu64 (by omega) (by omega)) (kN0 (i := 3) hM32 (by decide) (by exact hJ64) (by exact rfl)))
        · rintro D66 ρ67 w68 hD69 hE70 hC71 hJ72 hA73 ⟨f33, _⟩
          have hst := hJ72.2 (not_yet hD69 (fun hm => (hC71 5 4 hm (by kernel_rfl))))
          replace hst : St w0 w68 [.blk g18 48 #[(.int .i64 ((l[i]'(by first | omega | (simp; omega) | (simp; done))).T)), (.int .i64 ((l[i]'(by first | omega | (simp; omega) | (simp; done))).V))], rowT 5 u8E v done] := hst
          refine go_plain (op_call Try.call22 (evs_cons (v := (.int .u64 ((l[i]'(by first | omega | (simp; omega) | (simp; done))).T))) f33 evs_nil) (c_Put (w0 := w68) (n := (l[i]'(by first | omega | (simp; omega) | (simp; done))).T) (h0 := (by omega)) (h1 := (by omega))) ?_)
          rintro _ w75 ⟨r74, rfl, hcall⟩
          refine ⟨_, rfl, ?_⟩
          exact kN (i := 4) hM32 (by decide) hcall.below (by exact ⟨(hJ72.1).ext hcall.below, (fun x0 => (hJ72.2 x0).ext hcall.below)⟩) (by exact fun _ => hcall.sl 0 rfl)
        · rintro D76 ρ77 w78 hD79 hE80 hC81 hJ82 hA83 ⟨f30, f34, _⟩
          have hst := hJ82.2 hD79
          replace hst : St w0 w78 [.blk g18 48 #[(.int .i64 ((l[i]'(by first | omega | (simp; omega) | (simp; done))).T)), (.int .i64 ((l[i]'(by first | omega | (simp; omega) | (simp; done))).V))], rowT 5 u8E v done] := hst
          obtain ⟨v85, e86⟩ : ∃ x, ρ77 34 = x := ⟨_, rfl⟩
          have hs84 := f34 (by intro m hm; simp only [List.mem_cons, List.not_mem_nil, or_false] at hm; rcases hm with rfl | rfl; exact hD79; exact (not_yet hD79 (fun hm => (hC81 10 5 hm (by kernel_rfl)))))
          replace hs84 : Sl w78 u8E v85 (put ((l[i]'(by first | omega | (simp; omega) | (simp; done))).T)) := e86 ▸ hs84
          refine go_plain (op_append (E := u8E) (xs := done) (ys := (put ((l[i]'(by first | omega | (simp; omega) | (simp; done))).T))) (z := (.int .u8 0)) (bytes := 1) hst 1 rfl Try.underlying24 (by kernel_rfl) rfl f30 e86 hs84 (by first | omega | (simp; omega) | (simp; done)) (by first | omega | (simp; omega) | (simp; done)) (fun v87 w88 hst => ?_))
          replace hst : St w0 w88 [.blk g18 48 #[(.int .i64 ((l[i]'(by first | omega | (simp; omega) | (simp; done))).T)), (.int .i64 ((l[i]'(by first | omega | (simp; omega) | (simp; done))).V))], rowT 5 u8E v87 (done ++ (put ((l[i]'(by first | omega | (simp; omega) | (simp; done))).T)))] := hst
          replace hst : St w0 w88 [rowT 5 u8E v87 (done ++ (put ((l[i]'(by first | omega | (simp; omega) | (simp; done))).T))), .blk g18 48 #[(.int .i64 ((l[i]'(by first | omega | (simp; omega) | (simp; done))).T)), (.int .i64 ((l[i]'(by first | omega | (simp; omega) | (simp; done))).V))]] := hst.front 1 rfl
          have hI89 : stabIXs 5 [] D76 0 [(kEq v), (kEq (.pointer (some ⟨g18, (0 + 0), none⟩))), (kEq (.int .i64 ((l[i]'(by first | omega | (simp; omega) | (simp; done))).T))), (kEq (.int .u64 ((l[i]'(by first | omega | (simp; omega) | (simp; done))).T))), (kSlU [5, 10] u8E (put ((l[i]'(by first | omega | (simp; omega) | (simp; done))).T))), (fun (D : Nat → Bool) (v25 : Value) (w : World) => (D 5 = true → D 10 = false → St w0 w [rowT 5 u8E v25 (done ++ (put ((l[i]'(by first | omega | (simp; omega) | (simp; done))).T))), .blk g18 48 #[(.int .i64 ((l[i]'(by first | omega | (simp; omega) | (simp; done))).T)), (.int .i64 ((l[i]'(by first | omega | (simp; omega) | (simp; done))).V))]])), (kEq (.pointer (some ⟨g18, (0 + 1), none⟩))), (kEq (.int .i64 ((l[i]'(by first | omega | (simp; omega) | (simp; done))).V))), (kEq (.int .u64 (zig ((l[i]'(by first | omega | (simp; omega) | (simp; done))).V)))), (kSlU [10] u8E (put (zig ((l[i]'(by first | omega | (simp; omega) | (simp; done))).V)))), (fun (D : Nat → Bool) (v30 : Value) (w : World) => (D 10 = true → St w0 w [rowT 5 u8E v30 ((done ++ (put ((l[i]'(by first | omega | (simp; omega) | (simp; done))).T))) ++ (put (zig ((l[i]'(by first | omega | (simp; omega) | (simp; done))).V)))), .blk g18 48 #[(.int .i64 ((l[i]'(by first | omega | (simp; omega) | (simp; done))).T)), (.int .i64 ((l[i]'(by first | omega | (simp; omega) | (simp; done))).V))]])), (fun (D : Nat → Bool) (v30 : Value) (w : World) => (D 10 = true → St w0 w [rowT 5 u8E v30 ((done ++ (put ((l[i]'(by first | omega | (simp; omega) | (simp; done))).T))) ++ (put (zig ((l[i]'(by first | omega | (simp; omega) | (simp; done))).V)))), .blk g18 48 #[(.int .i64 ((l[i]'(by first | omega | (simp; omega) | (simp; done))).T)), (.int .i64 ((l[i]'(by first | omega | (simp; omega) | (simp; done))).V))]]))] := ⟨Or.inr (Or.inr (Or.inr iEq)), Or.inr (Or.inr (Or.inr iEq)), Or.inr (Or.inr (Or.inr iEq)), Or.inr (Or.inr (Or.inr iEq)), Or.inr (Or.inr (Or.inr (iSlU (by decide)))), Or.inl rfl, Or.inr (Or.inr (Or.inr iEq)), Or.inr (Or.inr (Or.inr iEq)), Or.inr (Or.inr (Or.inl (not_yet hD79 (fun hm => (hC81 8 5 hm (by kernel_rfl)))))), Or.inr (Or.inr (Or.inl (not_yet hD79 (fun hm => (hC81 8 5 (hC81 9 8 hm (by kernel_rfl)) (by kernel_rfl)))))), Or.inr (Or.inr (Or.inl (not_yet hD79 (fun hm => (hC81 10 5 hm (by kernel_rfl)))))), Or.inr (Or.inr (Or.inl (not_yet hD79 (fun hm => (hC81 11 5 hm (by kernel_rfl)))))), trivial⟩
          refine ⟨by exact ⟨hst.sub (.cons _ (.cons_cons _ .slnil)), (fun y0 => absurd y0 (fun h => Bool.noConfusion h))⟩, by exact (fun y0 y1 => hst.sub (.cons_cons _ (.cons_cons _ .slnil))), kX [] hI89 ?_⟩
          intro j d hj; cases hj
        · rintro D90 ρ91 w92 hD93 hE94 hC95 hJ96 hA97 ⟨f7, _⟩
          have hst := hJ96.1
          exact go_plain (op_fieldAddr (s := 0) Try.underlying48 rfl rfl Try.sizeOf2 (f7.trans rfl) (kN0 (i := 6) hM32 (by decide) (by exact hJ96) (by exact rfl)))
        · rintro D98 ρ99 w100 hD101 hE102 hC103 hJ104 hA105 ⟨f36, _⟩
          have hst := hJ104.1
          exact go_plain (op_load1 (u := (.int .i64 ((l[i]'(by first | omega | (simp; omega) | (simp; done))).V))) Try.isAgg2 f36 ((hst.cell 0 rfl).drop 1) (kN0 (i := 7) hM32 (by decide) (by exact hJ104) (by exact rfl)))
        · rintro D106 ρ107 w108 hD109 hE110 hC111 hJ112 hA113 ⟨f37, _⟩
          obtain ⟨v114, e115⟩ : ∃ x, ρ107 35 = x := ⟨_, rfl⟩
          have hh116 := hA113 5 35 (hE110 5 (by kernel_rfl)) rfl
          have hst : St w0 w108 [rowT 5 u8E v114 (done ++ (put ((l[i]'(by first | omega | (simp; omega) | (simp; done))).T))), .blk g18 48 #[(.int .i64 ((l[i]'(by first | omega | (simp; omega) | (simp; done))).T)), (.int .i64 ((l[i]'(by first | omega | (simp; omega) | (simp; done))).V))]] := by have h := hh116 (hE110 5 (by kernel_rfl)) (not_yet hD109 (fun hm => (hC111 9 8 (hC111 10 9 hm (by kernel_rfl)) (by kernel_rfl)))); rw [e115] at h; exact h
          refine go_plain (op_call Try.call23 (evs_cons (v := (.int .i64 ((l[i]'(by first | omega | (simp; omega) | (simp; done))).V))) f37 evs_nil) (c_Zig (w0 := w108) (m := (l[i]'(by first | omega | (simp; omega) | (simp; done))).V) (h0 := (by omega)) (h1 := (by omega))) ?_)
          rintro _ w117 ⟨rfl, hcall⟩
          refine ⟨_, rfl, ?_⟩
          exact kN (i := 8) hM32 (by decide) hcall.below (by exact ⟨(hJ112.1).ext hcall.below, (fun x0 => (hJ112.2 x0).ext hcall.below)⟩) (by exact rfl)
        · rintro D118 ρ119 w120 hD121 hE122 hC123 hJ124 hA125 ⟨f38, _⟩
          obtain ⟨v126, e127⟩ : ∃ x, ρ119 35 = x := ⟨_, rfl⟩
          have hh128 := hA125 5 35 (hC123 8 5 (hE122 8 (by kernel_rfl)) (by kernel_rfl)) rfl
          have hst : St w0 w120 [rowT 5 u8E v126 (done ++ (put ((l[i]'(by first | omega | (simp; omega) | (simp; done))).T))), .blk g18 48 #[(.int .i64 ((l[i]'(by first | omega | (simp; omega) | (simp; done))).T)), (.int .i64 ((l[i]'(by first | omega | (simp; omega) | (simp; done))).V))]] := by have h := hh128 (hC123 8 5 (hE122 8 (by kernel_rfl)) (by kernel_rfl)) (not_yet hD121 (fun hm => (hC123 10 9 hm (by kernel_rfl)))); rw [e127] at h; exact h
          refine go_plain (op_call Try.call22 (evs_cons (v := (.int .u64 (zig ((l[i]'(by first | omega | (simp; omega) | (simp; done))).V)))) f38 evs_nil) (c_Put (w0 := w120) (n := (zig ((l[i]'(by first | omega | (simp; omega) | (simp; done))).V))) (h0 := (by omega)) (h1 := (by omega))) ?_)
          rintro _ w130 ⟨r129, rfl, hcall⟩
          refine ⟨_, rfl, ?_⟩
          exact kN (i := 9) hM32 (by decide) hcall.below (by exact ⟨(hJ124.1).ext hcall.below, (fun x0 => (hJ124.2 x0).ext hcall.below)⟩) (by exact fun _ => hcall.sl 0 rfl)
        · rintro D131 ρ132 w133 hD134 hE135 hC136 hJ137 hA138 ⟨f35, f39, _⟩
          obtain ⟨v139, e140⟩ : ∃ x, ρ132 35 = x := ⟨_, rfl⟩
          have hh141 := hA138 5 35 (hE135 5 (by kernel_rfl)) rfl
          have hst : St w0 w133 [rowT 5 u8E v139 (done ++ (put ((l[i]'(by first | omega | (simp; omega) | (simp; done))).T))), .blk g18 48 #[(.int .i64 ((l[i]'(by first | omega | (simp; omega) | (simp; done))).T)), (.int .i64 ((l[i]'(by first | omega | (simp; omega) | (simp; done))).V))]] := by have h := hh141 (hE135 5 (by kernel_rfl)) hD134; rw [e140] at h; exact h
          obtain ⟨v143, e144⟩ : ∃ x, ρ132 39 = x := ⟨_, rfl⟩
          have hs142 := f39 (by intro m hm; obtain rfl := List.mem_singleton.1 hm; exact hD134)
          replace hs142 : Sl w133 u8E v143 (put (zig ((l[i]'(by first | omega | (simp; omega) | (simp; done))).V))) := e144 ▸ hs142
          refine go_plain (op_append (E := u8E) (xs := (done ++ (put ((l[i]'(by first | omega | (simp; omega) | (simp; done))).T)))) (ys := (put (zig ((l[i]'(by first | omega | (simp; omega) | (simp; done))).V)))) (z := (.int .u8 0)) (bytes := 1) hst 0 rfl Try.underlying24 (by kernel_rfl) rfl e140 e144 hs142 (by first | omega | (simp; omega) | (simp; done)) (by first | omega | (simp; omega) | (simp; done)) (fun v145 w146 hst => ?_))
          replace hst : St w0 w146 [rowT 5 u8E v145 ((done ++ (put ((l[i]'(by first | omega | (simp; omega) | (simp; done))).T))) ++ (put (zig ((l[i]'(by first | omega | (simp; omega) | (simp; done))).V)))), .blk g18 48 #[(.int .i64 ((l[i]'(by first | omega | (simp; omega) | (simp; done))).T)), (.int .i64 ((l[i]'(by first | omega | (simp; omega) | (simp; done))).V))]] := hst
          have hI147 : stabIXs 10 [5] D131 0 [(kEq v), (kEq (.pointer (some ⟨g18, (0 + 0), none⟩))), (kEq (.int .i64 ((l[i]'(by first | omega | (simp; omega) | (simp; done))).T))), (kEq (.int .u64 ((l[i]'(by first | omega | (simp; omega) | (simp; done))).T))), (kSlU [5, 10] u8E (put ((l[i]'(by first | omega | (simp; omega) | (simp; done))).T))), (fun (D : Nat → Bool) (v25 : Value) (w : World) => (D 5 = true → D 10 = false → St w0 w [rowT 5 u8E v25 (done ++ (put ((l[i]'(by first | omega | (simp; omega) | (simp; done))).T))), .blk g18 48 #[(.int .i64 ((l[i]'(by first | omega | (simp; omega) | (simp; done))).T)), (.int .i64 ((l[i]'(by first | omega | (simp; omega) | (simp; done))).V))]])), (kEq (.pointer (some ⟨g18, (0 + 1), none⟩))), (kEq (.int .i64 ((l[i]'(by first | omega | (simp; omega) | (simp; done))).V))), (kEq (.int .u64 (zig ((l[i]'(by first | omega | (simp; omega) | (simp; done))).V)))), (kSlU [10] u8E (put (zig ((l[i]'(by first | omega | (simp; omega) | (simp; done))).V)))), (fun (D : Nat → Bool) (v30 : Value) (w : World) => (D 10 = true → St w0 w [rowT 5 u8E v30 ((done ++ (put ((l[i]'(by first | omega | (simp; omega) | (simp; done))).T))) ++ (put (zig ((l[i]'(by first | omega | (simp; omega) | (simp; done))).V)))), .blk g18 48 #[(.int .i64 ((l[i]'(by first | omega | (simp; omega) | (simp; done))).T)), (.int .i64 ((l[i]'(by first | omega | (simp; omega) | (simp; done))).V))]])), (fun (D : Nat → Bool) (v30 : Value) (w : World) => (D 10 = true → St w0 w [rowT 5 u8E v30 ((done ++ (put ((l[i]'(by first | omega | (simp; omega) | (simp; done))).T))) ++ (put (zig ((l[i]'(by first | omega | (simp; omega) | (simp; done))).V)))), .blk g18 48 #[(.int .i64 ((l[i]'(by first | omega | (simp; omega) | (simp; done))).T)), (.int .i64 ((l[i]'(by first | omega | (simp; omega) | (simp; done))).V))]]))] := ⟨Or.inr (Or.inr (Or.inr iEq)), Or.inr (Or.inr (Or.inr iEq)), Or.inr (Or.inr (Or.inr iEq)), Or.inr (Or.inr (Or.inr iEq)), Or.inr (Or.inr (Or.inr (iSlU (by decide)))), Or.inr (Or.inl (by decide)), Or.inr (Or.inr (Or.inr iEq)), Or.inr (Or.inr (Or.inr iEq)), Or.inr (Or.inr (Or.inr iEq)), Or.inr (Or.inr (Or.inr (iSlU (by decide)))), Or.inl rfl, Or.inr (Or.inr (Or.inl (not_yet hD134 (fun hm => (hC136 11 10 hm (by kernel_rfl)))))), trivial⟩
          refine ⟨by exact ⟨hst.sub (.cons _ (.cons_cons _ .slnil)), (fun y0 => absurd (show D131 5 = false from y0) (by rw [(hE135 5 (by kernel_rfl))]; decide))⟩, by exact (fun y0 => hst.sub (.cons_cons _ (.cons_cons _ .slnil))), kX [5] hI147 ?_⟩
          intro j d hj hjd hDj h
          simp only [List.mem_cons, List.not_mem_nil, or_false] at hj
          subst hj
          obtain rfl : 35 = d := Option.some.inj hjd
          exact (by rw [e140]; exact (fun y0 y1 => absurd y1 (fun h => Bool.noConfusion h)))
        · rintro D148 ρ149 w150 hD151 hE152 hC153 hJ154 hA155 ⟨f40, _⟩
          obtain ⟨v156, e157⟩ : ∃ x, ρ149 40 = x := ⟨_, rfl⟩
          have hh158 := hA155 10 40 (hE152 10 (by kernel_rfl)) rfl
          have hst : St w0 w150 [rowT 5 u8E v156 ((done ++ (put ((l[i]'(by first | omega | (simp; omega) | (simp; done))).T))) ++ (put (zig ((l[i]'(by first | omega | (simp; omega) | (simp; done))).V)))), .blk g18 48 #[(.int .i64 ((l[i]'(by first | omega | (simp; omega) | (simp; done))).T)), (.int .i64 ((l[i]'(by first | omega | (simp; omega) | (simp; done))).V))]] := by have h := hh158 (hE152 10 (by kernel_rfl)); rw [e157] at h; exact h
          exact go_plain (op_assign _ rfl (kN0 (i := 11) hM32 (by decide) (by exact hJ154) (by exact f40)))
        intro ρ159 w160 Dw160 hallw160 hJw160 hRw160 hkw160
        obtain ⟨v161, uw160_4⟩ : ∃ x, ρ159 4 = x := ⟨_, rfl⟩
        have hst : St w0 w160 [rowT 5 u8E v161 ((done ++ (put ((l[i]'(by first | omega | (simp; omega) | (simp; done))).T))) ++ (put (zig ((l[i]'(by first | omega | (simp; omega) | (simp; done))).V)))), .blk g18 48 #[(.int .i64 ((l[i]'(by first | omega | (simp; omega) | (simp; done))).T)), (.int .i64 ((l[i]'(by first | omega | (simp; omega) | (simp; done))).V))]] := by have h := hRw160 11 4 rfl; rw [uw160_4] at h; exact (h (hallw160 10 (show 10 < 12 from by decide)))
        have uw160_0 : ρ159 0 = v_l := (hkw160 0 rfl).trans q9_0
        have uw160_2 : ρ159 2 = (.slice none 0 0) := (hkw160 2 rfl).trans q9_2
        have uw160_3 : ρ159 3 = (.int .i64 0) := (hkw160 3 rfl).trans q9_3
        have uw160_21 : ρ159 21 = v_l := (hkw160 21 rfl).trans q9_21
        have uw160_22 : ρ159 22 = (.int .i64 (l.length : Int)) := (hkw160 22 rfl).trans q9_22
        have uw160_23 : ρ159 23 = (.int .i64 (i : Int)) := (hkw160 23 rfl).trans q9_23
        have uw160_5 : ρ159 5 = (.int .i64 st) := (hkw160 5 rfl).trans q9_5
        have uw160_24 : ρ159 24 = (.bool (decide ((i : Int) < (l.length : Int)))) := (hkw160 24 rfl).trans rfl
        have uw160_25 : ρ159 25 = (.int .i64 (i : Int)) := (hkw160 25 rfl).trans rfl
        have uw160_26 : ρ159 26 = (.pointer (some ⟨a15, o16, none⟩)) := (hkw160 26 rfl).trans rfl
        have uw160_27 : ρ159 27 = (.agg #[(.int .i64 ((l[i]'(by first | omega | (simp; omega) | (simp; done))).T)), (.int .i64 ((l[i]'(by first | omega | (simp; omega) | (simp; done))).V))]) := (hkw160 27 rfl).trans rfl
        have uw160_7 : ρ159 7 = (.pointer (some ⟨g18, 0, none⟩)) := (hkw160 7 rfl).trans rfl
        have uw160_6 : ρ159 6 = (.int .i64 (i : Int)) := (hkw160 6 rfl).trans rfl
        have uw160_28 : ρ159 28 = (.int .i64 (i : Int)) := (hkw160 28 rfl).trans rfl
        have uw160_29 : ρ159 29 = (.bool (decide ((i : Int) = 0))) := (hkw160 29 rfl).trans rfl
        refine then_n ?_
        refine cE_exit ?_
        refine then_x (block_hit (then_n ?_))
        refine cE_region rfl ?_
        refine s_cons (op_add (k := .i64) (a := (i : Int)) (b := 1) ((i : Int) + 1) uw160_23 rfl (xi64 (by omega) (by omega)) ?_)
        refine s_cons (op_move (.int .i64 ((i : Int) + 1)) rfl ?_)
        refine s_nil ?_
        refine then_n ?_
        exact ⟨_, ⟨v161, ((done ++ (put ((l[i]'(by first | omega | (simp; omega) | (simp; done))).T))) ++ (put (zig ((l[i]'(by first | omega | (simp; omega) | (simp; done))).V)))), (i + 1), st, rfl, uw160_0, uw160_2, uw160_3, uw160_21, uw160_22, uw160_4, (congrArg (Value.int .i64) (show ((i : Int) + 1) = _ from by omega)), uw160_5, (hst.sub (.cons_cons _ (.cons _ .slnil))), (by omega), (by omega), (by omega), (by first | omega | (simp; omega)), (by first | rfl | (rw [hp, restS_first (by omega) (by omega), show st = 0 from (by omega)]; simp; done) | (rw [hp, restS_next (by omega) (by omega)]; simp; done))⟩, (by simp only [id]; omega)⟩
      have c162 : ¬ ((i : Int) = 0) := of_decide_eq_false b21
      refine cE_cond false (congrArg Value.bool b21) (fun h => by cases h) (fun _ => ?_)
      refine cE_skip ?_
      refine then_n ?_
      refine cE_seq ?_
      have ht := htr _ (List.getElem_mem (show i < l.length by omega))
      have ht2 := htr _ (List.getElem_mem (show (i - 1) < l.length by omega))
      refine cE_regionL hst [[(7, none)], [(41, some 0)], [(0, none)], [(6, none)], [(44, some 3)], [(43, some 2), (45, some 4)], [(46, some 5)], [(47, some 6)], [(42, some 1), (48, some 7)], [(49, some 8)]] [(rEq (.pointer (some ⟨g18, (0 + 0), none⟩))), (rEq (.int .i64 ((l[i]'(by first | omega | (simp; omega) | (simp; done))).T))), (rEq v_l), (rEq (.int .i64 (i : Int))), (rEq (.int .i64 ((i : Int) - 1))), (rPt [(.int .i64 ((l[(i - 1)]'(by first | omega | (simp; omega) | (simp; done))).T)), (.int .i64 ((l[(i - 1)]'(by first | omega | (simp; omega) | (simp; done))).V))]), (rPt [(.int .i64 ((l[(i - 1)]'(by first | omega | (simp; omega) | (simp; done))).T)), (.int .i64 ((l[(i - 1)]'(by first | omega | (simp; omega) | (simp; done))).V))]), (rEq (.int .i64 ((l[(i - 1)]'(by first | omega | (simp; omega) | (simp; done))).T))), (rEq (.int .i64 (((l[i]'(by first | omega | (simp; omega) | (simp; done))).T) - ((l[(i - 1)]'(by first | omega | (simp; omega) | (simp; done))).T)))), (rEq (.int .i64 (((l[i]'(by first | omega | (simp; omega) | (simp; done))).T) - ((l[(i - 1)]'(by first | omega | (simp; omega) | (simp; done))).T))))] (by kernel_rfl) rfl (by kernel_rfl) ⟨sEq, sEq, sEq, sEq, sEq, sPt, sPt, sEq, sEq, sEq, trivial⟩ ⟨?_, ?_, ?_, ?_, ?_, ?_, ?_, ?_, ?_, ?_, trivial⟩ ?_
      · rintro ρ166 w167 hj168 ⟨f7, _⟩
        have hst := hj168.2
        exact go_plain (op_fieldAddr (s := 0) Try.underlying48 rfl rfl Try.sizeOf2 (f7.trans rfl) (kS hj168 rfl))
      · rintro ρ169 w170 hj171 ⟨f41, _⟩
        have hst := hj171.2
        exact go_plain (op_load1 (u := (.int .i64 ((l[i]'(by first | omega | (simp; omega) | (simp; done))).T))) Try.isAgg2 f41 (hst.cell 0 rfl) (kS hj171 rfl))
      · rintro ρ172 w173 hj174 ⟨f0, _⟩
        have hst := hj174.2
        exact go_plain (op_move v_l (f0.trans q9_0) (kS hj174 rfl))
      · rintro ρ175 w176 hj177 ⟨f6, _⟩
        have hst := hj177.2
        exact go_plain (op_move (.int .i64 (i : Int)) (f6.trans rfl) (kS hj177 rfl))
      · rintro ρ178 w179 hj180 ⟨f44, _⟩
        have hst := hj180.2
        exact go_plain (op_sub (k := .i64) (a := (i : Int)) (b := 1) ((i : Int) - 1) f44 rfl (xi64 (by omega) (by omega)) (kS hj180 rfl))
      · rintro ρ181 w182 hj183 ⟨f43, f45, _⟩
        have hst := hj183.2
        refine go_plain (op_indexAddrN (E := sampE) (xs := l) (i - 1) Try.underlying22 Try.sizeOf48 f43 h_l f45 (by omega) (by first | omega | (simp; omega) | (simp; done)) (fun a184 o185 p186 => ?_))
        exact kS hj183 ⟨_, _, rfl, (p186.below hst.below)⟩
      · rintro ρ187 w188 hj189 ⟨f46, _⟩
        have hst := hj189.2
        obtain ⟨a190, o191, e192, p193⟩ := f46
        exact go_plain (op_fieldAddr (s := 0) Try.underlying48 rfl rfl Try.sizeOf2 e192 (kS hj189 ⟨_, _, rfl, p193⟩))
      · rintro ρ194 w195 hj196 ⟨f47, _⟩
        have hst := hj196.2
        obtain ⟨a197, o198, e199, p200⟩ := f47
        exact go_plain (op_load1 (u := (.int .i64 ((l[(i - 1)]'(by first | omega | (simp; omega) | (simp; done))).T))) Try.isAgg2 e199 p200 (kS hj196 rfl))
      · rintro ρ201 w202 hj203 ⟨f42, f48, _⟩
        have hst := hj203.2
        exact go_plain (op_sub (k := .i64) (a := (l[i]'(by first | omega | (simp; omega) | (simp; done))).T) (b := (l[(i - 1)]'(by first | omega | (simp; omega) | (simp; done))).T) (((l[i]'(by first | omega | (simp; omega) | (simp; done))).T) - ((l[(i - 1)]'(by first | omega | (simp; omega) | (simp; done))).T)) f42 f48 (xi64 (by omega) (by omega)) (kS hj203 rfl))
      · rintro ρ204 w205 hj206 ⟨f49, _⟩
        have hst := hj206.2
        exact go_plain (op_assign (.int .i64 (((l[i]'(by first | omega | (simp; omega) | (simp; done))).T) - ((l[(i - 1)]'(by first | omega | (simp; omega) | (simp; done))).T))) f49 (kS hj206 rfl))
      intro ρ207 w208 hbw208 hst hRw208 hkw208
      have uw208_0 : ρ207 0 = v_l := (hkw208 0 rfl).trans q9_0
      have uw208_2 : ρ207 2 = (.slice none 0 0) := (hkw208 2 rfl).trans q9_2
      have uw208_3 : ρ207 3 = (.int .i64 0) := (hkw208 3 rfl).trans q9_3
      have uw208_21 : ρ207 21 = v_l := (hkw208 21 rfl).trans q9_21
      have uw208_22 : ρ207 22 = (.int .i64 (l.length : Int)) := (hkw208 22 rfl).trans q9_22
      have uw208_4 : ρ207 4 = v := (hkw208 4 rfl).trans q9_4
      have uw208_23 : ρ207 23 = (.int .i64 (i : Int)) := (hkw208 23 rfl).trans q9_23
      have uw208_5 : ρ207 5 = (.int .i64 st) := (hkw208 5 rfl).trans q9_5
      have uw208_24 : ρ207 24 = (.bool (decide ((i : Int) < (l.length : Int)))) := (hkw208 24 rfl).trans rfl
      have uw208_25 : ρ207 25 = (.int .i64 (i : Int)) := (hkw208 25 rfl).trans rfl
      have uw208_26 : ρ207 26 = (.pointer (some ⟨a15, o16, none⟩)) := (hkw208 26 rfl).trans rfl
      have uw208_27 : ρ207 27 = (.agg #[(.int .i64 ((l[i]'(by first | omega | (simp; omega) | (simp; done))).T)), (.int .i64 ((l[i]'(by first | omega | (simp; omega) | (simp; done))).V))]) := (hkw208 27 rfl).trans rfl
      have uw208_7 : ρ207 7 = (.pointer (some ⟨g18, 0, none⟩)) := (hkw208 7 rfl).trans rfl
      have uw208_6 : ρ207 6 = (.int .i64 (i : Int)) := (hkw208 6 rfl).trans rfl
      have uw208_28 : ρ207 28 = (.int .i64 (i : Int)) := (hkw208 28 rfl).trans rfl
      have uw208_29 : ρ207 29 = (.bool (decide ((i : Int) = 0))) := (hkw208 29 rfl).trans rfl
      have uw208_8 : ρ207 8 = (.int .i64 (((l[i]'(by first | omega | (simp; omega) | (simp; done))).T) - ((l[(i - 1)]'(by first | omega | (simp; omega) | (simp; done))).T))) := hRw208 9 8 rfl
      refine then_n ?_
      refine cE_seq ?_
      have hv := (hl _ (List.getElem_mem (show i < l.length by omega))).2
      have hz1 := zig_r (m := (l[i]'(by omega)).T - (l[i - 1]'(by omega)).T - st) ⟨by omega, by omega⟩
      have hw := wr_r ((l[i]'(by omega)).V - (l[i - 1]'(by omega)).V)
      have hz2 := zig_r hw
      have q1 := put_length (zig ((l[i]'(by omega)).T - (l[i - 1]'(by omega)).T - st))
      have q2 := put_length (zig (wr ((l[i]'(by omega)).V - (l[i - 1]'(by omega)).V)))
      have hM222 : stabML [6, 18] [(kEq v), (kEq (.int .i64 (((l[i]'(by first | omega | (simp; omega) | (simp; done))).T) - ((l[(i - 1)]'(by first | omega | (simp; omega) | (simp; done))).T)))), (kEq (.int .i64 st)), (kEq (.int .i64 ((((l[i]'(by first | omega | (simp; omega) | (simp; done))).T) - ((l[(i - 1)]'(by first | omega | (simp; omega) | (simp; done))).T)) - st))), (kEq (.int .u64 (zig ((((l[i]'(by first | omega | (simp; omega) | (simp; done))).T) - ((l[(i - 1)]'(by first | omega | (simp; omega) | (simp; done))).T)) - st)))), (kSlU [6, 18] u8E (put (zig ((((l[i]'(by first | omega | (simp; omega) | (simp; done))).T) - ((l[(i - 1)]'(by first | omega | (simp; omega) | (simp; done))).T)) - st)))), (fun (D : Nat → Bool) (v212 : Value) (w : World) => (D 6 = true → D 18 = false → St w0 w [rowT 5 u8E v212 (done ++ (put (zig ((((l[i]'(by first | omega | (simp; omega) | (simp; done))).T) - ((l[(i - 1)]'(by first | omega | (simp; omega) | (simp; done))).T)) - st)))), .blk g18 48 #[(.int .i64 ((l[i]'(by first | omega | (simp; omega) | (simp; done))).T)), (.int .i64 ((l[i]'(by first | omega | (simp; omega) | (simp; done))).V))]])), (kEq (.pointer (some ⟨g18, (0 + 1), none⟩))), (kEq (.int .i64 ((l[i]'(by first | omega | (simp; omega) | (simp; done))).V))), (kEq v_l), (kEq (.int .i64 (i : Int))), (kEq (.int .i64 ((i : Int) - 1))), (kPt0 w0 [(.int .i64 ((l[(i - 1)]'(by first | omega | (simp; omega) | (simp; done))).T)), (.int .i64 ((l[(i - 1)]'(by first | omega | (simp; omega) | (simp; done))).V))]), (kPt0 w0 [(.int .i64 ((l[(i - 1)]'(by first | omega | (simp; omega) | (simp; done))).V))]), (kEq (.int .i64 ((l[(i - 1)]'(by first | omega | (simp; omega) | (simp; done))).V))), (kEq (.int .i64 (wr ((l[i]'(by first | omega | (simp; omega) | (simp; done))).V - (l[(i - 1)]'(by first | omega | (simp; omega) | (simp; done))).V)))), (kEq (.int .u64 (zig (wr ((l[i]'(by first | omega | (simp; omega) | (simp; done))).V - (l[(i - 1)]'(by first | omega | (simp; omega) | (simp; done))).V))))), (kSlU [18] u8E (put (zig (wr ((l[i]'(by first | omega | (simp; omega) | (simp; done))).V - (l[(i - 1)]'(by first | omega | (simp; omega) | (simp; done))).V))))), (fun (D : Nat → Bool) (v220 : Value) (w : World) => (D 18 = true → St w0 w [rowT 5 u8E v220 ((done ++ (put (zig ((((l[i]'(by first | omega | (simp; omega) | (simp; done))).T) - ((l[(i - 1)]'(by first | omega | (simp; omega) | (simp; done))).T)) - st)))) ++ (put (zig (wr ((l[i]'(by first | omega | (simp; omega) | (simp; done))).V - (l[(i - 1)]'(by first | omega | (simp; omega) | (simp; done))).V))))), .blk g18 48 #[(.int .i64 ((l[i]'(by first | omega | (simp; omega) | (simp; done))).T)), (.int .i64 ((l[i]'(by first | omega | (simp; omega) | (simp; done))).V))]])), (fun (D : Nat → Bool) (v220 : Value) (w : World) => (D 18 = true → St w0 w [rowT 5 u8E v220 ((done ++ (put (zig ((((l[i]'(by first | omega | (simp; omega) | (simp; done))).T) - ((l[(i - 1)]'(by first | omega | (simp; omega) | (simp; done))).T)) - st)))) ++ (put (zig (wr ((l[i]'(by first | omega | (simp; omega) | (simp; done))).V - (l[(i - 1)]'(by first | omega | (simp; omega) | (simp; done))).V))))), .blk g18 48 #[(.int .i64 ((l[i]'(by first | omega | (simp; omega) | (simp; done))).T)), (.int .i64 ((l[i]'(by first | omega | (simp; omega) | (simp; done))).V))]]))] := ⟨mEq, mEq, mEq, mEq, mEq, (mSlUs (by decide)), (fun D D' v w w' hD hb h2 => (fun x0 x1 => (h2 ((hD 6 (by decide)).symm.trans x0) ((hD 18 (by decide)).symm.trans x1)).ext hb)), mEq, mEq, mEq, mEq, mEq, mPt0, mPt0, mEq, mEq, mEq, (mSlUs (by decide)), (fun D D' v w w' hD hb h2 => (fun x0 => (h2 ((hD 18 (by decide)).symm.trans x0)).ext hb)), (fun D D' v w w' hD hb h2 => (fun x0 => (h2 ((hD 18 (by decide)).symm.trans x0)).ext hb)), trivial⟩
      refine cE_regionK (fun (D : Nat → Bool) (w : World) => St w0 w [.blk g18 48 #[(.int .i64 ((l[i]'(by first | omega | (simp; omega) | (simp; done))).T)), (.int .i64 ((l[i]'(by first | omega | (simp; omega) | (simp; done))).V))]] ∧ (D 6 = false → St w0 w [.blk g18 48 #[(.int .i64 ((l[i]'(by first | omega | (simp; omega) | (simp; done))).T)), (.int .i64 ((l[i]'(by first | omega | (simp; omega) | (simp; done))).V))], rowT 5 u8E v done])) [[(4, none)], [(8, none)], [(5, none)], [(51, some 1), (52, some 2)], [(53, some 3)], [(54, some 4)], [(50, some 0), (55, some 5)], [(7, none)], [(57, some 7)], [(0, none)], [(6, none)], [(60, some 10)], [(59, some 9), (61, some 11)], [(62, some 12)], [(63, some 13)], [(58, some 8), (64, some 14)], [(65, some 15)], [(66, some 16)], [(56, some 6), (67, some 17)], [(68, some 18)]] (RofK [(kEq v), (kEq (.int .i64 (((l[i]'(by first | omega | (simp; omega) | (simp; done))).T) - ((l[(i - 1)]'(by first | omega | (simp; omega) | (simp; done))).T)))), (kEq (.int .i64 st)), (kEq (.int .i64 ((((l[i]'(by first | omega | (simp; omega) | (simp; done))).T) - ((l[(i - 1)]'(by first | omega | (simp; omega) | (simp; done))).T)) - st))), (kEq (.int .u64 (zig ((((l[i]'(by first | omega | (simp; omega) | (simp; done))).T) - ((l[(i - 1)]'(by first | omega | (simp; omega) | (simp; done))).T)) - st)))), (kSlU [6, 18] u8E (put (zig ((((l[i]'(by first | omega | (simp; omega) | (simp; done))).T) - ((l[(i - 1)]'(by first | omega | (simp; omega) | (simp; done))).T)) - st)))), (fun (D : Nat → Bool) (v212 : Value) (w : World) => (D 6 = true → D 18 = false → St w0 w [rowT 5 u8E v212 (done ++ (put (zig ((((l[i]'(by first | omega | (simp; omega) | (simp; done))).T) - ((l[(i - 1)]'(by first | omega | (simp; omega) | (simp; done))).T)) - st)))), .blk g18 48 #[(.int .i64 ((l[i]'(by first | omega | (simp; omega) | (simp; done))).T)), (.int .i64 ((l[i]'(by first | omega | (simp; omega) | (simp; done))).V))]])), (kEq (.pointer (some ⟨g18, (0 + 1), none⟩))), (kEq (.int .i64 ((l[i]'(by first | omega | (simp; omega) | (simp; done))).V))), (kEq v_l), (kEq (.int .i64 (i : Int))), (kEq (.int .i64 ((i : Int) - 1))), (kPt0 w0 [(.int .i64 ((l[(i - 1)]'(by first | omega | (simp; omega) | (simp; done))).T)), (.int .i64 ((l[(i - 1)]'(by first | omega | (simp; omega) | (simp; done))).V))]), (kPt0 w0 [(.int .i64 ((l[(i - 1)]'(by first | omega | (simp; omega) | (simp; done))).V))]), (kEq (.int .i64 ((l[(i - 1)]'(by first | omega | (simp; omega) | (simp; done))).V))), (kEq (.int .i64 (wr ((l[i]'(by first | omega | (simp; omega) | (simp; done))).V - (l[(i - 1)]'(by first | omega | (simp; omega) | (simp; done))).V)))), (kEq (.int .u64 (zig (wr ((l[i]'(by first | omega | (simp; omega) | (simp; done))).V - (l[(i - 1)]'(by first | omega | (simp; omega) | (simp; done))).V))))), (kSlU [18] u8E (put (zig (wr ((l[i]'(by first | omega | (simp; omega) | (simp; done))).V - (l[(i - 1)]'(by first | omega | (simp; omega) | (simp; done))).V))))), (fun (D : Nat → Bool) (v220 : Value) (w : World) => (D 18 = true → St w0 w [rowT 5 u8E v220 ((done ++ (put (zig ((((l[i]'(by first | omega | (simp; omega) | (simp; done))).T) - ((l[(i - 1)]'(by first | omega | (simp; omega) | (simp; done))).T)) - st)))) ++ (put (zig (wr ((l[i]'(by first | omega | (simp; omega) | (simp; done))).V - (l[(i - 1)]'(by first | omega | (simp; omega) | (simp; done))).V))))), .blk g18 48 #[(.int .i64 ((l[i]'(by first | omega | (simp; omega) | (simp; done))).T)), (.int .i64 ((l[i]'(by first | omega | (simp; omega) | (simp; done))).V))]])), (fun (D : Nat → Bool) (v220 : Value) (w : World) => (D 18 = true → St w0 w [rowT 5 u8E v220 ((done ++ (put (zig ((((l[i]'(by first | omega | (simp; omega) | (simp; done))).T) - ((l[(i - 1)]'(by first | omega | (simp; omega) | (simp; done))).T)) - st)))) ++ (put (zig (wr ((l[i]'(by first | omega | (simp; omega) | (simp; done))).V - (l[(i - 1)]'(by first | omega | (simp; omega) | (simp; done))).V))))), .blk g18 48 #[(.int .i64 ((l[i]'(by first | omega | (simp; omega) | (simp; done))).T)), (.int .i64 ((l[i]'(by first | omega | (simp; omega) | (simp; done))).V))]]))]) (by kernel_rfl) rfl (by kernel_rfl) ⟨hst.drewW.sub (.cons_cons _ (.cons _ .slnil)), (fun _ => hst.drewW)⟩ ⟨?_, ?_, ?_, ?_, ?_, ?_, ?_, ?_, ?_, ?_, ?_, ?_, ?_, ?_, ?_, ?_, ?_, ?_, ?_, ?_, trivial⟩ ?_
      · rintro D224 ρ225 w226 hD227 hE228 hC229 hJ230 hA231 ⟨f4, _⟩
        have hst := hJ230.2 (not_yet hD227 (fun hm => (hC229 6 0 hm (by kernel_rfl))))
        replace hst : St w0 w226 [.blk g18 48 #[(.int .i64 ((l[i]'(by first | omega | (simp; omega) | (simp; done))).T)), (.int .i64 ((l[i]'(by first | omega | (simp; omega) | (simp; done))).V))], rowT 5 u8E v done] := hst
        exact go_plain (op_move v (f4.trans uw208_4) (kN0 (i := 0) hM222 (by decide) (by exact hJ230) (by exact rfl)))
      · rintro D232 ρ233 w234 hD235 hE236 hC237 hJ238 hA239 ⟨f8, _⟩
        have hst := hJ238.2 (not_yet hD235 (fun hm => (hC237 3 1 (hC237 4 3 (hC237 5 4 (hC237 6 5 hm (by kernel_rfl)) (by kernel_rfl)) (by kernel_rfl)) (by kernel_rfl))))
        replace hst : St w0 w234 [.blk g18 48 #[(.int .i64 ((l[i]'(by first | omega | (simp; omega) | (simp; done))).T)), (.int .i64 ((l[i]'(by first | omega | (simp; omega) | (simp; done))).V))], rowT 5 u8E v done] := hst
        exact go_plain (op_move (.int .i64 (((l[i]'(by first | omega | (simp; omega) | (simp; done))).T) - ((l[(i - 1)]'(by first | omega | (simp; omega) | (simp; done))).T))) (f8.trans uw208_8) (kN0 (i := 1) hM222 (by decide) (by exact hJ238) (by exact rfl)))
      · rintro D240 ρ241 w242 hD243 hE244 hC245 hJ246 hA247 ⟨f5, _⟩
        have hst := hJ246.2 (not_yet hD243 (fun hm => (hC245 3 2 (hC245 4 3 (hC245 5 4 (hC245 6 5 hm (by kernel_rfl)) (by kernel_rfl)) (by kernel_rfl)) (by kernel_rfl))))
        replace hst : St w0 w242 [.blk g18 48 #[(.int .i64 ((l[i]'(by first | omega | (simp; omega) | (simp; done))).T)), (.int .i64 ((l[i]'(by first | omega | (simp; omega) | (simp; done))).V))], rowT 5 u8E v done] := hst
        exact go_plain (op_move (.int .i64 st) (f5.trans uw208_5) (kN0 (i := 2) hM222 (by decide) (by exact hJ246) (by exact rfl)))
      · rintro D248 ρ249 w250 hD251 hE252 hC253 hJ254 hA255 ⟨f51, f52, _⟩
        have hst := hJ254.2 (not_yet hD251 (fun hm => (hC253 4 3 (hC253 5 4 (hC253 6 5 hm (by kernel_rfl)) (by kernel_rfl)) (by kernel_rfl))))
        replace hst : St w0 w250 [.blk g18 48 #[(.int .i64 ((l[i]'(by first | omega | (simp; omega) | (simp; done))).T)), (.int .i64 ((l[i]'(by first | omega | (simp; omega) | (simp; done))).V))], rowT 5 u8E v done] := hst
        exact go_plain (op_sub (k := .i64) (a := (((l[i]'(by first | omega | (simp; omega) | (simp; done))).T) - ((l[(i - 1)]'(by first | omega | (simp; omega) | (simp; done))).T))) (b := st) ((((l[i]'(by first | omega | (simp; omega) | (simp; done))).T) - ((l[(i - 1)]'(by first | omega | (simp; omega) | (simp; done))).T)) - st) f51 f52 (xi64 (by omega) (by omega)) (kN0 (i := 3) hM222 (by decide) (by exact hJ254) (by exact rfl)))
      · rintro D256 ρ257 w258 hD259 hE260 hC261 hJ262 hA263 ⟨f53, _⟩
        have hst := hJ262.2 (not_yet hD259 (fun hm => (hC261 5 4 (hC261 6 5 hm (by kernel_rfl)) (by kernel_rfl))))
        replace hst : St w0 w258 [.blk g18 48 #[(.int .i64 ((l[i]'(by first | omega | (simp; omega) | (simp; done))).T)), (.int .i64 ((l[i]'(by first | omega | (simp; omega) | (simp; done))).V))], rowT 5 u8E v done] := hst
        refine go_plain (op_call Try.call23 (evs_cons (v := (.int .i64 ((((l[i]'(by first | omega | (simp; omega) | (simp; done))).T) - ((l[(i - 1)]'(by first | omega | (simp; omega) | (simp; done))).T)) - st))) f53 evs_nil) (c_Zig (w0 := w258) (m := ((((l[i]'(by first | omega | (simp; omega) | (simp; done))).T) - ((l[(i - 1)]'(by first | omega | (simp; omega) | (simp; done))).T)) - st)) (h0 := (by omega)) (h1 := (by omega))) ?_)
        rintro _ w264 ⟨rfl, hcall⟩
        refine ⟨_, rfl, ?_⟩
        exact kN (i := 4) hM222 (by decide) hcall.below (by exact ⟨(hJ262.1).ext hcall.below, (fun x0 => (hJ262.2 x0).ext hcall.below)⟩) (by exact rfl)
      · rintro D265 ρ266 w267 hD268 hE269 hC270 hJ271 hA272 ⟨f54, _⟩
        have hst := hJ271.2 (not_yet hD268 (fun hm => (hC270 6 5 hm (by kernel_rfl))))
        replace hst : St w0 w267 [.blk g18 48 #[(.int .i64 ((l[i]'(by first | omega | (simp; omega) | (simp; done))).T)), (.int .i64 ((l[i]'(by first | omega | (simp; omega) | (simp; done))).V))], rowT 5 u8E v done] := hst
        refine go_plain (op_call Try.call22 (evs_cons (v := (.int .u64 (zig ((((l[i]'(by first | omega | (simp; omega) | (simp; done))).T) - ((l[(i - 1)]'(by first | omega | (simp; omega) | (simp; done))).T)) - st)))) f54 evs_nil) (c_Put (w0 := w267) (n := (zig ((((l[i]'(by first | omega | (simp; omega) | (simp; done))).T) - ((l[(i - 1)]'(by first | omega | (simp; omega) | (simp; done))).T)) - st))) (h0 := (by omega)) (h1 := (by omega))) ?_)
        rintro _ w274 ⟨r273, rfl, hcall⟩
        refine ⟨_, rfl, ?_⟩
        exact kN (i := 5) hM222 (by decide) hcall.below (by exact ⟨(hJ271.1).ext hcall.below, (fun x0 => (hJ271.2 x0).ext hcall.below)⟩) (by exact fun _ => hcall.sl 0 rfl)
      · rintro D275 ρ276 w277 hD278 hE279 hC280 hJ281 hA282 ⟨f50, f55, _⟩
        have hst := hJ281.2 hD278
        replace hst : St w0 w277 [.blk g18 48 #[(.int .i64 ((l[i]'(by first | omega | (simp; omega) | (simp; done))).T)), (.int .i64 ((l[i]'(by first | omega | (simp; omega) | (simp; done))).V))], rowT 5 u8E v done] := hst
        obtain ⟨v284, e285⟩ : ∃ x, ρ276 55 = x := ⟨_, rfl⟩
        have hs283 := f55 (by intro m hm; simp only [List.mem_cons, List.not_mem_nil, or_false] at hm; rcases hm with rfl | rfl; exact hD278; exact (not_yet hD278 (fun hm => (hC280 18 6 hm (by kernel_rfl)))))
        replace hs283 : Sl w277 u8E v284 (put (zig ((((l[i]'(by first | omega | (simp; omega) | (simp; done))).T) - ((l[(i - 1)]'(by first | omega | (simp; omega) | (simp; done))).T)) - st))) := e285 ▸ hs283
        refine go_plain (op_append (E := u8E) (xs := done) (ys := (put (zig ((((l[i]'(by first | omega | (simp; omega) | (simp; done))).T) - ((l[(i - 1)]'(by first | omega | (simp; omega) | (simp; done))).T)) - st)))) (z := (.int .u8 0)) (bytes := 1) hst 1 rfl Try.underlying24 (by kernel_rfl) rfl f50 e285 hs283 (by first | omega | (simp; omega) | (simp; done)) (by first | omega | (simp; omega) | (simp; done)) (fun v286 w287 hst => ?_))
        replace hst : St w0 w287 [.blk g18 48 #[(.int .i64 ((l[i]'(by first | omega | (simp; omega) | (simp; done))).T)), (.int .i64 ((l[i]'(by first | omega | (simp; omega) | (simp; done))).V))], rowT 5 u8E v286 (done ++ (put (zig ((((l[i]'(by first | omega | (simp; omega) | (simp; done))).T) - ((l[(i - 1)]'(by first | omega | (simp; omega) | (simp; done))).T)) - st))))] := hst
        replace hst : St w0 w287 [rowT 5 u8E v286 (done ++ (put (zig ((((l[i]'(by first | omega | (simp; omega) | (simp; done))).T) - ((l[(i - 1)]'(by first | omega | (simp; omega) | (simp; done))).T)) - st)))), .blk g18 48 #[(.int .i64 ((l[i]'(by first | omega | (simp; omega) | (simp; done))).T)), (.int .i64 ((l[i]'(by first | omega | (simp; omega) | (simp; done))).V))]] := hst.front 1 rfl
        have hI288 : stabIXs 6 [] D275 0 [(kEq v), (kEq (.int .i64 (((l[i]'(by first | omega | (simp; omega) | (simp; done))).T) - ((l[(i - 1)]'(by first | omega | (simp; omega) | (simp; done))).T)))), (kEq (.int .i64 st)), (kEq (.int .i64 ((((l[i]'(by first | omega | (simp; omega) | (simp; done))).T) - ((l[(i - 1)]'(by first | omega | (simp; omega) | (simp; done))).T)) - st))), (kEq (.int .u64 (zig ((((l[i]'(by first | omega | (simp; omega) | (simp; done))).T) - ((l[(i - 1)]'(by first | omega | (simp; omega) | (simp; done))).T)) - st)))), (kSlU [6, 18] u8E (put (zig ((((l[i]'(by first | omega | (simp; omega) | (simp; done))).T) - ((l[(i - 1)]'(by first | omega | (simp; omega) | (simp; done))).T)) - st)))), (fun (D : Nat → Bool) (v212 : Value) (w : World) => (D 6 = true → D 18 = false → St w0 w [rowT 5 u8E v212 (done ++ (put (zig ((((l[i]'(by first | omega | (simp; omega) | (simp; done))).T) - ((l[(i - 1)]'(by first | omega | (simp; omega) | (simp; done))).T)) - st)))), .blk g18 48 #[(.int .i64 ((l[i]'(by first | omega | (simp; omega) | (simp; done))).T)), (.int .i64 ((l[i]'(by first | omega | (simp; omega) | (simp; done))).V))]])), (kEq (.pointer (some ⟨g18, (0 + 1), none⟩))), (kEq (.int .i64 ((l[i]'(by first | omega | (simp; omega) | (simp; done))).V))), (kEq v_l), (kEq (.int .i64 (i : Int))), (kEq (.int .i64 ((i : Int) - 1))), (kPt0 w0 [(.int .i64 ((l[(i - 1)]'(by first | omega | (simp; omega) | (simp; done))).T)), (.int .i64 ((l[(i - 1)]'(by first | omega | (simp; omega) | (simp; done))).V))]), (kPt0 w0 [(.int .i64 ((l[(i - 1)]'(by first | omega | (simp; omega) | (simp; done))).V))]), (kEq (.int .i64 ((l[(i - 1)]'(by first | omega | (simp; omega) | (simp; done))).V))), (kEq (.int .i64 (wr ((l[i]'(by first | omega | (simp; omega) | (simp; done))).V - (l[(i - 1)]'(by first | omega | (simp; omega) | (simp; done))).V)))), (kEq (.int .u64 (zig (wr ((l[i]'(by first | omega | (simp; omega) | (simp; done))).V - (l[(i - 1)]'(by first | omega | (simp; omega) | (simp; done))).V))))), (kSlU [18] u8E (put (zig (wr ((l[i]'(by first | omega | (simp; omega) | (simp; done))).V - (l[(i - 1)]'(by first | omega | (simp; omega) | (simp; done))).V))))), (fun (D : Nat → Bool) (v220 : Value) (w : World) => (D 18 = true → St w0 w [rowT 5 u8E v220 ((done ++ (put (zig ((((l[i]'(by first | omega | (simp; omega) | (simp; done))).T) - ((l[(i - 1)]'(by first | omega | (simp; omega) | (simp; done))).T)) - st)))) ++ (put (zig (wr ((l[i]'(by first | omega | (simp; omega) | (simp; done))).V - (l[(i - 1)]'(by first | omega | (simp; omega) | (simp; done))).V))))), .blk g18 48 #[(.int .i64 ((l[i]'(by first | omega | (simp; omega) | (simp; done))).T)), (.int .i64 ((l[i]'(by first | omega | (simp; omega) | (simp; done))).V))]])), (fun (D : Nat → Bool) (v220 : Value) (w : World) => (D 18 = true → St w0 w [rowT 5 u8E v220 ((done ++ (put (zig ((((l[i]'(by first | omega | (simp; omega) | (simp; done))).T) - ((l[(i - 1)]'(by first | omega | (simp; omega) | (simp; done))).T)) - st)))) ++ (put (zig (wr ((l[i]'(by first | omega | (simp; omega) | (simp; done))).V - (l[(i - 1)]'(by first | omega | (simp; omega) | (simp; done))).V))))), .blk g18 48 #[(.int .i64 ((l[i]'(by first | omega | (simp; omega) | (simp; done))).T)), (.int .i64 ((l[i]'(by first | omega | (simp; omega) | (simp; done))).V))]]))] := ⟨Or.inr (Or.inr (Or.inr iEq)), Or.inr (Or.inr (Or.inr iEq)), Or.inr (Or.inr (Or.inr iEq)), Or.inr (Or.inr (Or.inr iEq)), Or.inr (Or.inr (Or.inr iEq)), Or.inr (Or.inr (Or.inr (iSlU (by decide)))), Or.inl rfl, Or.inr (Or.inr (Or.inr iEq)), Or.inr (Or.inr (Or.inr iEq)), Or.inr (Or.inr (Or.inr iEq)), Or.inr (Or.inr (Or.inr iEq)), Or.inr (Or.inr (Or.inr iEq)), Or.inr (Or.inr (Or.inr iPt0)), Or.inr (Or.inr (Or.inr iPt0)), Or.inr (Or.inr (Or.inr iEq)), Or.inr (Or.inr (Or.inr iEq)), Or.inr (Or.inr (Or.inl (not_yet hD278 (fun hm => (hC280 16 6 hm (by kernel_rfl)))))), Or.inr (Or.inr (Or.inl (not_yet hD278 (fun hm => (hC280 16 6 (hC280 17 16 hm (by kernel_rfl)) (by kernel_rfl)))))), Or.inr (Or.inr (Or.inl (not_yet hD278 (fun hm => (hC280 18 6 hm (by kernel_rfl)))))), Or.inr (Or.inr (Or.inl (not_yet hD278 (fun hm => (hC280 19 6 hm (by kernel_rfl)))))), trivial⟩
        refine ⟨by exact ⟨hst.sub (.cons _ (.cons_cons _ .slnil)), (fun y0 => absurd y0 (fun h => Bool.noConfusion h))⟩, by exact (fun y0 y1 => hst.sub (.cons_cons _ (.cons_cons _ .slnil))), kX [] hI288 ?_⟩
        intro j d hj; cases hj
      · rintro D289 ρ290 w291 hD292 hE293 hC294 hJ295 hA296 ⟨f7, _⟩
        have hst := hJ295.1
        exact go_plain (op_fieldAddr (s := 0) Try.underlying48 rfl rfl Try.sizeOf2 (f7.trans uw208_7) (kN0 (i := 7) hM222 (by decide) (by exact hJ295) (by exact rfl)))
      · rintro D297 ρ298 w299 hD300 hE301 hC302 hJ303 hA304 ⟨f57, _⟩
        have hst := hJ303.1
        exact go_plain (op_load1 (u := (.int .i64 ((l[i]'(by first | omega | (simp; omega) | (simp; done))).V))) Try.isAgg2 f57 ((hst.cell 0 rfl).drop 1) (kN0 (i := 8) hM222 (by decide) (by exact hJ303) (by exact rfl)))
      · rintro D305 ρ306 w307 hD308 hE309 hC310 hJ311 hA312 ⟨f0, _⟩
        have hst := hJ311.1
        exact go_plain (op_move v_l (f0.trans uw208_0) (kN0 (i := 9) hM222 (by decide) (by exact hJ311) (by exact rfl)))
      · rintro D313 ρ314 w315 hD316 hE317 hC318 hJ319 hA320 ⟨f6, _⟩
        have hst := hJ319.1
        exact go_plain (op_move (.int .i64 (i : Int)) (f6.trans uw208_6) (kN0 (i := 10) hM222 (by decide) (by exact hJ319) (by exact rfl)))
      · rintro D321 ρ322 w323 hD324 hE325 hC326 hJ327 hA328 ⟨f60, _⟩
        have hst := hJ327.1
        exact go_plain (op_sub (k := .i64) (a := (i : Int)) (b := 1) ((i : Int) - 1) f60 rfl (xi64 (by omega) (by omega)) (kN0 (i := 11) hM222 (by decide) (by exact hJ327) (by exact rfl)))
      · rintro D329 ρ330 w331 hD332 hE333 hC334 hJ335 hA336 ⟨f59, f61, _⟩
        have hst := hJ335.1
        refine go_plain (op_indexAddrN (E := sampE) (xs := l) (i - 1) Try.underlying22 Try.sizeOf48 f59 h_l f61 (by omega) (by first | omega | (simp; omega) | (simp; done)) (fun a337 o338 p339 => ?_))
        exact (kN0 (i := 12) hM222 (by decide) (by exact hJ335) (by exact ⟨_, _, rfl, p339⟩))
      · rintro D340 ρ341 w342 hD343 hE344 hC345 hJ346 hA347 ⟨f62, _⟩
        have hst := hJ346.1
        obtain ⟨a348, o349, e350, p351⟩ := f62
        exact go_plain (op_fieldAddr (s := 0) Try.underlying48 rfl rfl Try.sizeOf2 e350 (kN0 (i := 13) hM222 (by decide) (by exact hJ346) (by exact ⟨_, _, rfl, (p351.drop 1)⟩)))
      · rintro D352 ρ353 w354 hD355 hE356 hC357 hJ358 hA359 ⟨f63, _⟩
        have hst := hJ358.1
        obtain ⟨a360, o361, e362, p363⟩ := f63
        exact go_plain (op_load1 (u := (.int .i64 ((l[(i - 1)]'(by first | omega | (simp; omega) | (simp; done))).V))) Try.isAgg2 e362 (p363.below hst.below) (kN0 (i := 14) hM222 (by decide) (by exact hJ358) (by exact rfl)))
      · rintro D364 ρ365 w366 hD367 hE368 hC369 hJ370 hA371 ⟨f58, f64, _⟩
        have hst := hJ370.1
        exact go_plain (op_sub (k := .i64) (a := (l[i]'(by first | omega | (simp; omega) | (simp; done))).V) (b := (l[(i - 1)]'(by first | omega | (simp; omega) | (simp; done))).V) (wr ((l[i]'(by first | omega | (simp; omega) | (simp; done))).V - (l[(i - 1)]'(by first | omega | (simp; omega) | (simp; done))).V)) f58 f64 rfl (kN0 (i := 15) hM222 (by decide) (by exact hJ370) (by exact rfl)))
      · rintro D372 ρ373 w374 hD375 hE376 hC377 hJ378 hA379 ⟨f65, _⟩
        obtain ⟨v380, e381⟩ : ∃ x, ρ373 56 = x := ⟨_, rfl⟩
        have hh382 := hA379 6 56 (hE376 6 (by kernel_rfl)) rfl
        have hst : St w0 w374 [rowT 5 u8E v380 (done ++ (put (zig ((((l[i]'(by first | omega | (simp; omega) | (simp; done))).T) - ((l[(i - 1)]'(by first | omega | (simp; omega) | (simp; done))).T)) - st)))), .blk g18 48 #[(.int .i64 ((l[i]'(by first | omega | (simp; omega) | (simp; done))).T)), (.int .i64 ((l[i]'(by first | omega | (simp; omega) | (simp; done))).V))]] := by have h := hh382 (hE376 6 (by kernel_rfl)) (not_yet hD375 (fun hm => (hC377 17 16 (hC377 18 17 hm (by kernel_rfl)) (by kernel_rfl)))); rw [e381] at h; exact h
        refine go_plain (op_call Try.call23 (evs_cons (v := (.int .i64 (wr ((l[i]'(by first | omega | (simp; omega) | (simp; done))).V - (l[(i - 1)]'(by first | omega | (simp; omega) | (simp; done))).V)))) f65 evs_nil) (c_Zig (w0 := w374) (m := (wr ((l[i]'(by first | omega | (simp; omega) | (simp; done))).V - (l[(i - 1)]'(by first | omega | (simp; omega) | (simp; done))).V))) (h0 := (by omega)) (h1 := (by omega))) ?_)
        rintro _ w383 ⟨rfl, hcall⟩
        refine ⟨_, rfl, ?_⟩
        exact kN (i := 16) hM222 (by decide) hcall.below (by exact ⟨(hJ378.1).ext hcall.below, (fun x0 => (hJ378.2 x0).ext hcall.below)⟩) (by exact rfl)
      · rintro D384 ρ385 w386 hD387 hE388 hC389 hJ390 hA391 ⟨f66, _⟩
        obtain ⟨v392, e393⟩ : ∃ x, ρ385 56 = x := ⟨_, rfl⟩
        have hh394 := hA391 6 56 (hC389 16 6 (hE388 16 (by kernel_rfl)) (by kernel_rfl)) rfl
        have hst : St w0 w386 [rowT 5 u8E v392 (done ++ (put (zig ((((l[i]'(by first | omega | (simp; omega) | (simp; done))).T) - ((l[(i - 1)]'(by first | omega | (simp; omega) | (simp; done))).T)) - st)))), .blk g18 48 #[(.int .i64 ((l[i]'(by first | omega | (simp; omega) | (simp; done))).T)), (.int .i64 ((l[i]'(by first | omega | (simp; omega) | (simp; done))).V))]] := by have h := hh394 (hC389 16 6 (hE388 16 (by kernel_rfl)) (by kernel_rfl)) (not_yet hD387 (fun hm => (hC389 18 17 hm (by kernel_rfl)))); rw [e393] at h; exact h
        refine go_plain (op_call Try.call22 (evs_cons (v := (.int .u64 (zig (wr ((l[i]'(by first | omega | (simp; omega) | (simp; done))).V - (l[(i - 1)]'(by first | omega | (simp; omega) | (simp; done))).V))))) f66 evs_nil) (c_Put (w0 := w386) (n := (zig (wr ((l[i]'(by first | omega | (simp; omega) | (simp; done))).V - (l[(i - 1)]'(by first | omega | (simp; omega) | (simp; done))).V)))) (h0 := (by omega)) (h1 := (by omega))) ?_)
        rintro _ w396 ⟨r395, rfl, hcall⟩
        refine ⟨_, rfl, ?_⟩
        exact kN (i := 17) hM222 (by decide) hcall.below (by exact ⟨(hJ390.1).ext hcall.below, (fun x0 => (hJ390.2 x0).ext hcall.below)⟩) (by exact fun _ => hcall.sl 0 rfl)
      · rintro D397 ρ398 w399 hD400 hE401 hC402 hJ403 hA404 ⟨f56, f67, _⟩
        obtain ⟨v405, e406⟩ : ∃ x, ρ398 56 = x := ⟨_, rfl⟩
        have hh407 := hA404 6 56 (hE401 6 (by kernel_rfl)) rfl
        have hst : St w0 w399 [rowT 5 u8E v405 (done ++ (put (zig ((((l[i]'(by first | omega | (simp; omega) | (simp; done))).T) - ((l[(i - 1)]'(by first | omega | (simp; omega) | (simp; done))).T)) - st)))), .blk g18 48 #[(.int .i64 ((l[i]'(by first | omega | (simp; omega) | (simp; done))).T)), (.int .i64 ((l[i]'(by first | omega | (simp; omega) | (simp; done))).V))]] := by have h := hh407 (hE401 6 (by kernel_rfl)) hD400; rw [e406] at h; exact h
        obtain ⟨v409, e410⟩ : ∃ x, ρ398 67 = x := ⟨_, rfl⟩
        have hs408 := f67 (by intro m hm; obtain rfl := List.mem_singleton.1 hm; exact hD400)
        replace hs408 : Sl w399 u8E v409 (put (zig (wr ((l[i]'(by first | omega | (simp; omega) | (simp; done))).V - (l[(i - 1)]'(by first | omega | (simp; omega) | (simp; done))).V)))) := e410 ▸ hs408
        refine go_plain (op_append (E := u8E) (xs := (done ++ (put (zig ((((l[i]'(by first | omega | (simp; omega) | (simp; done))).T) - ((l[(i - 1)]'(by first | omega | (simp; omega) | (simp; done))).T)) - st))))) (ys := (put (zig (wr ((l[i]'(by first | omega | (simp; omega) | (simp; done))).V - (l[(i - 1)]'(by first | omega | (simp; omega) | (simp; done))).V))))) (z := (.int .u8 0)) (bytes := 1) hst 0 rfl Try.underlying24 (by kernel_rfl) rfl e406 e410 hs408 (by first | omega | (simp; omega) | (simp; done)) (by first | omega | (simp; omega) | (simp; done)) (fun v411 w412 hst => ?_))
        replace hst : St w0 w412 [rowT 5 u8E v411 ((done ++ (put (zig ((((l[i]'(by first | omega | (simp; omega) | (simp; done))).T) - ((l[(i - 1)]'(by first | omega | (simp; omega) | (simp; done))).T)) - st)))) ++ (put (zig (wr ((l[i]'(by first | omega | (simp; omega) | (simp; done))).V - (l[(i - 1)]'(by first | omega | (simp; omega) | (simp; done))).V))))), .blk g18 48 #[(.int .i64 ((l[i]'(by first | omega | (simp; omega) | (simp; done))).T)), (.int .i64 ((l[i]'(by first | omega | (simp; omega) | (simp; done))).V))]] := hst
        have hI413 : stabIXs 18 [6] D397 0 [(kEq v), (kEq (.int .i64 (((l[i]'(by first | omega | (simp; omega) | (simp; done))).T) - ((l[(i - 1)]'(by first | omega | (simp; omega) | (simp; done))).T)))), (kEq (.int .i64 st)), (kEq (.int .i64 ((((l[i]'(by first | omega | (simp; omega) | (simp; done))).T) - ((l[(i - 1)]'(by first | omega | (simp; omega) | (simp; done))).T)) - st))), (kEq (.int .u64 (zig ((((l[i]'(by first | omega | (simp; omega) | (simp; done))).T) - ((l[(i - 1)]'(by first | omega | (simp; omega) | (simp; done))).T)) - st)))), (kSlU [6, 18] u8E (put (zig ((((l[i]'(by first | omega | (simp; omega) | (simp; done))).T) - ((l[(i - 1)]'(by first | omega | (simp; omega) | (simp; done))).T)) - st)))), (fun (D : Nat → Bool) (v212 : Value) (w : World) => (D 6 = true → D 18 = false → St w0 w [rowT 5 u8E v212 (done ++ (put (zig ((((l[i]'(by first | omega | (simp; omega) | (simp; done))).T) - ((l[(i - 1)]'(by first | omega | (simp; omega) | (simp; done))).T)) - st)))), .blk g18 48 #[(.int .i64 ((l[i]'(by first | omega | (simp; omega) | (simp; done))).T)), (.int .i64 ((l[i]'(by first | omega | (simp; omega) | (simp; done))).V))]])), (kEq (.pointer (some ⟨g18, (0 + 1), none⟩))), (kEq (.int .i64 ((l[i]'(by first | omega | (simp; omega) | (simp; done))).V))), (kEq v_l), (kEq (.int .i64 (i : Int))), (kEq (.int .i64 ((i : Int) - 1))), (kPt0 w0 [(.int .i64 ((l[(i - 1)]'(by first | omega | (simp; omega) | (simp; done))).T)), (.int .i64 ((l[(i - 1)]'(by first | omega | (simp; omega) | (simp; done))).V))]), (kPt0 w0 [(.int .i64 ((l[(i - 1)]'(by first | omega | (simp; omega) | (simp; done))).V))]), (kEq (.int .i64 ((l[(i - 1)]'(by first | omega | (simp; omega) | (simp; done))).V))), (kEq (.int .i64 (wr ((l[i]'(by first | omega | (simp; omega) | (simp; done))).V - (l[(i - 1)]'(by first | omega | (simp; omega) | (simp; done))).V)))), (kEq (.int .u64 (zig (wr ((l[i]'(by first | omega | (simp; omega) | (simp; done))).V - (l[(i - 1)]'(by first | omega | (simp; omega) | (simp; done))).V))))), (kSlU [18] u8E (put (zig (wr ((l[i]'(by first | omega | (simp; omega) | (simp; done))).V - (l[(i - 1)]'(by first | omega | (simp; omega) | (simp; done))).V))))), (fun (D : Nat → Bool) (v220 : Value) (w : World) => (D 18 = true → St w0 w [rowT 5 u8E v220 ((done ++ (put (zig ((((l[i]'(by first | omega | (simp; omega) | (simp; done))).T) - ((l[(i - 1)]'(by first | omega | (simp; omega) | (simp; done))).T)) - st)))) ++ (put (zig (wr ((l[i]'(by first | omega | (simp; omega) | (simp; done))).V - (l[(i - 1)]'(by first | omega | (simp; omega) | (simp; done))).V))))), .blk g18 48 #[(.int .i64 ((l[i]'(by first | omega | (simp; omega) | (simp; done))).T)), (.int .i64 ((l[i]'(by first | omega | (simp; omega) | (simp; done))).V))]])), (fun (D : Nat → Bool) (v220 : Value) (w : World) => (D 18 = true → St w0 w [rowT 5 u8E v220 ((done ++ (put (zig ((((l[i]'(by first | omega | (simp; omega) | (simp; done))).T) - ((l[(i - 1)]'(by first | omega | (simp; omega) | (simp; done))).T)) - st)))) ++ (put (zig (wr ((l[i]'(by first | omega | (simp; omega) | (simp; done))).V - (l[(i - 1)]'(by first | omega | (simp; omega) | (simp; done))).V))))), .blk g18 48 #[(.int .i64 ((l[i]'(by first | omega | (simp; omega) | (simp; done))).T)), (.int .i64 ((l[i]'(by first | omega | (simp; omega) | (simp; done))).V))]]))] := ⟨Or.inr (Or.inr (Or.inr iEq)), Or.inr (Or.inr (Or.inr iEq)), Or.inr (Or.inr (Or.inr iEq)), Or.inr (Or.inr (Or.inr iEq)), Or.inr (Or.inr (Or.inr iEq)), Or.inr (Or.inr (Or.inr (iSlU (by decide)))), Or.inr (Or.inl (by decide)), Or.inr (Or.inr (Or.inr iEq)), Or.inr (Or.inr (Or.inr iEq)), Or.inr (Or.inr (Or.inr iEq)), Or.inr (Or.inr (Or.inr iEq)), Or.inr (Or.inr (Or.inr iEq)), Or.inr (Or.inr (Or.inr iPt0)), Or.inr (Or.inr (Or.inr iPt0)), Or.inr (Or.inr (Or.inr iEq)), Or.inr (Or.inr (Or.inr iEq)), Or.inr (Or.inr (Or.inr iEq)), Or.inr (Or.inr (Or.inr (iSlU (by decide)))), Or.inl rfl, Or.inr (Or.inr (Or.inl (not_yet hD400 (fun hm => (hC402 19 18 hm (by kernel_rfl)))))), trivial⟩
        refine ⟨by exact ⟨hst.sub (.cons _ (.cons_cons _ .slnil)), (fun y0 => absurd (show D397 6 = false from y0) (by rw [(hE401 6 (by kernel_rfl))]; decide))⟩, by exact (fun y0 => hst.sub (.cons_cons _ (.cons_cons _ .slnil))), kX [6] hI413 ?_⟩
        intro j d hj hjd hDj h
        simp only [List.mem_cons, List.not_mem_nil, or_false] at hj
        subst hj
        obtain rfl : 56 = d := Option.some.inj hjd
        exact (by rw [e406]; exact (fun y0 y1 => absurd y1 (fun h => Bool.noConfusion h)))
      · rintro D414 ρ415 w416 hD417 hE418 hC419 hJ420 hA421 ⟨f68, _⟩
        obtain ⟨v422, e423⟩ : ∃ x, ρ415 68 = x := ⟨_, rfl⟩
        have hh424 := hA421 18 68 (hE418 18 (by kernel_rfl)) rfl
        have hst : St w0 w416 [rowT 5 u8E v422 ((done ++ (put (zig ((((l[i]'(by first | omega | (simp; omega) | (simp; done))).T) - ((l[(i - 1)]'(by first | omega | (simp; omega) | (simp; done))).T)) - st)))) ++ (put (zig (wr ((l[i]'(by first | omega | (simp; omega) | (simp; done))).V - (l[(i - 1)]'(by first | omega | (simp; omega) | (simp; done))).V))))), .blk g18 48 #[(.int .i64 ((l[i]'(by first | omega | (simp; omega) | (simp; done))).T)), (.int .i64 ((l[i]'(by first | omega | (simp; omega) | (simp; done))).V))]] := by have h := hh424 (hE418 18 (by kernel_rfl)); rw [e423] at h; exact h
        exact go_plain (op_assign _ rfl (kN0 (i := 19) hM222 (by decide) (by exact hJ420) (by exact f68)))
      intro ρ425 w426 Dw426 hallw426 hJw426 hRw426 hkw426
      obtain ⟨v427, uw426_4⟩ : ∃ x, ρ425 4 = x := ⟨_, rfl⟩
      have hst : St w0 w426 [rowT 5 u8E v427 ((done ++ (put (zig ((((l[i]'(by first | omega | (simp; omega) | (simp; done))).T) - ((l[(i - 1)]'(by first | omega | (simp; omega) | (simp; done))).T)) - st)))) ++ (put (zig (wr ((l[i]'(by first | omega | (simp; omega) | (simp; done))).V - (l[(i - 1)]'(by first | omega | (simp; omega) | (simp; done))).V))))), .blk g18 48 #[(.int .i64 ((l[i]'(by first | omega | (simp; omega) | (simp; done))).T)), (.int .i64 ((l[i]'(by first | omega | (simp; omega) | (simp; done))).V))]] := by have h := hRw426 19 4 rfl; rw [uw426_4] at h; exact (h (hallw426 18 (show 18 < 20 from by decide)))
      have uw426_0 : ρ425 0 = v_l := (hkw426 0 rfl).trans uw208_0
      have uw426_2 : ρ425 2 = (.slice none 0 0) := (hkw426 2 rfl).trans uw208_2
      have uw426_3 : ρ425 3 = (.int .i64 0) := (hkw426 3 rfl).trans uw208_3
      have uw426_21 : ρ425 21 = v_l := (hkw426 21 rfl).trans uw208_21
      have uw426_22 : ρ425 22 = (.int .i64 (l.length : Int)) := (hkw426 22 rfl).trans uw208_22
      have uw426_23 : ρ425 23 = (.int .i64 (i : Int)) := (hkw426 23 rfl).trans uw208_23
      have uw426_5 : ρ425 5 = (.int .i64 st) := (hkw426 5 rfl).trans uw208_5
      have uw426_24 : ρ425 24 = (.bool (decide ((i : Int) < (l.length : Int)))) := (hkw426 24 rfl).trans uw208_24
      have uw426_25 : ρ425 25 = (.int .i64 (i : Int)) := (hkw426 25 rfl).trans uw208_25
      have uw426_26 : ρ425 26 = (.pointer (some ⟨a15, o16, none⟩)) := (hkw426 26 rfl).trans uw208_26
      have uw426_27 : ρ425 27 = (.agg #[(.int .i64 ((l[i]'(by first | omega | (simp; omega) | (simp; done))).T)), (.int .i64 ((l[i]'(by first | omega | (simp; omega) | (simp; done))).V))]) := (hkw426 27 rfl).trans uw208_27
      have uw426_7 : ρ425 7 = (.pointer (some ⟨g18, 0, none⟩)) := (hkw426 7 rfl).trans uw208_7
      have uw426_6 : ρ425 6 = (.int .i64 (i : Int)) := (hkw426 6 rfl).trans uw208_6
      have uw426_28 : ρ425 28 = (.int .i64 (i : Int)) := (hkw426 28 rfl).trans uw208_28
      have uw426_29 : ρ425 29 = (.bool (decide ((i : Int) = 0))) := (hkw426 29 rfl).trans uw208_29
      have uw426_8 : ρ425 8 = (.int .i64 (((l[i]'(by first | omega | (simp; omega) | (simp; done))).T) - ((l[(i - 1)]'(by first | omega | (simp; omega) | (simp; done))).T))) := (hkw426 8 rfl).trans uw208_8
      refine then_n ?_
      refine cE_region rfl ?_
      refine s_cons (op_move (.int .i64 (((l[i]'(by first | omega | (simp; omega) | (simp; done))).T) - ((l[(i - 1)]'(by first | omega | (simp; omega) | (simp; done))).T))) uw426_8 ?_)
      refine s_cons (op_assign (.int .i64 (((l[i]'(by first | omega | (simp; omega) | (simp; done))).T) - ((l[(i - 1)]'(by first | omega | (simp; omega) | (simp; done))).T))) rfl ?_)
      refine s_nil ?_
      refine block_n (then_n ?_)
      refine cE_region rfl ?_
      refine s_cons (op_add (k := .i64) (a := (i : Int)) (b := 1) ((i : Int) + 1) uw426_23 rfl (xi64 (by omega) (by omega)) ?_)
      refine s_cons (op_move (.int .i64 ((i : Int) + 1)) rfl ?_)
      refine s_nil ?_
      refine then_n ?_
      exact ⟨_, ⟨v427, ((done ++ (put (zig ((((l[i]'(by first | omega | (simp; omega) | (simp; done))).T) - ((l[(i - 1)]'(by first | omega | (simp; omega) | (simp; done))).T)) - st)))) ++ (put (zig (wr ((l[i]'(by first | omega | (simp; omega) | (simp; done))).V - (l[(i - 1)]'(by first | omega | (simp; omega) | (simp; done))).V))))), (i + 1), (((l[i]'(by first | omega | (simp; omega) | (simp; done))).T) - ((l[(i - 1)]'(by first | omega | (simp; omega) | (simp; done))).T)), rfl, uw426_0, uw426_2, uw426_3, uw426_21, uw426_22, uw426_4, (congrArg (Value.int .i64) (show ((i : Int) + 1) = _ from by omega)), rfl, (hst.sub (.cons_cons _ (.cons _ .slnil))), (by omega), (by omega), (by omega), (by first | omega | (simp; omega)), (by first | rfl | (rw [hp, restS_first (by omega) (by omega), show st = 0 from (by omega)]; simp; done) | (rw [hp, restS_next (by omega) (by omega)]; simp; done))⟩, (by simp only [id]; omega)⟩
    have c428 : ¬ ((i : Int) < (l.length : Int)) := of_decide_eq_false b13
    refine cE_cond false (congrArg Value.bool b13) (fun h => by cases h) (fun _ => ?_)
    refine cE_exit ?_
    refine then_x (then_x (block_hit (then_n ?_)))
    refine cE_seq ?_
    refine cE_region rfl ?_
    refine s_cons (op_move v q9_4 ?_)
    refine s_cons (op_assign v rfl ?_)
    refine s_cons (op_assign (.int .i64 0) rfl ?_)
    refine s_nil ?_
    refine then_n ?_
    refine cE_ret ?_
    refine scope_r ?_
    refine post_r _ (res2 (v := v) rfl (x := (.int .i64 0)) rfl) ?_
    have e429 : done = (encS l).1 := by first | rw [encS_no (Or.inl (by assumption))] | rw [encS_no (Or.inr (by omega))] | (rw [encS_yes hok]; done) | (rw [encS_yes hok]; show _ = putS l; rw [hp, restS_end (by omega), List.append_nil])
    replace hst : St w0 w12 [rowT 5 u8E v ((encS l).1)] := by rw [congrArg (fun l => rowT 5 u8E v l) e429] at hst; exact hst
    exact ⟨v, (retv2 rfl (congrArg (Value.int .i64) (show 0 = (encS l).2 from by first | rw [encS_no (Or.inl (by assumption))] | rw [encS_no (Or.inr (by omega))] | (rw [encS_yes hok]; done) | (rw [encS_yes hok]; show _ = putS l; rw [hp, restS_end (by omega), List.append_nil])))), hst.sub (.cons_cons _ .slnil)⟩
  refine s_no 12 rfl (congrArg Value.bool (congrArg (! ·) b2)) ?_
  refine s_no 12 rfl (congrArg Value.bool (congrArg (! ·) b2)) ?_
  refine s_no 12 rfl (congrArg Value.bool (congrArg (! ·) b2)) ?_
  refine s_cons (op_pick_t (.bool true) (congrArg Value.bool (congrArg (! ·) b2)) rfl ?_)
  refine s_nil ?_
  refine then_n ?_
  refine cE_cond true rfl (fun _ => ?_) (fun h => by cases h)
  refine cE_seq ?_
  refine cE_region rfl ?_
  refine s_cons (op_assign (.slice none 0 0) rfl ?_)
  refine s_cons (op_assign (.int .i64 1) rfl ?_)
  refine s_nil ?_
  refine then_n ?_
  refine cE_ret ?_
  refine then_r (scope_r ?_)
  refine post_r _ (res2 (v := (.slice none 0 0)) rfl (x := (.int .i64 1)) rfl) ?_
  replace hst : St w0 w1 [rowT 5 u8E (.slice none 0 0) ([])] := hst.nilRow 5 u8E
  have e430 : [] = (encS l).1 := by first | rw [encS_no (Or.inl (by assumption))] | rw [encS_no (Or.inr (by omega))] | (rw [encS_yes hok]; done) | (rw [encS_yes hok]; show _ = putS l; rw [hp, restS_end (by omega), List.append_nil])
  replace hst : St w0 w1 [rowT 5 u8E (.slice none 0 0) ((encS l).1)] := by rw [congrArg (fun l => rowT 5 u8E (.slice none 0 0) l) e430] at hst; exact hst
  exact ⟨(.slice none 0 0), (retv2 rfl (congrArg (Value.int .i64) (show 1 = (encS l).2 from by first | rw [encS_no (Or.inl (by assumption))] | rw [encS_no (Or.inr (by omega))] | (rw [encS_yes hok]; done) | (rw [encS_yes hok]; show _ = putS l; rw [hp, restS_end (by omega), List.append_nil])))), hst.sub (.cons_cons _ .slnil)⟩

theorem c_kNext {w0 w : World} {L : List Item} (g_r : Nat) (v_b : Value) (b : List UInt8) (h_b : Sl w0 u8E v_b b) (at_ : Int) (bad : Bool) (hl : b.length ≤ 1000000000) (hst : St w0 w (.blk g_r 59 #[v_b, (.int .i64 at_), (.bool bad)] :: L)) :
    Calls Try.prog 28 #[(.pointer (some ⟨g_r, 0, none⟩))] w fun e w' => e = .returned (.int .u64 ((get b at_).1)) ∧ St w0 w' (.blk g_r 59 #[v_b, (.int .i64 ((get b at_).2.1)), (.bool (rbad bad b at_))] :: L) := by
  refine calls_E (n := 29) (ts := [2]) Try.func28 rfl rfl rfl (by simp) ?_
  refine cE_seq ?_
  refine cE_region rfl ?_
  refine s_cons (op_assign (.int .u64 0) rfl ?_)
  refine s_nil ?_
  refine then_n ?_
  refine cE_seq ?_
  refine cE_regionL hst [[(0, none)], [(7, some 0)], [(8, some 1)], [(9, some 2)], [(0, none)], [(11, some 4)], [(12, some 5)], [(13, some 6)], [(10, some 3), (14, some 7)], [(15, some 8)], [(6, some 9)], [(6, some 9)], [(6, some 9)], [(16, some 10)], [(17, some 11)], [(18, some 12)]] [(rEq (.pointer (some ⟨g_r, 0, none⟩))), (rEq (.pointer (some ⟨g_r, 0, none⟩))), (rEq (.pointer (some ⟨g_r, (0 + 0), none⟩))), (rEq v_b), (rEq (.pointer (some ⟨g_r, 0, none⟩))), (rEq (.pointer (some ⟨g_r, 0, none⟩))), (rEq (.pointer (some ⟨g_r, (0 + 1), none⟩))), (rEq (.int .i64 at_)), (rEq (.tuple #[(.int .u64 ((get b at_).1)), (.int .i64 ((get b at_).2.1)), (.int .i64 ((get b at_).2.2))])), (rEq (.tuple #[(.int .u64 ((get b at_).1)), (.int .i64 ((get b at_).2.1)), (.int .i64 ((get b at_).2.2))])), (rEq (.int .u64 ((get b at_).1))), (rEq (.int .i64 ((get b at_).2.1))), (rEq (.int .i64 ((get b at_).2.2))), (rEq (.int .u64 ((get b at_).1))), (rEq (.int .i64 ((get b at_).2.1))), (rEq (.int .i64 ((get b at_).2.2)))] (by kernel_rfl) rfl (by kernel_rfl) ⟨sEq, sEq, sEq, sEq, sEq, sEq, sEq, sEq, sEq, sEq, sEq, sEq, sEq, sEq, sEq, sEq, trivial⟩ ⟨?_, ?_, ?_, ?_, ?_, ?_, ?_, ?_, ?_, ?_, ?_, ?_, ?_, ?_, ?_, ?_, trivial⟩ ?_
  · rintro ρ432 w433 hj434 ⟨f0, _⟩
    have hst := hj434.2
    exact go_plain (op_move (.pointer (some ⟨g_r, 0, none⟩)) (f0.trans rfl) (kS hj434 rfl))
  · rintro ρ435 w436 hj437 ⟨f7, _⟩
    have hst := hj437.2
    exact go_plain (op_nilCheck f7 (kS hj437 rfl))
  · rintro ρ438 w439 hj440 ⟨f8, _⟩
    have hst := hj440.2
    exact go_plain (op_fieldAddr (s := 0) Try.underlying59 rfl rfl Try.sizeOf24 f8 (kS hj440 rfl))
  · rintro ρ441 w442 hj443 ⟨f9, _⟩
    have hst := hj443.2
    exact go_plain (op_load1 (u := v_b) Try.isAgg24 f9 (hst.cell 0 rfl) (kS hj443 rfl))
  · rintro ρ444 w445 hj446 ⟨f0, _⟩
    have hst := hj446.2
    exact go_plain (op_move (.pointer (some ⟨g_r, 0, none⟩)) (f0.trans rfl) (kS hj446 rfl))
  · rintro ρ447 w448 hj449 ⟨f11, _⟩
    have hst := hj449.2
    exact go_plain (op_nilCheck f11 (kS hj449 rfl))
  · rintro ρ450 w451 hj452 ⟨f12, _⟩
    have hst := hj452.2
    exact go_plain (op_fieldAddr (s := 0) Try.underlying59 rfl rfl Try.sizeOf3 f12 (kS hj452 rfl))
  · rintro ρ453 w454 hj455 ⟨f13, _⟩
    have hst := hj455.2
    exact go_plain (op_load1 (u := (.int .i64 at_)) Try.isAgg3 f13 ((hst.cell 0 rfl).drop 1) (kS hj455 rfl))
  · rintro ρ456 w457 hj458 ⟨f10, f14, _⟩
    have hst := hj458.2
    refine go_plain (op_call Try.call40 (evs_cons (v := v_b) f10 (evs_cons (v := (.int .i64 at_)) f14 evs_nil)) (c_Get (w0 := w457) (v_b := v_b) (b := b) (h_b := (h_b.below hst.below)) (at_ := at_) (hl := (by omega))) ?_)
    rintro _ w459 ⟨rfl, hcall⟩
    refine ⟨_, rfl, ?_⟩
    exact kD hj458 hcall rfl
  · rintro ρ460 w461 hj462 ⟨f15, _⟩
    have hst := hj462.2
    exact go_plain (op_move (.tuple #[(.int .u64 ((get b at_).1)), (.int .i64 ((get b at_).2.1)), (.int .i64 ((get b at_).2.2))]) f15 (kS hj462 rfl))
  · rintro ρ463 w464 hj465 ⟨f6, _⟩
    have hst := hj465.2
    exact go_plain (op_extract (.int .u64 ((get b at_).1)) f6 rfl (kS hj465 rfl))
  · rintro ρ466 w467 hj468 ⟨f6, _⟩
    have hst := hj468.2
    exact go_plain (op_extract (.int .i64 ((get b at_).2.1)) f6 rfl (kS hj468 rfl))
  · rintro ρ469 w470 hj471 ⟨f6, _⟩
    have hst := hj471.2
    exact go_plain (op_extract (.int .i64 ((get b at_).2.2)) f6 rfl (kS hj471 rfl))
  · rintro ρ472 w473 hj474 ⟨f16, _⟩
    have hst := hj474.2
    exact go_plain (op_assign (.int .u64 ((get b at_).1)) f16 (kS hj474 rfl))
  · rintro ρ475 w476 hj477 ⟨f17, _⟩
    have hst := hj477.2
    exact go_plain (op_assign (.int .i64 ((get b at_).2.1)) f17 (kS hj477 rfl))
  · rintro ρ478 w479 hj480 ⟨f18, _⟩
    have hst := hj480.2
    exact go_plain (op_assign (.int .i64 ((get b at_).2.2)) f18 (kS hj480 rfl))
  intro ρ481 w482 hbw482 hst hRw482 hkw482
  have uw482_0 : ρ481 0 = (.pointer (some ⟨g_r, 0, none⟩)) := (hkw482 0 rfl).trans rfl
  have uw482_2 : ρ481 2 = (.int .u64 0) := (hkw482 2 rfl).trans rfl
  have uw482_3 : ρ481 3 = (.int .u64 ((get b at_).1)) := hRw482 13 3 rfl
  have uw482_4 : ρ481 4 = (.int .i64 ((get b at_).2.1)) := hRw482 14 4 rfl
  have uw482_5 : ρ481 5 = (.int .i64 ((get b at_).2.2)) := hRw482 15 5 rfl
  refine then_n ?_
  refine cE_seq ?_
  refine cE_seq ?_
  refine cE_region rfl ?_
  refine s_cons (op_move (.int .i64 ((get b at_).2.2)) uw482_5 ?_)
  refine s_cons (op_neq (k := .i64) (a := (get b at_).2.2) (b := 0) rfl rfl ?_)
  refine s_nil ?_
  refine then_n ?_
  rcases Bool.eq_false_or_eq_true (decide (((get b at_).2.2) = 0)) with b483 | b483
  · have c484 : ((get b at_).2.2) = 0 := of_decide_eq_true b483
    refine cE_cond false (congrArg Value.bool (congrArg (! ·) b483)) (fun h => by cases h) (fun _ => ?_)
    refine cE_skip ?_
    refine then_n ?_
    refine cE_seq ?_
    refine cE_region rfl ?_
    refine s_cons (op_move (.pointer (some ⟨g_r, 0, none⟩)) uw482_0 ?_)
    refine s_cons (op_move (.int .i64 ((get b at_).2.1)) uw482_4 ?_)
    refine s_cons (op_nilCheck rfl ?_)
    refine s_cons (op_fieldAddr (s := 0) Try.underlying59 rfl rfl Try.sizeOf3 rfl ?_)
    refine s_cons0 (op_store1 hst 0 rfl Try.sizeOf3 rfl rfl rfl (show 1 < 3 from by decide) (fun w485 hst => ?_))
    replace hst : St w0 w485 (.blk g_r 59 #[v_b, (.int .i64 ((get b at_).2.1)), (.bool bad)] :: L) := hst
    refine s_nil ?_
    refine then_n ?_
    refine cE_seq ?_
    refine cE_region rfl ?_
    refine s_cons (op_move (.int .u64 ((get b at_).1)) uw482_3 ?_)
    refine s_cons (op_assign (.int .u64 ((get b at_).1)) rfl ?_)
    refine s_nil ?_
    refine then_n ?_
    refine cE_ret ?_
    refine post_r _ (res1 (v := (.int .u64 ((get b at_).1))) rfl) ?_
    have e486 : ((.bool bad) : Value) = (.bool (rbad bad b at_)) := (congrArg Value.bool (show bad = (rbad bad b at_) from by first | rfl | (simp [rbad, b483]; done)))
    replace hst : St w0 w485 (.blk g_r 59 #[v_b, (.int .i64 ((get b at_).2.1)), (.bool (rbad bad b at_))] :: L) := by rw [e486] at hst; exact hst
    exact ⟨rfl, hst.sub (.cons_cons _ (List.Sublist.refl _))⟩
  have c487 : ¬ (((get b at_).2.2) = 0) := of_decide_eq_false b483
  refine cE_cond true (congrArg Value.bool (congrArg (! ·) b483)) (fun _ => ?_) (fun h => by cases h)
  refine cE_region rfl ?_
  refine s_cons (op_move (.pointer (some ⟨g_r, 0, none⟩)) uw482_0 ?_)
  refine s_cons (op_nilCheck rfl ?_)
  refine s_cons (op_fieldAddr (s := 0) Try.underlying59 rfl rfl Try.sizeOf4 rfl ?_)
  refine s_cons0 (op_store1 hst 0 rfl Try.sizeOf4 rfl rfl rfl (show 2 < 3 from by decide) (fun w488 hst => ?_))
  replace hst : St w0 w488 (.blk g_r 59 #[v_b, (.int .i64 at_), (.bool true)] :: L) := hst
  refine s_nil ?_
  refine then_n ?_
  refine cE_seq ?_
  refine cE_region rfl ?_
  refine s_cons (op_move (.pointer (some ⟨g_r, 0, none⟩)) uw482_0 ?_)
  refine s_cons (op_move (.int .i64 ((get b at_).2.1)) uw482_4 ?_)
  refine s_cons (op_nilCheck rfl ?_)
  refine s_cons (op_fieldAddr (s := 0) Try.underlying59 rfl rfl Try.sizeOf3 rfl ?_)
  refine s_cons0 (op_store1 hst 0 rfl Try.sizeOf3 rfl rfl rfl (show 1 < 3 from by decide) (fun w489 hst => ?_))
  replace hst : St w0 w489 (.blk g_r 59 #[v_b, (.int .i64 ((get b at_).2.1)), (.bool true)] :: L) := hst
  refine s_nil ?_
  refine then_n ?_
  refine cE_seq ?_
  refine cE_region rfl ?_
  refine s_cons (op_move (.int .u64 ((get b at_).1)) uw482_3 ?_)
  refine s_cons (op_assign (.int .u64 ((get b at_).1)) rfl ?_)
  refine s_nil ?_
  refine then_n ?_
  refine cE_ret ?_
  refine post_r _ (res1 (v := (.int .u64 ((get b at_).1))) rfl) ?_
  have e490 : ((.bool true) : Value) = (.bool (rbad bad b at_)) := (congrArg Value.bool (show true = (rbad bad b at_) from by first | rfl | (simp [rbad, b483]; done)))
  replace hst : St w0 w489 (.blk g_r 59 #[v_b, (.int .i64 ((get b at_).2.1)), (.bool (rbad bad b at_))] :: L) := by rw [e490] at hst; exact hst
  exact ⟨rfl, hst.sub (.cons_cons _ (List.Sublist.refl _))⟩

theorem c_kCount {w0 w : World} {L : List Item} (g_r : Nat) (v_b : Value) (b : List UInt8) (h_b : Sl w0 u8E v_b b) (at_ : Int) (bad : Bool) (most : Int) (hl : b.length ≤ 1000000000) (m0 : 0 ≤ most) (m1 : most ≤ 1000000) (hst : St w0 w (.blk g_r 59 #[v_b, (.int .i64 at_), (.bool bad)] :: L)) :
    Calls Try.prog 27 #[(.pointer (some ⟨g_r, 0, none⟩)), (.int .i64 most)] w fun e w' => e = .returned (.int .i64 (cntV b at_ most)) ∧ St w0 w' (.blk g_r 59 #[v_b, (.int .i64 ((get b at_).2.1)), (.bool (cntBad bad b at_ most))] :: L) := by
  have hgn := get_nn b at_
  refine calls_E (n := 17) (ts := [4]) Try.func27 rfl rfl rfl (by simp) ?_
  refine cE_seq ?_
  refine cE_region rfl ?_
  refine s_cons (op_assign (.int .i64 0) rfl ?_)
  refine s_nil ?_
  refine then_n ?_
  refine cE_seq ?_
  refine cE_region rfl ?_
  refine s_cons (op_move (.pointer (some ⟨g_r, 0, none⟩)) rfl ?_)
  refine s_cons (op_call Try.call28 (evs_cons (v := (.pointer (some ⟨g_r, 0, none⟩))) rfl evs_nil) (c_kNext (g_r := g_r) (v_b := v_b) (b := b) (h_b := h_b) (at_ := at_) (bad := bad) (hl := (by omega)) (hst := hst)) ?_)
  rintro _ w491 ⟨rfl, hcall⟩
  refine ⟨_, rfl, ?_⟩
  have hst : St w0 w491 (.blk g_r 59 #[v_b, (.int .i64 ((get b at_).2.1)), (.bool (rbad bad b at_))] :: L) := hcall
  refine s_cons (op_assign (.int .u64 ((get b at_).1)) rfl ?_)
  refine s_nil ?_
  refine then_n ?_
  refine cE_seq ?_
  refine cE_seq ?_
  refine cE_region rfl ?_
  refine s_cons (op_move (.int .u64 ((get b at_).1)) rfl ?_)
  refine s_cons (op_move (.int .i64 most) rfl ?_)
  refine s_cons (op_conv (k := .i64) (a := most) most Try.underlying54 (by rw [Try.underlying3]; rfl) rfl (xu64 (by omega) (by omega)) ?_)
  refine s_cons (op_gtr (k := .u64) (a := (get b at_).1) (b := most) rfl rfl ?_)
  refine s_nil ?_
  refine then_n ?_
  rcases Bool.eq_false_or_eq_true (decide (most < ((get b at_).1))) with b492 | b492
  · have c493 : most < ((get b at_).1) := of_decide_eq_true b492
    refine cE_cond true (congrArg Value.bool b492) (fun _ => ?_) (fun h => by cases h)
    refine cE_seq ?_
    refine cE_region rfl ?_
    refine s_cons (op_move (.pointer (some ⟨g_r, 0, none⟩)) rfl ?_)
    refine s_cons (op_nilCheck rfl ?_)
    refine s_cons (op_fieldAddr (s := 0) Try.underlying59 rfl rfl Try.sizeOf4 rfl ?_)
    refine s_cons0 (op_store1 hst 0 rfl Try.sizeOf4 rfl rfl rfl (show 2 < 3 from by decide) (fun w494 hst => ?_))
    replace hst : St w0 w494 (.blk g_r 59 #[v_b, (.int .i64 ((get b at_).2.1)), (.bool true)] :: L) := hst
    refine s_nil ?_
    refine then_n ?_
    refine cE_seq ?_
    refine cE_region rfl ?_
    refine s_cons (op_assign (.int .i64 0) rfl ?_)
    refine s_nil ?_
    refine then_n ?_
    refine cE_ret ?_
    refine then_r ?_
    refine post_r _ (res1 (v := (.int .i64 0)) rfl) ?_
    have e495 : ((.bool true) : Value) = (.bool (cntBad bad b at_ most)) := (congrArg Value.bool (show true = (cntBad bad b at_ most) from by first | rfl | exact cntV_yes (by assumption) | exact cntV_no (by assumption) | (simp [cntBad, b492]; done)))
    replace hst : St w0 w494 (.blk g_r 59 #[v_b, (.int .i64 ((get b at_).2.1)), (.bool (cntBad bad b at_ most))] :: L) := by rw [e495] at hst; exact hst
    exact ⟨(retv1 (congrArg (Value.int .i64) (show 0 = (cntV b at_ most) from by first | rfl | exact cntV_yes (by assumption) | exact cntV_no (by assumption) | (simp [cntBad, b492]; done)))), hst.sub (.cons_cons _ (List.Sublist.refl _))⟩
  have c496 : ¬ (most < ((get b at_).1)) := of_decide_eq_false b492
  refine cE_cond false (congrArg Value.bool b492) (fun h => by cases h) (fun _ => ?_)
  refine cE_skip ?_
  refine then_n ?_
  refine cE_seq ?_
  refine cE_region rfl ?_
  refine s_cons (op_move (.int .u64 ((get b at_).1)) rfl ?_)
  refine s_cons (op_conv (k := .u64) (a := (get b at_).1) ((get b at_).1) Try.underlying3 (by rw [Try.underlying54]; rfl) rfl (xi64 (by omega) (by omega)) ?_)
  refine s_cons (op_assign (.int .i64 ((get b at_).1)) rfl ?_)
  refine s_nil ?_
  refine then_n ?_
  refine cE_ret ?_
  refine post_r _ (res1 (v := (.int .i64 ((get b at_).1))) rfl) ?_
  have e497 : ((.bool (rbad bad b at_)) : Value) = (.bool (cntBad bad b at_ most)) := (congrArg Value.bool (show (rbad bad b at_) = (cntBad bad b at_ most) from by first | rfl | exact cntV_yes (by assumption) | exact cntV_no (by assumption) | (simp [cntBad, b492]; done)))
  replace hst : St w0 w491 (.blk g_r 59 #[v_b, (.int .i64 ((get b at_).2.1)), (.bool (cntBad bad b at_ most))] :: L) := by rw [e497] at hst; exact hst
  exact ⟨(retv1 (congrArg (Value.int .i64) (show (get b at_).1 = (cntV b at_ most) from by first | rfl | exact cntV_yes (by assumption) | exact cntV_no (by assumption) | (simp [cntBad, b492]; done)))), hst.sub (.cons_cons _ (List.Sublist.refl _))⟩

end Go.Proofs.Ytpamjfbdgaamoaa
